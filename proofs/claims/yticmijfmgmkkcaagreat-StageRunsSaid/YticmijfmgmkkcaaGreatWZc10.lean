import Derived.Test.YticmijfmgmkkcaaGreatWZc9
set_option linter.unusedSimpArgs false
set_option linter.unusedVariables false
set_option maxRecDepth 100000
namespace Go.Proofs.YticmijfmgmkkcaaGreat
open Go.Sx
section
variable {z:Int} {e:ExprT} {l:List Int} {held:List Int} {c:Int}
theorem need_8 (h0:stChk (8,z,e,l)=0) (hv:validF (8,z,e,l) (held,c,false)=true):needF (8,z,e,l) (held,c,false)=([if held.any (isI c)=true then 1 - c else c],0):=by
 by_cases h:held.any (isI c)=true
 ·rw [if_pos h]
  exact ND3 (by simp [h0]) (by simp [hv]) rfl h
 ·rw [if_neg h]
  have h':held.any (isI c)=false:=by simpa using h
  exact ND4 (by simp [h0]) (by simp [hv]) rfl h' rfl
theorem take_8 (h0:stChk (8,z,e,l)=0) (hv:validF (8,z,e,l) (held,c,false)=true) {k:Int} (hn:(needF (8,z,e,l) (held,c,false)).1=[k]) {n:Int} (hm:notNum n=false):takeF (8,z,e,l) (held,c,false) k n=((held,1 - k,false),[[n]],0) :=
 take_mk h0 hv (tk1_mk (by show (8:Int)≠1;decide) rfl (by rw [hn];simp [isI])) (tk2_mk (by show (8:Int)≠1;decide) hm) rfl
theorem end_8k (h0:stChk (8,z,e,l)=0) (hv:validF (8,z,e,l) (held,c,false)=true) {k:Int} (hk:0≤k∧k < 2) (hh:held.any (isI k)=false) {s:List Int} (hs:sortI (held++[k])=s):endG (8,z,e,l) (held,c,false) k=((s,c,decide ((s.length:Int)=2)),[[]],decide ((s.length:Int)=2),0):=by
 subst hs
 exact end_mk h0 hv (te1_mk (by show (8:Int)≠1;decide) hk.1 hk.2) (te2_mk rfl fun _=>hh) rfl
theorem val_8 (h:held=[]∨held=[0]∨held=[1]) (hc:0≤c∧c≤1):validF (8,z,e,l) (held,c,false)=true:=by
 rcases h with rfl | rfl | rfl
 ·exact valid_iff.2 ⟨⟨hc.1,hc.2,by show ((0:Nat):Int)≤2;decide⟩,rfl,rfl⟩
 ·exact valid_iff.2 ⟨⟨hc.1,hc.2,by show ((1:Nat):Int)≤2;decide⟩,rfl,rfl⟩
 ·exact valid_iff.2 ⟨⟨hc.1,hc.2,by show ((1:Nat):Int)≤2;decide⟩,rfl,rfl⟩
end
def MC (a b M:List Int) (held:List Int) (c:Int) (p q:Nat) (o:List Int):Prop :=
 (held=[]∧c=0∧o++mergeN ((a.length - p)+(b.length - q)) (a.drop p) (b.drop q)=M)∨(held=[]∧c=1∧o++mergeN ((a.length - p)+(b.length - q)) (b.drop q) (a.drop p)=M) ∨
   (held=[0]∧p=a.length∧o++b.drop q=M)∨(held=[1]∧q=b.length∧o++a.drop p=M)
theorem runs_8 {z:Int} {e:ExprT} {l:List Int} {ins:List (List Int)} (h:(meanF (8,z,e,l) ins).2=0):Runs (8,z,e,l) ins:=by
 obtain ⟨h0,hl,hs,hc,hb⟩:=mean_iff.1 h
 have hi:ins.length=2:=by have h:(ins.length:Int)=2:=hl;omega
 obtain ⟨ga1,ga2⟩:=strF_get hs (show 0 < ins.length by omega)
 obtain ⟨gb1,gb2⟩:=strF_get hs (show 1 < ins.length by omega)
 replace ga1:(ins.getD 0 []).length≤200:=ga1
 replace ga2:(ins.getD 0 []).any notNum=false:=ga2
 replace gb1:(ins.getD 1 []).length≤200:=gb1
 replace gb2:(ins.getD 1 []).any notNum=false:=gb2
 have ho:outF (8,z,e,l) ins=[mergeN ((ins.getD 0 []).length+(ins.getD 1 []).length) (ins.getD 0 []) (ins.getD 1 [])]:=rfl
 have d0:∀ c:Int,0≤c∧c≤1→validF (8,z,e,l) ([0,1],c,true)=true:=fun c hc=>valid_iff.2 ⟨⟨hc.1,hc.2,by show ((2:Nat):Int)≤2;decide⟩,rfl,rfl⟩
 refine ⟨fun r t=>(∃ (held:List Int) (c:Int) (p q:Nat) (o:List Int),t=((held,c,false),[(p:Int),(q:Int)],[o])∧(0≤c∧c≤1)∧(p≤(ins.getD 0 []).length∧q≤(ins.getD 1 []).length) ∧
  MC (ins.getD 0 []) (ins.getD 1 []) (mergeN ((ins.getD 0 []).length+(ins.getD 1 []).length) (ins.getD 0 []) (ins.getD 1 [])) held c p q o∧r+held.length=((ins.getD 0 []).length - p)+((ins.getD 1 []).length - q)+2) ∨
  (∃ c:Int,(0≤c∧c≤1)∧t=(([0,1],c,true),[((ins.getD 0 []).length:Int),((ins.getD 1 []).length:Int)],outF (8,z,e,l) ins)∧r=0), ?_,(ins.getD 0 []).length+(ins.getD 1 []).length+2,by omega,.inl ⟨[],0,0,0,[], ?_,by decide,⟨Nat.zero_le _,Nat.zero_le _⟩,.inl ⟨rfl,rfl,rfl⟩,rfl⟩⟩
 ·rintro r t (⟨held,c,p,q,o,rfl,hc,⟨hp,hq⟩,hm,hr⟩ | ⟨c,hc,rfl,rfl⟩)
  ·rcases hm with ⟨rfl,rfl,hm⟩ | ⟨rfl,rfl,hm⟩ | ⟨rfl,rfl,hm⟩ | ⟨rfl,rfl,hm⟩
   ·have hv:=val_8 (z:=z) (e:=e) (l:=l) (.inl rfl) (show (0:Int)≤0∧(0:Int)≤1 by decide)
    have hn:needF (8,z,e,l) ([],0,false)=([0],0):=need_8 h0 hv
    refine mk_in (k:=0) (p:=p) hn (by rw [hi];rfl) rfl (by omega) rfl rfl hp (fun hpe=>⟨([0],0,false),[[]],end_8k h0 hv (by decide) rfl (sort_1 0),rfl,r - 1,by simp only [List.length_nil,List.length_cons] at hr;omega,.inl ⟨[0],0,p,q,o++[],rfl,by decide,⟨hp,hq⟩,.inr (.inr (.inl ⟨rfl,hpe, ?_⟩)),by simp only [List.length_nil,List.length_cons] at hr ⊢;omega⟩⟩) fun hpl=>⟨([],1,false),[[(ins.getD 0 []).getD p 0]],take_8 h0 hv (by rw [hn];rfl) (mem_num ga2 hpl),rfl,r - 1,by simp only [List.length_nil,List.length_cons] at hr;omega,.inl ⟨[],1,p+1,q,o++[(ins.getD 0 []).getD p 0],rfl,by decide,⟨hpl,hq⟩,.inr (.inl ⟨rfl,rfl, ?_⟩),by simp only [List.length_nil,List.length_cons] at hr ⊢;omega⟩⟩
    ·rw [List.append_nil,← hm,show (ins.getD 0 []).drop p=[] from List.drop_of_length_le (by omega),merge_nil]
    ·rw [← hm,drop_cons hpl,show (ins.getD 0 []).length - p+((ins.getD 1 []).length - q)=((ins.getD 0 []).length - (p+1)+((ins.getD 1 []).length - q))+1 by omega]
     show _=o++(_ :: mergeN _ _ _)
     rw [List.append_assoc];rfl
   ·have hv:=val_8 (z:=z) (e:=e) (l:=l) (.inl rfl) (show (0:Int)≤1∧(1:Int)≤1 by decide)
    have hn:needF (8,z,e,l) ([],1,false)=([1],0):=need_8 h0 hv
    refine mk_in (k:=1) (p:=q) hn (by rw [hi];rfl) rfl (by omega) rfl rfl hq (fun hpe=>⟨([1],1,false),[[]],end_8k h0 hv (by decide) rfl (sort_1 1),rfl,r - 1,by simp only [List.length_nil,List.length_cons] at hr;omega,.inl ⟨[1],1,p,q,o++[],rfl,by decide,⟨hp,hq⟩,.inr (.inr (.inr ⟨rfl,hpe, ?_⟩)),by simp only [List.length_nil,List.length_cons] at hr ⊢;omega⟩⟩) fun hpl=>⟨([],0,false),[[(ins.getD 1 []).getD q 0]],take_8 h0 hv (by rw [hn];rfl) (mem_num gb2 hpl),rfl,r - 1,by simp only [List.length_nil,List.length_cons] at hr;omega,.inl ⟨[],0,p,q+1,o++[(ins.getD 1 []).getD q 0],rfl,by decide,⟨hp,hpl⟩,.inl ⟨rfl,rfl, ?_⟩,by simp only [List.length_nil,List.length_cons] at hr ⊢;omega⟩⟩
    ·rw [List.append_nil,← hm,show (ins.getD 1 []).drop q=[] from List.drop_of_length_le (by omega),merge_nil]
    ·rw [← hm,drop_cons hpl,show (ins.getD 0 []).length - p+((ins.getD 1 []).length - q)=((ins.getD 0 []).length - p+((ins.getD 1 []).length - (q+1)))+1 by omega]
     show _=o++(_ :: mergeN _ _ _)
     rw [List.append_assoc];rfl
   ·have hv:=val_8 (z:=z) (e:=e) (l:=l) (held:=[0]) (.inr (.inl rfl)) hc
    have hc2:c=0∨c=1:=by omega
    have hn:needF (8,z,e,l) ([0],c,false)=([1],0):=by
     rw [need_8 h0 hv]
     rcases hc2 with rfl | rfl <;> rfl
    refine mk_in (k:=1) (p:=q) hn (by rw [hi];rfl) rfl (by omega) rfl rfl hq (fun hpe=>⟨([0,1],c,true),[[]],end_8k h0 hv (by decide) rfl sort_01,rfl,0,by simp only [List.length_nil,List.length_cons] at hr;omega,.inr ⟨c,hc, ?_,rfl⟩⟩) fun hpl=>⟨([0],0,false),[[(ins.getD 1 []).getD q 0]],take_8 h0 hv (by rw [hn];rfl) (mem_num gb2 hpl),rfl,r - 1,by simp only [List.length_nil,List.length_cons] at hr;omega,.inl ⟨[0],0,(ins.getD 0 []).length,q+1,o++[(ins.getD 1 []).getD q 0],rfl,by decide,⟨Nat.le_refl _,hpl⟩,.inr (.inr (.inl ⟨rfl,rfl, ?_⟩)),by simp only [List.length_nil,List.length_cons] at hr ⊢;omega⟩⟩
    ·show (([0,1],c,true),[((ins.getD 0 []).length:Int),(q:Int)],[o++[]])=_
     rw [ho,← hm,show (ins.getD 1 []).drop q=[] from List.drop_of_length_le (by omega),hpe]
    ·rw [← hm,drop_cons hpl,List.append_assoc];rfl
   ·have hv:=val_8 (z:=z) (e:=e) (l:=l) (held:=[1]) (.inr (.inr rfl)) hc
    have hc2:c=0∨c=1:=by omega
    have hn:needF (8,z,e,l) ([1],c,false)=([0],0):=by
     rw [need_8 h0 hv]
     rcases hc2 with rfl | rfl <;> rfl
    refine mk_in (k:=0) (p:=p) hn (by rw [hi];rfl) rfl (by omega) rfl rfl hp (fun hpe=>⟨([0,1],c,true),[[]],end_8k h0 hv (by decide) rfl sort_10,rfl,0,by simp only [List.length_nil,List.length_cons] at hr;omega,.inr ⟨c,hc, ?_,rfl⟩⟩) fun hpl=>⟨([1],1,false),[[(ins.getD 0 []).getD p 0]],take_8 h0 hv (by rw [hn];rfl) (mem_num ga2 hpl),rfl,r - 1,by simp only [List.length_nil,List.length_cons] at hr;omega,.inl ⟨[1],1,p+1,(ins.getD 1 []).length,o++[(ins.getD 0 []).getD p 0],rfl,by decide,⟨hpl,Nat.le_refl _⟩,.inr (.inr (.inr ⟨rfl,rfl, ?_⟩)),by simp only [List.length_nil,List.length_cons] at hr ⊢;omega⟩⟩
    ·show (([0,1],c,true),[(p:Int),((ins.getD 1 []).length:Int)],[o++[]])=_
     rw [ho,← hm,show (ins.getD 0 []).drop p=[] from List.drop_of_length_le (by omega),hpe]
    ·rw [← hm,drop_cons hpl,List.append_assoc];rfl
  ·exact mk_done (need_end h0 (d0 c hc) rfl) (by rw [hi];rfl) rfl rfl rfl
 ·rw [start,hi];rfl
section
variable {z:Int} {e:ExprT} {l:List Int} {held:List Int} {c:Int}
theorem val_9 (h:held.length≤1) (hm:held.any notNum=false) (hc:c=0∨((c=1∨c=2)∧held=[])):validF (9,z,e,l) (held,c,false)=true:=by
 rcases hc with rfl | ⟨rfl | rfl,rfl⟩
 ·exact valid_iff.2 ⟨⟨by show (0:Int)≤0;decide,by show (0:Int)≤3;decide,by show (held.length:Int)≤1;omega⟩,hm,rfl⟩
 ·exact valid_iff.2 ⟨⟨by show (0:Int)≤1;decide,by show (1:Int)≤3;decide,by show ((0:Nat):Int)≤1;decide⟩,rfl,rfl⟩
 ·exact valid_iff.2 ⟨⟨by show (0:Int)≤2;decide,by show (2:Int)≤3;decide,by show ((0:Nat):Int)≤1;decide⟩,rfl,rfl⟩
theorem need_9 (h0:stChk (9,z,e,l)=0) (hv:validF (9,z,e,l) (held,c,false)=true):needF (9,z,e,l) (held,c,false)=([if (bif decide (bandI .i64 (shrI .i64 c 0) 1=1) then true else decide (0 < (held.length:Int)))=true then 1 else 0],0):=by
 by_cases h:(bif decide (bandI .i64 (shrI .i64 c 0) 1=1) then true else decide (0 < (held.length:Int)))=true
 ·rw [if_pos h]
  refine ND5 (by simp [h0]) (by simp [hv]) rfl rfl rfl ?_
  rw [endF_9];exact h
 ·rw [if_neg h]
  have h':(bif decide (bandI .i64 (shrI .i64 c 0) 1=1) then true else decide (0 < (held.length:Int)))=false:=by simpa using h
  refine ND6 (by simp [h0]) (by simp [hv]) rfl rfl rfl ?_
  rw [endF_9];exact h'
theorem take_9 (h0:stChk (9,z,e,l)=0) (hv:validF (9,z,e,l) (held,c,false)=true) {k:Int} (hn:(needF (9,z,e,l) (held,c,false)).1=[k]) {n:Int} (hm:notNum n=false) {t:SST} {o:List (List Int)} (hr:runT (9,z,e,l) (held,c,false) k n=(t,o,0)):takeF (9,z,e,l) (held,c,false) k n=(t,o,0) :=
 take_mk h0 hv (tk1_mk (by show (9:Int)≠1;decide) rfl (by rw [hn];simp [isI])) (tk2_mk (by show (9:Int)≠1;decide) hm) hr
theorem end_9k (h0:stChk (9,z,e,l)=0) (hv:validF (9,z,e,l) (held,c,false)=true) {k:Int} (hk:0≤k∧k < 2) (hh:decide (bandI .i64 (shrI .i64 c k) 1=1)=false) {t:SST} (hr:runE (9,z,e,l) (held,c,false) k=(t,[[]],0)):endG (9,z,e,l) (held,c,false) k=(t,[[]],t.2.2,0) :=
 end_mk h0 hv (te1_mk (by show (9:Int)≠1;decide) hk.1 hk.2) (te2_mk rfl fun _=>by rw [endF_9];exact hh) hr
end
theorem b00:borI .i64 0 (shlI .i64 1 0)=1:=by decide
theorem b01:borI .i64 0 (shlI .i64 1 1)=2:=by decide
theorem b11:borI .i64 1 (shlI .i64 1 1)=3:=by decide
theorem b20:borI .i64 2 (shlI .i64 1 0)=3:=by decide
theorem zip_snoc {f:Nat→Int} {j:Nat}:(List.range (j+1)).map f=(List.range j).map f++[f j]:=by
 rw [List.range_succ,List.map_append];rfl
def ZC (a b:List Int) (f:Nat→Int) (held:List Int) (c:Int) (p q:Nat) (o:List Int):Prop :=
 (held=[]∧c=0∧p=q∧o=(List.range q).map f)∨(held=[a.getD q 0]∧c=0∧p=q+1∧q < a.length∧o=(List.range q).map f) ∨
   (held=[]∧c=1∧p=a.length∧o=(List.range (min a.length b.length)).map f)∨(held=[]∧c=2∧q=b.length∧o=(List.range (min a.length b.length)).map f)
theorem runs_9 {z:Int} {e:ExprT} {l:List Int} {ins:List (List Int)} (h:(meanF (9,z,e,l) ins).2=0):Runs (9,z,e,l) ins:=by
 obtain ⟨h0,hl,hs,hc,hb⟩:=mean_iff.1 h
 have hi:ins.length=2:=by have h:(ins.length:Int)=2:=hl;omega
 obtain ⟨ga1,ga2⟩:=strF_get hs (show 0 < ins.length by omega)
 obtain ⟨gb1,gb2⟩:=strF_get hs (show 1 < ins.length by omega)
 replace ga1:(ins.getD 0 []).length≤200:=ga1
 replace ga2:(ins.getD 0 []).any notNum=false:=ga2
 replace gb1:(ins.getD 1 []).length≤200:=gb1
 replace gb2:(ins.getD 1 []).any notNum=false:=gb2
 have ha:=hc.2.1 rfl
 replace ha:∀ i,i < min (ins.getD 0 []).length (ins.getD 1 []).length→err2 e ((ins.getD 0 []).getD i 0) ((ins.getD 1 []).getD i 0)=0:=ha
 obtain ⟨f,hf⟩ : ∃ f:Nat→Int,f=fun i=>val2 e ((ins.getD 0 []).getD i 0) ((ins.getD 1 []).getD i 0):=⟨_,rfl⟩
 have ho:outF (9,z,e,l) ins=[(List.range (min (ins.getD 0 []).length (ins.getD 1 []).length)).map f]:=by rw [hf];rfl
 have d0:validF (9,z,e,l) ([],3,true)=true:=valid_iff.2 ⟨⟨by show (0:Int)≤3;decide,by show (3:Int)≤3;decide,by show ((0:Nat):Int)≤1;decide⟩,rfl,rfl⟩
 refine ⟨fun r t=>(∃ (held:List Int) (c:Int) (p q:Nat) (o:List Int),t=((held,c,false),[(p:Int),(q:Int)],[o])∧(p≤(ins.getD 0 []).length∧q≤(ins.getD 1 []).length) ∧
  ZC (ins.getD 0 []) (ins.getD 1 []) f held c p q o∧r+(if c=0 then 0 else 1)=((ins.getD 0 []).length - p)+((ins.getD 1 []).length - q)+2) ∨
  (t=(([],3,true),[((ins.getD 0 []).length:Int),((ins.getD 1 []).length:Int)],outF (9,z,e,l) ins)∧r=0), ?_,(ins.getD 0 []).length+(ins.getD 1 []).length+2,by omega,.inl ⟨[],0,0,0,[], ?_,⟨Nat.zero_le _,Nat.zero_le _⟩,.inl ⟨rfl,rfl,rfl,rfl⟩,rfl⟩⟩
 ·rintro r t (⟨held,c,p,q,o,rfl,⟨hp,hq⟩,hm,hr⟩ | ⟨rfl,rfl⟩)
  ·rcases hm with ⟨rfl,rfl,rfl,rfl⟩ | ⟨rfl,rfl,rfl,hqa,rfl⟩ | ⟨rfl,rfl,rfl,rfl⟩ | ⟨rfl,rfl,rfl,rfl⟩
   ·have hv:=val_9 (z:=z) (e:=e) (l:=l) (held:=[]) (c:=0) (by decide) rfl (.inl rfl)
    have hn:needF (9,z,e,l) ([],0,false)=([0],0):=by rw [need_9 h0 hv];rw [if_neg (by decide)]
    rw [if_pos rfl] at hr
    refine mk_in (k:=0) (p:=p) hn (by rw [hi];rfl) rfl (by omega) rfl rfl hp (fun hpe=>⟨([],1,false),[[]],end_9k h0 hv (by decide) (by decide) (by rw [e9f (by decide)];show (([],borI .i64 0 (shlI .i64 1 0),decide (borI .i64 0 (shlI .i64 1 0)=3)),[[]],(0:Int))=_;rw [b00];rfl),rfl,r - 1,by omega,.inl ⟨[],1,p,p,(List.range p).map f++[],rfl,⟨hp,hq⟩,.inr (.inr (.inl ⟨rfl,rfl,hpe, ?_⟩)),by rw [if_neg (by decide)];omega⟩⟩) fun hpl=>⟨([(ins.getD 0 []).getD p 0],0,false),[[]],take_9 h0 hv (by rw [hn];rfl) (mem_num ga2 hpl) (r9a (by decide) (by show decide (bandI .i64 0 2=0)=true;decide)),rfl,r - 1,by omega,.inl ⟨[(ins.getD 0 []).getD p 0],0,p+1,p,(List.range p).map f++[],rfl,⟨hpl,hq⟩,.inr (.inl ⟨rfl,rfl,rfl,hpl,List.append_nil _⟩),by rw [if_pos rfl];omega⟩⟩
    rw [List.append_nil,Nat.min_eq_left (by omega),hpe]
   ·have hmn:=mem_num ga2 hqa
    have hv:=val_9 (z:=z) (e:=e) (l:=l) (held:=[(ins.getD 0 []).getD q 0]) (c:=0) (by simp) (by simp only [List.any_cons,List.any_nil,Bool.or_false];exact hmn) (.inl rfl)
    have hn:needF (9,z,e,l) ([(ins.getD 0 []).getD q 0],0,false)=([1],0):=by rw [need_9 h0 hv];rw [if_pos (by rw [show decide (bandI .i64 (shrI .i64 0 0) 1=1)=false by decide];rfl)]
    rw [if_pos rfl] at hr
    refine mk_in (k:=1) (p:=q) hn (by rw [hi];rfl) rfl (by omega) rfl rfl hq (fun hpe=>⟨([],2,false),[[]],end_9k h0 hv (by decide) (by decide) (by rw [e9t (by decide)];show (([],borI .i64 0 (shlI .i64 1 1),decide (borI .i64 0 (shlI .i64 1 1)=3)),[[]],(0:Int))=_;rw [b01];rfl),rfl,r - 1,by omega,.inl ⟨[],2,q+1,q,(List.range q).map f++[],rfl,⟨hp,hq⟩,.inr (.inr (.inr ⟨rfl,rfl,hpe, ?_⟩)),by rw [if_neg (by decide)];omega⟩⟩) fun hpl=>⟨([],0,false),[[f q]],take_9 h0 hv (by rw [hn];rfl) (mem_num gb2 hpl) ?_,rfl,r - 1,by omega,.inl ⟨[],0,q+1,q+1,(List.range q).map f++[f q],rfl,⟨hp,hpl⟩,.inl ⟨rfl,rfl,rfl,zip_snoc.symm⟩,by rw [if_pos rfl];omega⟩⟩
    ·rw [List.append_nil,Nat.min_eq_right (by omega),hpe]
    ·have he:(evX e nmXY ((ins.getD 0 []).getD q 0) ((ins.getD 1 []).getD q 0)).2=0:=ha q (by omega)
     rw [r9c (by decide) (by show decide (((1:Nat):Int)=1)=true;decide)]
     show (_,[[(evX e nmXY ((ins.getD 0 []).getD q 0) ((ins.getD 1 []).getD q 0)).1]],(evX e nmXY ((ins.getD 0 []).getD q 0) ((ins.getD 1 []).getD q 0)).2)=_
     rw [he,hf];rfl
   ·have hv:=val_9 (z:=z) (e:=e) (l:=l) (held:=[]) (c:=1) (by decide) rfl (.inr ⟨.inl rfl,rfl⟩)
    have hn:needF (9,z,e,l) ([],1,false)=([1],0):=by rw [need_9 h0 hv];rw [if_pos (by decide)]
    rw [if_neg (by decide)] at hr
    refine mk_in (k:=1) (p:=q) hn (by rw [hi];rfl) rfl (by omega) rfl rfl hq (fun hpe=>⟨([],3,true),[[]],end_9k h0 hv (by decide) (by decide) (by rw [e9t (by decide)];show (([],borI .i64 1 (shlI .i64 1 1),decide (borI .i64 1 (shlI .i64 1 1)=3)),[[]],(0:Int))=_;rw [b11];rfl),rfl,0,by omega,.inr ⟨?_,rfl⟩⟩) fun hpl=>⟨([],1,false),[[]],take_9 h0 hv (by rw [hn];rfl) (mem_num gb2 hpl) (r9d (by decide) rfl),rfl,r - 1,by omega,.inl ⟨[],1,(ins.getD 0 []).length,q+1,_++[],rfl,⟨Nat.le_refl _,hpl⟩,.inr (.inr (.inl ⟨rfl,rfl,rfl,List.append_nil _⟩)),by rw [if_neg (by decide)];omega⟩⟩
    show (([],3,true),[((ins.getD 0 []).length:Int),(q:Int)],[_++[]])=_
    rw [ho,List.append_nil,hpe]
   ·have hv:=val_9 (z:=z) (e:=e) (l:=l) (held:=[]) (c:=2) (by decide) rfl (.inr ⟨.inr rfl,rfl⟩)
    have hn:needF (9,z,e,l) ([],2,false)=([0],0):=by rw [need_9 h0 hv];rw [if_neg (by decide)]
    rw [if_neg (by decide)] at hr
    refine mk_in (k:=0) (p:=p) hn (by rw [hi];rfl) rfl (by omega) rfl rfl hp (fun hpe=>⟨([],3,true),[[]],end_9k h0 hv (by decide) (by decide) (by rw [e9f (by decide)];show (([],borI .i64 2 (shlI .i64 1 0),decide (borI .i64 2 (shlI .i64 1 0)=3)),[[]],(0:Int))=_;rw [b20];rfl),rfl,0,by omega,.inr ⟨?_,rfl⟩⟩) fun hpl=>⟨([],2,false),[[]],take_9 h0 hv (by rw [hn];rfl) (mem_num ga2 hpl) (r9b (by decide) (by show decide (bandI .i64 2 2=0)=false;decide)),rfl,r - 1,by omega,.inl ⟨[],2,p+1,(ins.getD 1 []).length,_++[],rfl,⟨hpl,Nat.le_refl _⟩,.inr (.inr (.inr ⟨rfl,rfl,rfl,List.append_nil _⟩)),by rw [if_neg (by decide)];omega⟩⟩
    show (([],3,true),[(p:Int),((ins.getD 1 []).length:Int)],[_++[]])=_
    rw [ho,List.append_nil,hpe]
  ·exact mk_done (need_end h0 d0 rfl) (by rw [hi];rfl) rfl rfl rfl
 ·rw [start,hi];rfl
theorem runs_ok {x:StT} {ins:List (List Int)} (h:(meanF x ins).2=0):Runs x ins:=by
 obtain ⟨h0,-⟩:=mean_iff.1 h
 have hk:=kinds (chk_kind h0)
 obtain ⟨k,z,e,l⟩:=x
 replace hk:k=1∨k=2∨k=3∨k=4∨k=5∨k=6∨k=7∨k=8∨k=9∨k=10:=hk
 rcases hk with rfl | rfl | rfl | rfl | rfl | rfl | rfl | rfl | rfl | rfl
 ·exact runs_1 h
 ·exact runs_2 h
 ·exact runs_3 h
 ·exact runs_4 h
 ·exact runs_5 h
 ·exact runs_6 h
 ·exact runs_7 h
 ·exact runs_8 h
 ·exact runs_9 h
 ·exact runs_10 h
end Go.Proofs.YticmijfmgmkkcaaGreat
