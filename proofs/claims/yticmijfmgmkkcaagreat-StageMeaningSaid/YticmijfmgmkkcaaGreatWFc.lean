import Derived.Test.YticmijfmgmkkcaaGreatWFb
import Derived.Test.YticmijfmgmkkcaaGreatWZa7
set_option linter.unusedSimpArgs false
set_option linter.unusedVariables false
set_option maxRecDepth 100000
namespace Go.Proofs.YticmijfmgmkkcaaGreat
open Go.Sx
def mergeR:List Int→List Int→List Int
 | x :: a,y :: b=>x :: y :: mergeR a b
 | [],b=>b
 | a,[]=>a
theorem mergeN_nil:∀ (n:Nat) (b:List Int),mergeN n [] b=b
 | 0,_=>rfl
 | _+1,_=>rfl
theorem merge_is:∀ (n:Nat) (a b:List Int),a.length+b.length≤n→mergeN n a b=mergeR a b
 | n,[],b,_=>by rw [mergeN_nil];cases b <;> rfl
 | n+1,x :: a,[],_=>by
  show x :: mergeN n [] a=x :: a
  rw [mergeN_nil]
 | n+2,x :: a,y :: b,h=>by
  show x :: y :: mergeN n a b=x :: y :: mergeR a b
  rw [merge_is n a b (by simp at h;omega)]
 | 0,x :: a,b,h=>by simp at h
 | 1,x :: a,y :: b,h=>by simp at h;omega
def erL (ee:Int→Int):List Int→Int
 | []=>0
 | n :: r=>if ee n≠0 then ee n else erL ee r
theorem erL_all {ee:Int→Int}:∀ {r:List Int},erL ee r=0→∀ n∈r,ee n=0
 | [],_,_,h=>by cases h
 | m :: r,h,n,hn=>by
  rw [erL] at h
  by_cases h1:ee m≠0
  ·rw [if_pos h1] at h;exact absurd h h1
  ·rw [if_neg h1] at h
   rcases List.mem_cons.1 hn with rfl | h2
   ·simpa using h1
   ·exact erL_all h n h2
theorem each_pq {k z:Int} {e:ExprT} {b:List Int} {p q:Int→List Int} {vv ee:Int→Int} (h9:k≠9) (hO:∀ o n i,eachO k z o n i (vv n)=(o.1++p n,o.2++q n)) :
 ∀ (r:List Int) (i:Nat) (o:List Int × List Int),(∀ n∈r,∀ i,eachV k e b n i=(vv n,ee n))→(eachL k z e b r i o).2=erL ee r∧(erL ee r=0→(eachL k z e b r i o).1=(o.1++r.flatMap p,o.2++r.flatMap q))
 | [],i,o,_=>⟨rfl,fun _=>by simp [eachL]⟩
 | n :: r,i,o,hV=>by
  rw [eachL,if_neg (fun h=>h9 h.1),erL,hV n (List.mem_cons_self ..) i]
  by_cases h1:ee n≠0
  ·rw [if_pos h1,if_pos h1];exact ⟨rfl,fun h=>absurd h h1⟩
  ·rw [if_neg h1,if_neg h1]
   have ih:=each_pq h9 hO r (i+1) (eachO k z o n i (vv n)) (fun m hm=>hV m (List.mem_cons_of_mem _ hm))
   refine ⟨ih.1,fun h=>?_⟩
   rw [ih.2 h,hO]
   simp
theorem er_map (e:ExprT):∀ (l o:List Int) (f:Int),(l.foldl (mapS e) (o,f)).2=errN f (erL (err1 e) l)
 | [],o,f=>by
  show f=errN f 0
  unfold errN;split
  ·rename_i h;exact of_decide_eq_true h
  ·rfl
 | a :: l,o,f=>by
  rw [List.foldl_cons]
  have h:=er_map e l (sndI (errN f (err1 e a)) o (val1 e a)) (errN f (err1 e a))
  show (l.foldl (mapS e) (sndI (errN f (err1 e a)) o (val1 e a),errN f (err1 e a))).2=_
  rw [h,erL]
  by_cases hf:f=0
  ·subst hf
   by_cases h1:err1 e a=0
   ·rw [if_neg (by rw [h1];simp),h1];rfl
   ·rw [if_pos h1,show errN 0 (err1 e a)=err1 e a from rfl,errN_1 (decide_eq_false h1)]
  ·rw [errN_1 (decide_eq_false hf),errN_1 (decide_eq_false hf),errN_1 (decide_eq_false hf)]
theorem er_fil (e:ExprT):∀ (l o:List Int) (f:Int),(l.foldl (filS e) (o,f)).2=errN f (erL (err1 e) l)
 | [],o,f=>er_map e [] o f
 | a :: l,o,f=>by
  have h:=er_fil e l (filS e (o,f) a).1 (filS e (o,f) a).2
  rw [List.foldl_cons]
  have h2:=er_map e (a :: l) o f
  rw [List.foldl_cons] at h2
  have h3:=er_map e l (mapS e (o,f) a).1 (mapS e (o,f) a).2
  rw [← h2,h3]
  exact h
theorem er_spl (e:ExprT):∀ (l o q:List Int) (f:Int),(l.foldl (splS e) (o,q,f)).2.2=errN f (erL (err1 e) l)
 | [],o,q,f=>er_map e [] o f
 | a :: l,o,q,f=>by
  have h:=er_spl e l (splS e (o,q,f) a).1 (splS e (o,q,f) a).2.1 (splS e (o,q,f) a).2.2
  rw [List.foldl_cons]
  have h2:=er_map e (a :: l) o f
  rw [List.foldl_cons] at h2
  have h3:=er_map e l (mapS e (o,f) a).1 (mapS e (o,f) a).2
  rw [← h2,h3]
  exact h
theorem flat_keep {p:Int→Bool}:∀ l:List Int,l.flatMap (fun n=>if p n=true then [n] else [])=l.filter p
 | []=>rfl
 | a :: l=>by
  rw [List.flatMap_cons,flat_keep l,List.filter_cons]
  split <;> simp
theorem flat_drop {p:Int→Bool}:∀ l:List Int,l.flatMap (fun n=>if p n=true then [] else [n])=l.filter (fun n=>!p n)
 | []=>rfl
 | a :: l=>by
  rw [List.flatMap_cons,flat_drop l,List.filter_cons]
  cases p a <;> simp
theorem flat_nil:∀ l:List Int,l.flatMap (fun _=>([]:List Int))=[]
 | []=>rfl
 | a :: l=>by rw [List.flatMap_cons,flat_nil l];rfl
theorem flat_oneR {f:Int→Int}:∀ l:List Int,l.flatMap (fun n=>[f n])=l.map f
 | []=>rfl
 | a :: l=>by rw [List.flatMap_cons,flat_oneR l];rfl
theorem each_6 {z:Int} {e:ExprT} {b:List Int}:∀ (r:List Int) (i:Nat) (o:List Int × List Int),eachL 6 z e b r i o=((o.1++r.take (z - i).toNat,o.2),0)
 | [],i,o=>by simp [eachL]
 | n :: r,i,o=>by
  rw [eachL,if_neg (by simp)]
  have hv:eachV 6 e b n i=(0,0):=rfl
  rw [hv,if_neg (by simp),each_6 r (i+1)]
  by_cases h:(i:Int) < z
  ·have ho:eachO 6 z o n i 0=(o.1++[n],o.2):=if_pos h
   have e1:(z - (i:Int)).toNat=(z - ((i+1:Nat):Int)).toNat+1:=by omega
   rw [show eachO 6 z o n i ((0:Int),(0:Int)).1=_ from ho,e1,List.take_succ_cons];simp
  ·have ho:eachO 6 z o n i 0=o:=if_neg h
   have e1:(z - (i:Int)).toNat=0:=by omega
   have e2:(z - ((i+1:Nat):Int)).toNat=0:=by omega
   rw [show eachO 6 z o n i ((0:Int),(0:Int)).1=_ from ho,e1,e2];simp
theorem zip_er (e:ExprT) (a b:List Int) {f:Int} (hf:f≠0):∀ (l:List Nat) (o:List Int),(l.foldl (zipS e a b) (o,f)).2=f
 | [],_=>rfl
 | i :: l,o=>by
  rw [List.foldl_cons]
  have h:zipS e a b (o,f) i=((zipS e a b (o,f) i).1,f):=Prod.ext rfl (errN_1 (decide_eq_false hf))
  rw [h];exact zip_er e a b hf l _
theorem each_9 {z:Int} {e:ExprT} {a b:List Int}:∀ (d i:Nat) (o q:List Int),min a.length b.length - i=d→(eachL 9 z e b (a.drop i) i (o,q)).2=((List.range' i d).foldl (zipS e a b) (o,0)).2∧((eachL 9 z e b (a.drop i) i (o,q)).2=0→(eachL 9 z e b (a.drop i) i (o,q)).1=(((List.range' i d).foldl (zipS e a b) (o,0)).1,q))
 | 0,i,o,q,h=>by
  have h1:eachL 9 z e b (a.drop i) i (o,q)=((o,q),0):=by
   by_cases ha:i < a.length
   ·rw [eachL_drop ha,if_pos ⟨rfl,by omega⟩]
   ·rw [List.drop_of_length_le (by omega)];rfl
  rw [h1];exact ⟨rfl,fun _=>rfl⟩
 | d+1,i,o,q,h=>by
  have ha:i < a.length:=by omega
  have hb:i < b.length:=by omega
  rw [eachL_drop ha,if_neg (by omega),List.range'_succ,List.foldl_cons]
  have hv:eachV 9 e b (a.getD i 0) i=evX e nmXY (a.getD i 0) (b.getD i 0):=rfl
  rw [hv]
  by_cases h0:(evX e nmXY (a.getD i 0) (b.getD i 0)).2≠0
  ·rw [if_pos h0]
   have hz:zipS e a b (o,0) i=(o,(evX e nmXY (a.getD i 0) (b.getD i 0)).2):=Prod.ext (show sndI (errN 0 (evX e nmXY (a.getD i 0) (b.getD i 0)).2) o (evX e nmXY (a.getD i 0) (b.getD i 0)).1=o from sndI_1 (decide_eq_false h0)) rfl
   rw [hz]
   exact ⟨(zip_er e a b h0 _ _).symm,fun h9=>absurd h9 h0⟩
  ·rw [if_neg h0]
   have h0':(evX e nmXY (a.getD i 0) (b.getD i 0)).2=0:=by simpa using h0
   have hz:zipS e a b (o,0) i=(o++[(evX e nmXY (a.getD i 0) (b.getD i 0)).1],0):=Prod.ext (show sndI (errN 0 (evX e nmXY (a.getD i 0) (b.getD i 0)).2) o (evX e nmXY (a.getD i 0) (b.getD i 0)).1=_ from sndI_0 (decide_eq_true h0')) (show errN 0 (evX e nmXY (a.getD i 0) (b.getD i 0)).2=0 from h0')
   rw [hz]
   have ho:eachO 9 z (o,q) (a.getD i 0) i (evX e nmXY (a.getD i 0) (b.getD i 0)).1=(o++[(evX e nmXY (a.getD i 0) (b.getD i 0)).1],q):=rfl
   rw [ho]
   exact each_9 d (i+1) _ q (by omega)
theorem bat_er {z f:Int} (hf:f≠0):∀ (l d o:List Int),(l.foldl (batS z) (d,o,f)).2.2=f
 | [],_,_=>rfl
 | a :: l,d,o=>by
  rw [List.foldl_cons]
  have hs:∀ (c:List Int) (n:Int),(c.foldl sumS (n,f)).2=f:=fun c=>by
   induction c with
   | nil=>intro n;rfl
   | cons x c ih =>
    intro n
    rw [List.foldl_cons]
    have:sumS (n,f) x=(n+x,f):=by
     unfold sumS
     rw [decide_eq_false hf]
     cases numB (n+x) <;> rfl
    rw [this];exact ih _
  have h:∃ d' o',batS z (d,o,f) a=(d',o',f):=by
   unfold batS
   split
   ·exact ⟨_,_,by unfold batE;rw [hs]⟩
   ·exact ⟨_,_,rfl⟩
  obtain ⟨d',o',h⟩:=h
  rw [h];exact bat_er hf l d' o'
theorem batR_er {f:Int} (hf:f≠0) (d o:List Int):(batR (d,o,f)).2.2=f:=by
 have hs:∀ (c:List Int) (n:Int),(c.foldl sumS (n,f)).2=f:=fun c=>by
  induction c with
  | nil=>intro n;rfl
  | cons x c ih =>
   intro n
   rw [List.foldl_cons]
   have:sumS (n,f) x=(n+x,f):=by
    unfold sumS
    rw [decide_eq_false hf]
    cases numB (n+x) <;> rfl
   rw [this];exact ih _
 unfold batR
 split
 ·exact hs d 0
 ·rfl
theorem bat_less {z:Int}:∀ (c d o:List Int) (f:Int),((d.length+c.length:Nat):Int) < z→c.foldl (batS z) (d,o,f)=(d++c,o,f)
 | [],d,o,f,_=>by simp
 | a :: c,d,o,f,h=>by
  rw [List.foldl_cons]
  have h1:batS z (d,o,f) a=(d++[a],o,f):=if_neg (by
   intro h2
   have h3:=of_decide_eq_true h2
   simp at h3 h
   omega)
  rw [h1,bat_less c (d++[a]) o f (by simp at h ⊢;omega)]
  simp
theorem bat_full {z:Int}:∀ (c d o:List Int) (f:Int),((d.length+c.length:Nat):Int)=z→c≠[]→c.foldl (batS z) (d,o,f)=batE (d++c,o,f)
 | [],d,o,f,_,h=>absurd rfl h
 | [a],d,o,f,h,_=>by
  show batS z (d,o,f) a=_
  exact if_pos (decide_eq_true (by simp at h ⊢;omega))
 | a :: x :: c,d,o,f,h,_=>by
  rw [List.foldl_cons]
  have h1:batS z (d,o,f) a=(d++[a],o,f):=if_neg (by
   intro h2
   have h3:=of_decide_eq_true h2
   simp at h3 h
   omega)
  rw [h1,bat_full (x :: c) (d++[a]) o f (by simp at h ⊢;omega) (by simp)]
  simp
theorem bat_is {w:Nat} (hw:1≤w):∀ (f:Nat) (l o:List Int),l.length≤f→((sumsR w f l o).2=0→(batR (l.foldl (batS (w:Int)) ([],o,0))).2=((sumsR w f l o).1,0))∧((sumsR w f l o).2≠0→(batR (l.foldl (batS (w:Int)) ([],o,0))).2.2=(sumsR w f l o).2)
 | 0,l,o,h=>by
  have:l=[]:=List.length_eq_zero_iff.1 (by omega)
  subst this
  exact ⟨fun _=>rfl,fun h=>absurd rfl h⟩
 | f+1,l,o,h=>by
  by_cases hl:l.length=0
  ·have:l=[]:=List.length_eq_zero_iff.1 hl
   subst this
   exact ⟨fun _=>rfl,fun h=>absurd rfl h⟩
  ·rw [sumsR,if_neg hl]
   have si:=sum_is (l.take w) 0
   by_cases hlt:l.length < w
   ·have ht:l.take w=l:=List.take_of_length_le (by omega)
    have hd:l.drop w=[]:=List.drop_of_length_le (by omega)
    rw [ht] at si ⊢
    rw [hd,sumsR_0 (by rfl),bat_less l [] o 0 (by simp;omega)]
    have hb:batR ([]++l,o,0)=batE (l,o,0):=by
     rw [List.nil_append]
     exact if_pos (decide_eq_true (by show (0:Int) < (l.length:Int);omega))
    rw [hb]
    have hbe:batE (l,o,0)=([],sndI (l.foldl sumS (0,0)).2 o (l.foldl sumS (0,0)).1,(l.foldl sumS (0,0)).2):=rfl
    by_cases h0:(sumR l 0).2≠0
    ·rw [if_pos h0]
     refine ⟨fun h9=>absurd h9 (by decide),fun _=>?_⟩
     rw [hbe];exact si.2 h0
    ·rw [if_neg h0]
     have h0':(sumR l 0).2=0:=by simpa using h0
     refine ⟨fun _=>?_,fun h9=>absurd rfl h9⟩
     rw [hbe,si.1 h0',h0'];rfl
   ·have hc:(l.take w).length=w:=by rw [List.length_take];omega
    have hcat:l.foldl (batS (w:Int)) ([],o,0)=(l.drop w).foldl (batS (w:Int)) (batE (l.take w,o,0)):=by
     rw [← List.nil_append (l.take w),← bat_full (z:=(w:Int)) (l.take w) [] o 0 (by simp [hc]) (fun h9=>by rw [h9] at hc;simp at hc;omega),← List.foldl_append,List.take_append_drop]
    rw [hcat]
    have hbe:batE (l.take w,o,0)=([],sndI ((l.take w).foldl sumS (0,0)).2 o ((l.take w).foldl sumS (0,0)).1,((l.take w).foldl sumS (0,0)).2):=rfl
    by_cases h0:(sumR (l.take w) 0).2≠0
    ·rw [if_pos h0]
     refine ⟨fun h9=>absurd h9 (by decide),fun _=>?_⟩
     rw [hbe,si.2 h0]
     have h1:=bat_er (z:=(w:Int)) (f:=14) (by decide) (l.drop w) [] (sndI 14 o ((l.take w).foldl sumS (0,0)).1)
     generalize hq:(l.drop w).foldl (batS (w:Int)) ([],sndI 14 o ((l.take w).foldl sumS (0,0)).1,14)=s at h1 ⊢
     obtain ⟨s1,s2,s3⟩:=s
     replace h1:s3=14:=h1
     subst h1
     exact batR_er (by decide) s1 s2
    ·rw [if_neg h0]
     have h0':(sumR (l.take w) 0).2=0:=by simpa using h0
     rw [hbe,si.1 h0',h0',sndI_z]
     exact bat_is hw f (l.drop w) _ (by rw [List.length_drop];omega)
end Go.Proofs.YticmijfmgmkkcaaGreat
namespace Go.Proofs.YticmijfmgmkkcaaGreat
open Go.Sx
section
variable {k z:Int} {e:ExprT} {l a b:List Int} {ins:List (List Int)}
def RunOk (x:StT) (ins:List (List Int)) (r:List (List Int) × Int):Prop:=(r.2≠0→(runF x ins).2=r.2)∧(r.2=0→r.1.length=2∧runF x ins=(r.1.take (stOut x).toNat,0))
theorem run_of {er:Int} {f s:List Int} (E1:(eachL k z e b a 0 ([],[])).2=er) (E2:er=0→(eachL k z e b a 0 ([],[])).1=(f,s)) (R1:(runF (k,z,e,l) ins).2=er) (R2:er=0→runF (k,z,e,l) ins=([f,s].take (stOut (k,z,e,l)).toNat,0)) :
 RunOk (k,z,e,l) ins (eachF (k,z,e,l) a b):=by
 have q:eachF (k,z,e,l) a b=if er≠0 then ([],er) else ([(eachL k z e b a 0 ([],[])).1.1,(eachL k z e b a 0 ([],[])).1.2],0):=by
  unfold eachF
  rw [show (eachL (k,z,e,l).1 (k,z,e,l).2.1 (k,z,e,l).2.2.1 b a 0 ([],[])).2=er from E1]
 rw [q]
 by_cases h:er≠0
 ·rw [if_pos h];exact ⟨fun _=>R1,fun h9=>absurd h9 h⟩
 ·rw [if_neg h]
  have h':er=0:=by simpa using h
  refine ⟨fun h9=>absurd rfl h9,fun _=>⟨rfl, ?_⟩⟩
  rw [R2 h',E2 h']
theorem out_ofR {x:StT} (h:stChk x=0):stOut x=(knownF x.1).2.1:=by rw [stOut,if_pos h]
theorem val_nm (h:stChk (k,z,e,l)=0) (hk:k=2∨k=3∨k=7) (ha:∀ n∈a,inM n):∀ n∈a,∀ i,eachV k e [] n i=(val1 e n,err1 e n):=fun n hn i=>by
 have he:evX e nmX n 0=exEval e (bindF nmXY [n,0]):=ev_ref h hk (ha n hn)
 have ht:tyE k≠0:=by rcases hk with rfl | rfl | rfl <;> decide
 have h9:k≠9:=by omega
 unfold eachV val1 err1
 rw [if_pos ht,if_neg h9,← he]
theorem rr_2 (h:stChk (2,z,e,l)=0) (ha:∀ n∈ins.getD 0 [],inM n):RunOk (2,z,e,l) ins (eachF (2,z,e,l) (ins.getD 0 []) []):=by
 have P:=each_pq (k:=2) (z:=z) (e:=e) (b:=[]) (p:=fun n=>[val1 e n]) (q:=fun _=>[]) (vv:=val1 e) (ee:=err1 e) (by decide) (fun o n i=>by show (o.1++[val1 e n],o.2)=_;simp) (ins.getD 0 []) 0 ([],[]) (val_nm h (.inl rfl) ha)
 refine run_of (f:=(ins.getD 0 []).map (val1 e)) (s:=[]) P.1 (fun h0=>?_) (er_map e _ [] 0) fun h0=>?_
 ·rw [P.2 h0,flat_oneR,flat_nil];simp
 ·have r:runF (2,z,e,l) ins=([((ins.getD 0 []).foldl (mapS e) ([],0)).1],((ins.getD 0 []).foldl (mapS e) ([],0)).2):=rfl
  rw [r,map_out e _ [] (erL_all h0),out_ofR h];rfl
theorem rr_3 (h:stChk (3,z,e,l)=0) (ha:∀ n∈ins.getD 0 [],inM n):RunOk (3,z,e,l) ins (eachF (3,z,e,l) (ins.getD 0 []) []):=by
 have P:=each_pq (k:=3) (z:=z) (e:=e) (b:=[]) (p:=fun n=>if keep1 e n=true then [n] else []) (q:=fun _=>[]) (vv:=val1 e) (ee:=err1 e) (by decide) (fun o n i=>by
  unfold keep1
  obtain ⟨o1,o2⟩:=o
  by_cases h1:val1 e n=1
  ·rw [eo3t h1,decide_eq_true h1];simp
  ·rw [eo3f h1,decide_eq_false h1];simp) (ins.getD 0 []) 0 ([],[]) (val_nm h (.inr (.inl rfl)) ha)
 refine run_of (f:=(ins.getD 0 []).filter (keep1 e)) (s:=[]) P.1 (fun h0=>?_) (er_fil e _ [] 0) fun h0=>?_
 ·rw [P.2 h0,flat_keep,flat_nil];simp
 ·have r:runF (3,z,e,l) ins=([((ins.getD 0 []).foldl (filS e) ([],0)).1],((ins.getD 0 []).foldl (filS e) ([],0)).2):=rfl
  rw [r,fil_out e _ [] (erL_all h0),out_ofR h];rfl
theorem rr_7 (h:stChk (7,z,e,l)=0) (ha:∀ n∈ins.getD 0 [],inM n):RunOk (7,z,e,l) ins (eachF (7,z,e,l) (ins.getD 0 []) []):=by
 have P:=each_pq (k:=7) (z:=z) (e:=e) (b:=[]) (p:=fun n=>if keep1 e n=true then [n] else []) (q:=fun n=>if keep1 e n=true then [] else [n]) (vv:=val1 e) (ee:=err1 e) (by decide) (fun o n i=>by
  unfold keep1
  obtain ⟨o1,o2⟩:=o
  by_cases h1:val1 e n=1
  ·rw [eo7t h1,decide_eq_true h1];simp
  ·rw [eo7f h1,decide_eq_false h1];simp) (ins.getD 0 []) 0 ([],[]) (val_nm h (.inr (.inr rfl)) ha)
 refine run_of (f:=(ins.getD 0 []).filter (keep1 e)) (s:=(ins.getD 0 []).filter (fun a=>!keep1 e a)) P.1 (fun h0=>?_) (er_spl e _ [] [] 0) fun h0=>?_
 ·rw [P.2 h0,flat_keep,flat_drop];simp
 ·have r:runF (7,z,e,l) ins=([((ins.getD 0 []).foldl (splS e) ([],[],0)).1,((ins.getD 0 []).foldl (splS e) ([],[],0)).2.1],((ins.getD 0 []).foldl (splS e) ([],[],0)).2.2):=rfl
  rw [r,spl_out e _ [] [] (erL_all h0),out_ofR h];rfl
theorem zero_er:∀ r:List Int,erL (fun _=>0) r=0
 | []=>rfl
 | _ :: r=>(if_neg (by simp)).trans (zero_er r)
theorem rr_5 (h:stChk (5,z,e,l)=0):RunOk (5,z,e,l) ins (eachF (5,z,e,l) (ins.getD 0 []) []):=by
 have P:=each_pq (k:=5) (z:=z) (e:=e) (b:=[]) (p:=fun n=>List.replicate z.toNat n) (q:=fun _=>[]) (vv:=fun _=>0) (ee:=fun _=>0) (by decide) (fun o n i=>by show (o.1++List.replicate z.toNat n,o.2)=_;simp) (ins.getD 0 []) 0 ([],[]) (fun _ _ _=>rfl)
 rw [zero_er] at P
 refine run_of (f:=(ins.getD 0 []).flatMap fun n=>List.replicate z.toNat n) (s:=[]) P.1 (fun _=>?_) rfl fun _=>?_
 ·rw [P.2 rfl,flat_nil];simp
 ·have r:runF (5,z,e,l) ins=([(ins.getD 0 []).foldl (repS z) []],0):=rfl
  rw [r,rep_out,out_ofR h];rfl
theorem rr_10 (h:stChk (10,z,e,l)=0):RunOk (10,z,e,l) ins (eachF (10,z,e,l) (ins.getD 0 []) []):=by
 have P:=each_pq (k:=10) (z:=z) (e:=e) (b:=[]) (p:=fun _=>[]) (q:=fun _=>[]) (vv:=fun _=>0) (ee:=fun _=>0) (by decide) (fun o n i=>by show o=_;simp) (ins.getD 0 []) 0 ([],[]) (fun _ _ _=>rfl)
 rw [zero_er] at P
 refine run_of (f:=[]) (s:=[]) P.1 (fun _=>?_) rfl fun _=>?_
 ·rw [P.2 rfl,flat_nil];simp
 ·rw [out_ofR h];rfl
theorem rr_6 (h:stChk (6,z,e,l)=0):RunOk (6,z,e,l) ins (eachF (6,z,e,l) (ins.getD 0 []) []):=by
 have hz:=chk_size h
 have P:=each_6 (z:=z) (e:=e) (b:=[]) (ins.getD 0 []) 0 ([],[])
 refine run_of (er:=0) (f:=(ins.getD 0 []).take z.toNat) (s:=[]) (by rw [P]) (fun _=>?_) rfl fun _=>?_
 ·rw [P];simp
 ·have r:runF (6,z,e,l) ins=([((ins.getD 0 []).foldl (takS z) ([],0)).1],0):=rfl
  rw [r,tak_out z _ [] 0 (by omega) hz.1,out_ofR h]
  simp
  rfl
theorem rr_9 (h:stChk (9,z,e,l)=0):RunOk (9,z,e,l) ins (eachF (9,z,e,l) (ins.getD 0 []) (ins.getD 1 [])):=by
 have P:=each_9 (z:=z) (e:=e) (a:=ins.getD 0 []) (b:=ins.getD 1 []) _ 0 [] [] rfl
 rw [Nat.sub_zero,← List.range_eq_range',List.drop_zero] at P
 refine run_of (f:=((List.range (min (ins.getD 0 []).length (ins.getD 1 []).length)).foldl (zipS e (ins.getD 0 []) (ins.getD 1 [])) ([],0)).1) (s:=[]) P.1 (fun h0=>P.2 (P.1.trans h0)) rfl fun h0=>?_
 have r:runF (9,z,e,l) ins=([((List.range (min (ins.getD 0 []).length (ins.getD 1 []).length)).foldl (zipS e (ins.getD 0 []) (ins.getD 1 [])) ([],0)).1],((List.range (min (ins.getD 0 []).length (ins.getD 1 []).length)).foldl (zipS e (ins.getD 0 []) (ins.getD 1 [])) ([],0)).2):=rfl
 rw [r,h0,out_ofR h];rfl
theorem rr_n (h:stChk (k,z,e,l)=0) (h1:k≠1) (h4:k≠4) (h8:k≠8) (h9:k≠9) (ha:∀ n∈ins.getD 0 [],inM n):RunOk (k,z,e,l) ins (eachF (k,z,e,l) (ins.getD 0 []) []):=by
 have hk:=chk_kind h
 replace hk:1≤k∧k≤10:=hk
 have:k=2∨k=3∨k=5∨k=6∨k=7∨k=10:=by omega
 rcases this with rfl | rfl | rfl | rfl | rfl | rfl
 ·exact rr_2 h ha
 ·exact rr_3 h ha
 ·exact rr_5 h
 ·exact rr_6 h
 ·exact rr_7 h ha
 ·exact rr_10 h
theorem rr_8:runF (8,z,e,l) ins=([mergeR (ins.getD 0 []) (ins.getD 1 [])],0):=by
 have r:runF (8,z,e,l) ins=([mergeN ((ins.getD 0 []).length+(ins.getD 1 []).length) (ins.getD 0 []) (ins.getD 1 [])],0):=rfl
 rw [r,merge_is _ _ _ (Nat.le_refl _)]
theorem rr_4 (h:stChk (4,z,e,l)=0):((sumsF z (ins.getD 0 [])).2≠0→(runF (4,z,e,l) ins).2=(sumsF z (ins.getD 0 [])).2)∧((sumsF z (ins.getD 0 [])).2=0→runF (4,z,e,l) ins=([(sumsF z (ins.getD 0 [])).1],0)):=by
 have hz:1≤z:=(chk_size h).2.2 rfl
 obtain ⟨w,rfl⟩ : ∃ w:Nat,z=(w:Int):=⟨z.toNat,by omega⟩
 have B:=bat_is (w:=w) (by omega) _ (ins.getD 0 []) [] (Nat.le_refl _)
 have r:runF (4,(w:Int),e,l) ins=([(batR ((ins.getD 0 []).foldl (batS (w:Int)) ([],[],0))).2.1],(batR ((ins.getD 0 []).foldl (batS (w:Int)) ([],[],0))).2.2):=rfl
 rw [r]
 refine ⟨fun h0=>B.2 h0,fun h0=>?_⟩
 rw [B.1 h0];rfl
theorem in_all {r:List Int} (h:r.any notNum=false):∀ n∈r,inM n:=fun n hn=>num_inR (by have:=List.any_eq_false.1 h n hn;simpa using this)
end
end Go.Proofs.YticmijfmgmkkcaaGreat
namespace Go.Proofs.YticmijfmgmkkcaaGreat
open Go.Sx
def c50:Ctr:=fnC [dIs,dIs] [(false,tIs)] (fun y=>y.1.length≤1000∧y.2.1.length≤1000) (fun y=>(mergeR y.1 y.2.1,()))
theorem good50:GoodC Tryz.prog 50 c50:=by
 refine goodF cx0_good 4 _ _ _ _ ⟨_,Tryz.func50,rfl,rfl⟩ fun (⟨a,b,_⟩ : List Int × List Int × Unit) hn=>?_
 have ha:a.length≤1000:=hn.1
 have hb:b.length≤1000:=hn.2
 clear hn
 have md:∀ i,i < a.length→i < b.length→mergeR (a.drop i) (b.drop i)=a.getD i 0 :: b.getD i 0 :: mergeR (a.drop (i+1)) (b.drop (i+1)):=fun i h1 h2=>by
  rw [List.drop_eq_getElem_cons h1,List.drop_eq_getElem_cons h2]
  simp [mergeR,List.getD,h1,h2]
 have mb:∀ i,¬ i < a.length→mergeR (a.drop i) (b.drop i)=b.drop i:=fun i h1=>by
  rw [List.drop_of_length_le (by omega:a.length≤i)]
  cases b.drop i <;> rfl
 have ma:∀ i,¬ i < b.length→mergeR (a.drop i) (b.drop i)=a.drop i:=fun i h1=>by
  rw [List.drop_of_length_le (by omega:b.length≤i)]
  cases a.drop i <;> rfl
 have both:∀ i:Nat,(bif decide ((i:Int) < (a.length:Int)) then decide ((i:Int) < (b.length:Int)) else false)=true→i < a.length∧i < b.length:=fun i h=>by
  cases h1:decide ((i:Int) < (a.length:Int)) with
  | false=>rw [h1] at h;cases h
  | true =>
   rw [h1] at h
   have h2:=of_decide_eq_true h1
   have h3:(i:Int) < (b.length:Int):=of_decide_eq_true h
   omega
 refine (aI (by first | kernel_rfl | rfl) ?_)
 refine ex4 _ (fun p:Nat × List Int=>⟨[.sl (.int .i64) a,.sl (.int .i64) b,.any,.any,.any,.own 0,.int .i64 (p.1:Int),.any,.any,.any,.any,.any,.any,.any,.any,.any,.any,.any,.any,.any,.any,.any,.any,.any,.any,.any,.any,.any,.any,.any,.any,.any,.any,.any,.any,.any,.any,.any,.any,.any,.any,.any,.any,.any,.any],[.rows tI p.2],1⟩) (fun p=>(p.1≤a.length∧p.1≤b.length∧p.2.length=2 * p.1)∧mergeR a b=p.2++mergeR (a.drop p.1) (b.drop p.1)) (fun p=>a.length - p.1) (aI (Exists.intro ((0,[])) (Exists.intro ([none]) (aI ?_ (aI (by rfl) (aI (by rfl) (aI (aI (by rfl) True.intro) (by rfl))))))) ?_)
 ·exact ⟨⟨Nat.zero_le _,Nat.zero_le _,rfl⟩,rfl⟩
 rintro ⟨i,o⟩ ⟨⟨h1,h2,h3⟩,ht⟩
 replace h1:i≤a.length:=h1
 replace h2:i≤b.length:=h2
 replace h3:o.length=2 * i:=h3
 replace ht:mergeR a b=o++mergeR (a.drop i) (b.drop i):=ht
 have ro:(o.length+2) * 8≤lim:=by simp only [lim];omega
 refine (fun k0=>(fun k1=>(aI (fun k2=>(aI (by first | kernel_rfl | rfl) (aI (by (intros;(try subst_vars);(try simp only [nB] at *);(try simp only [inK,big,lim,nL] at *);omega)) (aI (by (intros;(try subst_vars);(try simp only [nB] at *);(try simp only [inK,big,lim,nL] at *);omega)) (aI (by omega) (aI (by (intros;(try subst_vars);(try simp only [nB] at *);(try simp only [inK,big,lim,nL] at *);omega)) ?_)))))) (fun k2=>(fun k3=>(aI (fun k4=>(aI (by omega) (aI (by (intros;(try subst_vars);(try simp only [nB] at *);(try simp only [inK,big,lim,nL] at *);omega)) (fin_of rfl ?_)))) (fun k4=>(aI (by omega) (aI (by (intros;(try subst_vars);(try simp only [nB] at *);(try simp only [inK,big,lim,nL] at *);omega)) (fin_of rfl ?_))))))))))
 ·have hb:=both i k2
  refine Exists.intro ((i+1,o++[a.getD (i:Int).toNat (dflt tI),b.getD (i:Int).toNat (dflt tI)])) (Exists.intro ([some 2]) (aI ?_ (aI ?_ (aI (by rfl) (aI (by rfl) (aI (aI (by rfl) True.intro) (by rfl)))))))
  ·refine ⟨⟨hb.1,hb.2, ?_⟩, ?_⟩
   ·show (o++[_,_]).length=2 * (i+1)
    simp [h3];omega
   ·show mergeR a b=(o++[a.getD i 0,b.getD i 0])++mergeR (a.drop (i+1)) (b.drop (i+1))
    rw [ht,md i hb.1 hb.2];simp
  ·show a.length - (i+1) < a.length - i
   omega
 ·have h4:i < a.length:=by simpa using k4
  have h5:¬ i < b.length:=fun h=>by
   have h9:(bif decide ((i:Int) < (a.length:Int)) then decide ((i:Int) < (b.length:Int)) else false)=true:=by rw [decide_eq_true (by omega:(i:Int) < (a.length:Int)),decide_eq_true (by omega:(i:Int) < (b.length:Int))];rfl
   rw [h9] at k2;cases k2
  show (mergeR a b,())=(o++a.drop i,())
  rw [ht,ma i h5]
 ·have h4:¬ i < a.length:=by simpa using k4
  show (mergeR a b,())=(o++b.drop i,())
  rw [ht,mb i h4]
theorem in_of {x:StT} (h:stChk x=0):stIn x=(knownF x.1).1:=by rw [stIn,if_pos h]
def cxF16:Ctx:=⟨tysM,[(18,([],c18)),(20,([],c20)),(22,([],c22)),(48,([],c48)),(49,([],c49)),(50,([],c50)),(51,([],c51))]⟩
theorem cxF16_good:GoodCtx Tryz.prog cxF16:=cx_ty (cx_cons good18 (cx_cons good20 (cx_cons good22 (cx_cons good48 (cx_cons good49 (cx_cons good50 (cx_cons good51 cx0_good)))))))
def c16:Ctr:=fnC [dSt,dIss] rIssI (fun _=>True) (fun y=>((meanF y.1 y.2.1).1,(meanF y.1 y.2.1).2,()))
set_option maxHeartbeats 8000000 in
theorem good16:GoodC Tryz.prog 16 c16:=by
 refine goodF cxF16_good 5 _ _ _ _ ⟨_,Tryz.func16,rfl,rfl⟩ fun (⟨⟨k,z,⟨ek,eo,em,ev,ea⟩,l⟩,ins,_⟩ : StT × List (List Int) × Unit) _=>?_
 have so2:0≤stOut (k,z,(ExprT.mk ek eo em ev ea),l)∧stOut (k,z,(ExprT.mk ek eo em ev ea),l)≤2:=by
  rw [out_ref]
  split
  ·omega
  ·split <;> omega
 refine (aI (by first | kernel_rfl | rfl) (aI True.intro (aI (fun a0=>(fin_of rfl ?_)) (fun a0=>(fun a1=>(aI True.intro (aI (fun a2=>(fin_of rfl ?_)) (fun a2=>?_))))))))
 ·rw [MN0 a0]
 ·refine MN1' a0 ?_
  have h:=a2
  replace h:(!decide ((ins.length:Int)=stIn (k,z,(ExprT.mk ek eo em ev ea),l)))=true:=h
  rw [in_of (show stChk (k,z,(ExprT.mk ek eo em ev ea),l)=0 by simpa using a0)] at h
  exact h
 have C0:stChk (k,z,(ExprT.mk ek eo em ev ea),l)=0:=by simpa using a0
 have C1:(!decide ((ins.length:Int)=(knownF k).1))=false:=by
  have h:=a2
  replace h:(!decide ((ins.length:Int)=stIn (k,z,(ExprT.mk ek eo em ev ea),l)))=false:=h
  rw [in_of C0] at h
  exact h
 have C2:(ins.length:Int)=(knownF k).1:=by simpa using C1
 have hz:=chk_size C0
 replace hz:0≤z∧z≤200∧(k=4→1≤z):=hz
 refine ex4 _ (fun i:Nat=>⟨[.any,.sl (.sl (.int .i64)) ins,.ptr 0 0,.any,.any,.any,.any,.int .i64 (i:Int),.any,.any,.any,.any,.any,.any,.any,.any,.any,.any,.any,.any,.any,.any,.any,.any,.any,.any,.any,.any,.any,.any,.any,.any,.any,.any,.any,.any,.any,.any,.any,.any,.any,.any,.any,.any,.any,.any,.any,.any,.any,.any,.any,.any,.any,.any,.any,.any,.any,.any,.any,.any,.any,.any,.any,.any,.any,.any,.any,.any,.any,.any,.any,.any,.any,.any,.any,.any,.any,.any,.any,.any,.any,.any,.any,.any,.any,.any,.any,.any,.any,.any,.any,.any,.any,.any,.any,.any,.any,.any,.any,.any,.any,.any,.any,.any,.any,.any,.any,.any,.any,.any,.any,.any,.any,.any,.any,.any,.any],[.cells   [.int .i64 k,.int .i64 z,.int .i64 (ExprT.mk ek eo em ev ea).kind,     .int .i64 (ExprT.mk ek eo em ev ea).op,.str (ExprT.mk ek eo em ev ea).name,     .int .i64 (ExprT.mk ek eo em ev ea).value,.sl .expr (ExprT.mk ek eo em ev ea).args,     .sl (.int .i64) l]],1⟩) (fun i=>i≤ins.length∧strF ins=strF (ins.drop i)) (fun i=>ins.length - i) (aI (Exists.intro (0) (Exists.intro ([some 0]) (aI ?_ (aI (by rfl) (aI (by rfl) (aI (aI (aI (by rfl) (by rfl)) True.intro) (by rfl))))))) ?_)
 ·exact ⟨Nat.zero_le _,rfl⟩
 rintro i ⟨hi,ht⟩
 have sd:i < ins.length→strF (ins.drop i)=if streamF (ins.getD i [])≠0 then streamF (ins.getD i []) else strF (ins.drop (i+1)):=fun h=>by
  rw [strF_drop h]
  unfold streamF
  by_cases h1:longB (ins.getD i [])=true
  ·rw [if_pos (show longB (ins.getD i (dflt tIs))=true from h1),if_pos h1,if_pos (by decide)]
  ·rw [if_neg (show ¬ longB (ins.getD i (dflt tIs))=true from h1),if_neg h1]
   by_cases h2:(ins.getD i []).any notNum=true
   ·rw [if_pos (show (ins.getD i (dflt tIs)).any notNum=true from h2),if_pos h2,if_pos (by decide)]
   ·rw [if_neg (show ¬ (ins.getD i (dflt tIs)).any notNum=true from h2),if_neg h2,if_neg (by simp)]
 have sz:decide ((i:Int) < (ins.length:Int))=false→strF ins=0:=fun h=>by
  have h1:¬ i < ins.length:=by simpa using h
  rw [ht,List.drop_of_length_le (by omega)];rfl
 have sn:decide ((i:Int) < (ins.length:Int))=false→(!decide (strF ins=0))=false:=fun h=>by rw [sz h];rfl
 have st:decide ((i:Int) < (ins.length:Int))=false→∀ j,(ins.getD j []).length≤200∧(ins.getD j []).any notNum=false:=fun h j=>by
  by_cases hj:j < ins.length
  ·exact strF_get (sz h) hj
  ·rw [List.getD_eq_getElem?_getD,List.getElem?_eq_none (by omega)];exact ⟨Nat.zero_le _,rfl⟩
 have M3:decide ((i:Int) < (ins.length:Int))=false→∀ {f:Int},(runF (k,z,(ExprT.mk ek eo em ev ea),l) ins).2=f→f≠0→((meanF (k,z,(ExprT.mk ek eo em ev ea),l) ins).1,(meanF (k,z,(ExprT.mk ek eo em ev ea),l) ins).2,())=([],f,()):=fun h f h1 h2=>by
  subst h1;exact MN3' a0 C1 (sn h) (by simpa using h2)
 have M4:decide ((i:Int) < (ins.length:Int))=false→∀ {o:List (List Int)},runF (k,z,(ExprT.mk ek eo em ev ea),l) ins=(o,0)→o.any longB=true→((meanF (k,z,(ExprT.mk ek eo em ev ea),l) ins).1,(meanF (k,z,(ExprT.mk ek eo em ev ea),l) ins).2,())=([],4,()):=fun h o h1 h2=>by
  exact MN4' a0 C1 (sn h) (by rw [h1];rfl) (by rw [h1];exact h2)
 have M5:decide ((i:Int) < (ins.length:Int))=false→∀ {o:List (List Int)},runF (k,z,(ExprT.mk ek eo em ev ea),l) ins=(o,0)→o.any longB=false→((meanF (k,z,(ExprT.mk ek eo em ev ea),l) ins).1,(meanF (k,z,(ExprT.mk ek eo em ev ea),l) ins).2,())=(o,0,()):=fun h o h1 h2=>by
  refine (MN5' a0 C1 (sn h) (by rw [h1];rfl) (by rw [h1];exact h2)).trans ?_
  rw [h1]
 refine (fun m0=>(aI (fun m1=>(aI (by intros;(try subst_vars);(try simp only [nB] at *);(try simp only [inK,big,lim,nL] at *);omega) (aI True.intro (aI (fun m2=>(fin_of rfl ?_)) (fun m2=>(aI (by intros;(try subst_vars);(try simp only [nB] at *);(try simp only [inK,big,lim,nL] at *);omega) ?_)))))) (fun m1=>(aI (fun m3=>(fin_of rfl ?_)) (fun m3=>(aI (fun m4=>(aI (by first | kernel_rfl | rfl) (aI ?_ (aI ?_ (aI (fun m5=>(fin_of rfl ?_)) (fun m5=>(aI True.intro (aI ?_ ?_)))))))) (fun m4=>(aI (fun m6=>(aI (by first | kernel_rfl | rfl) (aI ?_ (aI ?_ (aI ?_ (aI (fun m7=>False.elim (Bool.false_ne_true (Eq.trans (by kernel_rfl) m7))) (fun m7=>(aI True.intro (aI ?_ ?_))))))))) (fun m6=>(aI (fun m8=>(aI (by first | kernel_rfl | rfl) (aI ?_ (aI ?_ (aI ?_ (aI (fun m9=>(fin_of rfl ?_)) (fun m9=>(aI True.intro (aI ?_ ?_))))))))) (fun m8=>(aI (by first | kernel_rfl | rfl) (aI ?_ (aI ?_ (aI (fun m10=>(fin_of rfl ?_)) (fun m10=>(aI True.intro (aI ?_ ?_))))))))))))))))))
 ·have hi':i < ins.length:=by simpa using m1
  have h2:streamF (ins.getD i [])≠0:=by have h:=m2;replace h:(!decide (streamF (ins.getD i [])=0))=true:=h;simpa using h
  have e1:strF ins=streamF (ins.getD i []):=by rw [ht,sd hi',if_pos h2]
  refine (MN2' a0 C1 (by rw [e1];simpa using h2)).trans ?_
  rw [e1];rfl
 ·have hi':i < ins.length:=by simpa using m1
  have h2:¬ streamF (ins.getD i [])≠0:=by have h:=m2;replace h:(!decide (streamF (ins.getD i [])=0))=false:=h;simpa using h
  refine Exists.intro (i+1) (Exists.intro ([some 0]) (aI ?_ (aI ?_ (aI (by rfl) (aI (by rfl) (aI (aI (aI (by rfl) (by rfl)) True.intro) (by rfl)))))))
  ·exact ⟨hi',by rw [ht,sd hi',if_neg h2]⟩
  ·show ins.length - (i+1) < ins.length - i
   omega
 ·have hk:=of_decide_eq_true m3
  subst hk
  exact M5 m1 (o:=[l]) rfl (by have:=(chk_items C0).1;replace this:l.length≤200:=this;show ([l]:List (List Int)).any longB=false;unfold longB;simp;omega)
 ·have hk:=of_decide_eq_true m4
  subst hk
  have:(ins.length:Int)=1:=C2
  exact ⟨by decide,by omega⟩
 ·have hk:=of_decide_eq_true m4
  exact ⟨⟨hz.2.2 hk,hz.2.1⟩,Nat.le_trans (st m1 0).1 (by decide),(st m1 0).2⟩
 ·have hk:=of_decide_eq_true m4
  subst hk
  have h5:(sumsF z (ins.getD 0 [])).2≠0:=by have h:=m5;replace h:(!decide ((sumsF z (ins.getD 0 [])).2=0))=true:=h;simpa using h
  exact M3 m1 ((rr_4 C0).1 h5) h5
 ·have hk:=of_decide_eq_true m4
  subst hk
  have h5:stOut (4,z,(ExprT.mk ek eo em ev ea),l)=1:=out_ofR C0
  show 0≤stOut (4,z,(ExprT.mk ek eo em ev ea),l)∧stOut (4,z,(ExprT.mk ek eo em ev ea),l)≤1
  omega
 ·have hk:=of_decide_eq_true m4
  subst hk
  have h5:(sumsF z (ins.getD 0 [])).2=0:=by have h:=m5;replace h:(!decide ((sumsF z (ins.getD 0 [])).2=0))=false:=h;simpa using h
  have hs:stOut (4,z,(ExprT.mk ek eo em ev ea),l)=1:=out_ofR C0
  have R:=(rr_4 C0).2 h5
  refine ex4 _ (fun j:Nat=>⟨[.any,.any,.any,.any,.any,.any,.any,.any,.any,.ownp 1 tIs.size 0 ((stOut (4,z,ExprT.mk ek eo em ev ea,l)).toNat),.any,.any,.any,.int .i64 (j:Int),.any,.any,.any,.any,.any,.any,.any,.any,.any,.any,.any,.any,.any,.any,.any,.any,.any,.any,.any,.any,.any,.any,.any,.any,.any,.any,.any,.any,.any,.any,.any,.any,.any,.any,.any,.any,.any,.any,.any,.any,.any,.any,.any,.any,.any,.any,.any,.any,.any,.any,.any,.any,.any,.any,.any,.any,.any,.any,.any,.any,.any,.any,.any,.any,.any,.any,.any,.any,.any,.any,.any,.any,.any,.any,.any,.any,.any,.any,.any,.any,.any,.any,.any,.any,.any,.any,.any,.any,.any,.any,.any,.any,.any,.any,.any,.any,.any,.any,.any,.any,.any,.any,.any],[.cells   [.int .i64 4,.int .i64 z,.int .i64 (ExprT.mk ek eo em ev ea).kind,     .int .i64 (ExprT.mk ek eo em ev ea).op,.str (ExprT.mk ek eo em ev ea).name,     .int .i64 (ExprT.mk ek eo em ev ea).value,.sl .expr (ExprT.mk ek eo em ev ea).args,     .sl (.int .i64) l],.rows tIs [(sumsF z (ins.getD (Int.toNat 0) (dflt (.sl (.int .i64))))).1]],2⟩) (fun j=>j≤1∧([(sumsF z (ins.getD 0 [])).1].take j).any longB=false) (fun j=>1 - j) (aI (Exists.intro (0) (Exists.intro ([some 0,some 1]) (aI ?_ (aI (by rfl) (aI (by rfl) (aI (aI (aI (by rfl) (by rfl)) (aI (by rfl) True.intro)) (by rfl))))))) ?_)
  ·exact ⟨Nat.zero_le _,rfl⟩
  rintro j ⟨hj,hl⟩
  refine (aI (fun p0=>(aI (by intros;(try subst_vars);(try simp only [nB] at *);(try simp only [inK,big,lim,nL] at *);omega) (fun p1=>(aI (fun p2=>(fin_of rfl ?_)) (fun p2=>(aI (by intros;(try subst_vars);(try simp only [nB] at *);(try simp only [inK,big,lim,nL] at *);omega) ?_)))))) (fun p0=>(fin_of rfl ?_)))
  ·have j0:j=0:=by
    have h:(j:Int) < ((stOut (4,z,(ExprT.mk ek eo em ev ea),l)).toNat:Int):=of_decide_eq_true p0
    rw [hs] at h;omega
   subst j0
   exact M4 m1 R (by show (longB ((sumsF z (ins.getD 0 [])).1) || false)=true;rw [show longB ((sumsF z (ins.getD 0 [])).1)=true from p2];rfl)
  ·have j0:j=0:=by
    have h:(j:Int) < ((stOut (4,z,(ExprT.mk ek eo em ev ea),l)).toNat:Int):=of_decide_eq_true p0
    rw [hs] at h;omega
   subst j0
   refine Exists.intro (1) (Exists.intro ([some 0,some 1]) (aI ?_ (aI ?_ (aI (by rfl) (aI (by rfl) (aI (aI (aI (by rfl) (by rfl)) (aI (by rfl) True.intro)) (by rfl)))))))
   ·refine ⟨Nat.le_refl 1, ?_⟩
    show (longB ((sumsF z (ins.getD 0 [])).1) || false)=false
    rw [show longB ((sumsF z (ins.getD 0 [])).1)=false from p2];rfl
   ·show 1 - 1 < 1 - 0
    decide
  ·have j1:j=1:=by
    have h:¬ (j:Int) < ((stOut (4,z,(ExprT.mk ek eo em ev ea),l)).toNat:Int):=of_decide_eq_false p0
    rw [hs] at h;omega
   subst j1
   refine (M5 m1 R hl).trans ?_
   show _=([(sumsF z (ins.getD 0 [])).1].take (stOut (4,z,(ExprT.mk ek eo em ev ea),l)).toNat,(0:Int),())
   rw [hs];rfl
 ·have hk:=of_decide_eq_true m6
  subst hk
  have:(ins.length:Int)=2:=C2
  exact ⟨by decide,by omega⟩
 ·have hk:=of_decide_eq_true m6
  subst hk
  have:(ins.length:Int)=2:=C2
  exact ⟨by decide,by omega⟩
 ·exact ⟨Nat.le_trans (st m1 0).1 (by decide),Nat.le_trans (st m1 1).1 (by decide)⟩
 ·have hk:=of_decide_eq_true m6
  subst hk
  have h5:stOut (8,z,(ExprT.mk ek eo em ev ea),l)=1:=out_ofR C0
  show 0≤stOut (8,z,(ExprT.mk ek eo em ev ea),l)∧stOut (8,z,(ExprT.mk ek eo em ev ea),l)≤1
  omega
 ·have hk:=of_decide_eq_true m6
  subst hk
  have hs:stOut (8,z,(ExprT.mk ek eo em ev ea),l)=1:=out_ofR C0
  have R:=rr_8 (z:=z) (e:=(ExprT.mk ek eo em ev ea)) (l:=l) (ins:=ins)
  refine ex4 _ (fun j:Nat=>⟨[.any,.any,.any,.any,.any,.any,.any,.any,.any,.ownp 1 tIs.size 0 ((stOut (8,z,ExprT.mk ek eo em ev ea,l)).toNat),.any,.any,.any,.int .i64 (j:Int),.any,.any,.any,.any,.any,.any,.any,.any,.any,.any,.any,.any,.any,.any,.any,.any,.any,.any,.any,.any,.any,.any,.any,.any,.any,.any,.any,.any,.any,.any,.any,.any,.any,.any,.any,.any,.any,.any,.any,.any,.any,.any,.any,.any,.any,.any,.any,.any,.any,.any,.any,.any,.any,.any,.any,.any,.any,.any,.any,.any,.any,.any,.any,.any,.any,.any,.any,.any,.any,.any,.any,.any,.any,.any,.any,.any,.any,.any,.any,.any,.any,.any,.any,.any,.any,.any,.any,.any,.any,.any,.any,.any,.any,.any,.any,.any,.any,.any,.any,.any,.any,.any,.any],[.cells   [.int .i64 8,.int .i64 z,.int .i64 (ExprT.mk ek eo em ev ea).kind,     .int .i64 (ExprT.mk ek eo em ev ea).op,.str (ExprT.mk ek eo em ev ea).name,     .int .i64 (ExprT.mk ek eo em ev ea).value,.sl .expr (ExprT.mk ek eo em ev ea).args,     .sl (.int .i64) l],.rows tIs   [mergeR (ins.getD (Int.toNat 0) (dflt (.sl (.int .i64))))       (ins.getD (Int.toNat 1) (dflt (.sl (.int .i64))))]],2⟩) (fun j=>j≤1∧([mergeR (ins.getD 0 []) (ins.getD 1 [])].take j).any longB=false) (fun j=>1 - j) (aI (Exists.intro (0) (Exists.intro ([some 0,some 1]) (aI ?_ (aI (by rfl) (aI (by rfl) (aI (aI (aI (by rfl) (by rfl)) (aI (by rfl) True.intro)) (by rfl))))))) ?_)
  ·exact ⟨Nat.zero_le _,rfl⟩
  rintro j ⟨hj,hl⟩
  refine (aI (fun q0=>(aI (by intros;(try subst_vars);(try simp only [nB] at *);(try simp only [inK,big,lim,nL] at *);omega) (fun q1=>(aI (fun q2=>(fin_of rfl ?_)) (fun q2=>(aI (by intros;(try subst_vars);(try simp only [nB] at *);(try simp only [inK,big,lim,nL] at *);omega) ?_)))))) (fun q0=>(fin_of rfl ?_)))
  ·have j0:j=0:=by
    have h:(j:Int) < ((stOut (8,z,(ExprT.mk ek eo em ev ea),l)).toNat:Int):=of_decide_eq_true q0
    rw [hs] at h;omega
   subst j0
   exact M4 m1 R (by show (longB (mergeR (ins.getD 0 []) (ins.getD 1 [])) || false)=true;rw [show longB (mergeR (ins.getD 0 []) (ins.getD 1 []))=true from q2];rfl)
  ·have j0:j=0:=by
    have h:(j:Int) < ((stOut (8,z,(ExprT.mk ek eo em ev ea),l)).toNat:Int):=of_decide_eq_true q0
    rw [hs] at h;omega
   subst j0
   refine Exists.intro (1) (Exists.intro ([some 0,some 1]) (aI ?_ (aI ?_ (aI (by rfl) (aI (by rfl) (aI (aI (aI (by rfl) (by rfl)) (aI (by rfl) True.intro)) (by rfl)))))))
   ·refine ⟨Nat.le_refl 1, ?_⟩
    show (longB (mergeR (ins.getD 0 []) (ins.getD 1 [])) || false)=false
    rw [show longB (mergeR (ins.getD 0 []) (ins.getD 1 []))=false from q2];rfl
   ·show 1 - 1 < 1 - 0
    decide
  ·have j1:j=1:=by
    have h:¬ (j:Int) < ((stOut (8,z,(ExprT.mk ek eo em ev ea),l)).toNat:Int):=of_decide_eq_false q0
    rw [hs] at h;omega
   subst j1
   refine (M5 m1 R hl).trans ?_
   show _=([mergeR (ins.getD 0 []) (ins.getD 1 [])].take (stOut (8,z,(ExprT.mk ek eo em ev ea),l)).toNat,(0:Int),())
   rw [hs];rfl
 ·have hk:=of_decide_eq_true m8
  subst hk
  have:(ins.length:Int)=2:=C2
  exact ⟨by decide,by omega⟩
 ·have hk:=of_decide_eq_true m8
  subst hk
  have:(ins.length:Int)=2:=C2
  exact ⟨by decide,by omega⟩
 ·have hk:=of_decide_eq_true m8
  subst hk
  exact ⟨⟨⟨hz.1,hz.2.1⟩,Nat.le_trans (st m1 0).1 (by decide)⟩,.inr (.inr (.inr (.inr (.inr (.inl rfl)))))⟩
 ·have hk:=of_decide_eq_true m8
  subst hk
  have h5:(eachF (9,z,(ExprT.mk ek eo em ev ea),l) (ins.getD 0 []) (ins.getD 1 [])).2≠0:=by have h:=m9;replace h:(!decide ((eachF (9,z,(ExprT.mk ek eo em ev ea),l) (ins.getD 0 []) (ins.getD 1 [])).2=0))=true:=h;simpa using h
  exact M3 m1 ((rr_9 C0).1 h5) h5
 ·have hk:=of_decide_eq_true m8
  subst hk
  have h5:(eachF (9,z,(ExprT.mk ek eo em ev ea),l) (ins.getD 0 []) (ins.getD 1 [])).2=0:=by have h:=m9;replace h:(!decide ((eachF (9,z,(ExprT.mk ek eo em ev ea),l) (ins.getD 0 []) (ins.getD 1 [])).2=0))=false:=h;simpa using h
  show 0≤stOut (9,z,(ExprT.mk ek eo em ev ea),l)∧stOut (9,z,(ExprT.mk ek eo em ev ea),l)≤((eachF (9,z,(ExprT.mk ek eo em ev ea),l) (ins.getD 0 []) (ins.getD 1 [])).1.length:Int)
  rw [((rr_9 C0).2 h5).1]
  exact so2
 ·have hk:=of_decide_eq_true m8
  subst hk
  have h5:(eachF (9,z,(ExprT.mk ek eo em ev ea),l) (ins.getD 0 []) (ins.getD 1 [])).2=0:=by have h:=m9;replace h:(!decide ((eachF (9,z,(ExprT.mk ek eo em ev ea),l) (ins.getD 0 []) (ins.getD 1 [])).2=0))=false:=h;simpa using h
  have R:=((rr_9 C0).2 h5).2
  have hlen:=((rr_9 C0).2 h5).1
  refine ex4 _ (fun j:Nat=>⟨[.any,.any,.any,.any,.any,.any,.any,.any,.any,.sl (.sl (.int .i64))   (List.take     (stOut         (9,z,           ExprT.mk (ExprT.mk ek eo em ev ea).kind (ExprT.mk ek eo em ev ea).op (ExprT.mk ek eo em ev ea).name             (ExprT.mk ek eo em ev ea).value (ExprT.mk ek eo em ev ea).args,           l)).toNat     (eachF         (9,z,           ExprT.mk (ExprT.mk ek eo em ev ea).kind (ExprT.mk ek eo em ev ea).op (ExprT.mk ek eo em ev ea).name             (ExprT.mk ek eo em ev ea).value (ExprT.mk ek eo em ev ea).args,           l)         (ins.getD (Int.toNat 0) (dflt (.sl (.int .i64))))         (ins.getD (Int.toNat 1) (dflt (.sl (.int .i64))))).1),.any,.any,.any,.int .i64 (j:Int),.any,.any,.any,.any,.any,.any,.any,.any,.any,.any,.any,.any,.any,.any,.any,.any,.any,.any,.any,.any,.any,.any,.any,.any,.any,.any,.any,.any,.any,.any,.any,.any,.any,.any,.any,.any,.any,.any,.any,.any,.any,.any,.any,.any,.any,.any,.any,.any,.any,.any,.any,.any,.any,.any,.any,.any,.any,.any,.any,.any,.any,.any,.any,.any,.any,.any,.any,.any,.any,.any,.any,.any,.any,.any,.any,.any,.any,.any,.any,.any,.any,.any,.any,.any,.any,.any,.any,.any,.any,.any,.any,.any,.any,.any,.any,.any,.any,.any,.any,.any,.any,.any,.any],[.cells   [.int .i64 9,.int .i64 z,.int .i64 (ExprT.mk ek eo em ev ea).kind,     .int .i64 (ExprT.mk ek eo em ev ea).op,.str (ExprT.mk ek eo em ev ea).name,     .int .i64 (ExprT.mk ek eo em ev ea).value,.sl .expr (ExprT.mk ek eo em ev ea).args,     .sl (.int .i64) l]],1⟩) (fun j=>j≤((eachF (9,z,ExprT.mk ek eo em ev ea,l) (ins.getD 0 []) (ins.getD 1 [])).1.take (stOut (9,z,ExprT.mk ek eo em ev ea,l)).toNat).length∧(((eachF (9,z,ExprT.mk ek eo em ev ea,l) (ins.getD 0 []) (ins.getD 1 [])).1.take (stOut (9,z,ExprT.mk ek eo em ev ea,l)).toNat).take j).any longB=false) (fun j=>((eachF (9,z,ExprT.mk ek eo em ev ea,l) (ins.getD 0 []) (ins.getD 1 [])).1.take (stOut (9,z,ExprT.mk ek eo em ev ea,l)).toNat).length - j) (aI (Exists.intro (0) (Exists.intro ([some 0]) (aI ?_ (aI (by rfl) (aI (by rfl) (aI (aI (aI (by rfl) (by rfl)) True.intro) (by rfl))))))) ?_)
  ·exact ⟨Nat.zero_le _,rfl⟩
  rintro j ⟨hj,hl⟩
  refine (fun r0=>(aI (fun r1=>(aI (by intros;(try subst_vars);(try simp only [nB] at *);(try simp only [inK,big,lim,nL] at *);omega) (fun r2=>(aI (fun r3=>(fin_of rfl ?_)) (fun r3=>(aI (by intros;(try subst_vars);(try simp only [nB] at *);(try simp only [inK,big,lim,nL] at *);omega) ?_)))))) (fun r1=>(fin_of rfl ?_))))
  ·have hj':j < ((eachF (9,z,(ExprT.mk ek eo em ev ea),l) (ins.getD 0 []) (ins.getD 1 [])).1.take (stOut (9,z,(ExprT.mk ek eo em ev ea),l)).toNat).length:=by simpa using r1
   exact M4 m1 R (any_hit (d:=dflt tIs) hj' r3)
  ·have hj':j < ((eachF (9,z,(ExprT.mk ek eo em ev ea),l) (ins.getD 0 []) (ins.getD 1 [])).1.take (stOut (9,z,(ExprT.mk ek eo em ev ea),l)).toNat).length:=by simpa using r1
   refine Exists.intro (j+1) (Exists.intro ([some 0]) (aI ?_ (aI ?_ (aI (by rfl) (aI (by rfl) (aI (aI (aI (by rfl) (by rfl)) True.intro) (by rfl)))))))
   ·exact ⟨hj',any_next (d:=dflt tIs) hj' hl r3⟩
   ·show ((eachF (9,z,(ExprT.mk ek eo em ev ea),l) (ins.getD 0 []) (ins.getD 1 [])).1.take (stOut (9,z,(ExprT.mk ek eo em ev ea),l)).toNat).length - (j+1) < ((eachF (9,z,(ExprT.mk ek eo em ev ea),l) (ins.getD 0 []) (ins.getD 1 [])).1.take (stOut (9,z,(ExprT.mk ek eo em ev ea),l)).toNat).length - j
    omega
  ·have hj':¬ j < ((eachF (9,z,(ExprT.mk ek eo em ev ea),l) (ins.getD 0 []) (ins.getD 1 [])).1.take (stOut (9,z,(ExprT.mk ek eo em ev ea),l)).toNat).length:=by simpa using r1
   exact M5 m1 R (any_end hj' hl)
 all_goals have N9:=rr_n (ins:=ins) C0 (of_decide_eq_false m3) (of_decide_eq_false m4) (of_decide_eq_false m6) (of_decide_eq_false m8) (in_all (st m1 0).2)
 all_goals have hk:=chk_kind C0
 all_goals replace hk:1≤k∧k≤10:=hk
 ·have h1:k≠1:=of_decide_eq_false m3
  have h4:k≠4:=of_decide_eq_false m4
  have h8:k≠8:=of_decide_eq_false m6
  have h9:k≠9:=of_decide_eq_false m8
  have:(ins.length:Int)=1:=by
   have hh:k=2∨k=3∨k=5∨k=6∨k=7∨k=10:=by omega
   rcases hh with rfl | rfl | rfl | rfl | rfl | rfl <;> exact C2
  exact ⟨by decide,by omega⟩
 ·have h1:k≠1:=of_decide_eq_false m3
  have h4:k≠4:=of_decide_eq_false m4
  have h8:k≠8:=of_decide_eq_false m6
  have h9:k≠9:=of_decide_eq_false m8
  refine ⟨⟨⟨hz.1,hz.2.1⟩,Nat.le_trans (st m1 0).1 (by decide)⟩, ?_⟩
  show k=2∨k=3∨k=5∨k=6∨k=7∨k=9∨k=10
  omega
 ·have h5:(eachF (k,z,(ExprT.mk ek eo em ev ea),l) (ins.getD 0 []) []).2≠0:=by have h:=m10;replace h:(!decide ((eachF (k,z,(ExprT.mk ek eo em ev ea),l) (ins.getD 0 []) []).2=0))=true:=h;simpa using h
  exact M3 m1 (N9.1 h5) h5
 ·have h5:(eachF (k,z,(ExprT.mk ek eo em ev ea),l) (ins.getD 0 []) []).2=0:=by have h:=m10;replace h:(!decide ((eachF (k,z,(ExprT.mk ek eo em ev ea),l) (ins.getD 0 []) []).2=0))=false:=h;simpa using h
  show 0≤stOut (k,z,(ExprT.mk ek eo em ev ea),l)∧stOut (k,z,(ExprT.mk ek eo em ev ea),l)≤((eachF (k,z,(ExprT.mk ek eo em ev ea),l) (ins.getD 0 []) []).1.length:Int)
  rw [(N9.2 h5).1]
  exact so2
 ·have h5:(eachF (k,z,(ExprT.mk ek eo em ev ea),l) (ins.getD 0 []) []).2=0:=by have h:=m10;replace h:(!decide ((eachF (k,z,(ExprT.mk ek eo em ev ea),l) (ins.getD 0 []) []).2=0))=false:=h;simpa using h
  have R:=(N9.2 h5).2
  refine ex4 _ (fun j:Nat=>⟨[.any,.any,.any,.any,.any,.any,.any,.any,.any,.sl (.sl (.int .i64))   (List.take     (stOut         (k,z,           ExprT.mk (ExprT.mk ek eo em ev ea).kind (ExprT.mk ek eo em ev ea).op (ExprT.mk ek eo em ev ea).name             (ExprT.mk ek eo em ev ea).value (ExprT.mk ek eo em ev ea).args,           l)).toNat     (eachF         (k,z,           ExprT.mk (ExprT.mk ek eo em ev ea).kind (ExprT.mk ek eo em ev ea).op (ExprT.mk ek eo em ev ea).name             (ExprT.mk ek eo em ev ea).value (ExprT.mk ek eo em ev ea).args,           l)         (ins.getD (Int.toNat 0) (dflt (.sl (.int .i64)))) []).1),.any,.any,.any,.int .i64 (j:Int),.any,.any,.any,.any,.any,.any,.any,.any,.any,.any,.any,.any,.any,.any,.any,.any,.any,.any,.any,.any,.any,.any,.any,.any,.any,.any,.any,.any,.any,.any,.any,.any,.any,.any,.any,.any,.any,.any,.any,.any,.any,.any,.any,.any,.any,.any,.any,.any,.any,.any,.any,.any,.any,.any,.any,.any,.any,.any,.any,.any,.any,.any,.any,.any,.any,.any,.any,.any,.any,.any,.any,.any,.any,.any,.any,.any,.any,.any,.any,.any,.any,.any,.any,.any,.any,.any,.any,.any,.any,.any,.any,.any,.any,.any,.any,.any,.any,.any,.any,.any,.any,.any,.any],[.cells   [.int .i64 k,.int .i64 z,.int .i64 (ExprT.mk ek eo em ev ea).kind,     .int .i64 (ExprT.mk ek eo em ev ea).op,.str (ExprT.mk ek eo em ev ea).name,     .int .i64 (ExprT.mk ek eo em ev ea).value,.sl .expr (ExprT.mk ek eo em ev ea).args,     .sl (.int .i64) l]],1⟩) (fun j=>j≤((eachF (k,z,ExprT.mk ek eo em ev ea,l) (ins.getD 0 []) []).1.take (stOut (k,z,ExprT.mk ek eo em ev ea,l)).toNat).length∧(((eachF (k,z,ExprT.mk ek eo em ev ea,l) (ins.getD 0 []) []).1.take (stOut (k,z,ExprT.mk ek eo em ev ea,l)).toNat).take j).any longB=false) (fun j=>((eachF (k,z,ExprT.mk ek eo em ev ea,l) (ins.getD 0 []) []).1.take (stOut (k,z,ExprT.mk ek eo em ev ea,l)).toNat).length - j) (aI (Exists.intro (0) (Exists.intro ([some 0]) (aI ?_ (aI (by rfl) (aI (by rfl) (aI (aI (aI (by rfl) (by rfl)) True.intro) (by rfl))))))) ?_)
  ·exact ⟨Nat.zero_le _,rfl⟩
  rintro j ⟨hj,hl⟩
  refine (fun s0=>(aI (fun s1=>(aI (by intros;(try subst_vars);(try simp only [nB] at *);(try simp only [inK,big,lim,nL] at *);omega) (fun s2=>(aI (fun s3=>(fin_of rfl ?_)) (fun s3=>(aI (by intros;(try subst_vars);(try simp only [nB] at *);(try simp only [inK,big,lim,nL] at *);omega) ?_)))))) (fun s1=>(fin_of rfl ?_))))
  ·have hj':j < ((eachF (k,z,(ExprT.mk ek eo em ev ea),l) (ins.getD 0 []) []).1.take (stOut (k,z,(ExprT.mk ek eo em ev ea),l)).toNat).length:=by simpa using s1
   exact M4 m1 R (any_hit (d:=dflt tIs) hj' s3)
  ·have hj':j < ((eachF (k,z,(ExprT.mk ek eo em ev ea),l) (ins.getD 0 []) []).1.take (stOut (k,z,(ExprT.mk ek eo em ev ea),l)).toNat).length:=by simpa using s1
   refine Exists.intro (j+1) (Exists.intro ([some 0]) (aI ?_ (aI ?_ (aI (by rfl) (aI (by rfl) (aI (aI (aI (by rfl) (by rfl)) True.intro) (by rfl)))))))
   ·exact ⟨hj',any_next (d:=dflt tIs) hj' hl s3⟩
   ·show ((eachF (k,z,(ExprT.mk ek eo em ev ea),l) (ins.getD 0 []) []).1.take (stOut (k,z,(ExprT.mk ek eo em ev ea),l)).toNat).length - (j+1) < ((eachF (k,z,(ExprT.mk ek eo em ev ea),l) (ins.getD 0 []) []).1.take (stOut (k,z,(ExprT.mk ek eo em ev ea),l)).toNat).length - j
    omega
  ·have hj':¬ j < ((eachF (k,z,(ExprT.mk ek eo em ev ea),l) (ins.getD 0 []) []).1.take (stOut (k,z,(ExprT.mk ek eo em ev ea),l)).toNat).length:=by simpa using s1
   exact M5 m1 R (any_end hj' hl)
end Go.Proofs.YticmijfmgmkkcaaGreat
namespace Go.Proofs.YticmijfmgmkkcaaGreat
open Go.Sx
def cxF5:Ctx:=⟨tysO,[(11,([],c11)),(12,([],c12)),(13,([],c13)),(16,([],c16)),(17,([],c17)),(18,([],c18)),(19,([],c19)),(20,([],c20)),(21,([],c21)),(22,([],c22)),(14,([],c14))]⟩
theorem cxF5_good:GoodCtx Tryz.prog cxF5:=cx_ty (cx_cons good11 (cx_cons good12 (cx_cons good13 (cx_cons good16 (cx_cons good17 (cx_cons good18 (cx_cons good19 (cx_cons good20 (cx_cons good21 (cx_cons good22 (cx_cons good14 cx0_good)))))))))))
set_option maxHeartbeats 8000000 in
theorem law5:LawOk Tryz.prog 5 [tSt,tIss] [true,false]:=by
 refine ⟨cxF5,3,cxF5_good,fun (⟨⟨k,z,⟨ek,eo,em,ev,ea⟩,l⟩,ins,_⟩ : StT × List (List Int) × Unit) _=>?_⟩
 refine (aI (by first | kernel_rfl | rfl) (aI True.intro (aI (fun h0=>(aI True.intro (fin_of rfl ?_))) (fun h0=>(aI True.intro (fun (h1:List (List Int) × Int × PUnit)=>(fun h2=>(aI True.intro (fun (h3:List (List Int) × Int × PUnit)=>(fun h4=>(aI (by first | kernel_rfl | rfl) (aI True.intro (aI True.intro (aI (fun h5=>True.intro) (aI (fun h6=>True.intro) (aI (fun h7=>True.intro) (aI (fun h8=>True.intro) (aI (fun h9=>True.intro) (aI (fun h10=>True.intro) (fin_of rfl ?_))))))))))))))))))))
 ·rfl
 ·have e:h1=h3:=h2.trans h4.symm
  subst e
  simp
end Go.Proofs.YticmijfmgmkkcaaGreat
