import Derived.Test.YticmijfmgmkkcaaGreatVFb
import Derived.Test.YticmijfmgmkkcaaGreatVZa9
set_option linter.unusedSimpArgs false
set_option linter.unusedVariables false
set_option maxRecDepth 100000
namespace Go.Proofs.YticmijfmgmkkcaaGreat
open Go.Sx
section
variable {z:Int} {e:ExprT} {l:List Int} {s:SST} {j n:Int} {er:Int} {o:List (List Int)}
def OneOk (x:StT) (s:SST) (j n:Int) (o:List (List Int)) (er:Int):Prop:=(runT x s j n).2.2=er∧(er=0→o.length=2∧runT x s j n=(s,[o.getD 0 [],o.getD 1 []].take (stOut x).toNat,0))
theorem out_of {x:StT} (h:stChk x=0):stOut x=(knownF x.1).2.1:=by rw [stOut,if_pos h]
theorem each_1 {k:Int} {b:List Int} (hk:¬ (k=9∧b.length≤0)):eachF (k,z,e,l) [n] b=if (eachV k e b n 0).2≠0 then ([],(eachV k e b n 0).2) else ([(eachO k z ([],[]) n 0 (eachV k e b n 0).1).1,(eachO k z ([],[]) n 0 (eachV k e b n 0).1).2],0):=by
 have e1:eachL k z e b [n] 0 ([],[])=if (eachV k e b n 0).2≠0 then (([],[]),(eachV k e b n 0).2) else (eachO k z ([],[]) n 0 (eachV k e b n 0).1,0):=by
  rw [eachL,if_neg hk];rfl
 have e2:eachL (k,z,e,l).1 (k,z,e,l).2.1 (k,z,e,l).2.2.1 b [n] 0 ([],[])=_:=e1
 unfold eachF
 by_cases h0:(eachV k e b n 0).2≠0
 ·rw [if_pos h0] at e2
  rw [e2,if_pos h0,if_pos h0]
 ·rw [if_neg h0] at e2
  rw [e2,if_neg h0,if_neg (by simp)]
theorem one_of {k:Int} (h9:k≠9) (hr:(runT (k,z,e,l) s j n).2.2=(eachV k e [] n 0).2) (ho:(eachV k e [] n 0).2=0→runT (k,z,e,l) s j n=(s,[(eachO k z ([],[]) n 0 (eachV k e [] n 0).1).1,(eachO k z ([],[]) n 0 (eachV k e [] n 0).1).2].take (stOut (k,z,e,l)).toNat,0)) :
 OneOk (k,z,e,l) s j n (eachF (k,z,e,l) [n] []).1 (eachF (k,z,e,l) [n] []).2:=by
 rw [each_1 (fun h=>h9 h.1)]
 unfold OneOk
 by_cases h0:(eachV k e [] n 0).2≠0
 ·rw [if_pos h0];exact ⟨hr,fun h9=>absurd h9 h0⟩
 ·rw [if_neg h0]
  have h0':(eachV k e [] n 0).2=0:=by simpa using h0
  exact ⟨hr.trans h0',fun _=>⟨rfl,ho h0'⟩⟩
theorem one_2 (h:stChk (2,z,e,l)=0) (hn:inM n):OneOk (2,z,e,l) s j n (eachF (2,z,e,l) [n] []).1 (eachF (2,z,e,l) [n] []).2:=by
 have he:evX e nmX n 0=exEval e (bindF nmXY [n,0]):=ev_ref h (.inl rfl) hn
 have r:runT (2,z,e,l) s j n=(s,[[(evX e nmX n 0).1]],(evX e nmX n 0).2):=rfl
 refine one_of (by decide) ?_ fun h0=>?_
 ·rw [r,he];rfl
 ·rw [r,he,out_of h,show (exEval e (bindF nmXY [n,0])).2=0 from h0];rfl
theorem one_3 (h:stChk (3,z,e,l)=0) (hn:inM n):OneOk (3,z,e,l) s j n (eachF (3,z,e,l) [n] []).1 (eachF (3,z,e,l) [n] []).2:=by
 have he:evX e nmX n 0=exEval e (bindF nmXY [n,0]):=ev_ref h (.inr (.inl rfl)) hn
 have r:runT (3,z,e,l) s j n=(s,[if decide ((evX e nmX n 0).1=1)=true then [n] else []],(evX e nmX n 0).2):=rfl
 refine one_of (by decide) ?_ fun h0=>?_
 ·rw [r,he];rfl
 ·rw [r,he,out_of h,show (exEval e (bindF nmXY [n,0])).2=0 from h0]
  have hv:(eachV 3 e [] n 0).1=(exEval e (bindF nmXY [n,0])).1:=rfl
  rw [hv]
  by_cases h1:(exEval e (bindF nmXY [n,0])).1=1
  ·rw [eo3t h1,decide_eq_true h1];rfl
  ·rw [eo3f h1,decide_eq_false h1];rfl
theorem one_7 (h:stChk (7,z,e,l)=0) (hn:inM n):OneOk (7,z,e,l) s j n (eachF (7,z,e,l) [n] []).1 (eachF (7,z,e,l) [n] []).2:=by
 have he:evX e nmX n 0=exEval e (bindF nmXY [n,0]):=ev_ref h (.inr (.inr rfl)) hn
 have r:runT (7,z,e,l) s j n=(s,[if decide ((evX e nmX n 0).1=1)=true then [n] else [],if decide ((evX e nmX n 0).1=1)=true then [] else [n]],(evX e nmX n 0).2):=rfl
 refine one_of (by decide) ?_ fun h0=>?_
 ·rw [r,he];rfl
 ·rw [r,he,out_of h,show (exEval e (bindF nmXY [n,0])).2=0 from h0]
  have hv:(eachV 7 e [] n 0).1=(exEval e (bindF nmXY [n,0])).1:=rfl
  rw [hv]
  by_cases h1:(exEval e (bindF nmXY [n,0])).1=1
  ·rw [eo7t h1,decide_eq_true h1];rfl
  ·rw [eo7f h1,decide_eq_false h1];rfl
theorem one_5 (h:stChk (5,z,e,l)=0):OneOk (5,z,e,l) s j n (eachF (5,z,e,l) [n] []).1 (eachF (5,z,e,l) [n] []).2:=by
 refine one_of (by decide) rfl fun _=>?_
 rw [out_of h];rfl
theorem one_10 (h:stChk (10,z,e,l)=0):OneOk (10,z,e,l) s j n (eachF (10,z,e,l) [n] []).1 (eachF (10,z,e,l) [n] []).2:=by
 refine one_of (by decide) rfl fun _=>?_
 rw [out_of h];rfl
theorem one_ok {k:Int} (h:stChk (k,z,e,l)=0) (hn:inM n) (hk:k=2∨k=3∨k=5∨k=7∨k=10):OneOk (k,z,e,l) s j n (eachF (k,z,e,l) [n] []).1 (eachF (k,z,e,l) [n] []).2:=by
 rcases hk with rfl | rfl | rfl | rfl | rfl
 ·exact one_2 h hn
 ·exact one_3 h hn
 ·exact one_5 h
 ·exact one_7 h hn
 ·exact one_10 h
theorem one_9 {hd:List Int} {c:Int} {b:Bool} (h:stChk (9,z,e,l)=0) (h1:hd.length=1):(runT (9,z,e,l) (hd,c,b) 1 n).2.2=(eachF (9,z,e,l) hd [n]).2∧((eachF (9,z,e,l) hd [n]).2=0→(eachF (9,z,e,l) hd [n]).1.length=2∧runT (9,z,e,l) (hd,c,b) 1 n=(([],c,b),[(eachF (9,z,e,l) hd [n]).1.getD 0 [],[]].take (stOut (9,z,e,l)).toNat,0)):=by
 obtain ⟨a,rfl⟩:=List.length_eq_one_iff.1 h1
 have r:runT (9,z,e,l) ([a],c,b) 1 n=(([],c,b),[[(evX e nmXY a n).1]],(evX e nmXY a n).2):=rfl
 have hv:eachV 9 e [n] a 0=evX e nmXY a n:=rfl
 rw [each_1 (by simp),hv,r]
 by_cases h0:(evX e nmXY a n).2≠0
 ·rw [if_pos h0];exact ⟨rfl,fun h9=>absurd h9 h0⟩
 ·rw [if_neg h0]
  have h0':(evX e nmXY a n).2=0:=by simpa using h0
  refine ⟨h0',fun _=>⟨rfl, ?_⟩⟩
  rw [out_of h,h0'];rfl
end
end Go.Proofs.YticmijfmgmkkcaaGreat
namespace Go.Proofs.YticmijfmgmkkcaaGreat
open Go.Sx
theorem need_one {x:StT} {s:SST} (h:(needF x s).2=0):(s.2.2=true∨x.1=1→(needF x s).1=[])∧(s.2.2=false→x.1≠1→∃ i,(needF x s).1=[i]∧(x.1=9→i=0∨i=1)):=by
 obtain ⟨h0,hv⟩:=need_zero.1 h
 have n0:(!decide (stChk x=0))=false:=by rw [h0];rfl
 have n1:(!validF x s)=false:=by rw [hv];rfl
 cases h2:(bif s.2.2 then true else decide (x.1=1)) with
 | true =>
  rw [ND2 n0 n1 h2]
  refine ⟨fun _=>rfl,fun h3 h4=>?_⟩
  rw [h3,decide_eq_false h4] at h2;cases h2
 | false =>
  refine ⟨fun h3=>?_,fun _ _=>?_⟩
  ·rcases h3 with h3 | h3
   ·rw [h3] at h2;cases h2
   ·rw [decide_eq_true h3] at h2;cases hs:s.2.2 <;> rw [hs] at h2 <;> cases h2
  ·cases h3:(bif decide (x.1=8) then endF x s s.2.1 else false) with
   | true =>
    rw [ND3 n0 n1 h2 h3]
    refine ⟨_,rfl,fun h9=>?_⟩
    rw [decide_eq_false (show ¬ x.1=8 by omega)] at h3;cases h3
   | false =>
    cases h4:decide (x.1=8) with
    | true =>
     rw [ND4 n0 n1 h2 h3 h4]
     refine ⟨_,rfl,fun h9=>?_⟩
     have:=of_decide_eq_true h4
     omega
    | false =>
     cases h5:(bif decide (x.1=9) then (bif endF x s 0 then true else decide (0 < (s.1.length:Int))) else false) with
     | true=>rw [ND5 n0 n1 h2 h3 h4 h5];exact ⟨_,rfl,fun _=>.inr rfl⟩
     | false=>rw [ND6 n0 n1 h2 h3 h4 h5];exact ⟨_,rfl,fun _=>.inl rfl⟩
def tkR (x:StT) (s:SST) (nd:List Int) (j:Int):Bool:=bif bif s.2.2 then true else bif decide (x.1=1) then bif !decide (j=-1) then true else decide (s.2.1=(x.2.2.2.length:Int)) else false then true else bif !decide (x.1=1) then !decide (nd.getD 0 0=j) else false
theorem tkR_is {x:StT} {s:SST} {j:Int} (h:(needF x s).2=0):tkR x s (needF x s).1 j=tk1 x s (needF x s).1 j:=by
 unfold tkR tk1
 cases hb:s.2.2 with
 | true=>rfl
 | false =>
  by_cases hk:x.1=1
  ·rw [decide_eq_true hk];rfl
  ·obtain ⟨i,hi,-⟩:=(need_one h).2 hb hk
   rw [hi,decide_eq_false hk]
   show (!decide (i=j))=!(isI j i || false)
   unfold isI
   rw [Bool.or_false,show decide (i=j)=decide (j=i) by rw [decide_eq_decide];exact ⟨Eq.symm,Eq.symm⟩]
structure TkGo (x:StT) (s:SST) (j n:Int):Prop where
 ok:stChk x=0
 val:validF x s=true
 t1:tk1 x s (needF x s).1 j=false
 t2:tk2 x n=false
theorem TkGo.need {x:StT} {s:SST} {j n:Int} (g:TkGo x s j n):(needF x s).2=0:=need_zero.2 ⟨g.ok,g.val⟩
theorem TkGo.good {x:StT} {s:SST} {j n:Int} (g:TkGo x s j n) {t:SST} {o:List (List Int)} (hr:runT x s j n=(t,o,0)):takeF x s j n=(t,o,0):=by
 rw [takeF,if_neg (by rw [g.need];simp),if_neg (by rw [g.t1];simp),if_neg (by rw [g.t2];simp),hr,if_neg (by simp)]
theorem TkGo.bad {x:StT} {s:SST} {j n:Int} (g:TkGo x s j n) {e:Int} (hr:(runT x s j n).2.2=e) (he:e≠0):takeF x s j n=(zeroS,[],e):=by
 rw [takeF,if_neg (by rw [g.need];simp),if_neg (by rw [g.t1];simp),if_neg (by rw [g.t2];simp),hr,if_pos (by simpa using he)]
section
variable {z:Int} {e:ExprT} {l hd:List Int} {c j n:Int} {b:Bool}
theorem TkGo.inM {x:StT} {s:SST} (g:TkGo x s j n):inM n:=num_inR (num_of (tk2_num g.t2))
theorem tkg_1 (g:TkGo (1,z,e,l) (hd,c,b) j n):(0≤c∧c < l.length∧l.length≤200)∧takeF (1,z,e,l) (hd,c,b) j n=((hd,c+1,b),[l.getD c.toNat 0] :: [],0):=by
 have h1:=valid_cnt g.val
 have h2:=tk1_src rfl g.t1
 have h3:0≤c:=h1.1
 have h4:c≤(l.length:Int):=h1.2.1
 have h5:c≠(l.length:Int):=h2.2
 exact ⟨⟨h3,by omega,(chk_items g.ok).1⟩,g.good rfl⟩
theorem tkg_6 (g:TkGo (6,z,e,l) (hd,c,b) j n):(0≤c∧c≤z∧z≤200)∧(c=z→takeF (6,z,e,l) (hd,c,b) j n=((hd,c,b),[[]],0))∧(c≠z→takeF (6,z,e,l) (hd,c,b) j n=((hd,c+1,b),[[n]],0)):=by
 have h1:=valid_cnt g.val
 have hz:=chk_size g.ok
 have h3:0≤c:=h1.1
 have h4:c≤z:=h1.2.1
 refine ⟨⟨h3,h4,hz.2.1⟩,fun h=>g.good (r6f (decide_eq_false (by show ¬ c < z;omega))),fun h=>g.good (r6t (decide_eq_true (by show c < z;omega)))⟩
theorem tkg_4 (g:TkGo (4,z,e,l) (hd,c,b) j n):((1≤z∧z≤200)∧((hd++[n]).length:Int)≤z∧(hd++[n]).any notNum=false)∧(((hd++[n]).length:Int) < z→takeF (4,z,e,l) (hd,c,b) j n=((hd++[n],c,b),[[]],0)) ∧
 (¬ ((hd++[n]).length:Int) < z→((sumsF z (hd++[n])).2≠0→takeF (4,z,e,l) (hd,c,b) j n=(zeroS,[],(sumsF z (hd++[n])).2))∧((sumsF z (hd++[n])).2=0→takeF (4,z,e,l) (hd,c,b) j n=(([],c,b),[(sumsF z (hd++[n])).1],0))):=by
 have h1:=valid_cnt g.val
 have hz:=chk_size g.ok
 have h4:(hd.length:Int)≤z - 1:=h1.2.2
 have hz1:1≤z:=hz.2.2 rfl
 have hz2:z≤200:=hz.2.1
 have hlen:(hd++[n]).length=hd.length+1:=by simp
 have hany:hd.any notNum=false:=(valid_iff.1 g.val).2.1
 refine ⟨⟨⟨hz1,hz2⟩,by omega,any_snoc hany (num_of (tk2_num g.t2))⟩,fun h=>g.good (r4f (decide_eq_false (by omega))),fun h=>?_⟩
 have he:((hd++[n]).length:Int)=z:=by omega
 have q:=sums_1 (z:=z) (l:=hd++[n]) (by omega) (by omega)
 have si:=sum_is (hd++[n]) 0
 rw [q]
 by_cases h0:(sumR (hd++[n]) 0).2≠0
 ·rw [if_pos h0]
  refine ⟨fun _=>g.bad (e:=14) ?_ (by decide),fun h9=>absurd h9 (by decide)⟩
  have:=si.2 h0
  rw [r4t (decide_eq_true he) (v:=((hd++[n]).foldl sumS (0,0)).1) (f:=14) (by rw [← this])]
 ·rw [if_neg h0]
  refine ⟨fun h9=>absurd rfl h9,fun _=>g.good ?_⟩
  have h0':(sumR (hd++[n]) 0).2=0:=by simpa using h0
  have:=si.1 h0'
  rw [r4t (decide_eq_true he) (v:=(sumR (hd++[n]) 0).1) (f:=0) (by rw [this];exact Prod.ext rfl h0')]
  rfl
theorem tkg_8 (g:TkGo (8,z,e,l) (hd,c,b) j n):(-10≤j∧j≤10)∧takeF (8,z,e,l) (hd,c,b) j n=((hd,1 - j,b),[[n]],0):=by
 have h1:=valid_cnt g.val
 have h2:0≤c:=h1.1
 have h3:c≤1:=h1.2.1
 have hb:=tk1_en g.t1
 replace hb:b=false:=hb
 subst hb
 have h4:=in_8 g.ok g.val g.t1
 exact ⟨by omega,g.good rfl⟩
theorem tkg_9 (g:TkGo (9,z,e,l) (hd,c,b) j n):(hd.length≤1∧0≤z∧z≤200)∧(j=0→(refE (9,z,e,l) (hd,c,b) 1=false→takeF (9,z,e,l) (hd,c,b) j n=(([n],c,b),[[]],0))∧(refE (9,z,e,l) (hd,c,b) 1=true→takeF (9,z,e,l) (hd,c,b) j n=((hd,c,b),[[]],0))) ∧
 (j≠0→(hd.length=0→takeF (9,z,e,l) (hd,c,b) j n=((hd,c,b),[[]],0))∧(hd.length≠0→((eachF (9,z,e,l) hd [n]).2≠0→takeF (9,z,e,l) (hd,c,b) j n=(zeroS,[],(eachF (9,z,e,l) hd [n]).2)) ∧
   ((eachF (9,z,e,l) hd [n]).2=0→(eachF (9,z,e,l) hd [n]).1.length=2∧takeF (9,z,e,l) (hd,c,b) j n=(([],c,b),[(eachF (9,z,e,l) hd [n]).1.getD 0 []],0)))):=by
 have h1:=valid_cnt g.val
 have h3:(hd.length:Int)≤1:=h1.2.2
 have hz:=chk_size g.ok
 have hc:=cnt_9 g.val rfl
 replace hc:0≤c∧c≤3:=hc
 have hb:=tk1_en g.t1
 have hnd:=tk1_need (show ((9:Int),z,e,l).1≠1 by show (9:Int)≠1;decide) g.t1
 obtain ⟨i,hi,hi9⟩:=(need_one g.need).2 hb (by show (9:Int)≠1;decide)
 have hj:j=0∨j=1:=by
  rw [hi] at hnd
  have:isI j i=true:=by simpa using hnd
  unfold isI at this
  have h8:=of_decide_eq_true this
  rw [h8];exact hi9 rfl
 have hbd:refE (9,z,e,l) (hd,c,b) 1=!decide (bandI .i64 c 2=0):=by
  have hcc:c=0∨c=1∨c=2∨c=3:=by omega
  rcases hcc with rfl | rfl | rfl | rfl <;> rfl
 refine ⟨⟨by omega,hz.1,hz.2.1⟩,fun h0=>⟨fun h=>g.good (r9a (decide_eq_true h0) ?_),fun h=>g.good (r9b (decide_eq_true h0) ?_)⟩,fun h0=>⟨fun h=>g.good (r9d (decide_eq_false h0) (decide_eq_false ?_)),fun h=>?_⟩⟩
 ·rw [hbd] at h;show decide (bandI .i64 c 2=0)=true;simpa using h
 ·rw [hbd] at h;show decide (bandI .i64 c 2=0)=false;simpa using h
 ·show ¬ (hd.length:Int)=1
  omega
 ·have j1:j=1:=by omega
  subst j1
  have o:=one_9 (n:=n) (c:=c) (b:=b) g.ok (by omega:hd.length=1)
  refine ⟨fun h9=>g.bad o.1 h9,fun h9=>⟨(o.2 h9).1,g.good ?_⟩⟩
  rw [(o.2 h9).2,out_of g.ok];rfl
theorem tkg_n {k:Int} (g:TkGo (k,z,e,l) (hd,c,b) j n) (h1:k≠1) (h6:k≠6) (h4:k≠4) (h8:k≠8) (h9:k≠9):((0≤z∧z≤200)∧(k=2∨k=3∨k=5∨k=7∨k=10)) ∧
 ((eachF (k,z,e,l) [n] []).2≠0→takeF (k,z,e,l) (hd,c,b) j n=(zeroS,[],(eachF (k,z,e,l) [n] []).2)) ∧
 ((eachF (k,z,e,l) [n] []).2=0→(eachF (k,z,e,l) [n] []).1.length=2∧takeF (k,z,e,l) (hd,c,b) j n=((hd,c,b),[(eachF (k,z,e,l) [n] []).1.getD 0 [],(eachF (k,z,e,l) [n] []).1.getD 1 []].take (stOut (k,z,e,l)).toNat,0)):=by
 have hz:=chk_size g.ok
 have hk:=chk_kind g.ok
 replace hk:1≤k∧k≤10:=hk
 have hk2:k=2∨k=3∨k=5∨k=7∨k=10:=by omega
 have o:=one_ok (s:=(hd,c,b)) (j:=j) g.ok g.inM hk2
 exact ⟨⟨⟨hz.1,hz.2.1⟩,hk2⟩,fun h=>g.bad o.1 h,fun h=>⟨(o.2 h).1,g.good (o.2 h).2⟩⟩
end
end Go.Proofs.YticmijfmgmkkcaaGreat
namespace Go.Proofs.YticmijfmgmkkcaaGreat
open Go.Sx
def cxF34:Ctx:=⟨tysM,[(33,([],c33)),(67,([],c67)),(68,([],c68)),(69,([],c69)),(49,([],c49)),(51,([],c51))]⟩
theorem cxF34_good:GoodCtx Tryz.prog cxF34:=cx_ty (cx_cons good33 (cx_cons good67 (cx_cons good68 (cx_cons good69 (cx_cons good49 (cx_cons good51 cx0_good))))))
def c34:Ctr:=fnC [dSt,dSS,dI,dI] rTk (fun _=>True) (fun y=>resT (takeF y.1 y.2.1 y.2.2.1 y.2.2.2.1))
set_option maxHeartbeats 8000000 in
theorem good34:GoodC Tryz.prog 34 c34:=by
 refine goodF cxF34_good 5 _ _ _ _ ⟨_,Tryz.func34,rfl,rfl⟩ fun (⟨⟨k,z,⟨ek,eo,em,ev,ea⟩,l⟩,⟨hd,c,b⟩,j,n,_⟩ : StT × SST × Int × Int × Unit) _=>?_
 have H0:∀ {y:Rens rIsI},y=((needF (k,z,(ExprT.mk ek eo em ev ea),l) (hd,c,b)).1,(needF (k,z,(ExprT.mk ek eo em ev ea),l) (hd,c,b)).2,())→(!decide (y.2.1=0))=false→(needF (k,z,(ExprT.mk ek eo em ev ea),l) (hd,c,b)).2=0∧y.1=(needF (k,z,(ExprT.mk ek eo em ev ea),l) (hd,c,b)).1:=fun h h'=>by
  subst h;exact ⟨by simpa using h',rfl⟩
 have HR:∀ {y:Rens rIsI} {q:Bool},y=((needF (k,z,(ExprT.mk ek eo em ev ea),l) (hd,c,b)).1,(needF (k,z,(ExprT.mk ek eo em ev ea),l) (hd,c,b)).2,())→(!decide (y.2.1=0))=false→tkR (k,z,(ExprT.mk ek eo em ev ea),l) (hd,c,b) y.1 j=q→tk1 (k,z,(ExprT.mk ek eo em ev ea),l) (hd,c,b) y.1 j=q:=fun h h' hq=>by
  obtain ⟨h1,h2⟩:=H0 h h'
  rw [h2] at hq ⊢
  rw [← tkR_is h1];exact hq
 have HG:∀ {y:Rens rIsI},y=((needF (k,z,(ExprT.mk ek eo em ev ea),l) (hd,c,b)).1,(needF (k,z,(ExprT.mk ek eo em ev ea),l) (hd,c,b)).2,())→(!decide (y.2.1=0))=false→tkR (k,z,(ExprT.mk ek eo em ev ea),l) (hd,c,b) y.1 j=false→tk2 (k,z,(ExprT.mk ek eo em ev ea),l) n=false→TkGo (k,z,(ExprT.mk ek eo em ev ea),l) (hd,c,b) j n:=fun h h' h1 h2=>by
  have h3:=H0 h h'
  have h4:=need_zero.1 h3.1
  refine ⟨h4.1,h4.2, ?_,h2⟩
  rw [← h3.2];exact HR h h' h1
 have T:∀ {t:SST} {o:List (List Int)} {f:Int},takeF (k,z,(ExprT.mk ek eo em ev ea),l) (hd,c,b) j n=(t,o,f)→resT (takeF (k,z,(ExprT.mk ek eo em ev ea),l) (hd,c,b) j n)=(t,o,f,()):=fun h=>by rw [h]
 have O1:∀ {a1 a2:List Int},stChk (k,z,(ExprT.mk ek eo em ev ea),l)=0→(knownF k).2.1=1→[a1,a2].take (stOut (k,z,(ExprT.mk ek eo em ev ea),l)).toNat=[a1]:=fun h h'=>by
  rw [out_of h,show (knownF ((k,z,(ExprT.mk ek eo em ev ea),l):StT).1).2.1=1 from h'];rfl
 refine (aI (by first | kernel_rfl | rfl) (aI True.intro (fun (a0:List Int × Int × PUnit)=>(fun a1=>(aI (fun a2=>(fin_of rfl ?_)) (fun a2=>(fun a3=>(aI (fun a4=>?_) (aI (fun a5=>(fin_of rfl ?_)) (fun a5=>(aI True.intro (aI (fun a6=>(fin_of rfl ?_)) (fun a6=>(aI (fun a7=>(aI ?_ (aI (by first | kernel_rfl | rfl) (aI ?_ (aI ?_ (aI True.intro (fin_of rfl ?_))))))) (fun a7=>(aI (fun a8=>(aI (fun a9=>(aI (by first | kernel_rfl | rfl) (aI True.intro (fin_of rfl ?_)))) (fun a9=>(aI ?_ (aI (by first | kernel_rfl | rfl) (aI True.intro (fin_of rfl ?_))))))) (fun a8=>(aI (fun a10=>(aI ?_ (aI ?_ (fun a11=>(aI (fun a12=>(aI (by first | kernel_rfl | rfl) (aI True.intro (fin_of rfl ?_)))) (fun a12=>(aI ?_ (fun (a13:List Int × Int × PUnit)=>(fun a14=>(aI (fun a15=>(fin_of rfl ?_)) (fun a15=>(aI (by first | kernel_rfl | rfl) (aI True.intro (fin_of rfl ?_)))))))))))))) (fun a10=>(aI (fun a16=>(aI ?_ (aI (by first | kernel_rfl | rfl) (aI True.intro (fin_of rfl ?_))))) (fun a16=>(aI (fun a17=>(aI (by first | kernel_rfl | rfl) (aI (fun a18=>(aI ?_ (aI (fun a19=>(aI (by first | kernel_rfl | rfl) (aI True.intro (fin_of rfl ?_)))) (fun a19=>(aI (by first | kernel_rfl | rfl) (aI True.intro (fin_of rfl ?_))))))) (fun a18=>(fun a20=>(aI (fun a21=>(aI (by first | kernel_rfl | rfl) (aI True.intro (fin_of rfl ?_)))) (fun a21=>(aI ?_ (fun (a22:List (List Int) × Int × PUnit)=>(fun a23=>(aI (fun a24=>(fin_of rfl ?_)) (fun a24=>(aI (by first | kernel_rfl | rfl) (aI ?_ (aI True.intro (fin_of rfl ?_)))))))))))))))) (fun a17=>(aI ?_ (fun (a25:List (List Int) × Int × PUnit)=>(fun a26=>(aI (fun a27=>(fin_of rfl ?_)) (fun a27=>(aI (by first | kernel_rfl | rfl) (aI ?_ (aI ?_ (aI True.intro (fin_of rfl ?_)))))))))))))))))))))))))))))))))
 ·exact TL0 a1 a2
 ·have h3:=H0 a1 a2
  have hb:b=false:=by
   have h9:=a4.1
   cases hb:b with
   | false=>rfl
   | true=>rw [show (((k,z,(ExprT.mk ek eo em ev ea),l),(hd,c,b),j,n,()):StT × SST × Int × Int × Unit).2.1.2.2=true from hb] at h9;cases h9
  have hk:k≠1:=by have h9:=a4.2;simpa using h9
  obtain ⟨i,hi,-⟩:=(need_one h3.1).2 hb hk
  rw [h3.2,hi]
  show (0:Int)≤0∧(0:Int) < (([i]:List Int).length:Int)
  exact ⟨by decide,by rw [show (([i]:List Int).length:Int)=1 from rfl];decide⟩
 ·exact TL1 a1 a2 (HR a1 a2 a5)
 ·exact TL2 a1 a2 (HR a1 a2 a5) a6
 all_goals have G:=HG a1 a2 a5 a6
 ·have hk:=of_decide_eq_true a7
  subst hk
  have:=(tkg_1 G).1
  show -9223372036854775808≤c+1∧c+1≤9223372036854775807
  omega
 ·have hk:=of_decide_eq_true a7
  subst hk
  have:=(tkg_1 G).1
  show -9223372036854775808≤c+1 - 1∧c+1 - 1≤9223372036854775807
  omega
 ·have hk:=of_decide_eq_true a7
  subst hk
  have:=(tkg_1 G).1
  show 0≤c+1 - 1∧c+1 - 1 < (l.length:Int)
  omega
 ·have hk:=of_decide_eq_true a7
  subst hk
  refine (T (tkg_1 G).2).trans ?_
  show _=((hd,c+1,b),[[l.getD (c+1 - 1).toNat 0],[]].take (stOut (1,z,(ExprT.mk ek eo em ev ea),l)).toNat,(0:Int),())
  rw [O1 G.ok rfl,show c+1 - 1=c by omega]
 ·have hk:=of_decide_eq_true a8
  subst hk
  refine (T ((tkg_6 G).2.1 (of_decide_eq_true a9))).trans ?_
  show _=((hd,c,b),[[],[]].take (stOut (6,z,(ExprT.mk ek eo em ev ea),l)).toNat,(0:Int),())
  rw [O1 G.ok rfl]
 ·have hk:=of_decide_eq_true a8
  subst hk
  have:=(tkg_6 G).1
  show -9223372036854775808≤c+1∧c+1≤9223372036854775807
  omega
 ·have hk:=of_decide_eq_true a8
  subst hk
  refine (T ((tkg_6 G).2.2 (of_decide_eq_false a9))).trans ?_
  show _=((hd,c+1,b),[[n],[]].take (stOut (6,z,(ExprT.mk ek eo em ev ea),l)).toNat,(0:Int),())
  rw [O1 G.ok rfl]
 ·have hk:=of_decide_eq_true a10
  subst hk
  have h9:=(tkg_4 G).1
  have h8:(hd++[n]).length=hd.length+1:=by simp
  show hd.length * 8≤lim
  simp only [lim];omega
 ·have hk:=of_decide_eq_true a10
  subst hk
  have h9:=(tkg_4 G).1
  have h8:(hd++[n]).length=hd.length+1:=by simp
  show (hd.length+1) * 8≤lim
  simp only [lim];omega
 ·have hk:=of_decide_eq_true a10
  subst hk
  refine (T ((tkg_4 G).2.1 (of_decide_eq_true a12))).trans ?_
  show _=((hd++[n],c,b),[[],[]].take (stOut (4,z,(ExprT.mk ek eo em ev ea),l)).toNat,(0:Int),())
  rw [O1 G.ok rfl]
 ·have hk:=of_decide_eq_true a10
  subst hk
  have h9:=(tkg_4 G).1
  exact ⟨h9.1,by show (hd++[n]).length≤1000;omega,h9.2.2⟩
 ·have hk:=of_decide_eq_true a10
  subst hk
  have e1:a13.2.1=(sumsF z (hd++[n])).2:=by rw [a14]
  rw [e1] at a15 ⊢
  exact T (((tkg_4 G).2.2 (of_decide_eq_false a12)).1 (by simpa using a15))
 ·have hk:=of_decide_eq_true a10
  subst hk
  have e1:a13.2.1=(sumsF z (hd++[n])).2:=by rw [a14]
  have e2:a13.1=(sumsF z (hd++[n])).1:=by rw [a14]
  rw [e1] at a15
  refine (T (((tkg_4 G).2.2 (of_decide_eq_false a12)).2 (by simpa using a15))).trans ?_
  show _=(([],c,b),[a13.1,[]].take (stOut (4,z,(ExprT.mk ek eo em ev ea),l)).toNat,(0:Int),())
  rw [O1 G.ok rfl,e2]
 ·have hk:=of_decide_eq_true a16
  subst hk
  have:=(tkg_8 G).1
  show -9223372036854775808≤1 - j∧1 - j≤9223372036854775807
  omega
 ·have hk:=of_decide_eq_true a16
  subst hk
  refine (T (tkg_8 G).2).trans ?_
  show _=((hd,1 - j,b),[[n],[]].take (stOut (8,z,(ExprT.mk ek eo em ev ea),l)).toNat,(0:Int),())
  rw [O1 G.ok rfl]
 ·show (-1000:Int)≤1∧(1:Int)≤1000
  decide
 ·have hk:=of_decide_eq_true a17
  subst hk
  have h9:refE (9,z,(ExprT.mk ek eo em ev ea),l) (hd,c,b) 1=false:=by have h8:(!refE (9,z,(ExprT.mk ek eo em ev ea),l) (hd,c,b) 1)=true:=a19;simpa using h8
  refine (T (((tkg_9 G).2.1 (of_decide_eq_true a18)).1 h9)).trans ?_
  show _=(([n],c,b),[[],[]].take (stOut (9,z,(ExprT.mk ek eo em ev ea),l)).toNat,(0:Int),())
  rw [O1 G.ok rfl]
 ·have hk:=of_decide_eq_true a17
  subst hk
  have h9:refE (9,z,(ExprT.mk ek eo em ev ea),l) (hd,c,b) 1=true:=by have h8:(!refE (9,z,(ExprT.mk ek eo em ev ea),l) (hd,c,b) 1)=false:=a19;simpa using h8
  refine (T (((tkg_9 G).2.1 (of_decide_eq_true a18)).2 h9)).trans ?_
  show _=((hd,c,b),[[],[]].take (stOut (9,z,(ExprT.mk ek eo em ev ea),l)).toNat,(0:Int),())
  rw [O1 G.ok rfl]
 ·have hk:=of_decide_eq_true a17
  subst hk
  have h9:hd.length=0:=by have:(hd.length:Int)=0:=of_decide_eq_true a21;omega
  refine (T (((tkg_9 G).2.2 (of_decide_eq_false a18)).1 h9)).trans ?_
  show _=((hd,c,b),[[],[]].take (stOut (9,z,(ExprT.mk ek eo em ev ea),l)).toNat,(0:Int),())
  rw [O1 G.ok rfl]
 ·have hk:=of_decide_eq_true a17
  subst hk
  have h9:=(tkg_9 G).1
  exact ⟨⟨⟨h9.2.1,h9.2.2⟩,by show hd.length≤1000;omega⟩,.inr (.inr (.inr (.inr (.inr (.inl rfl)))))⟩
 ·have hk:=of_decide_eq_true a17
  subst hk
  have h9:hd.length≠0:=by have:¬ (hd.length:Int)=0:=of_decide_eq_false a21;omega
  have e1:a22.2.1=(eachF (9,z,(ExprT.mk ek eo em ev ea),l) hd [n]).2:=by rw [a23]
  rw [e1] at a24 ⊢
  exact T ((((tkg_9 G).2.2 (of_decide_eq_false a18)).2 h9).1 (by simpa using a24))
 ·have hk:=of_decide_eq_true a17
  subst hk
  have h9:hd.length≠0:=by have:¬ (hd.length:Int)=0:=of_decide_eq_false a21;omega
  have e1:a22.2.1=(eachF (9,z,(ExprT.mk ek eo em ev ea),l) hd [n]).2:=by rw [a23]
  have e2:a22.1=(eachF (9,z,(ExprT.mk ek eo em ev ea),l) hd [n]).1:=by rw [a23]
  rw [e1] at a24
  have h8:=((((tkg_9 G).2.2 (of_decide_eq_false a18)).2 h9).2 (by simpa using a24)).1
  rw [e2,h8];exact ⟨by decide,by decide⟩
 ·have hk:=of_decide_eq_true a17
  subst hk
  have h9:hd.length≠0:=by have:¬ (hd.length:Int)=0:=of_decide_eq_false a21;omega
  have e1:a22.2.1=(eachF (9,z,(ExprT.mk ek eo em ev ea),l) hd [n]).2:=by rw [a23]
  have e2:a22.1=(eachF (9,z,(ExprT.mk ek eo em ev ea),l) hd [n]).1:=by rw [a23]
  rw [e1] at a24
  refine (T ((((tkg_9 G).2.2 (of_decide_eq_false a18)).2 h9).2 (by simpa using a24)).2).trans ?_
  show _=(([],c,b),[a22.1.getD 0 [],[]].take (stOut (9,z,(ExprT.mk ek eo em ev ea),l)).toNat,(0:Int),())
  rw [O1 G.ok rfl,e2]
 all_goals have N:=tkg_n G (of_decide_eq_false a7) (of_decide_eq_false a8) (of_decide_eq_false a10) (of_decide_eq_false a16) (of_decide_eq_false a17)
 ·refine ⟨⟨N.1.1,by show 1≤1000;decide⟩, ?_⟩
  show k=2∨k=3∨k=5∨k=6∨k=7∨k=9∨k=10
  have:=N.1.2
  omega
 all_goals
  have e1:a25.2.1=(eachF (k,z,(ExprT.mk ek eo em ev ea),l) [n] []).2:=by rw [a26]
  have e2:a25.1=(eachF (k,z,(ExprT.mk ek eo em ev ea),l) [n] []).1:=by rw [a26]
  rw [e1] at a27
 ·rw [e1];exact T (N.2.1 (by simpa using a27))
 ·rw [e2,(N.2.2 (by simpa using a27)).1];exact ⟨by decide,by decide⟩
 ·rw [e2,(N.2.2 (by simpa using a27)).1];exact ⟨by decide,by decide⟩
 ·refine (T (N.2.2 (by simpa using a27)).2).trans ?_
  show _=((hd,c,b),[a25.1.getD 0 [],a25.1.getD 1 []].take (stOut (k,z,(ExprT.mk ek eo em ev ea),l)).toNat,(0:Int),())
  rw [e2]
end Go.Proofs.YticmijfmgmkkcaaGreat
namespace Go.Proofs.YticmijfmgmkkcaaGreat
open Go.Sx
def teR1 (x:StT) (j:Int):Bool:=bif bif decide (x.1=1) then !decide (j=-1) else false then true else bif !decide (x.1=1) then !wiB j 0 (stIn x - 1) else false
theorem teR1_is {x:StT} {j:Int} (h:stChk x=0):teR1 x j=te1 x j:=by
 unfold teR1 te1
 rw [← not_wi,show stIn x=(knownF x.1).1 by rw [stIn,if_pos h],show decide ((knownF x.1).1 - 1 < j)=decide ((knownF x.1).1≤j) by rw [decide_eq_decide];omega]
def teR2 (x:StT) (s:SST) (j:Int):Bool:=bif s.2.2 then true else bif bif decide (x.1=8) then true else decide (x.1=9) then refE x s j else false
theorem two_in {x:StT} {j:Int} (h2:x.1=8∨x.1=9) (h:te1 x j=false):j=0∨j=1:=by
 have h1:=te1_in (by omega) h
 have h3:(knownF x.1).1=2:=by rcases h2 with h2 | h2 <;> rw [h2] <;> rfl
 omega
theorem teR2_is {x:StT} {s:SST} {j:Int} (hv:validF x s=true) (h:te1 x j=false):teR2 x s j=te2 x s j:=by
 unfold teR2 te2
 cases hb:s.2.2 with
 | true=>rfl
 | false =>
  by_cases h8:x.1=8
  ·rw [decide_eq_true h8,decide_eq_false (show ¬ x.1=1 by omega),refE_8 h8];rfl
  ·by_cases h9:x.1=9
   ·rw [decide_eq_true h9,decide_eq_false (show ¬ x.1=1 by omega),refE_9 hv h9 (two_in (.inr h9) h)]
    cases decide (x.1=8) <;> rfl
   ·rw [decide_eq_false h8,decide_eq_false h9]
    have he:endF x s j=false:=by rw [endF,if_neg h8,if_neg h9,hb]
    rw [he]
    cases decide (x.1=1) <;> rfl
structure EnGo (x:StT) (s:SST) (j:Int):Prop where
 ok:stChk x=0
 val:validF x s=true
 t1:te1 x j=false
 t2:te2 x s j=false
theorem EnGo.need {x:StT} {s:SST} {j:Int} (g:EnGo x s j):(needF x s).2=0:=need_zero.2 ⟨g.ok,g.val⟩
theorem EnGo.good {x:StT} {s:SST} {j:Int} (g:EnGo x s j) {t:SST} {o:List (List Int)} (hr:runE x s j=(t,o,0)):endG x s j=(t,o,t.2.2,0):=by
 rw [endG,if_neg (by rw [g.need];simp),if_neg (by rw [g.t1];simp),if_neg (by rw [g.t2];simp),hr,if_neg (by simp)]
theorem EnGo.bad {x:StT} {s:SST} {j:Int} (g:EnGo x s j) {e:Int} (hr:(runE x s j).2.2=e) (he:e≠0):endG x s j=(zeroS,[],false,e):=by
 rw [endG,if_neg (by rw [g.need];simp),if_neg (by rw [g.t1];simp),if_neg (by rw [g.t2];simp),hr,if_pos (by simpa using he)]
theorem EnGo.en {x:StT} {s:SST} {j:Int} (g:EnGo x s j):s.2.2=false:=te2_en g.t2
section
variable {z:Int} {e:ExprT} {l hd:List Int} {c j:Int} {b:Bool}
theorem eng_4 (g:EnGo (4,z,e,l) (hd,c,b) j):((1≤z∧z≤200)∧hd.length≤200∧hd.any notNum=false)∧((sumsF z hd).2≠0→endG (4,z,e,l) (hd,c,b) j=(zeroS,[],false,(sumsF z hd).2)) ∧
 ((sumsF z hd).2=0→endG (4,z,e,l) (hd,c,b) j=(([],c,true),[(sumsF z hd).1],true,0)):=by
 have h1:=valid_cnt g.val
 have hz:=chk_size g.ok
 have h4:(hd.length:Int)≤z - 1:=h1.2.2
 have hz1:1≤z:=hz.2.2 rfl
 have hz2:z≤200:=hz.2.1
 have hany:hd.any notNum=false:=(valid_iff.1 g.val).2.1
 refine ⟨⟨⟨hz1,hz2⟩,by omega,hany⟩, ?_⟩
 by_cases h0:hd.length=0
 ·have hn:hd=[]:=List.length_eq_zero_iff.1 h0
  subst hn
  rw [sums_0]
  exact ⟨fun h=>absurd rfl h,fun _=>g.good (e4f (by rfl))⟩
 ·have q:=sums_1 (z:=z) (l:=hd) (by omega) h0
  have si:=sum_is hd 0
  have hp:decide (0 < (hd.length:Int))=true:=decide_eq_true (by omega)
  rw [q]
  by_cases hs:(sumR hd 0).2≠0
  ·rw [if_pos hs]
   refine ⟨fun _=>g.bad (e:=14) ?_ (by decide),fun h9=>absurd h9 (by decide)⟩
   have:=si.2 hs
   rw [e4t hp (v:=(hd.foldl sumS (0,0)).1) (f:=14) (by rw [← this])]
  ·rw [if_neg hs]
   have hs':(sumR hd 0).2=0:=by simpa using hs
   have:=si.1 hs'
   refine ⟨fun h9=>absurd rfl h9,fun _=>g.good ?_⟩
   rw [e4t hp (v:=(sumR hd 0).1) (f:=0) (by rw [this];exact Prod.ext rfl hs')]
   rfl
theorem eng_8 (g:EnGo (8,z,e,l) (hd,c,b) j):(-10≤j∧j≤10)∧(hd.length=0→endG (8,z,e,l) (hd,c,b) j=(([j],c,b),[[]],b,0))∧(hd.length≠0→endG (8,z,e,l) (hd,c,b) j=(([0,1],c,true),[[]],true,0)):=by
 have hj:=two_in (x:=(8,z,e,l)) (.inl rfl) g.t1
 have hb:b=false:=g.en
 subst hb
 have r:runE (8,z,e,l) (hd,c,false) j=((sortI (hd++[j]),c,decide (((sortI (hd++[j])).length:Int)=2)),[[]],0):=rfl
 have h1:=valid_cnt g.val
 have h2:(hd.length:Int)≤2:=h1.2.2
 have hv:=(valid_iff.1 g.val).2.2
 have hne:=te2_end (x:=(8,z,e,l)) (by show (8:Int)≠1;decide) g.t2
 replace hne:hd.any (isI j)=false:=hne
 refine ⟨by omega,fun h0=>?_,fun h0=>?_⟩
 ·have hn:hd=[]:=List.length_eq_zero_iff.1 h0
  subst hn
  have:=g.good r
  rw [this]
  show ((sortI [j],c,decide (((sortI [j]).length:Int)=2)),[[]],decide (((sortI [j]).length:Int)=2),(0:Int))=_
  rw [sort_1];rfl
 ·have hvv:(if (List.range hd.length).any (heldBad hd)=true then false else (false == decide ((hd.length:Int)=2)))=true:=by
   have h9:=g.val
   have n1:vc1 (8,z,e,l) (hd,c,false)=false:=by
    cases h:vc1 (8,z,e,l) (hd,c,false) with
    | false=>rfl
    | true=>have:=V1 h;rw [g.val] at this;cases this
   have n2:hd.any notNum=false:=(valid_iff.1 g.val).2.1
   rw [V4 n1 n2 (by rfl) (by rfl)] at h9
   exact h9
  have hbad:(List.range hd.length).any (heldBad hd)=false:=by
   cases h:(List.range hd.length).any (heldBad hd) with
   | false=>rfl
   | true=>rw [if_pos h] at hvv;cases hvv
  rw [if_neg (by rw [hbad];simp)] at hvv
  have hl:hd=[]∨hd=[0]∨hd=[1]∨hd=[0,1]:=held_8 h2 hbad
  have:=g.good r
  rw [this]
  rcases hl with rfl | rfl | rfl | rfl
  ·exact absurd rfl h0
  ·rcases hj with rfl | rfl
   ·exact absurd hne (by decide)
   ·show ((sortI [0,1],c,decide (((sortI [0,1]).length:Int)=2)),[[]],decide (((sortI [0,1]).length:Int)=2),(0:Int))=_
    rw [sort_01];rfl
  ·rcases hj with rfl | rfl
   ·show ((sortI [1,0],c,decide (((sortI [1,0]).length:Int)=2)),[[]],decide (((sortI [1,0]).length:Int)=2),(0:Int))=_
    rw [sort_10];rfl
   ·exact absurd hne (by decide)
  ·exact absurd hvv (by decide)
theorem eng_9 (g:EnGo (9,z,e,l) (hd,c,b) j):(0≤j∧j≤1∧0≤c∧c≤3)∧endG (9,z,e,l) (hd,c,b) j=((if j=1 then [] else hd,c+j+1,decide (c+j+1=3)),[[]],decide (c+j+1=3),0):=by
 have hj:=two_in (x:=(9,z,e,l)) (.inr rfl) g.t1
 have hc:=cnt_9 g.val rfl
 replace hc:0≤c∧c≤3:=hc
 have hb:b=false:=g.en
 subst hb
 have hne:=te2_end (x:=(9,z,e,l)) (by show (9:Int)≠1;decide) g.t2
 rw [endF_9] at hne
 replace hne:decide (bandI .i64 (shrI .i64 c j) 1=1)=false:=hne
 have hcc:c=0∨c=1∨c=2∨c=3:=by omega
 refine ⟨by omega, ?_⟩
 rcases hj with rfl | rfl
 ·have h:=g.good (e9f (by rfl))
  rw [h,if_neg (by decide)]
  rcases hcc with rfl | rfl | rfl | rfl
  ·rfl
  ·exact absurd hne (by decide)
  ·rfl
  ·exact absurd hne (by decide)
 ·have h:=g.good (e9t (by rfl))
  rw [h,if_pos rfl]
  rcases hcc with rfl | rfl | rfl | rfl
  ·rfl
  ·rfl
  ·exact absurd hne (by decide)
  ·exact absurd hne (by decide)
theorem eng_n {k:Int} (g:EnGo (k,z,e,l) (hd,c,b) j) (h4:k≠4) (h8:k≠8) (h9:k≠9):endG (k,z,e,l) (hd,c,b) j=((hd,c,true),[[],[]].take (stOut (k,z,e,l)).toNat,true,0):=by
 have hk:=chk_kind g.ok
 replace hk:1≤k∧k≤10:=hk
 have ho:=out_of g.ok
 have hh:k=1∨k=2∨k=3∨k=5∨k=6∨k=7∨k=10:=by omega
 rw [ho]
 rcases hh with rfl | rfl | rfl | rfl | rfl | rfl | rfl <;> exact g.good rfl
end
end Go.Proofs.YticmijfmgmkkcaaGreat
