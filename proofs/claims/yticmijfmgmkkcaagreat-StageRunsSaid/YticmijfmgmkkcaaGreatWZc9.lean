import Derived.Test.YticmijfmgmkkcaaGreatWZa9
import Derived.Test.YticmijfmgmkkcaaGreatWZa7
set_option linter.unusedSimpArgs false
set_option linter.unusedVariables false
set_option maxRecDepth 100000
namespace Go.Proofs.YticmijfmgmkkcaaGreat
open Go.Sx
@[reducible] def RT:Type:=SST × List Int × List (List Int)
def addR (a b:List (List Int)):List (List Int):=List.zipWith (·++·) a b
def Nx (J:Nat→RT→Prop) (r:Nat) (t:RT) (s:SST) (at2:List Int) (o:List (List Int)):Prop:=o.length=t.2.2.length∧∃ r':Nat,r' < r∧J r' (s,at2,addR t.2.2 o)
def Rnd (x:StT) (ins:List (List Int)) (J:Nat→RT→Prop) (r:Nat) (t:RT):Prop :=
 (needF x t.1).2=0∧t.2.1.length=ins.length∧(t.2.2.length:Int)=(knownF x.1).2.1 ∧
 (((needF x t.1).1=[]∧t.1.2.2=true∧t.2.2=outF x ins) ∨
  (∃ k p:Nat,(needF x t.1).1=[(k:Int)]∧k < ins.length∧t.1.2.2=false∧t.2.1.getD k 0=(p:Int)∧p≤(ins.getD k []).length ∧
    (p=(ins.getD k []).length→(endG x t.1 k).2.2.2=0∧Nx J r t (endG x t.1 k).1 t.2.1 (endG x t.1 k).2.1) ∧
    (p < (ins.getD k []).length→(takeF x t.1 k ((ins.getD k []).getD p 0)).2.2=0∧Nx J r t (takeF x t.1 k ((ins.getD k []).getD p 0)).1 (t.2.1.set k ((p:Int)+1)) (takeF x t.1 k ((ins.getD k []).getD p 0)).2.1)) ∨
  ((needF x t.1).1=[]∧t.1.2.2=false∧x.1=1 ∧
     (t.1.2.1=(x.2.2.2.length:Int)→(endG x t.1 (-1)).2.2.2=0∧Nx J r t (endG x t.1 (-1)).1 t.2.1 (endG x t.1 (-1)).2.1) ∧
     (t.1.2.1≠(x.2.2.2.length:Int)→(takeF x t.1 (-1) 0).2.2=0∧Nx J r t (takeF x t.1 (-1) 0).1 t.2.1 (takeF x t.1 (-1) 0).2.1)))
def start (x:StT) (ins:List (List Int)):RT:=(([],0,false),List.replicate ins.length 0,List.replicate (knownF x.1).2.1.toNat [])
def Runs (x:StT) (ins:List (List Int)):Prop:=∃ J:Nat→RT→Prop,(∀ r t,J r t→Rnd x ins J r t)∧∃ r:Nat,r≤450∧J r (start x ins)
theorem take_mk {x:StT} {s:SST} {i n:Int} (h0:stChk x=0) (hv:validF x s=true) (h1:tk1 x s (needF x s).1 i=false) (h2:tk2 x n=false) {t:SST} {o:List (List Int)} (hr:runT x s i n=(t,o,0)):takeF x s i n=(t,o,0):=by
 have hn:=need_zero.2 ⟨h0,hv⟩
 unfold takeF
 rw [if_neg (by simp [hn]),if_neg (by rw [h1];simp),if_neg (by rw [h2];simp),hr,if_neg (by simp)]
theorem end_mk {x:StT} {s:SST} {i:Int} (h0:stChk x=0) (hv:validF x s=true) (h1:te1 x i=false) (h2:te2 x s i=false) {t:SST} {o:List (List Int)} (hr:runE x s i=(t,o,0)):endG x s i=(t,o,t.2.2,0):=by
 have hn:=need_zero.2 ⟨h0,hv⟩
 unfold endG
 rw [if_neg (by simp [hn]),if_neg (by rw [h1];simp),if_neg (by rw [h2];simp),hr,if_neg (by simp)]
theorem tk1_mk {x:StT} {s:SST} {nd:List Int} {i:Int} (hk:x.1≠1) (he:s.2.2=false) (hn:nd.any (isI i)=true):tk1 x s nd i=false:=by
 unfold tk1
 rw [he,decide_eq_false hk,hn];rfl
theorem tk2_mk {x:StT} {n:Int} (hk:x.1≠1) (h:notNum n=false):tk2 x n=false:=by
 unfold tk2
 unfold notNum at h
 rw [decide_eq_false hk]
 cases hb:numB n
 ·rw [hb] at h;cases h
 ·rfl
theorem te1_mk {x:StT} {i:Int} (hk:x.1≠1) (h0:0≤i) (h1:i < (knownF x.1).1):te1 x i=false:=by
 unfold te1
 rw [decide_eq_false hk,decide_eq_false (show ¬ i < 0 by omega),decide_eq_false (show ¬ (knownF x.1).1≤i by omega)];rfl
theorem te2_mk {x:StT} {s:SST} {i:Int} (he:s.2.2=false) (h:x.1≠1→endF x s i=false):te2 x s i=false:=by
 unfold te2
 rw [he]
 by_cases hk:x.1=1
 ·rw [decide_eq_true hk];rfl
 ·rw [decide_eq_false hk,h hk];rfl
theorem need_in {x:StT} {s:SST} (h0:stChk x=0) (hv:validF x s=true) (hk:x.1≠1∧x.1≠8∧x.1≠9) (he:s.2.2=false):needF x s=([0],0) :=
 ND6 (by simp [h0]) (by simp [hv]) (by rw [he,decide_eq_false hk.1];rfl) (by rw [decide_eq_false hk.2.1];rfl) (decide_eq_false hk.2.1) (by rw [decide_eq_false hk.2.2];rfl)
theorem need_end {x:StT} {s:SST} (h0:stChk x=0) (hv:validF x s=true) (he:s.2.2=true):needF x s=([],0):=ND2 (by simp [h0]) (by simp [hv]) (by rw [he];rfl)
theorem get_mem {l:List Int} {j:Nat} (h:j < l.length):l.getD j 0∈l:=by
 simp [List.getD_eq_getElem?_getD,List.getElem?_eq_getElem h]
theorem runs_one {x:StT} {ins:List (List Int)} (h0:stChk x=0) (hk:x.1≠1∧x.1≠8∧x.1≠9) (hin:(knownF x.1).1=1) (hi:ins.length=1) (hs:strF ins=0) (F:Nat→SST × List (List Int)) (e:SST) (oe:List (List Int))
 (f0:F 0=(([],0,false),List.replicate (knownF x.1).2.1.toNat [])) (fv:validF x ([],0,false)=true) (ho:0≤(knownF x.1).2.1)
 (fe:∀ j,j≤(ins.getD 0 []).length→(F j).1.2.2=false∧((F j).2.length:Int)=(knownF x.1).2.1)
 (fs:∀ j,j < (ins.getD 0 []).length→∃ o,runT x (F j).1 0 ((ins.getD 0 []).getD j 0)=((F (j+1)).1,o,0)∧o.length=(F j).2.length∧addR (F j).2 o=(F (j+1)).2)
 (fl:runE x (F (ins.getD 0 []).length).1 0=(e,oe,0)∧oe.length=(F (ins.getD 0 []).length).2.length∧addR (F (ins.getD 0 []).length).2 oe=outF x ins∧e.2.2=true):Runs x ins:=by
 obtain ⟨g1,g2⟩:=strF_get hs (show 0 < ins.length by omega)
 replace g1:(ins.getD 0 []).length≤200:=g1
 replace g2:(ins.getD 0 []).any notNum=false:=g2
 obtain ⟨l1,l2,l3,l4⟩:=fl
 refine ⟨fun r t=>validF x t.1=true∧((∃ j,j≤(ins.getD 0 []).length∧t=((F j).1,[(j:Int)],(F j).2)∧r=(ins.getD 0 []).length - j+1)∨(t=(e,[((ins.getD 0 []).length:Int)],outF x ins)∧r=0)), ?_,(ins.getD 0 []).length+1,by omega, ?_, ?_⟩
 ·rintro r t ⟨hv,⟨j,hj,rfl,rfl⟩ | ⟨rfl,rfl⟩⟩
  ·replace hv:validF x (F j).1=true:=hv
   obtain ⟨e1,e2⟩:=fe j hj
   have hn:=need_in h0 hv hk e1
   refine ⟨by show (needF x (F j).1).2=0;rw [hn],by rw [hi];rfl,e2,.inr (.inl ⟨0,j,by show (needF x (F j).1).1=_;rw [hn];rfl,by omega,e1,rfl,hj,fun hje=>?_,fun hjl=>?_⟩)⟩
   ·have he:=end_mk (i:=0) h0 hv (te1_mk hk.1 (Int.le_refl 0) (by rw [hin];decide)) (te2_mk e1 fun _=>by unfold endF;rw [if_neg hk.2.1,if_neg hk.2.2];exact e1) (by rw [hje];exact l1)
    have hv2:=(end_valid (x:=x) (s:=(F j).1) (i:=0) (by rw [he])).1.1
    show (endG x (F j).1 0).2.2.2=0∧Nx _ _ _ (endG x (F j).1 0).1 _ (endG x (F j).1 0).2.1
    rw [he] at hv2 ⊢
    refine ⟨rfl,by show oe.length=(F j).2.length;rw [hje];exact l2,0,by omega,hv2,.inr ⟨?_,rfl⟩⟩
    show (e,[(j:Int)],addR (F j).2 oe)=_
    rw [hje,l3]
   ·obtain ⟨o,o1,o2,o3⟩:=fs j hjl
    have hnn:notNum ((ins.getD 0 []).getD j 0)=false:=by
     have h9:=List.any_eq_false.1 g2 ((ins.getD 0 []).getD j 0) (get_mem hjl)
     simpa using h9
    have ht:=take_mk (i:=0) h0 hv (tk1_mk hk.1 e1 (by rw [hn];rfl)) (tk2_mk hk.1 hnn) o1
    have hv2:=(take_valid (x:=x) (s:=(F j).1) (i:=0) (n:=(ins.getD 0 []).getD j 0) (by rw [ht])).1
    show (takeF x (F j).1 0 _).2.2=0∧Nx _ _ _ (takeF x (F j).1 0 _).1 _ (takeF x (F j).1 0 _).2.1
    rw [ht] at hv2 ⊢
    refine ⟨rfl,o2,(ins.getD 0 []).length - (j+1)+1,by omega,hv2,.inl ⟨j+1,hjl, ?_,rfl⟩⟩
    show ((F (j+1)).1,[((j:Int)+1)],addR (F j).2 o)=_
    rw [o3];rfl
  ·replace hv:validF x e=true:=hv
   have hn:=need_end h0 hv l4
   refine ⟨by show (needF x e).2=0;rw [hn],by rw [hi];rfl, ?_,.inl ⟨by show (needF x e).1=[];rw [hn],l4,rfl⟩⟩
   show ((outF x ins).length:Int)=_
   have e2:=(fe _ (Nat.le_refl (ins.getD 0 []).length)).2
   rw [← l3,← e2]
   unfold addR
   rw [List.length_zipWith,l2,Nat.min_self]
 ·exact fv
 ·refine .inl ⟨0,Nat.zero_le _, ?_,by omega⟩
  rw [f0,start,hi];rfl
theorem take_snoc {l:List Int} {j:Nat} (h:j < l.length):l.take (j+1)=l.take j++[l.getD j 0]:=take_getD h
theorem valid_0 {k z:Int} {e:ExprT} {l:List Int} (hz:0≤z) (hz4:k=4→1≤z):validF (k,z,e,l) ([],0,false)=true:=by
 refine valid_iff.2 ⟨⟨Int.le_refl 0, ?_, ?_⟩,rfl, ?_⟩
 ·show 0≤(bndF (k,z,e,l)).1
  unfold bndF
  repeat' split
  all_goals (dsimp only at *;omega)
 ·show ((0:Nat):Int)≤(bndF (k,z,e,l)).2
  unfold bndF
  repeat' split
  all_goals (dsimp only at *;omega)
 ·unfold vk
  repeat' split
  all_goals first
   | rfl
   | (rename_i h;exact absurd h (by simp))
theorem runs_2 {z:Int} {e:ExprT} {l:List Int} {ins:List (List Int)} (h:(meanF (2,z,e,l) ins).2=0):Runs (2,z,e,l) ins:=by
 obtain ⟨h0,hl,hs,hc,hb⟩:=mean_iff.1 h
 have hi:ins.length=1:=by have h:(ins.length:Int)=1:=hl;omega
 have hz:=chk_size h0
 have ha:=hc.1 (.inl rfl)
 replace ha:∀ a∈ins.getD 0 [],err1 e a=0:=ha
 refine runs_one h0 (show (2:Int)≠1∧(2:Int)≠8∧(2:Int)≠9 by decide) rfl hi hs (fun j=>(([],0,false),[((ins.getD 0 []).take j).map (val1 e)])) ([],0,true) [[]] rfl (valid_0 hz.1 hz.2.2) (show (0:Int)≤1 by decide) (fun j _=>⟨rfl,rfl⟩) (fun j hj=>?_) ⟨rfl,rfl, ?_,rfl⟩
 ·have he:(evX e nmX ((ins.getD 0 []).getD j 0) 0).2=0:=ha _ (get_mem hj)
  refine ⟨[[val1 e ((ins.getD 0 []).getD j 0)]], ?_,rfl, ?_⟩
  ·show (_,[[(evX e nmX ((ins.getD 0 []).getD j 0) 0).1]],(evX e nmX ((ins.getD 0 []).getD j 0) 0).2)=_
   rw [he];rfl
  ·show [_++[_]]=[((ins.getD 0 []).take (j+1)).map (val1 e)]
   rw [take_snoc hj,List.map_append];rfl
 ·show [_++[]]=[(ins.getD 0 []).map (val1 e)]
  rw [List.append_nil,List.take_length]
theorem runs_3 {z:Int} {e:ExprT} {l:List Int} {ins:List (List Int)} (h:(meanF (3,z,e,l) ins).2=0):Runs (3,z,e,l) ins:=by
 obtain ⟨h0,hl,hs,hc,hb⟩:=mean_iff.1 h
 have hi:ins.length=1:=by have h:(ins.length:Int)=1:=hl;omega
 have hz:=chk_size h0
 have ha:=hc.1 (.inr (.inl rfl))
 replace ha:∀ a∈ins.getD 0 [],err1 e a=0:=ha
 refine runs_one h0 (show (3:Int)≠1∧(3:Int)≠8∧(3:Int)≠9 by decide) rfl hi hs (fun j=>(([],0,false),[((ins.getD 0 []).take j).filter (keep1 e)])) ([],0,true) [[]] rfl (valid_0 hz.1 hz.2.2) (show (0:Int)≤1 by decide) (fun j _=>⟨rfl,rfl⟩) (fun j hj=>?_) ⟨rfl,rfl, ?_,rfl⟩
 ·have he:(evX e nmX ((ins.getD 0 []).getD j 0) 0).2=0:=ha _ (get_mem hj)
  refine ⟨[if keep1 e ((ins.getD 0 []).getD j 0)=true then [(ins.getD 0 []).getD j 0] else []], ?_,rfl, ?_⟩
  ·show (_,[if decide ((evX e nmX ((ins.getD 0 []).getD j 0) 0).1=1)=true then [(ins.getD 0 []).getD j 0] else []],(evX e nmX ((ins.getD 0 []).getD j 0) 0).2)=_
   rw [he];rfl
  ·show [_++(if _ then _ else _)]=[((ins.getD 0 []).take (j+1)).filter (keep1 e)]
   rw [take_snoc hj,List.filter_append,List.filter_cons];rfl
 ·show [_++[]]=[(ins.getD 0 []).filter (keep1 e)]
  rw [List.append_nil,List.take_length]
theorem runs_7 {z:Int} {e:ExprT} {l:List Int} {ins:List (List Int)} (h:(meanF (7,z,e,l) ins).2=0):Runs (7,z,e,l) ins:=by
 obtain ⟨h0,hl,hs,hc,hb⟩:=mean_iff.1 h
 have hi:ins.length=1:=by have h:(ins.length:Int)=1:=hl;omega
 have hz:=chk_size h0
 have ha:=hc.1 (.inr (.inr rfl))
 replace ha:∀ a∈ins.getD 0 [],err1 e a=0:=ha
 refine runs_one h0 (show (7:Int)≠1∧(7:Int)≠8∧(7:Int)≠9 by decide) rfl hi hs (fun j=>(([],0,false),[((ins.getD 0 []).take j).filter (keep1 e),((ins.getD 0 []).take j).filter (fun a=>!keep1 e a)])) ([],0,true) [[],[]] rfl (valid_0 hz.1 hz.2.2) (show (0:Int)≤2 by decide) (fun j _=>⟨rfl,rfl⟩) (fun j hj=>?_) ⟨rfl,rfl, ?_,rfl⟩
 ·have he:(evX e nmX ((ins.getD 0 []).getD j 0) 0).2=0:=ha _ (get_mem hj)
  refine ⟨[if keep1 e ((ins.getD 0 []).getD j 0)=true then [(ins.getD 0 []).getD j 0] else [],if keep1 e ((ins.getD 0 []).getD j 0)=true then [] else [(ins.getD 0 []).getD j 0]], ?_,rfl, ?_⟩
  ·show (_,[if decide ((evX e nmX ((ins.getD 0 []).getD j 0) 0).1=1)=true then [(ins.getD 0 []).getD j 0] else [],if decide ((evX e nmX ((ins.getD 0 []).getD j 0) 0).1=1)=true then [] else [(ins.getD 0 []).getD j 0]],(evX e nmX ((ins.getD 0 []).getD j 0) 0).2)=_
   rw [he];rfl
  ·show [_++(if _ then _ else _),_++(if _ then _ else _)]=[((ins.getD 0 []).take (j+1)).filter (keep1 e),((ins.getD 0 []).take (j+1)).filter (fun a=>!keep1 e a)]
   rw [take_snoc hj,List.filter_append,List.filter_append,List.filter_cons,List.filter_cons]
   cases keep1 e ((ins.getD 0 []).getD j 0) <;> rfl
 ·show [_++[],_++[]]=[(ins.getD 0 []).filter (keep1 e),(ins.getD 0 []).filter (fun a=>!keep1 e a)]
  rw [List.append_nil,List.append_nil,List.take_length]
theorem runs_5 {z:Int} {e:ExprT} {l:List Int} {ins:List (List Int)} (h:(meanF (5,z,e,l) ins).2=0):Runs (5,z,e,l) ins:=by
 obtain ⟨h0,hl,hs,hc,hb⟩:=mean_iff.1 h
 have hi:ins.length=1:=by have h:(ins.length:Int)=1:=hl;omega
 have hz:=chk_size h0
 refine runs_one h0 (show (5:Int)≠1∧(5:Int)≠8∧(5:Int)≠9 by decide) rfl hi hs (fun j=>(([],0,false),[((ins.getD 0 []).take j).flatMap (fun a=>List.replicate z.toNat a)])) ([],0,true) [[]] rfl (valid_0 hz.1 hz.2.2) (show (0:Int)≤1 by decide) (fun j _=>⟨rfl,rfl⟩) (fun j hj=>?_) ⟨rfl,rfl, ?_,rfl⟩
 ·refine ⟨[List.replicate z.toNat ((ins.getD 0 []).getD j 0)],rfl,rfl, ?_⟩
  show [_++List.replicate _ _]=[((ins.getD 0 []).take (j+1)).flatMap (fun a=>List.replicate z.toNat a)]
  rw [take_snoc hj,List.flatMap_append]
  simp
 ·show [_++[]]=[(ins.getD 0 []).flatMap (fun a=>List.replicate z.toNat a)]
  rw [List.append_nil,List.take_length]
theorem runs_10 {z:Int} {e:ExprT} {l:List Int} {ins:List (List Int)} (h:(meanF (10,z,e,l) ins).2=0):Runs (10,z,e,l) ins:=by
 obtain ⟨h0,hl,hs,hc,hb⟩:=mean_iff.1 h
 have hi:ins.length=1:=by have h:(ins.length:Int)=1:=hl;omega
 have hz:=chk_size h0
 exact runs_one h0 (show (10:Int)≠1∧(10:Int)≠8∧(10:Int)≠9 by decide) rfl hi hs (fun j=>(([],0,false),[])) ([],0,true) [] rfl (valid_0 hz.1 hz.2.2) (show (0:Int)≤0 by decide) (fun j _=>⟨rfl,rfl⟩) (fun j hj=>⟨[],rfl,rfl,rfl⟩) ⟨rfl,rfl,rfl,rfl⟩
theorem runs_6 {z:Int} {e:ExprT} {l:List Int} {ins:List (List Int)} (h:(meanF (6,z,e,l) ins).2=0):Runs (6,z,e,l) ins:=by
 obtain ⟨h0,hl,hs,hc,hb⟩:=mean_iff.1 h
 have hi:ins.length=1:=by have h:(ins.length:Int)=1:=hl;omega
 have hz:=chk_size h0
 have hz0:0≤z:=hz.1
 refine runs_one h0 (show (6:Int)≠1∧(6:Int)≠8∧(6:Int)≠9 by decide) rfl hi hs (fun j=>(([],((min j z.toNat:Nat):Int),false),[((ins.getD 0 []).take j).take z.toNat])) ([],((min (ins.getD 0 []).length z.toNat:Nat):Int),true) [[]] (by simp;rfl) (valid_0 hz.1 hz.2.2) (show (0:Int)≤1 by decide) (fun j _=>⟨rfl,rfl⟩) (fun j hj=>?_) ⟨rfl,rfl, ?_,rfl⟩
 ·by_cases hjz:j < z.toNat
  ·refine ⟨[[(ins.getD 0 []).getD j 0]], ?_,rfl, ?_⟩
   ·rw [r6t (by show decide (((min j z.toNat:Nat):Int) < z)=true;rw [decide_eq_true (by omega)])]
    show ((([]:List Int),((min j z.toNat:Nat):Int)+1,false),_,_)=(([],((min (j+1) z.toNat:Nat):Int),false),_,_)
    rw [show ((min j z.toNat:Nat):Int)+1=((min (j+1) z.toNat:Nat):Int) by omega]
   ·show [_++[_]]=[((ins.getD 0 []).take (j+1)).take z.toNat]
    rw [List.take_take,List.take_take,Nat.min_eq_right (by omega),Nat.min_eq_right (by omega),take_snoc hj]
  ·refine ⟨[[]], ?_,rfl, ?_⟩
   ·rw [r6f (by show decide (((min j z.toNat:Nat):Int) < z)=false;rw [decide_eq_false (by omega)])]
    show ((([]:List Int),((min j z.toNat:Nat):Int),false),_,_)=(([],((min (j+1) z.toNat:Nat):Int),false),_,_)
    rw [show ((min j z.toNat:Nat):Int)=((min (j+1) z.toNat:Nat):Int) by omega]
   ·show [_++[]]=[((ins.getD 0 []).take (j+1)).take z.toNat]
    rw [List.append_nil,List.take_take,List.take_take,Nat.min_eq_left (by omega),Nat.min_eq_left (by omega)]
 ·show [_++[]]=[(ins.getD 0 []).take z.toNat]
  rw [List.append_nil,List.take_length]
theorem sndI_out (f:Int) (o:List Int) (v:Int):sndI f o v=o++sndI f [] v:=by
 unfold sndI;split <;> simp
theorem batS_out (z:Int) (d o:List Int) (n:Int):batS z (d,o,0) n=((batS z (d,[],0) n).1,o++(batS z (d,[],0) n).2.1,(batS z (d,[],0) n).2.2):=by
 unfold batS
 split
 ·unfold batE
  dsimp only
  rw [sndI_out]
 ·simp
theorem batR_out (d o:List Int):batR (d,o,0)=((batR (d,[],0)).1,o++(batR (d,[],0)).2.1,(batR (d,[],0)).2.2):=by
 unfold batR
 split
 ·unfold batE
  dsimp only
  rw [sndI_out]
 ·simp
theorem batS_er (z:Int) (s:List Int × List Int × Int) (a:Int) (h:(batS z s a).2.2=0):s.2.2=0:=by
 unfold batS at h
 split at h
 ·exact (batE_ok h).1
 ·exact h
theorem bat_er (z:Int):∀ (l:List Int) (s:List Int × List Int × Int),(l.foldl (batS z) s).2.2=0→s.2.2=0
 | [],s,h=>h
 | a :: l,s,h=>batS_er z s a (bat_er z l _ h)
theorem runs_4 {z:Int} {e:ExprT} {l:List Int} {ins:List (List Int)} (h:(meanF (4,z,e,l) ins).2=0):Runs (4,z,e,l) ins:=by
 obtain ⟨h0,hl,hs,hc,hb⟩:=mean_iff.1 h
 have hi:ins.length=1:=by have h:(ins.length:Int)=1:=hl;omega
 have hz:=chk_size h0
 have hcl:(batR ((ins.getD 0 []).foldl (batS z) ([],[],0))).2.2=0:=hc.2.2 rfl
 have hfin:((ins.getD 0 []).foldl (batS z) ([],[],0)).2.2=0:=by
  generalize (ins.getD 0 []).foldl (batS z) ([],[],0)=s at *
  unfold batR at hcl
  split at hcl
  ·exact (batE_ok hcl).1
  ·exact hcl
 have her:∀ j,(((ins.getD 0 []).take j).foldl (batS z) ([],[],0)).2.2=0:=fun j=>by
  have h9:=hfin
  rw [← List.take_append_drop j (ins.getD 0 []),List.foldl_append] at h9
  exact bat_er z _ _ h9
 have hst:∀ j,((ins.getD 0 []).take j).foldl (batS z) ([],[],0)=((((ins.getD 0 []).take j).foldl (batS z) ([],[],0)).1,(((ins.getD 0 []).take j).foldl (batS z) ([],[],0)).2.1,0):=fun j=>Prod.ext rfl (Prod.ext rfl (her j))
 refine runs_one h0 (show (4:Int)≠1∧(4:Int)≠8∧(4:Int)≠9 by decide) rfl hi hs (fun j=>(((((ins.getD 0 []).take j).foldl (batS z) ([],[],0)).1,0,false),[(((ins.getD 0 []).take j).foldl (batS z) ([],[],0)).2.1]))
  ((batR ((((ins.getD 0 []).take (ins.getD 0 []).length).foldl (batS z) ([],[],0)).1,[],0)).1,0,true) [(batR ((((ins.getD 0 []).take (ins.getD 0 []).length).foldl (batS z) ([],[],0)).1,[],0)).2.1] rfl (valid_0 hz.1 hz.2.2) (show (0:Int)≤1 by decide) (fun j _=>⟨rfl,rfl⟩) (fun j hj=>?_) ⟨?_,rfl, ?_,rfl⟩
 ·obtain ⟨d,o,hd⟩ : ∃ d o,((ins.getD 0 []).take j).foldl (batS z) ([],[],0)=(d,o,0):=⟨_,_,hst j⟩
  have hn:((ins.getD 0 []).take (j+1)).foldl (batS z) ([],[],0)=((batS z (d,[],0) ((ins.getD 0 []).getD j 0)).1,o++(batS z (d,[],0) ((ins.getD 0 []).getD j 0)).2.1,(batS z (d,[],0) ((ins.getD 0 []).getD j 0)).2.2):=by
   rw [take_snoc hj,List.foldl_append,hd,← batS_out];rfl
  have h1:=her (j+1)
  rw [hn] at h1
  replace h1:(batS z (d,[],0) ((ins.getD 0 []).getD j 0)).2.2=0:=h1
  dsimp only
  rw [hd,hn]
  refine ⟨[(batS z (d,[],0) ((ins.getD 0 []).getD j 0)).2.1], ?_,rfl,rfl⟩
  show (((batS z (d,[],0) ((ins.getD 0 []).getD j 0)).1,0,false),[(batS z (d,[],0) ((ins.getD 0 []).getD j 0)).2.1],(batS z (d,[],0) ((ins.getD 0 []).getD j 0)).2.2)=_
  rw [h1]
 ·obtain ⟨d,o,hd⟩ : ∃ d o,((ins.getD 0 []).take (ins.getD 0 []).length).foldl (batS z) ([],[],0)=(d,o,0):=⟨_,_,hst _⟩
  have h1:=hcl
  rw [← List.take_length (l:=ins.getD 0 []),hd,batR_out] at h1
  replace h1:(batR (d,[],0)).2.2=0:=h1
  dsimp only
  rw [hd]
  show (((batR (d,[],0)).1,0,true),[(batR (d,[],0)).2.1],(batR (d,[],0)).2.2)=_
  rw [h1]
 ·obtain ⟨d,o,hd⟩ : ∃ d o,((ins.getD 0 []).take (ins.getD 0 []).length).foldl (batS z) ([],[],0)=(d,o,0):=⟨_,_,hst _⟩
  have h1:(ins.getD 0 []).foldl (batS z) ([],[],0)=(d,o,0):=by rw [List.take_length] at hd;exact hd
  have h2:outF (4,z,e,l) ins=[(batR (d,o,0)).2.1]:=by
   show [(batR ((ins.getD 0 []).foldl (batS z) ([],[],0))).2.1]=_
   rw [h1]
  have h3:(batR (d,o,0)).2.1=o++(batR (d,[],0)).2.1:=congrArg (fun s=>s.2.1) (batR_out d o)
  rw [h2,h3]
  dsimp only
  rw [hd]
  rfl
theorem runs_1 {z:Int} {e:ExprT} {l:List Int} {ins:List (List Int)} (h:(meanF (1,z,e,l) ins).2=0):Runs (1,z,e,l) ins:=by
 obtain ⟨h0,hl,hs,hc,hb⟩:=mean_iff.1 h
 have hi:ins.length=0:=by have h:(ins.length:Int)=0:=hl;omega
 have hz:=chk_size h0
 have hit:=(chk_items h0).1
 replace hit:l.length≤200:=hit
 have vd:∀ (c:Int) (en:Bool),0≤c→c≤(l.length:Int)→validF (1,z,e,l) ([],c,en)=true:=fun c en h1 h2=>valid_iff.2 ⟨⟨h1,h2,by show ((0:Nat):Int)≤0;decide⟩,rfl,rfl⟩
 have nd:∀ (c:Int) (en:Bool),0≤c→c≤(l.length:Int)→needF (1,z,e,l) ([],c,en)=([],0):=fun c en h1 h2=>ND2 (by simp [h0]) (by simp [vd c en h1 h2]) (by cases en <;> rfl)
 refine ⟨fun r t=>(∃ j:Nat,j≤l.length∧t=(([],(j:Int),false),[],[l.take j])∧r=l.length - j+1)∨(t=(([],(l.length:Int),true),[],[l])∧r=0), ?_,l.length+1,by omega,.inl ⟨0,Nat.zero_le _, ?_,by omega⟩⟩
 ·rintro r t (⟨j,hj,rfl,rfl⟩ | ⟨rfl,rfl⟩)
  ·have hn:=nd (j:Int) false (by omega) (by omega)
   have hv:=vd (j:Int) false (by omega) (by omega)
   refine ⟨by show (needF (1,z,e,l) ([],(j:Int),false)).2=0;rw [hn],by rw [hi];rfl,rfl,.inr (.inr ⟨by show (needF (1,z,e,l) ([],(j:Int),false)).1=[];rw [hn],rfl,rfl,fun hje=>?_,fun hjl=>?_⟩)⟩
   ·have hje':(j:Int)=(l.length:Int):=hje
    have he:=end_mk (x:=(1,z,e,l)) (s:=([],(j:Int),false)) (i:=-1) (t:=([],(j:Int),true)) (o:=[[]]) h0 hv rfl (te2_mk rfl fun h=>absurd rfl h) rfl
    show (endG (1,z,e,l) ([],(j:Int),false) (-1)).2.2.2=0∧Nx _ _ _ (endG (1,z,e,l) ([],(j:Int),false) (-1)).1 _ (endG (1,z,e,l) ([],(j:Int),false) (-1)).2.1
    rw [he]
    refine ⟨rfl,rfl,0,by omega,.inr ⟨?_,rfl⟩⟩
    show (([],(j:Int),true),[],[l.take j++[]])=_
    rw [List.append_nil,hje',List.take_of_length_le (by omega)]
   ·have hjl':¬ (j:Int)=(l.length:Int):=hjl
    have ht:=take_mk (x:=(1,z,e,l)) (s:=([],(j:Int),false)) (i:=-1) (n:=0) (t:=([],(j:Int)+1,false)) (o:=[[l.getD (j:Int).toNat 0]]) h0 hv (by
     show (bif bif false then true else bif decide ((1:Int)=1) then bif !decide ((-1:Int)=-1) then true else decide ((j:Int)=(l.length:Int)) else false then true else bif !decide ((1:Int)=1) then _ else false)=false
     rw [decide_eq_false hjl'];rfl) rfl rfl
    show (takeF (1,z,e,l) ([],(j:Int),false) (-1) 0).2.2=0∧Nx _ _ _ (takeF (1,z,e,l) ([],(j:Int),false) (-1) 0).1 _ (takeF (1,z,e,l) ([],(j:Int),false) (-1) 0).2.1
    rw [ht]
    refine ⟨rfl,rfl,l.length - (j+1)+1,by omega,.inl ⟨j+1,by omega, ?_,rfl⟩⟩
    show (([],(j:Int)+1,false),[],[l.take j++[l.getD (j:Int).toNat 0]])=(([],((j+1:Nat):Int),false),[],[l.take (j+1)])
    rw [take_snoc (by omega),Int.toNat_natCast];rfl
  ·have hn:=nd (l.length:Int) true (by omega) (by omega)
   exact ⟨by show (needF (1,z,e,l) ([],(l.length:Int),true)).2=0;rw [hn],by rw [hi];rfl,rfl,.inl ⟨by show (needF (1,z,e,l) ([],(l.length:Int),true)).1=[];rw [hn],rfl,rfl⟩⟩
 ·rw [start,hi];rfl
theorem mk_in {x:StT} {ins:List (List Int)} {J:Nat→RT→Prop} {r:Nat} {t:RT} {k p:Nat} (hn:needF x t.1=([(k:Int)],0)) (h1:t.2.1.length=ins.length) (h2:(t.2.2.length:Int)=(knownF x.1).2.1) (hk:k < ins.length) (he:t.1.2.2=false)
 (hp:t.2.1.getD k 0=(p:Int)) (hl:p≤(ins.getD k []).length) (hE:p=(ins.getD k []).length→∃ (s:SST) (o:List (List Int)),endG x t.1 k=(s,o,s.2.2,0)∧Nx J r t s t.2.1 o)
 (hT:p < (ins.getD k []).length→∃ (s:SST) (o:List (List Int)),takeF x t.1 k ((ins.getD k []).getD p 0)=(s,o,0)∧Nx J r t s (t.2.1.set k ((p:Int)+1)) o):Rnd x ins J r t:=by
 refine ⟨by rw [hn],h1,h2,.inr (.inl ⟨k,p,by rw [hn],hk,he,hp,hl,fun h=>?_,fun h=>?_⟩)⟩
 ·obtain ⟨s,o,g1,g2⟩:=hE h
  rw [g1];exact ⟨rfl,g2⟩
 ·obtain ⟨s,o,g1,g2⟩:=hT h
  rw [g1];exact ⟨rfl,g2⟩
theorem mk_done {x:StT} {ins:List (List Int)} {J:Nat→RT→Prop} {r:Nat} {t:RT} (hn:needF x t.1=([],0)) (h1:t.2.1.length=ins.length) (h2:(t.2.2.length:Int)=(knownF x.1).2.1) (he:t.1.2.2=true) (ho:t.2.2=outF x ins):Rnd x ins J r t :=
 ⟨by rw [hn],h1,h2,.inl ⟨by rw [hn],he,ho⟩⟩
theorem mem_num {l:List Int} (h:l.any notNum=false) {j:Nat} (hj:j < l.length):notNum (l.getD j 0)=false:=by
 have h9:=List.any_eq_false.1 h (l.getD j 0) (get_mem hj)
 simpa using h9
theorem drop_cons {l:List Int} {j:Nat} (h:j < l.length):l.drop j=l.getD j 0 :: l.drop (j+1):=by
 rw [List.drop_eq_getElem_cons h]
 simp [List.getD_eq_getElem?_getD,List.getElem?_eq_getElem h]
end Go.Proofs.YticmijfmgmkkcaaGreat
