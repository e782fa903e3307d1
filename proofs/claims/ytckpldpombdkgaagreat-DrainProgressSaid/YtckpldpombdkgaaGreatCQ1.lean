/- Pipelines. -/
import Derived.Test.YtckpldpombdkgaaGreatCP
set_option linter.unusedSimpArgs false
set_option linter.unusedVariables false
set_option maxRecDepth 100000
namespace Go.Proofs.YtckpldpombdkgaaGreat
open Go.Sx
@[reducible] def A3:Ty:=.pair tI (.pair tI (.pair tI (.pair tI tI)))
@[reducible] def tPl:Ty:=.pair (.sl tSt) (.sl A3)
@[reducible] def dPl:AK:=.dat true tPl
@[reducible] def Ap7:AK:=.dat true A3
def cWi:Ctr:=fnC [dI,dI,dI] rB (fun _=>True) (fun y=>(inR y.1 y.2.1 y.2.2.1,()))
theorem gWi:GoodC Tryz.prog 84 cWi:=by
 refine Ap Ag 3 _ _ _ _ ⟨_,Tryz.func84,rfl,rfl⟩ fun ⟨n,lo,hi,_⟩ _=>?_
 refine (aF (Aa rfl (by simp [inR])))
theorem X5 (i n:Int) (y:PipeT):Sb i n y=(bif decide (y.1=i) then decide (y.2.1=n) else false):=by unfold Sb;cases decide (y.1=i) <;> rfl
theorem Abw (i n:Int) (y:PipeT):inB i n y=(bif decide (y.2.2.1=i) then decide (y.2.2.2.1=n) else false):=by unfold inB;cases decide (y.2.2.1=i) <;> rfl
def cOut:Ctr:=fnC [dPl,dI,dI] rI (fun _=>True) (fun y=>(Cq y.1 y.2.1 y.2.2.1,()))
theorem Ajx:GoodC Tryz.prog 94 cOut:=by
 refine Ap Ag 5 _ _ _ _ ⟨_,Tryz.func94,rfl,rfl⟩ fun (⟨⟨st,ps⟩,i,n,_⟩ : PlT × Int × Int × Unit) _=>?_
 refine (aF (aF (aF (fun h0=>?_))))
 refine ex4 _ (fun j:Nat=>⟨[.sl A3 ps,.fn (Fn.func 144) [] [.ptr 1 0,.ptr 2 0],.any,.any,.int .i64 0,.any,.sl A3 ps,.int .i64 (↑ps.length:Int),.int .i64 (j:Int),.any,.any,.any,.any,.any,.any,.any,.any,.any,.any],[.cells [.sl tSt st,.sl A3 ps],.cells [.int .i64 i],.cells [.int .i64 n]],3⟩) (fun j=>j≤ps.length∧Ak (Sb i n) ps 0=Ak (Sb i n) (ps.drop j) j) (fun j=>ps.length - j) (aI (eI (0) (eI ([some 0,some 1,some 2]) (aI ?_ (aB (aI (aI (aA (by rfl)) (aI (aA (by rfl)) (aI (aA (by rfl)) tT))) (by rfl)))))) ?_)
 ·exact ⟨Nat.zero_le _,rfl⟩
 rintro j ⟨hj,ht⟩
 refine (aI (fun k0=>(aO (aF (aI (fun k1=>(Aa rfl ?_)) (fun k1=>(aO ?_)))))) (fun k0=>(Aa rfl ?_)))
 ·show (Ak (Sb i n) ps 0,())=_
  rw [ht,Au (Sb i n) Aw ps j (by simpa using k0),if_pos (by rw [X5];exact k1)]
 ·refine eI (j+1) (eI ([some 0,some 1,some 2]) (aI ?_ (aI ?_ (aB (aI (aI (aA (by rfl)) (aI (aA (by rfl)) (aI (aA (by rfl)) tT))) (by rfl))))))
  ·have hj':j < ps.length:=by simpa using k0
   refine ⟨hj', ?_⟩
   rw [ht,Au (Sb i n) Aw ps j hj',if_neg (by rw [X5];exact fun h=>Bool.false_ne_true (k1.symm.trans h))]
  ·have hj':j < ps.length:=by simpa using k0
   show ps.length - (j+1) < ps.length - j
   omega
 ·show (Ak (Sb i n) ps 0,())=_
  have hj':¬ j < ps.length:=by simpa using k0
  rw [ht,List.drop_of_length_le (by omega)];rfl
def cIn:Ctr:=fnC [dPl,dI,dI] rI (fun _=>True) (fun y=>(pIn y.1 y.2.1 y.2.2.1,()))
theorem gIn:GoodC Tryz.prog 92 cIn:=by
 refine Ap Ag 5 _ _ _ _ ⟨_,Tryz.func92,rfl,rfl⟩ fun (⟨⟨st,ps⟩,i,n,_⟩ : PlT × Int × Int × Unit) _=>?_
 refine (aF (aF (aF (fun h0=>?_))))
 refine ex4 _ (fun j:Nat=>⟨[.sl A3 ps,.fn (Fn.func 138) [] [.ptr 1 0,.ptr 2 0],.any,.any,.int .i64 0,.any,.sl A3 ps,.int .i64 (↑ps.length:Int),.int .i64 (j:Int),.any,.any,.any,.any,.any,.any,.any,.any,.any,.any],[.cells [.sl tSt st,.sl A3 ps],.cells [.int .i64 i],.cells [.int .i64 n]],3⟩) (fun j=>j≤ps.length∧Ak (inB i n) ps 0=Ak (inB i n) (ps.drop j) j) (fun j=>ps.length - j) (aI (eI (0) (eI ([some 0,some 1,some 2]) (aI ?_ (aB (aI (aI (aA (by rfl)) (aI (aA (by rfl)) (aI (aA (by rfl)) tT))) (by rfl)))))) ?_)
 ·exact ⟨Nat.zero_le _,rfl⟩
 rintro j ⟨hj,ht⟩
 refine (aI (fun k0=>(aO (aF (aI (fun k1=>(Aa rfl ?_)) (fun k1=>(aO ?_)))))) (fun k0=>(Aa rfl ?_)))
 ·show (Ak (inB i n) ps 0,())=_
  rw [ht,Au (inB i n) Aw ps j (by simpa using k0),if_pos (by rw [Abw];exact k1)]
 ·refine eI (j+1) (eI ([some 0,some 1,some 2]) (aI ?_ (aI ?_ (aB (aI (aI (aA (by rfl)) (aI (aA (by rfl)) (aI (aA (by rfl)) tT))) (by rfl))))))
  ·have hj':j < ps.length:=by simpa using k0
   refine ⟨hj', ?_⟩
   rw [ht,Au (inB i n) Aw ps j hj',if_neg (by rw [Abw];exact fun h=>Bool.false_ne_true (k1.symm.trans h))]
  ·have hj':j < ps.length:=by simpa using k0
   show ps.length - (j+1) < ps.length - j
   omega
 ·show (Ak (inB i n) ps 0,())=_
  have hj':¬ j < ps.length:=by simpa using k0
  rw [ht,List.drop_of_length_le (by omega)];rfl
theorem N4 (s:StT):0≤stIn s∧stIn s≤2∧0≤stOut s∧stOut s≤2:=by
 have h:∀ k:Int,0≤(Ao k).1∧(Ao k).1≤2∧0≤(Ao k).2.1∧(Ao k).2.1≤2:=fun k=>by
  unfold Ao
  repeat' split
  all_goals decide
 unfold stIn stOut
 have:=h s.1
 split <;> omega
theorem Ao2 (s:StT):-9223372036854775808≤stOut s - 1∧stOut s - 1≤9223372036854775807:=by have:=N4 s;omega
theorem inN (s:StT):-9223372036854775808≤stIn s - 1∧stIn s - 1≤9223372036854775807:=by have:=N4 s;omega
theorem Iu {a b:Bool} (h:(bif a then true else b)=false):a=false∧b=false:=by cases a <;> cases b <;> simp_all
theorem Vu {a b:Bool} (h:(bif a then b else false)=true):a=true∧b=true:=by cases a <;> cases b <;> simp_all
theorem Bw {a:Bool} (h:(!a)=false):a=true:=by cases a <;> simp_all
theorem Ao3 (a b c d e:Bool):(bif bif bif bif !a then true else !b then true else !c then true else !d then true else !e)=(!a || (!b || (!c || (!d || !e)))):=by cases a <;> cases b <;> cases c <;> cases d <;> cases e <;> rfl
theorem Abx {n:Int} {st:List StT} (h:inR n 0 (st.length - 1)=true):0≤n∧n < st.length:=by have:=Lx.1 h;omega
theorem Ahk {p q:Prop} [Decidable p] [Decidable q] (h:(bif decide p then true else decide q)=true):p∨q:=by
 by_cases hp:p
 ·exact .inl hp
 ·rw [decide_eq_false hp] at h;exact .inr (of_decide_eq_true h)
theorem Vv {p q:Prop} [Decidable p] [Decidable q] (h:(bif decide p then true else decide q)=false):¬ (p∨q):=by
 have:=Iu h
 exact fun h=>h.elim (of_decide_eq_false this.1) (of_decide_eq_false this.2)
theorem Ajy {p q:Prop} [Decidable p] [Decidable q] (h:(bif decide p then decide q else false)=true):p∧q:=by
 have:=Vu h
 exact ⟨of_decide_eq_true this.1,of_decide_eq_true this.2⟩
theorem Ahl {p q:Prop} [Decidable p] [Decidable q] (h:(bif decide p then decide q else false)=false):¬ (p∧q):=by
 rintro ⟨a,b⟩
 rw [decide_eq_true a,decide_eq_true b] at h;cases h
def Ahm:List (TypeId × Ty):=(98,A3) :: (53,tSt) :: C5
def cxqB:Ctx:=⟨Ahm,[(84,([],cWi)),(94,([],cOut)),(92,([],cIn)),(86,([],c19)),(87,([],c21))]⟩
theorem Uc:Ah Tryz.prog cxqB:=C7 (Ae gWi (Ae Ajx (Ae gIn (Ae Zh (Ae Zi Ag)))))
def cChkP:Ctr:=fnC [dPl,dI] rI (fun y=>0≤y.2.1∧y.2.1 < y.1.2.length) (fun y=>(Ha y.1 y.2.1 (y.1.2.getD y.2.1.toNat Aw),()))
set_option maxHeartbeats 8000000 in
theorem Anr:GoodC Tryz.prog 88 cChkP:=by
 refine Ap Uc 3 _ _ _ _ ⟨_,Tryz.func88,rfl,rfl⟩ fun (⟨⟨st,ps⟩,k,_⟩ : PlT × Int × Unit) hk=>?_
 refine (aF (aI (by omega) (fun h0=>(aO (aF (aI tT (aI (fun h1=>tT) (aI (fun h2=>?_) (aI (fun h3=>tT) (aI (fun h4=>?_) (aI (fun h5=>tT) (aI (fun h6=>?_) (aI (fun h7=>tT) (aI (fun h8=>?_) (aI (fun h9=>tT) (aI (fun h10=>tT) (aI (fun h11=>(Aa rfl ?_)) (fun h11=>(aI tT (aI (fun h12=>tT) (aI (fun h13=>(Aa rfl ?_)) (fun h13=>(aI ?_ (aI (fun h14=>(Aa rfl ?_)) (fun h14=>(Aa rfl ?_))))))))))))))))))))))))))
 all_goals generalize hy:ps.getD k.toNat (Ab A3)=y at *
 ·exact Abx (Bw (Iu h2).1)
 ·exact Ao2 _
 ·exact Abx (Bw (Iu (Iu h6).1).2)
 ·exact inN _
 all_goals simp only [eta] at h11
 all_goals rw [Ao3] at h11
 all_goals try rw [show ps.getD k.toNat Aw=y from hy]
 all_goals try unfold Ha
 ·rw [if_pos (show J0 (st,ps) y=true from h11)]
 ·rw [if_neg (fun h=>Bool.false_ne_true (Eq.trans (Eq.symm (show J0 (st,ps) y=false from h11)) h)),if_pos (Ahk h13)]
 ·simp only [Bool.or_eq_false_iff] at h11
  exact Abx (Bw h11.1)
 ·rw [if_neg (fun h=>Bool.false_ne_true (Eq.trans (Eq.symm (show J0 (st,ps) y=false from h11)) h)),if_neg (Vv h13),if_pos (show (sg (st,ps) y.1).1=5∧y.2.2.2.2 < (sg (st,ps) y.1).2.1 from Ajy h14)]
 ·rw [if_neg (fun h=>Bool.false_ne_true (Eq.trans (Eq.symm (show J0 (st,ps) y=false from h11)) h)),if_neg (Vv h13),if_neg (show ¬ ((sg (st,ps) y.1).1=5∧y.2.2.2.2 < (sg (st,ps) y.1).2.1) from Ahl h14)]
def inS (x:PlT):Prop:=∀ k:Nat,k < x.2.length→0≤(x.2.getD k Aw).1∧(x.2.getD k Aw).1 < x.1.length∧0≤(x.2.getD k Aw).2.2.1∧(x.2.getD k Aw).2.2.1 < x.1.length
theorem Ahn {n i:Nat} (h:i < n):(ints i++List.replicate (n - i) (0:Int)).set i i=ints (i+1)++List.replicate (n - (i+1)) 0:=by
 rw [List.set_append,if_neg (by simp [ints]),show n - i=(n - (i+1))+1 by omega,List.replicate_succ]
 simp [ints,List.range_succ]
theorem Ud {ps:List PipeT} {g:List Int} {j:Nat} (h:j < ps.length):F5 (ps.drop j) g=if g.getD (ps.getD j Aw).1.toNat 0=g.getD (ps.getD j Aw).2.2.1.toNat 0 then true else F5 (ps.drop (j+1)) (H7 (ps.getD j Aw) g):=by
 rw [List.drop_eq_getElem_cons h,F5]
 simp [List.getD_eq_getElem?_getD,List.getElem?_eq_getElem h]
theorem N5 {y:PipeT} {g q:List Int} {k:Nat} (h:k < g.length) (hq:q=(H7 y g).take k++g.drop k):q.length=g.length∧q.getD k 0=g.getD k 0 ∧
 (g.getD k 0=g.getD y.2.2.1.toNat 0→q.set k (g.getD y.1.toNat 0)=(H7 y g).take (k+1)++g.drop (k+1))∧(g.getD k 0≠g.getD y.2.2.1.toNat 0→q=(H7 y g).take (k+1)++g.drop (k+1)):=by
 have hl:(H7 y g).length=g.length:=by simp [H7]
 have e1:(H7 y g).take (k+1)=(H7 y g).take k++[if g[k]=g.getD y.2.2.1.toNat 0 then g.getD y.1.toNat 0 else g[k]]:=by
  rw [List.take_succ_eq_append_getElem (by omega)]
  simp [H7]
 have e2:g.drop k=g[k] :: g.drop (k+1):=List.drop_eq_getElem_cons h
 have e3:g.getD k 0=g[k]:=by simp [List.getD_eq_getElem?_getD,List.getElem?_eq_getElem h]
 have e4:((H7 y g).take k).length=k:=by rw [List.length_take];omega
 subst hq
 refine ⟨by simp;omega, ?_,fun hb=>?_,fun hb=>?_⟩
 ·rw [List.getD_eq_getElem?_getD,List.getElem?_append,if_neg (by omega),e4,Nat.sub_self,e2,e3];rfl
 ·rw [e1,e2,if_pos (by rw [← e3];exact hb),List.set_append,if_neg (by omega),e4,Nat.sub_self,List.append_assoc];rfl
 ·rw [e1,e2,if_neg (by rw [← e3];exact hb),List.append_assoc];rfl
def cCirc:Ctr:=fnC [dPl] rB (fun y=>y.1.1.length≤1000∧inS y.1) (fun y=>(F5 y.1.2 (ints y.1.1.length),()))
theorem Ans:GoodC Tryz.prog 89 cCirc:=by
 refine Ap Uc 3 _ _ _ _ ⟨_,Tryz.func89,rfl,rfl⟩ fun (⟨⟨st,ps⟩,_⟩ : PlT × Unit) hk=>?_
 replace hk:st.length≤1000∧inS (st,ps):=hk
 have hlen:=hk.1
 refine (aF (fun h0=>(aO (fun h1=>?_))))
 refine ex4 _ (fun i:Nat=>⟨[.any,.ptr 0 0,.any,.own 1,.any,.any,.any,.any,.any,.any,.any,.any,.any,.any,.any,.own 1,.int .i64 ((List.replicate st.length (0:Int)).length:Int),.int .i64 (i:Int)]++nA 43,[.cells [.sl tSt st,.sl A3 ps],.rows tI (ints i++List.replicate (st.length - i) 0)],2⟩) (fun i=>i≤st.length) (fun i=>st.length - i) (aI (eI (0) (eI ([some 0,some 1]) (aI ?_ (aB (aI (aI (aA (by rfl)) (aA tT)) (by rfl)))))) ?_)
 ·exact Nat.zero_le _
 rintro i hi
 have hL:∀ i≤st.length,(ints i++List.replicate (st.length - i) 0).length=st.length:=fun i hi=>by simp [ints];omega
 refine (aI (fun k0=>(aI ?_ (aO ?_))) (fun k0=>(fun k1=>?_)))
 ·have hi':i < st.length:=by simpa using k0
  rw [hL i hi];omega
 ·refine eI (i+1) (eI ([some 0,some 1]) (aI ?_ (aI ?_ (aB (aI (aI (aA (by rfl)) (aI ?_ tT)) (by rfl))))))
  ·have hi':i < st.length:=by simpa using k0
   exact hi'
  ·have hi':i < st.length:=by simpa using k0
   show st.length - (i+1) < st.length - i
   omega
  ·have hi':i < st.length:=by simpa using k0
   exact congrArg (Ob.rows tI) (Ahn hi')
 have hi':i=st.length:=by have:¬ i < st.length:=(by simpa using k0);omega
 subst hi'
 refine ex4 _ (fun p:Nat × List Int=>⟨[.any,.ptr 0 0,.any,.own 1,.any,.any,.any,.any,.any,.any,.any,.any,.any,.any,.any,.any,.any,.any,.any,.any,.any,.any,.any,.any,.any,.ptr 0 1,.sl A3 ps,.int .i64 (↑ps.length:Int),.int .i64 (p.1:Int)]++nA 32,[.cells [.sl tSt st,.sl A3 ps],.rows tI p.2],2⟩) (fun p=>p.1≤ps.length∧p.2.length=st.length∧F5 (ps.drop p.1) p.2=F5 ps (ints st.length)) (fun p=>ps.length - p.1) (aI (eI ((0,ints st.length++List.replicate (st.length - st.length) 0)) (eI ([some 0,some 1]) (aI ?_ (aB (aI (aI (aA (by rfl)) (aA tT)) (by rfl)))))) ?_)
 ·refine ⟨Nat.zero_le _,hL _ (Nat.le_refl _), ?_⟩
  rw [Nat.sub_self]
  show F5 ps (ints st.length++[])=_
  rw [List.append_nil]
 rintro ⟨j,g⟩ ⟨hj,hg,hc⟩
 replace hj:j≤ps.length:=hj
 replace hg:g.length=st.length:=hg
 replace hc:F5 (ps.drop j) g=F5 ps (ints st.length):=hc
 have hy0:∀ j:Nat,j < ps.length→0≤(ps.getD (j:Int).toNat (Ab A3)).1∧(ps.getD (j:Int).toNat (Ab A3)).1 < g.length∧0≤(ps.getD (j:Int).toNat (Ab A3)).2.2.1∧(ps.getD (j:Int).toNat (Ab A3)).2.2.1 < g.length:=fun j h=>by
  have:=hk.2 j h
  rw [hg];exact this
 refine (aI (fun m0=>(aO (aF (aI ?_ (aI ?_ (aI (fun m1=>(Aa rfl ?_)) (fun m1=>(fun m2=>?_)))))))) (fun m0=>(Aa rfl ?_)))
 ·have:=hy0 j (by simpa using m0)
  exact ⟨this.1,this.2.1⟩
 ·have:=hy0 j (by simpa using m0)
  exact ⟨this.2.2.1,this.2.2.2⟩
 ·have hj':j < ps.length:=by simpa using m0
  exact congrArg (fun b=>(b,())) (hc.symm.trans ((Ud hj').trans (if_pos (of_decide_eq_true m1))))
 ·have hj':j < ps.length:=by simpa using m0
  have hcd:F5 (ps.drop j) g=F5 (ps.drop (j+1)) (H7 (ps.getD (j:Int).toNat (Ab A3)) g):=(Ud hj').trans (if_neg (of_decide_eq_false m1))
  clear m0 m1
  generalize ps.getD (j:Int).toNat (Ab A3)=y at *
  refine ex4 _ (fun q:Nat × List Int=>⟨[.any,.ptr 0 0,.any,.own 1,.any,.any,.ptr 2 0,.int .i64 (g.getD y.1.toNat (Ab tI)),.int .i64 (g.getD y.2.2.1.toNat (Ab tI)),.any,.any,.any,.any,.any,.any,.any,.any,.any,.any,.any,.any,.any,.any,.any,.any,.ptr 0 1,.sl A3 ps,.int .i64 (↑ps.length:Int),.int .i64 (↑j:Int),.bool (decide ((↑j:Int) < (↑ps.length:Int))),.eptr   [PV.int .i64 y.1,PV.int .i64 y.2.1,PV.int .i64 y.2.2.1,PV.int .i64 y.2.2.2.1,     PV.int .i64 y.2.2.2.2],.agg   [.int .i64 y.1,.int .i64 y.2.1,.int .i64 y.2.2.1,.int .i64 y.2.2.2.1,     .int .i64 y.2.2.2.2],.own 1,.ptr 2 0,.int .i64 y.1,.rptr 1 tI.size y.1.toNat 0,.int .i64 (g.getD y.1.toNat (Ab tI)),.own 1,.ptr 2 2,.int .i64 y.2.2.1,.rptr 1 tI.size y.2.2.1.toNat 0,.int .i64 (g.getD y.2.2.1.toNat (Ab tI)),.int .i64 (g.getD y.1.toNat (Ab tI)),.int .i64 (g.getD y.2.2.1.toNat (Ab tI)),.bool (decide (g.getD y.1.toNat (Ab tI)=g.getD y.2.2.1.toNat (Ab tI))),.own 1,.int .i64 (↑g.length:Int),.int .i64 (q.1:Int)]++nA 13,[.cells [.sl tSt st,.sl A3 ps],.rows tI q.2,.cells   [.int .i64 y.1,.int .i64 y.2.1,.int .i64 y.2.2.1,.int .i64 y.2.2.2.1,     .int .i64 y.2.2.2.2]],3⟩) (fun q=>q.1≤g.length∧q.2=(H7 y g).take q.1++g.drop q.1) (fun q=>g.length - q.1) (aI (eI ((0,g)) (eI ([some 0,some 1,some 2]) (aI ?_ (aB (aI (aI (aA (by rfl)) (aA (aI (aA (by rfl)) tT))) (by rfl)))))) ?_)
  ·exact ⟨Nat.zero_le _,rfl⟩
  rintro ⟨l,q⟩ ⟨hl,hq⟩
  replace hl:l≤g.length:=hl
  replace hq:q=(H7 y g).take l++g.drop l:=hq
  have hql:q.length=g.length:=by
   rw [hq,List.length_append,List.length_take,List.length_drop,show (H7 y g).length=g.length by simp [H7]]
   omega
  have hl':decide ((l:Int) < (g.length:Int))=true→l < g.length:=fun h=>by have:=of_decide_eq_true h;omega
  refine (aI (fun n0=>(aO (aI (fun n1=>(aO (aO ?_))) (fun n1=>(aO ?_))))) (fun n0=>(aO ?_)))
  ·refine eI ((l+1,q.set l (g.getD y.1.toNat 0))) (eI ([some 0,some 1,some 2]) (aI ?_ (aI ?_ (aB (aI (aI (aA (by rfl)) (aA (aI (aA (by rfl)) tT))) (by rfl))))))
   ·exact ⟨hl' n0,(N5 (hl' n0) hq).2.2.1 (((N5 (hl' n0) hq).2.1).symm.trans (of_decide_eq_true n1))⟩
   ·have:=hl' n0
    show g.length - (l+1) < g.length - l
    omega
  ·refine eI ((l+1,q)) (eI ([some 0,some 1,some 2]) (aI ?_ (aI ?_ (aB (aI (aI (aA (by rfl)) (aA (aI (aA (by rfl)) tT))) (by rfl))))))
   ·exact ⟨hl' n0,(N5 (hl' n0) hq).2.2.2 (fun h=>of_decide_eq_false n1 (((N5 (hl' n0) hq).2.1).trans h))⟩
   ·have:=hl' n0
    show g.length - (l+1) < g.length - l
    omega
  ·have hl2:l=g.length:=by have:¬ (l:Int) < (g.length:Int):=of_decide_eq_false n0;omega
   have hq2:q=H7 y g:=by
    rw [hq,hl2,List.drop_length,List.append_nil,List.take_of_length_le (by simp [H7])]
   refine eI ((j+1,q)) (eI ([some 0,some 1]) (aI ?_ (aI ?_ (aB (aI (aI (aA (by rfl)) (aA tT)) (by rfl))))))
   ·refine ⟨hj',hql.trans hg, ?_⟩
    show F5 (ps.drop (j+1)) q=_
    rw [hq2,← hcd];exact hc
   ·show ps.length - (j+1) < ps.length - j
    omega
 ·have hj':¬ j < ps.length:=by simpa using m0
  rw [← hc,List.drop_of_length_le (by omega)];rfl
def cxqD:Ctx:=⟨Ahm,[(84,([],cWi)),(88,([],cChkP)),(89,([],cCirc)),(85,([],c17)),(86,([],c19)),(87,([],c21))]⟩
theorem Adp:Ah Tryz.prog cxqD:=C7 (Ae gWi (Ae Anr (Ae Ans (Ae R6 (Ae Zh (Ae Zi Ag))))))
theorem Ue {st:List StT} {i:Nat} (h:i < st.length):E6 (st.take (i+1))=E6 (st.take i)+(stIn (st.getD i zStg)+stOut (st.getD i zStg)):=by
 unfold E6
 rw [List.take_succ_eq_append_getElem h,List.foldl_append]
 simp [List.getD_eq_getElem?_getD,List.getElem?_eq_getElem h]
theorem Aby (st:List StT):∀ i:Nat,i≤st.length→0≤E6 (st.take i)∧E6 (st.take i)≤4 * i
 | 0,_=>by simp [E6]
 | i+1,h=>by
  have:=Aby st i (by omega)
  rw [Ue (by omega)]
  have:=N4 (st.getD i zStg)
  omega
theorem X6 {α:Type} (f:α→Int) (d:α) {l:List α} {i:Nat} (h:i < l.length):Bz ((l.drop i).map f)=if f (l.getD i d)≠0 then f (l.getD i d) else Bz ((l.drop (i+1)).map f):=by
 rw [List.drop_eq_getElem_cons h,List.map_cons,Bz]
 simp [List.getD_eq_getElem?_getD,List.getElem?_eq_getElem h]
theorem Ami {x:PlT} (h:Bz ((List.range x.2.length).map (fun k:Nat=>Ha x k (x.2.getD k Aw)))=0):inS x:=fun k hk=>by
 have h:=Vt _ h _ (List.mem_map.2 ⟨k,List.mem_range.2 hk,rfl⟩)
 unfold Ha at h
 split at h
 ·cases h
 ·rename_i h1
  simp only [J0,Bool.or_eq_true,Bool.not_eq_true',not_or,Bool.not_eq_false,Lx] at h1
  omega
def cPChk:Ctr:=fnC [dPl] rI (fun _=>True) (fun y=>(It y.1,()))
set_option maxHeartbeats 8000000 in
theorem Aho:GoodC Tryz.prog 51 cPChk:=by
 refine Ap Adp 3 _ _ _ _ ⟨_,Tryz.func51,rfl,rfl⟩ fun (⟨⟨st,ps⟩,_⟩ : PlT × Unit) _=>?_
 refine (aF (fun h0=>(aI tT (aI (fun h1=>(Aa rfl ?_)) (fun h1=>(fun h2=>?_))))))
 ·have h1':¬ (1≤st.length∧st.length≤16):=fun h=>by
   have h2:inR (st.length:Int) 1 16=true:=Lx.2 (by omega)
   have h1:(!inR (st.length:Int) 1 16)=true:=h1
   rw [h2] at h1;cases h1
  show (It (st,ps),())=_
  unfold It
  rw [if_pos h1']
 have h1b:1≤(st.length:Int)∧(st.length:Int)≤16:=Lx.1 (Bw h1)
 have hn:1≤st.length∧st.length≤16:=by omega
 have p1:It (st,ps)=if Bz (st.map An)≠0 then Bz (st.map An) else if 32 < ps.length then 4
  else if Bz ((List.range ps.length).map (fun k:Nat=>Ha (st,ps) k (ps.getD k Aw)))≠0 then Bz ((List.range ps.length).map (fun k:Nat=>Ha (st,ps) k (ps.getD k Aw)))
  else if E6 st≠2 * ps.length then 10 else if F5 ps (ints st.length)=true then 21 else 0:=by
  show (if ¬ (1≤st.length∧st.length≤16) then _ else _)=_
  rw [if_neg (fun h=>h hn)]
 clear h1
 refine ex4 _ (fun p:Nat × Int=>⟨[.any,.ptr 0 0,.any,.int .i64 p.2,.any,.any,.any,.any,.any,.any,.any,.any,.any,.any,.ptr 0 0,.sl tSt st,.int .i64 (↑st.length:Int),.int .i64 (p.1:Int)]++nA 41,[.cells [.sl tSt st,.sl A3 ps]],1⟩) (fun p=>p.1≤st.length∧p.2=E6 (st.take p.1)∧Bz (st.map An)=Bz ((st.drop p.1).map An)) (fun p=>st.length - p.1) (aI (eI ((0,0)) (eI ([some 0]) (aI ?_ (aB (aI (aI (aA (by rfl)) tT) (by rfl)))))) ?_)
 ·exact ⟨Nat.zero_le _,rfl,rfl⟩
 rintro ⟨i,n⟩ ⟨hi,hnn,he⟩
 replace hi:i≤st.length:=hi
 replace hnn:n=E6 (st.take i):=hnn
 replace he:Bz (st.map An)=Bz ((st.drop i).map An):=he
 have hb:=Aby st i hi
 have hd:i < st.length→Bz (st.map An)=if An (st.getD (i:Int).toNat (Ab tSt))≠0 then An (st.getD (i:Int).toNat (Ab tSt)) else Bz ((st.drop (i+1)).map An):=fun h=>he.trans (X6 An zStg h)
 have hen:i < st.length→E6 (st.take (i+1))=E6 (st.take i)+(stIn (st.getD (i:Int).toNat (Ab tSt))+stOut (st.getD (i:Int).toNat (Ab tSt))):=fun h=>Ue h
 have hlt:decide ((i:Int) < (st.length:Int))=true→i < st.length:=fun h=>by have:=of_decide_eq_true h;omega
 refine (aI (fun k0=>(aO (aI tT (aI (fun k1=>(Aa rfl ?_)) (fun k1=>(aF (aI tT (aI tT (aI ?_ (aI ?_ (aO ?_))))))))))) (fun k0=>(fun k2=>(aI (fun k3=>(Aa rfl ?_)) (fun k3=>(fun k4=>?_))))))
 ·simp only [eta] at k1 ⊢
  have hne:An (st.getD (i:Int).toNat (Ab tSt))≠0:=fun h=>by
   have k1:(!decide (An (st.getD (i:Int).toNat (Ab tSt))=0))=true:=k1
   rw [h] at k1;cases k1
  have e:=(hd (hlt k0)).trans (if_pos hne)
  exact congrArg (fun n=>(n,())) (p1.trans ((if_pos (by rw [e];exact hne)).trans e))
 ·have:=N4 (st.getD (i:Int).toNat (Ab tSt))
  simp only [eta]
  show -9223372036854775808≤stIn (st.getD (i:Int).toNat (Ab tSt))+stOut (st.getD (i:Int).toNat (Ab tSt))∧stIn (st.getD (i:Int).toNat (Ab tSt))+stOut (st.getD (i:Int).toNat (Ab tSt))≤9223372036854775807
  omega
 ·have:=N4 (st.getD (i:Int).toNat (Ab tSt))
  simp only [eta]
  show -9223372036854775808≤n+(stIn (st.getD (i:Int).toNat (Ab tSt))+stOut (st.getD (i:Int).toNat (Ab tSt)))∧n+(stIn (st.getD (i:Int).toNat (Ab tSt))+stOut (st.getD (i:Int).toNat (Ab tSt)))≤9223372036854775807
  omega
 ·simp only [eta] at k1
  refine eI ((i+1,_)) (eI ([some 0]) (aI ?_ (aI ?_ (aB (aI (aI (aA (by rfl)) tT) (by rfl))))))
  ·have hz:¬ An (st.getD (i:Int).toNat (Ab tSt))≠0:=fun h=>by
    have k1:(!decide (An (st.getD (i:Int).toNat (Ab tSt))=0))=false:=k1
    rw [decide_eq_false h] at k1;cases k1
   refine ⟨hlt k0, ?_,(hd (hlt k0)).trans (if_neg hz)⟩
   simp only [eta]
   show n+(stIn (st.getD (i:Int).toNat (Ab tSt))+stOut (st.getD (i:Int).toNat (Ab tSt)))=E6 (st.take (i+1))
   rw [hnn];exact (hen (hlt k0)).symm
  ·have:=hlt k0
   show st.length - (i+1) < st.length - i
   omega
 all_goals
  have hi2:i=st.length:=by
   have:¬ (i:Int) < (st.length:Int):=of_decide_eq_false k0
   omega
  have hz:Bz (st.map An)=0:=by rw [he,hi2,List.drop_length];rfl
  have hn2:n=E6 st:=by rw [hnn,hi2,List.take_length]
  rw [if_neg (by rw [hz];simp)] at p1
  clear hd hen hlt he hnn hb k0
  subst hn2
 ·exact congrArg (fun n=>(n,())) (p1.trans (if_pos (by have:=of_decide_eq_true k3;omega)))
 rw [if_neg (by have:=of_decide_eq_false k3;omega)] at p1
 have hp32:ps.length≤32:=by have:=of_decide_eq_false k3;omega
 refine ex4 _ (fun j:Nat=>⟨[.any,.ptr 0 0,.any,.int .i64 (E6 st),.any,.any,.any,.any,.any,.any,.any,.any,.any,.any,.any,.any,.any,.any,.any,.any,.any,.any,.any,.any,.any,.any,.any,.any,.any,.any,.any,.any,.any,.any,.any,.any,.any,.any,.ptr 0 1,.sl A3 ps,.int .i64 (↑ps.length:Int),.int .i64 (j:Int)]++nA 17,[.cells [.sl tSt st,.sl A3 ps]],1⟩) (fun j=>j≤ps.length∧Bz ((List.range ps.length).map (fun k:Nat=>Ha (st,ps) k (ps.getD k Aw)))=Bz (((List.range ps.length).drop j).map (fun k:Nat=>Ha (st,ps) k (ps.getD k Aw)))) (fun j=>ps.length - j) (aI (eI (0) (eI ([some 0]) (aI ?_ (aB (aI (aI (aA (by rfl)) tT) (by rfl)))))) ?_)
 ·exact ⟨Nat.zero_le _,rfl⟩
 rintro j ⟨hj,he⟩
 have hd:j < ps.length→Bz ((List.range ps.length).map (fun k:Nat=>Ha (st,ps) k (ps.getD k Aw)))=if Ha (st,ps) j (ps.getD j Aw)≠0 then Ha (st,ps) j (ps.getD j Aw) else Bz (((List.range ps.length).drop (j+1)).map (fun k:Nat=>Ha (st,ps) k (ps.getD k Aw))):=fun h=>by
  rw [he,X6 (fun k:Nat=>Ha (st,ps) k (ps.getD k Aw)) 0 (by rw [List.length_range];exact h),show (List.range ps.length).getD j 0=j by simp [List.getD_eq_getElem?_getD,h]]
 have hlt:decide ((j:Int) < (ps.length:Int))=true→j < ps.length:=fun h=>by have:=of_decide_eq_true h;omega
 refine (aI (fun m0=>(aI ?_ (aI (fun m1=>(Aa rfl ?_)) (fun m1=>(aO ?_))))) (fun m0=>(fun m2=>(aO (aI (fun m3=>(Aa rfl ?_)) (fun m3=>(aI ?_ (aI (fun m4=>(Aa rfl ?_)) (fun m4=>(Aa rfl ?_))))))))))
 ·have:=hlt m0
  exact ⟨Int.natCast_nonneg j,show (j:Int) < (ps.length:Int) by omega⟩
 ·have hne:Ha (st,ps) j (ps.getD j Aw)≠0:=fun h=>by
   have m1:(!decide (Ha (st,ps) j (ps.getD j Aw)=0))=true:=m1
   rw [h] at m1;cases m1
  have e:=(hd (hlt m0)).trans (if_pos hne)
  exact congrArg (fun n=>(n,())) (p1.trans ((if_pos (by rw [e];exact hne)).trans e))
 ·refine eI (j+1) (eI ([some 0]) (aI ?_ (aI ?_ (aB (aI (aI (aA (by rfl)) tT) (by rfl))))))
  ·have hz:¬ Ha (st,ps) j (ps.getD j Aw)≠0:=fun h=>by
    have m1:(!decide (Ha (st,ps) j (ps.getD j Aw)=0))=false:=m1
    rw [decide_eq_false h] at m1;cases m1
   exact ⟨hlt m0,(hd (hlt m0)).trans (if_neg hz)⟩
  ·have:=hlt m0
   show ps.length - (j+1) < ps.length - j
   omega
 all_goals
  have hj2:j=ps.length:=by
   have:¬ (j:Int) < (ps.length:Int):=of_decide_eq_false m0
   omega
  have hz:Bz ((List.range ps.length).map (fun k:Nat=>Ha (st,ps) k (ps.getD k Aw)))=0:=by rw [he,hj2,List.drop_of_length_le (by simp)];rfl
  rw [if_neg (by rw [hz];simp)] at p1
 ·exact congrArg (fun n=>(n,())) (p1.trans (if_pos (fun h=>by
   have m3:(!decide (E6 st=2 * (ps.length:Int)))=true:=m3
   rw [decide_eq_true h] at m3;cases m3)))
 all_goals
  have he3:¬ E6 st≠2 * (ps.length:Int):=fun h=>by
   have m3:(!decide (E6 st=2 * (ps.length:Int)))=false:=m3
   rw [decide_eq_false h] at m3;cases m3
  rw [if_neg he3] at p1
 ·exact ⟨show st.length≤1000 by omega,Ami hz⟩
 ·exact congrArg (fun n=>(n,())) (p1.trans (if_pos m4))
 ·exact congrArg (fun n=>(n,())) (p1.trans (if_neg (fun h=>Bool.false_ne_true (m4.symm.trans h))))
@[reducible] def A8:Ty:=.pair tI (.pair tI (.pair tI (.pair tI (.pair tIs .bool))))
@[reducible] def Si:AK:=.dat true A8
@[reducible] def Abz:List (Bool × Ty):=[(true,A8),(false,tI)]
def cInR:Ctr:=fnC [dI,dI,dI] rB (fun _=>True) (fun y=>(inR y.1 y.2.1 y.2.2.1,()))
theorem Ao4:GoodC Tryz.prog 106 cInR:=by
 refine Ap Ag 3 _ _ _ _ ⟨_,Tryz.func106,rfl,rfl⟩ fun ⟨n,lo,hi,_⟩ _=>?_
 refine (aF (Aa rfl (by simp [inR])))
def cxf1:Ctx:=⟨C5,[(106,([],cInR))]⟩
theorem O4:Ah Tryz.prog cxf1:=Ae Ao4 Ag
def cBad:Ctr:=fnC [dI] rB (fun _=>True) (fun y=>(Av y.1,()))
theorem Ao5:GoodC Tryz.prog 192 cBad:=by
 refine Ap O4 3 _ _ _ _ ⟨_,Tryz.func192,rfl,rfl⟩ fun ⟨n,_⟩ _=>?_
 refine (aF (aI tT (Aa rfl (by rfl))))
def cxf2:Ctx:=⟨C5,[(192,([],cBad)),(106,([],cInR))]⟩
theorem O5:Ah Tryz.prog cxf2:=Ae Ao5 O4
def cIdx:Ctr:=fnC [dIs,.fn 192 [] []] rI (fun _=>True) (fun y=>(Ak Av y.1 0,()))
theorem Ao6:GoodC Tryz.prog 151 cIdx:=by
 refine Ap O5 3 _ _ _ _ ⟨_,Tryz.func151,rfl,rfl⟩ fun ⟨xs,_,_⟩ _=>?_
 refine (aF (fun h0=>?_))
 refine ex4 _ (fun i:Nat=>⟨[.sl (.int .i64) xs,.fn (Fn.func 192) [] [],.any,.any,.any,.any,.sl (.int .i64) xs,.int .i64 (↑(List.length xs):Int),.int .i64 (i:Int),.any,.any,.any,.any,.any,.any,.any,.any,.any,.any],[],0⟩) (fun i=>i≤xs.length∧Ak Av xs 0=Ak Av (xs.drop i) i) (fun i=>xs.length - i) (aI (eI (0) (eI ([]) (aI ?_ (aB (aI tT (by rfl)))))) ?_)
 ·exact ⟨Nat.zero_le _,rfl⟩
 rintro i ⟨hi,ht⟩
 refine (aI (fun k0=>(aO (aI tT (aI (fun k1=>(Aa rfl (by (try simp only [Bool.cond_true_left,Bool.cond_false_right,Bool.or_eq_true,Bool.or_eq_false_iff,Bool.and_eq_true,Bool.not_eq_true',Bool.not_eq_false',decide_eq_true_eq,decide_eq_false_iff_not] at *);rw [ht];first | (rw [Au Av 0 xs i (by omega)];simp_all;done) | (rw [List.drop_of_length_le (by omega)];rfl)))) (fun k1=>(aO ?_)))))) (fun k0=>(Aa rfl (by (try simp only [Bool.cond_true_left,Bool.cond_false_right,Bool.or_eq_true,Bool.or_eq_false_iff,Bool.and_eq_true,Bool.not_eq_true',Bool.not_eq_false',decide_eq_true_eq,decide_eq_false_iff_not] at *);rw [ht];first | (rw [Au Av 0 xs i (by omega)];simp_all;done) | (rw [List.drop_of_length_le (by omega)];rfl)))))
 refine eI (i+1) (eI ([]) (aI ?_ (aI ?_ (aB (aI tT (by rfl))))))
 ·have hi':i < xs.length:=by simp only [Bool.cond_true_left,Bool.cond_false_right,Bool.or_eq_true,Bool.or_eq_false_iff,Bool.and_eq_true,Bool.not_eq_true',Bool.not_eq_false',decide_eq_true_eq,decide_eq_false_iff_not] at *;omega
  refine ⟨hi', ?_⟩
  rw [ht,Au Av 0 xs i hi']
  simp_all
 ·simp only [Bool.cond_true_left,Bool.cond_false_right,Bool.or_eq_true,Bool.or_eq_false_iff,Bool.and_eq_true,Bool.not_eq_true',Bool.not_eq_false',decide_eq_true_eq,decide_eq_false_iff_not] at *;omega
def cxf3:Ctx:=⟨C5,[(151,([],cIdx)),(192,([],cBad)),(106,([],cInR))]⟩
theorem Adq:Ah Tryz.prog cxf3:=Ae Ao6 O5
def cAny:Ctr:=fnC [dIs,.fn 192 [] []] rB (fun _=>True) (fun y=>(y.1.any Av,()))
theorem Ao7:GoodC Tryz.prog 98 cAny:=by
 refine Ap Adq 3 _ _ _ _ ⟨_,Tryz.func98,rfl,rfl⟩ fun ⟨xs,_,_⟩ _=>?_
 refine (aF (aI tT (Aa rfl (by simp only;rw [Dn Av _ 0 (by omega)]))))
def cxf4:Ctx:=⟨C5,[(98,([],cAny)),(192,([],cBad)),(106,([],cInR))]⟩
theorem Adr:Ah Tryz.prog cxf4:=Ae Ao7 O5
def cFChk:Ctr:=fnC [Si] rI (fun _=>True) (fun y=>(Bp y.1,()))
theorem Akp:GoodC Tryz.prog 152 cFChk:=by
 refine Ap Adr 3 _ _ _ _ ⟨_,Tryz.func152,rfl,rfl⟩ fun ⟨⟨cap,gr,se,ta,xs,cl⟩,_⟩ _=>?_
 refine (aF (aI tT (aI (fun h0=>(Aa rfl ?_)) (fun h0=>(aI (fun h1=>(by intros;(try subst_vars);(try simp only [nB] at *);(try simp only [inK,big,lim,nL] at *);omega)) (fun h2=>(aI (fun h3=>(by intros;(try subst_vars);(try simp only [nB] at *);(try simp only [inK,big,lim,nL] at *);omega)) (aI (fun h4=>(Aa rfl ?_)) (fun h4=>(aI tT (aI (fun h5=>(Aa rfl ?_)) (fun h5=>(Aa rfl ?_)))))))))))))
 all_goals unfold Bp
 all_goals dsimp only
 ·rw [if_pos h0]
 ·simp only [Bool.cond_true_left,Bool.cond_false_right,Bool.or_eq_true,Bool.or_eq_false_iff,Bool.and_eq_true,Bool.not_eq_true',Bool.not_eq_false',decide_eq_true_eq,decide_eq_false_iff_not] at h4
  rw [if_neg (by simpa using h0),if_pos (by omega)]
 ·simp only [Bool.cond_true_left,Bool.cond_false_right,Bool.or_eq_true,Bool.or_eq_false_iff,Bool.and_eq_true,Bool.not_eq_true',Bool.not_eq_false',decide_eq_true_eq,decide_eq_false_iff_not] at h4
  rw [if_neg (by simpa using h0),if_neg (by omega),if_pos h5]
 ·simp only [Bool.cond_true_left,Bool.cond_false_right,Bool.or_eq_true,Bool.or_eq_false_iff,Bool.and_eq_true,Bool.not_eq_true',Bool.not_eq_false',decide_eq_true_eq,decide_eq_false_iff_not] at h4
  rw [if_neg (by simpa using h0),if_neg (by omega),if_neg (fun h=>Bool.false_ne_true (h5.symm.trans h))]
def cFNew:Ctr:=fnC [dI] Abz (fun _=>True) (fun y=>((Ag5 y.1).1,(Ag5 y.1).2,()))
def cxf5:Ctx:=⟨C5,[(152,([],cFChk)),(106,([],cInR))]⟩
theorem O6:Ah Tryz.prog cxf5:=Ae Akp O4
theorem Ant:GoodC Tryz.prog 65 cFNew:=by
 refine Ap O6 3 _ _ _ _ ⟨_,Tryz.func65,rfl,rfl⟩ fun ⟨n,_⟩ _=>?_
 refine (aF (aI tT (aI (fun h0=>(Aa rfl (by simp_all [Ag5]))) (fun h0=>(Aa rfl (by simp_all [Ag5]))))))
def cCl:Ctr:=fnO [dIs] tI (fun y=>y.1.length≤1000000) (fun y=>y.1)
theorem gCl:GoodC Tryz.prog 119 cCl:=by
 refine goodO O6 3 _ _ _ _ ⟨_,Tryz.func119,rfl,rfl⟩ fun ⟨xs,_⟩ hlen=>?_
 simp only at hlen
 refine (aF (fun h0=>(fun h1=>(aI (fun h2=>(I8 (by simp_all))) (fun h2=>(aO (Lq rfl (by simp_all))))))))
def cxf6:Ctx:=⟨C5,[(119,([],cCl)),(152,([],cFChk)),(106,([],cInR))]⟩
theorem Hk:Ah Tryz.prog cxf6:=Ae gCl O6
def cFReq:Ctr:=fnC [Si,dI] Abz (fun _=>True) (fun y=>((Je y.1 y.2.1).1,(Je y.1 y.2.1).2,()))
theorem Akq:GoodC Tryz.prog 66 cFReq:=by
 refine Ap Hk 4 _ _ _ _ ⟨_,Tryz.func66,rfl,rfl⟩ fun ⟨⟨cap,gr,se,ta,xs,cl⟩,n,_⟩ _=>?_
 have hb:=@Dh (cap,gr,se,ta,xs,cl)
 refine (aF (aF (aI tT (aI (fun h0=>(Aa rfl (by (try subst_vars);(try simp only [Bool.cond_true_left,Bool.cond_false_right,Bool.or_eq_true,Bool.or_eq_false_iff,Bool.and_eq_true,Bool.not_eq_true',Bool.not_eq_false',decide_eq_true_eq,decide_eq_false_iff_not] at *);first | (simp only [Je, *,if_true,if_false,ne_eq,not_true,not_false_iff,Bool.false_eq_true];done) | grind [Je]))) (fun h0=>(aF (aI (fun h1=>(Aa rfl (by (try subst_vars);(try simp only [Bool.cond_true_left,Bool.cond_false_right,Bool.or_eq_true,Bool.or_eq_false_iff,Bool.and_eq_true,Bool.not_eq_true',Bool.not_eq_false',decide_eq_true_eq,decide_eq_false_iff_not] at *);first | (simp only [Je, *,if_true,if_false,ne_eq,not_true,not_false_iff,Bool.false_eq_true];done) | grind [Je]))) (fun h1=>(aI (fun h2=>(Aa rfl (by (try subst_vars);(try simp only [Bool.cond_true_left,Bool.cond_false_right,Bool.or_eq_true,Bool.or_eq_false_iff,Bool.and_eq_true,Bool.not_eq_true',Bool.not_eq_false',decide_eq_true_eq,decide_eq_false_iff_not] at *);first | (simp only [Je, *,if_true,if_false,ne_eq,not_true,not_false_iff,Bool.false_eq_true];done) | grind [Je]))) (fun h2=>(aI ?_ (aI ?_ (aI (fun h3=>(Aa rfl (by (try subst_vars);(try simp only [Bool.cond_true_left,Bool.cond_false_right,Bool.or_eq_true,Bool.or_eq_false_iff,Bool.and_eq_true,Bool.not_eq_true',Bool.not_eq_false',decide_eq_true_eq,decide_eq_false_iff_not] at *);first | (simp only [Je, *,if_true,if_false,ne_eq,not_true,not_false_iff,Bool.false_eq_true];done) | grind [Je]))) (fun h3=>(aI ?_ (aI (fun h4=>(Aa rfl (by (try subst_vars);(try simp only [Bool.cond_true_left,Bool.cond_false_right,Bool.or_eq_true,Bool.or_eq_false_iff,Bool.and_eq_true,Bool.not_eq_true',Bool.not_eq_false',decide_eq_true_eq,decide_eq_false_iff_not] at *);first | (simp only [Je, *,if_true,if_false,ne_eq,not_true,not_false_iff,Bool.false_eq_true];done) | grind [Je]))) (fun h4=>(aI ?_ (Aa rfl (by (try subst_vars);(try simp only [Bool.cond_true_left,Bool.cond_false_right,Bool.or_eq_true,Bool.or_eq_false_iff,Bool.and_eq_true,Bool.not_eq_true',Bool.not_eq_false',decide_eq_true_eq,decide_eq_false_iff_not] at *);first | (simp only [Je, *,if_true,if_false,ne_eq,not_true,not_false_iff,Bool.false_eq_true];done) | grind [Je]))))))))))))))))))))
 any_goals (intros;(try subst_vars);(try simp only [nB] at *);(try simp only [inK,big,lim,nL] at *);omega)
def cFSend:Ctr:=fnC [Si,dI] Abz (fun _=>True) (fun y=>((Hz y.1 y.2.1).1,(Hz y.1 y.2.1).2,()))
theorem Amj:GoodC Tryz.prog 167 cFSend:=by
 refine Ap Hk 4 _ _ _ _ ⟨_,Tryz.func167,rfl,rfl⟩ fun ⟨⟨cap,gr,se,ta,xs,cl⟩,n,_⟩ _=>?_
 have hb:=@Dh (cap,gr,se,ta,xs,cl)
 refine (aF (aF (aI tT (aI (fun h0=>(Aa rfl (by (try subst_vars);(try simp only [Bool.cond_true_left,Bool.cond_false_right,Bool.or_eq_true,Bool.or_eq_false_iff,Bool.and_eq_true,Bool.not_eq_true',Bool.not_eq_false',decide_eq_true_eq,decide_eq_false_iff_not] at *);first | (simp only [Hz,Av, *,if_true,if_false,ne_eq,not_true,not_false_iff,Bool.false_eq_true];done) | grind [Hz,Av]))) (fun h0=>(aF (aI tT (aI (fun h1=>(Aa rfl (by (try subst_vars);(try simp only [Bool.cond_true_left,Bool.cond_false_right,Bool.or_eq_true,Bool.or_eq_false_iff,Bool.and_eq_true,Bool.not_eq_true',Bool.not_eq_false',decide_eq_true_eq,decide_eq_false_iff_not] at *);first | (simp only [Hz,Av, *,if_true,if_false,ne_eq,not_true,not_false_iff,Bool.false_eq_true];done) | grind [Hz,Av]))) (fun h1=>(aI (fun h2=>(Aa rfl (by (try subst_vars);(try simp only [Bool.cond_true_left,Bool.cond_false_right,Bool.or_eq_true,Bool.or_eq_false_iff,Bool.and_eq_true,Bool.not_eq_true',Bool.not_eq_false',decide_eq_true_eq,decide_eq_false_iff_not] at *);first | (simp only [Hz,Av, *,if_true,if_false,ne_eq,not_true,not_false_iff,Bool.false_eq_true];done) | grind [Hz,Av]))) (fun h2=>(aI (fun h3=>(Aa rfl (by (try subst_vars);(try simp only [Bool.cond_true_left,Bool.cond_false_right,Bool.or_eq_true,Bool.or_eq_false_iff,Bool.and_eq_true,Bool.not_eq_true',Bool.not_eq_false',decide_eq_true_eq,decide_eq_false_iff_not] at *);first | (simp only [Hz,Av, *,if_true,if_false,ne_eq,not_true,not_false_iff,Bool.false_eq_true];done) | grind [Hz,Av]))) (fun h3=>(aF (aI ?_ (aI ?_ (aI ?_ (Aa rfl (by (try subst_vars);(try simp only [Bool.cond_true_left,Bool.cond_false_right,Bool.or_eq_true,Bool.or_eq_false_iff,Bool.and_eq_true,Bool.not_eq_true',Bool.not_eq_false',decide_eq_true_eq,decide_eq_false_iff_not] at *);first | (simp only [Hz,Av, *,if_true,if_false,ne_eq,not_true,not_false_iff,Bool.false_eq_true];done) | grind [Hz,Av])))))))))))))))))))
 any_goals (intros;(try subst_vars);(try simp only [nB] at *);(try simp only [inK,big,lim,nL] at *);omega)
def cFTake:Ctr:=fnC [Si] [(true,A8),(false,tI),(false,tI)] (fun _=>True) (fun y=>((Dy y.1).1,(Dy y.1).2.1,(Dy y.1).2.2,()))
theorem Amk:GoodC Tryz.prog 166 cFTake:=by
 refine Ap Hk 4 _ _ _ _ ⟨_,Tryz.func166,rfl,rfl⟩ fun ⟨⟨cap,gr,se,ta,xs,cl⟩,_⟩ _=>?_
 have hb:=@Dh (cap,gr,se,ta,xs,cl)
 refine (aF (aI tT (aI (fun h0=>(Aa rfl (by (try subst_vars);(try simp only [Bool.cond_true_left,Bool.cond_false_right,Bool.or_eq_true,Bool.or_eq_false_iff,Bool.and_eq_true,Bool.not_eq_true',Bool.not_eq_false',decide_eq_true_eq,decide_eq_false_iff_not] at *);first | (simp only [Dy, *,if_true,if_false,ne_eq,not_true,not_false_iff,Bool.false_eq_true];done) | grind [Dy]))) (fun h0=>(fun h1=>(aI (fun h2=>(aI (fun h3=>(Aa rfl (by (try subst_vars);(try simp only [Bool.cond_true_left,Bool.cond_false_right,Bool.or_eq_true,Bool.or_eq_false_iff,Bool.and_eq_true,Bool.not_eq_true',Bool.not_eq_false',decide_eq_true_eq,decide_eq_false_iff_not] at *);first | (simp only [Dy, *,if_true,if_false,ne_eq,not_true,not_false_iff,Bool.false_eq_true];done) | grind [Dy]))) (fun h3=>(Aa rfl (by (try subst_vars);(try simp only [Bool.cond_true_left,Bool.cond_false_right,Bool.or_eq_true,Bool.or_eq_false_iff,Bool.and_eq_true,Bool.not_eq_true',Bool.not_eq_false',decide_eq_true_eq,decide_eq_false_iff_not] at *);first | (simp only [Dy, *,if_true,if_false,ne_eq,not_true,not_false_iff,Bool.false_eq_true];done) | grind [Dy]))))) (fun h2=>(aI ?_ (fun h4=>(aI ?_ (aI ?_ (aI ?_ (aI ?_ (Aa rfl (by (try subst_vars);(try simp only [Bool.cond_true_left,Bool.cond_false_right,Bool.or_eq_true,Bool.or_eq_false_iff,Bool.and_eq_true,Bool.not_eq_true',Bool.not_eq_false',decide_eq_true_eq,decide_eq_false_iff_not] at *);first | (simp only [Dy, *,if_true,if_false,ne_eq,not_true,not_false_iff,Bool.false_eq_true];done) | grind [Dy])))))))))))))))
 any_goals (intros;(try subst_vars);(try simp only [nB] at *);(try simp only [inK,big,lim,nL] at *);omega)
def cFClose:Ctr:=fnC [Si] Abz (fun _=>True) (fun y=>((Gl y.1).1,(Gl y.1).2,()))
theorem Ajz:GoodC Tryz.prog 168 cFClose:=by
 refine Ap Hk 4 _ _ _ _ ⟨_,Tryz.func168,rfl,rfl⟩ fun ⟨⟨cap,gr,se,ta,xs,cl⟩,_⟩ _=>?_
 refine (aF (aF (aI tT (aI (fun h0=>(Aa rfl (by (try subst_vars);(try simp only [Bool.cond_true_left,Bool.cond_false_right,Bool.or_eq_true,Bool.or_eq_false_iff,Bool.and_eq_true,Bool.not_eq_true',Bool.not_eq_false',decide_eq_true_eq,decide_eq_false_iff_not] at *);first | (simp only [Gl, *,if_true,if_false,ne_eq,not_true,not_false_iff,Bool.false_eq_true];done) | grind [Gl]))) (fun h0=>(aF (aI (fun h1=>(Aa rfl (by (try subst_vars);(try simp only [Bool.cond_true_left,Bool.cond_false_right,Bool.or_eq_true,Bool.or_eq_false_iff,Bool.and_eq_true,Bool.not_eq_true',Bool.not_eq_false',decide_eq_true_eq,decide_eq_false_iff_not] at *);first | (simp only [Gl, *,if_true,if_false,ne_eq,not_true,not_false_iff,Bool.false_eq_true];done) | grind [Gl]))) (fun h1=>(Aa rfl (by (try subst_vars);(try simp only [Bool.cond_true_left,Bool.cond_false_right,Bool.or_eq_true,Bool.or_eq_false_iff,Bool.and_eq_true,Bool.not_eq_true',Bool.not_eq_false',decide_eq_true_eq,decide_eq_false_iff_not] at *);first | (simp only [Gl, *,if_true,if_false,ne_eq,not_true,not_false_iff,Bool.false_eq_true];done) | grind [Gl]))))))))))
def cFEnd:Ctr:=fnC [Si] rB (fun _=>True) (fun y=>(Cf y.1,()))
theorem Akr:GoodC Tryz.prog 145 cFEnd:=by
 refine Ap Hk 4 _ _ _ _ ⟨_,Tryz.func145,rfl,rfl⟩ fun ⟨⟨cap,gr,se,ta,xs,cl⟩,_⟩ _=>?_
 refine (aF (aI tT (fun h0=>(Aa rfl (by (try subst_vars);(try simp only [Bool.cond_true_left,Bool.cond_false_right,Bool.or_eq_true,Bool.or_eq_false_iff,Bool.and_eq_true,Bool.not_eq_true',Bool.not_eq_false',decide_eq_true_eq,decide_eq_false_iff_not] at *);first | (simp only [Cf, *,if_true,if_false,ne_eq,not_true,not_false_iff,Bool.false_eq_true];done) | grind [Cf])))))
def cFRoom:Ctr:=fnC [Si] rI (fun _=>True) (fun y=>(N0 y.1,()))
theorem Aml:GoodC Tryz.prog 148 cFRoom:=by
 refine Ap Hk 4 _ _ _ _ ⟨_,Tryz.func148,rfl,rfl⟩ fun ⟨⟨cap,gr,se,ta,xs,cl⟩,_⟩ _=>?_
 have hb:=@Dh (cap,gr,se,ta,xs,cl)
 refine (aF (aI tT (aI (fun h0=>(Aa rfl (by (try subst_vars);(try simp only [Bool.cond_true_left,Bool.cond_false_right,Bool.or_eq_true,Bool.or_eq_false_iff,Bool.and_eq_true,Bool.not_eq_true',Bool.not_eq_false',decide_eq_true_eq,decide_eq_false_iff_not] at *);first | (simp only [N0, *,if_true,if_false,ne_eq,not_true,not_false_iff,Bool.false_eq_true];done) | grind [N0]))) (fun h0=>(aO (Aa rfl (by (try subst_vars);(try simp only [Bool.cond_true_left,Bool.cond_false_right,Bool.or_eq_true,Bool.or_eq_false_iff,Bool.and_eq_true,Bool.not_eq_true',Bool.not_eq_false',decide_eq_true_eq,decide_eq_false_iff_not] at *);first | (simp only [N0, *,if_true,if_false,ne_eq,not_true,not_false_iff,Bool.false_eq_true];done) | grind [N0])))))))
@[reducible] def Ao8:AK:=.dat false (.sl tSt)
@[reducible] def rIs:List (Bool × Ty):=[(false,tIs)]
theorem X7 {α:Type} (p:α→Bool) (d:α) {l:List α} {i:Nat} (h:i < l.length):(l.take (i+1)).countP p=(l.take i).countP p+if p (l.getD i d)=true then 1 else 0:=by
 rw [List.take_succ_eq_append_getElem h,List.countP_append]
 simp [List.getD_eq_getElem?_getD,List.getElem?_eq_getElem h,List.countP_cons]
def cSinks:Ctr:=fnC [Ao8] rI (fun _=>True) (fun y=>(Bq y.1,()))
theorem Z0:GoodC Tryz.prog 64 cSinks:=by
 refine Ap Ag 3 _ _ _ _ ⟨_,Tryz.func64,rfl,rfl⟩ fun (⟨st,_⟩ : List StT × Unit) _=>?_
 refine (aF (fun h0=>?_))
 refine ex4 _ (fun p:Nat × Int=>⟨[.sl tSt st,.any,.any,.int .i64 p.2,.any,.any,.sl tSt st,.int .i64 (↑st.length:Int),.int .i64 (p.1:Int),.any,.any,.any,.any,.any,.any,.any,.any,.any,.any],[],0⟩) (fun p=>p.1≤st.length∧p.2=((st.take p.1).countP isSink:Nat)) (fun p=>st.length - p.1) (aI (eI ((0,0)) (eI ([]) (aI ?_ (aB (aI tT (by rfl)))))) ?_)
 ·exact ⟨Nat.zero_le _,rfl⟩
 rintro ⟨i,n⟩ ⟨hi,hn⟩
 replace hi:i≤st.length:=hi
 replace hn:n=((st.take i).countP isSink:Nat):=hn
 have hle:(st.take i).countP isSink≤i:=Nat.le_trans List.countP_le_length (by rw [List.length_take];omega)
 have hlt:decide ((i:Int) < (st.length:Int))=true→i < st.length:=fun h=>by have:=of_decide_eq_true h;omega
 have hs:i < st.length→(st.take (i+1)).countP isSink=(st.take i).countP isSink+if decide ((st.getD (i:Int).toNat (Ab tSt)).1=10)=true then 1 else 0:=fun h=>X7 isSink zStg h
 refine (aI (fun k0=>(aO (aI (fun k1=>(aO (aO ?_))) (fun k1=>(aO ?_))))) (fun k0=>(Aa rfl ?_)))
 ·have h1:=(hs (hlt k0)).trans (congrArg _ (if_pos k1))
  refine eI ((i+1,n+1)) (eI ([]) (aI ?_ (aI ?_ (aB (aI tT (by rfl))))))
  ·exact ⟨hlt k0,by show n+1=(((st.take (i+1)).countP isSink:Nat):Int);omega⟩
  ·have:=hlt k0
   show st.length - (i+1) < st.length - i
   omega
 ·have h1:=(hs (hlt k0)).trans (congrArg _ (if_neg (fun h=>Bool.false_ne_true (k1.symm.trans h))))
  refine eI ((i+1,n)) (eI ([]) (aI ?_ (aI ?_ (aB (aI tT (by rfl))))))
  ·exact ⟨hlt k0,by show n=(((st.take (i+1)).countP isSink:Nat):Int);omega⟩
  ·have:=hlt k0
   show st.length - (i+1) < st.length - i
   omega
 ·have hi2:i=st.length:=by have:¬ (i:Int) < (st.length:Int):=of_decide_eq_false k0;omega
  rw [hn,hi2,List.take_length];rfl
def cNoted:Ctr:=fnC [dSt,dSS] rIs (fun y=>y.1.1=9→0≤y.2.1.2.1∧y.2.1.2.1≤3) (fun y=>(Br y.1 y.2.1,()))
theorem Amm:GoodC Tryz.prog 153 cNoted:=by
 refine Ap Ag 3 _ _ _ _ ⟨_,Tryz.func153,rfl,rfl⟩ fun (⟨⟨k,z,⟨ek,eo,em,ev,ea⟩,l⟩,⟨hd,c,en⟩,_⟩ : StT × SST × Unit) hc=>?_
 refine (aF (aI (fun h0=>(Aa rfl ?_)) (fun h0=>(aI (fun h1=>(aI ?_ (Aa rfl ?_))) (fun h1=>(aI (fun h2=>(Aa rfl ?_)) (fun h2=>(Aa rfl ?_))))))))
 all_goals try unfold Br
 ·rw [if_pos (of_decide_eq_true h0)]
 ·have:=hc (of_decide_eq_true h1)
  exact ⟨this.1,show c < 4 by have:c≤3:=this.2;omega⟩
 ·rw [if_neg (of_decide_eq_false h0),if_pos (of_decide_eq_true h1)]
 ·have h3:k≠1∧en=true:=by
   have h2:(bif !decide (k=1) then en else false)=true:=h2
   by_cases hk:k=1
   ·rw [decide_eq_true hk] at h2;cases h2
   ·rw [decide_eq_false hk] at h2;exact ⟨hk,h2⟩
  rw [if_neg (of_decide_eq_false h0),if_neg (of_decide_eq_false h1),if_pos h3]
 ·have h3:¬ (k≠1∧en=true):=fun h=>by
   have h2:(bif !decide (k=1) then en else false)=false:=h2
   rw [decide_eq_false h.1,h.2] at h2;cases h2
  rw [if_neg (of_decide_eq_false h0),if_neg (of_decide_eq_false h1),if_neg h3]
def cxqE:Ctx:=⟨Ahm,[(84,([],cWi))]⟩
theorem Ads:Ah Tryz.prog cxqE:=C7 (Ae gWi Ag)
def cVal1:Ctr:=fnC [dI] rB (fun _=>True) (fun y=>(Av y.1,()))
theorem Anu:GoodC Tryz.prog 99 cVal1:=by
 refine Ap Ads 3 _ _ _ _ ⟨_,Tryz.func99,rfl,rfl⟩ fun ⟨n,_⟩ _=>?_
 refine (aF (aI tT (Aa rfl (by rfl))))
def cxqE2:Ctx:=⟨C5,[(99,([],cVal1))]⟩
theorem Sj:Ah Tryz.prog cxqE2:=Ae Anu Ag
def cIdxV:Ctr:=fnC [dIs,.fn 99 [] []] rI (fun _=>True) (fun y=>(Ak Av y.1 0,()))
theorem Anv:GoodC Tryz.prog 151 cIdxV:=by
 refine Ap Sj 3 _ _ _ _ ⟨_,Tryz.func151,rfl,rfl⟩ fun ⟨xs,_,_⟩ _=>?_
 refine (aF (fun h0=>?_))
 refine ex4 _ (fun i:Nat=>⟨[.sl (.int .i64) xs,.fn (Fn.func 99) [] [],.any,.any,.any,.any,.sl (.int .i64) xs,.int .i64 (↑(List.length xs):Int),.int .i64 (i:Int),.any,.any,.any,.any,.any,.any,.any,.any,.any,.any],[],0⟩) (fun i=>i≤xs.length∧Ak Av xs 0=Ak Av (xs.drop i) i) (fun i=>xs.length - i) (aI (eI (0) (eI ([]) (aI ?_ (aB (aI tT (by rfl)))))) ?_)
 ·exact ⟨Nat.zero_le _,rfl⟩
 rintro i ⟨hi,ht⟩
 refine (aI (fun k0=>(aO (aI tT (aI (fun k1=>(Aa rfl (by (try simp only [Bool.cond_true_left,Bool.cond_false_right,Bool.or_eq_true,Bool.or_eq_false_iff,Bool.and_eq_true,Bool.not_eq_true',Bool.not_eq_false',decide_eq_true_eq,decide_eq_false_iff_not] at *);rw [ht];first | (rw [Au Av 0 xs i (by omega)];simp_all;done) | (rw [List.drop_of_length_le (by omega)];rfl)))) (fun k1=>(aO ?_)))))) (fun k0=>(Aa rfl (by (try simp only [Bool.cond_true_left,Bool.cond_false_right,Bool.or_eq_true,Bool.or_eq_false_iff,Bool.and_eq_true,Bool.not_eq_true',Bool.not_eq_false',decide_eq_true_eq,decide_eq_false_iff_not] at *);rw [ht];first | (rw [Au Av 0 xs i (by omega)];simp_all;done) | (rw [List.drop_of_length_le (by omega)];rfl)))))
 refine eI (i+1) (eI ([]) (aI ?_ (aI ?_ (aB (aI tT (by rfl))))))
 ·have hi':i < xs.length:=by simp only [Bool.cond_true_left,Bool.cond_false_right,Bool.or_eq_true,Bool.or_eq_false_iff,Bool.and_eq_true,Bool.not_eq_true',Bool.not_eq_false',decide_eq_true_eq,decide_eq_false_iff_not] at *;omega
  refine ⟨hi', ?_⟩
  rw [ht,Au Av 0 xs i hi']
  simp_all
 ·simp only [Bool.cond_true_left,Bool.cond_false_right,Bool.or_eq_true,Bool.or_eq_false_iff,Bool.and_eq_true,Bool.not_eq_true',Bool.not_eq_false',decide_eq_true_eq,decide_eq_false_iff_not] at *;omega
def cxqE3:Ctx:=⟨C5,[(151,([],cIdxV)),(99,([],cVal1))]⟩
theorem Z1:Ah Tryz.prog cxqE3:=Ae Anv Sj
def cAnyV:Ctr:=fnC [dIs,.fn 99 [] []] rB (fun _=>True) (fun y=>(y.1.any Av,()))
theorem Anw:GoodC Tryz.prog 98 cAnyV:=by
 refine Ap Z1 3 _ _ _ _ ⟨_,Tryz.func98,rfl,rfl⟩ fun ⟨xs,_,_⟩ _=>?_
 refine (aF (aI tT (Aa rfl (by simp only;rw [Dn Av _ 0 (by omega)]))))
@[reducible] def tFs:Ty:=.pair (.sl tSS) (.pair (.sl A8) (.pair Xh .bool))
@[reducible] def dFs:AK:=.dat true tFs
theorem Ab0 {y:StT} {t:SST} (h:(Ar y t).2=0) (h9:y.1=9):0≤t.2.1∧t.2.1≤3:=by
 obtain ⟨⟨a1,a2,a3⟩,a4,a5⟩:=Ay.1 (Cp.1 h).2
 have hb2:Fp y=(3,1):=by unfold Fp;rw [if_neg (by omega),if_neg (by omega),if_neg (by omega),if_pos h9]
 rw [hb2] at a2
 exact ⟨a1,a2⟩
theorem Ahp {y:StT} {t:SST} (h:(Ar y t).2=0) {n:Int} (hn:n∈Br y t):0≤n∧n < stIn y:=by
 obtain ⟨c0,hv⟩:=Cp.1 h
 obtain ⟨⟨a1,a2,a3⟩,a4,a5⟩:=Ay.1 hv
 rw [Abo c0]
 have hkk:=Ie (Cu c0)
 unfold Br at hn
 by_cases h8:y.1=8
 ·rw [if_pos h8] at hn
  unfold vk at a5
  rw [if_neg (by omega),if_pos h8] at a5
  split at a5
  ·cases a5
  ·rename_i hb
   have hb:(List.range t.1.length).any (Cw t.1)=false:=by simpa using hb
   have hb2:Fp y=(1,2):=by unfold Fp;rw [if_neg (by omega),if_neg (by omega),if_pos h8]
   rw [hb2] at a3
   have k2:(Ao y.1).1=2:=by rw [h8];rfl
   rw [k2]
   rcases Agk a3 hb with h | h | h | h <;> rw [h] at hn <;> simp at hn <;> omega
 ·rw [if_neg h8] at hn
  by_cases h9:y.1=9
  ·rw [if_pos h9] at hn
   have k2:(Ao y.1).1=2:=by rw [h9];rfl
   rw [k2]
   obtain ⟨c1,c3⟩:=Ab0 h h9
   have hc:t.2.1=0∨t.2.1=1∨t.2.1=2∨t.2.1=3:=by omega
   rcases hc with hc | hc | hc | hc <;> rw [hc] at hn <;> simp at hn <;> omega
  ·rw [if_neg h9] at hn
   split at hn
   ·rename_i hk
    rw [List.mem_singleton.1 hn]
    refine ⟨Int.le_refl 0, ?_⟩
    have:=hk.1
    rcases hkk with h | h | h | h | h | h | h | h | h | h <;> first | contradiction | (rw [h];decide)
   ·simp at hn
def okS (x:PlT) (s:FsT):Prop:=WF x∧s.1.length=x.1.length∧s.2.1.length=x.2.length∧∀ i:Nat,i < x.1.length→(Ar (sg x (i:Int)) (Ci s (i:Int))).2=0
def O7:List (TypeId × Ty):=(65,A8) :: (84,tSS) :: Ahm
def cxqF:Ctx:=⟨O7,[(152,([],cFChk)),(145,([],cFEnd)),(92,([],cIn)),(153,([],cNoted))]⟩
theorem Adt:Ah Tryz.prog cxqF:=C7 (Ae Akp (Ae Akr (Ae gIn (Ae Amm Ag))))
theorem Qn {p:Nat→Bool} {n k:Nat} (hk:k < n) (h:p k=true):(List.range n).any p=true:=List.any_eq_true.2 ⟨k,List.mem_range.2 hk,h⟩
theorem Qo {p:Nat→Bool} {k:Nat} (h:(List.range k).any p=false) (h2:p k=false):(List.range (k+1)).any p=false:=by
 rw [List.range_succ,List.any_append,h];simp [h2]
theorem Aks (a b x y d:Bool):(bif bif bif !a then true else !b then true else !(x == y) then true else bif !x then !d else false)=(!a || (!b || (!decide (x=y) || (!x && !d)))):=by cases a <;> cases b <;> cases x <;> cases y <;> cases d <;> rfl
def cBuff:Ctr:=fnC [dPl,dFs] rB (fun y=>okS y.1 y.2.1) (fun y=>(N1 y.1 y.2.1,()))
set_option maxHeartbeats 8000000 in
theorem Anx:GoodC Tryz.prog 100 cBuff:=by
 refine Ap Adt 3 _ _ _ _ ⟨_,Tryz.func100,rfl,rfl⟩ fun (⟨⟨st,ps⟩,⟨ss,cs,os,dr⟩,_⟩ : PlT × FsT × Unit) hk=>?_
 replace hk:okS (st,ps) (ss,cs,os,dr):=hk
 refine (aF (fun h0=>?_))
 refine ex4 _ (fun k:Nat=>⟨[.any,.any,.ptr 0 0,.ptr 1 0,.any,.any,.any,.any,.any,.any,.any,.any,.ptr 1 1,.sl A8 cs,.int .i64 (↑cs.length:Int),.int .i64 (k:Int)]++nA 79,[.cells [.sl tSt st,.sl A3 ps],.cells [.sl tSS ss,.sl A8 cs,.sl (.sl (.int .i64)) os,.bool dr]],2⟩) (fun k=>k≤cs.length∧(List.range k).any (fun k=>T8 (ss,cs,os,dr) (ps.getD k Aw) (cs.getD k A9))=false) (fun k=>cs.length - k) (aI (eI (0) (eI ([some 0,some 1]) (aI ?_ (aB (aI (aI (aA (by rfl)) (aI (aA (by rfl)) tT)) (by rfl)))))) ?_)
 ·exact ⟨Nat.zero_le _,rfl⟩
 rintro k ⟨hkl,hc⟩
 have hlt:decide ((k:Int) < (cs.length:Int))=true→k < cs.length:=fun h=>by have:=of_decide_eq_true h;omega
 have hl2:cs.length=ps.length:=hk.2.2.1
 have hl1:ss.length=st.length:=hk.2.1
 have hp:k < cs.length→0≤(ps.getD (k:Int).toNat (Ab A3)).1∧(ps.getD (k:Int).toNat (Ab A3)).1 < ss.length:=fun h=>by
  have:=hk.1.pipe (k:=k) (show k < ps.length by omega)
  have h1:=this.f0
  have h2:=this.fn
  refine ⟨h1, ?_⟩
  rw [hl1];exact h2
 have hF:k < cs.length→T8 (ss,cs,os,dr) (ps.getD (k:Int).toNat (Ab A3)) (cs.getD (k:Int).toNat (Ab A8))=true→N1 (st,ps) (ss,cs,os,dr)=false:=fun h1 h2=>by
  unfold N1
  exact if_pos (Qn h1 h2)
 refine (aI (fun k0=>(aO (aO (aF (aI tT (aI (fun k1=>(by intros;(try subst_vars);(try simp only [nB] at *);(try simp only [inK,big,lim,nL] at *);omega)) (aI (fun k2=>?_) (aI (fun k3=>(Aa rfl ?_)) (fun k3=>(aO ?_)))))))))) (fun k0=>(fun k4=>?_)))
 ·have kc:=Iu (Iu k2.1).1
  have hz:Bp (cs.getD (k:Int).toNat (Ab A8))=0:=of_decide_eq_true (Bw kc.1)
  have:=Dh hz
  show -9223372036854775808≤(cs.getD (k:Int).toNat (Ab A8)).2.2.2.1+(cs.getD (k:Int).toNat (Ab A8)).1∧(cs.getD (k:Int).toNat (Ab A8)).2.2.2.1+(cs.getD (k:Int).toNat (Ab A8)).1≤9223372036854775807
  omega
 ·rw [Aks] at k3
  exact congrArg (fun b=>(b,())) (hF (hlt k0) k3)
 ·rw [Aks] at k3
  refine eI (k+1) (eI ([some 0,some 1]) (aI ?_ (aI ?_ (aB (aI (aI (aA (by rfl)) (aI (aA (by rfl)) tT)) (by rfl))))))
  ·exact ⟨hlt k0,Qo hc k3⟩
  ·have:=hlt k0
   show cs.length - (k+1) < cs.length - k
   omega
 have hk2:k=cs.length:=by
  have:¬ (k:Int) < (cs.length:Int):=of_decide_eq_false k0
  omega
 subst hk2
 clear hlt hp hF k0
 have p1:N1 (st,ps) (ss,cs,os,dr)=!(List.range ss.length).any (fun i=>(Br (sg (st,ps) i) (ss.getD i ([],0,false))).any (fun n=>!Cf (Dt (ss,cs,os,dr) (pIn (st,ps) i n)))):=by
  unfold N1
  exact if_neg (fun h=>Bool.false_ne_true (hc.symm.trans h))
 refine ex4 _ (fun i:Nat=>⟨[.any,.any,.ptr 0 0,.ptr 1 0,.any,.any,.any,.any,.any,.any,.any,.any,.any,.any,.any,.any,.any,.any,.any,.any,.any,.any,.any,.any,.any,.any,.any,.any,.any,.any,.any,.any,.any,.any,.any,.any,.any,.any,.any,.any,.any,.any,.any,.any,.any,.any,.any,.any,.any,.any,.any,.any,.any,.any,.any,.any,.any,.any,.any,.any,.any,.any,.any,.ptr 1 0,.sl tSS ss,.int .i64 (↑ss.length:Int),.int .i64 (i:Int)]++nA 28,[.cells [.sl tSt st,.sl A3 ps],.cells [.sl tSS ss,.sl A8 cs,.sl (.sl (.int .i64)) os,.bool dr]],2⟩) (fun i=>i≤ss.length∧(List.range i).any (fun i=>(Br (sg (st,ps) i) (ss.getD i ([],0,false))).any (fun n=>!Cf (Dt (ss,cs,os,dr) (pIn (st,ps) i n))))=false) (fun i=>ss.length - i) (aI (eI (0) (eI ([some 0,some 1]) (aI ?_ (aB (aI (aI (aA (by rfl)) (aI (aA (by rfl)) tT)) (by rfl)))))) ?_)
 ·exact ⟨Nat.zero_le _,rfl⟩
 rintro i ⟨hi,hc2⟩
 have hlt:decide ((i:Int) < (ss.length:Int))=true→i < ss.length:=fun h=>by have:=of_decide_eq_true h;omega
 have hnd:i < ss.length→(Ar (st.getD (i:Int).toNat (Ab tSt)) (ss.getD (i:Int).toNat (Ab tSS))).2=0:=fun h=>hk.2.2.2 i (show i < st.length by omega)
 have hi0:(0:Int)≤(i:Int):=Int.natCast_nonneg i
 refine (aI (fun m0=>(aO (aF (aO (aI (fun m1=>?_) (fun m2=>?_)))))) (fun m0=>(Aa rfl ?_)))
 ·exact Ab0 (hnd (hlt m0)) m1
 ·have hin:∀ n∈Br (st.getD (i:Int).toNat (Ab tSt)) (ss.getD (i:Int).toNat (Ab tSS)),0≤pIn (st,ps) i n∧pIn (st,ps) i n < cs.length:=fun n hn=>by
   have h1:=Ahp (hnd (hlt m0)) hn
   obtain ⟨k,k1,k2,_⟩:=hk.1.ins hi0 (show (i:Int) < st.length by have:=hlt m0;omega) h1.1 h1.2
   rw [k2]
   have k1:k < ps.length:=k1
   omega
  have hF:(Br (st.getD (i:Int).toNat (Ab tSt)) (ss.getD (i:Int).toNat (Ab tSS))).any (fun n=>!Cf (Dt (ss,cs,os,dr) (pIn (st,ps) i n)))=true→N1 (st,ps) (ss,cs,os,dr)=false:=fun h2=>by
   rw [p1]
   exact congrArg (fun b=>!b) (Qn (k:=i) (hlt m0) h2)
  have hT:(Br (st.getD (i:Int).toNat (Ab tSt)) (ss.getD (i:Int).toNat (Ab tSS))).any (fun n=>!Cf (Dt (ss,cs,os,dr) (pIn (st,ps) i n)))=false→(List.range (i+1)).any (fun i=>(Br (sg (st,ps) i) (ss.getD i ([],0,false))).any (fun n=>!Cf (Dt (ss,cs,os,dr) (pIn (st,ps) i n))))=false:=fun h2=>Qo hc2 h2
  have en:Br ((st.getD (i:Int).toNat (Ab tSt)).1,(st.getD (i:Int).toNat (Ab tSt)).2.1,ExprT.mk (ExprT.kind (st.getD (i:Int).toNat (Ab tSt)).2.2.1) (ExprT.op (st.getD (i:Int).toNat (Ab tSt)).2.2.1) (ExprT.name (st.getD (i:Int).toNat (Ab tSt)).2.2.1) (ExprT.value (st.getD (i:Int).toNat (Ab tSt)).2.2.1) (ExprT.args (st.getD (i:Int).toNat (Ab tSt)).2.2.1),(st.getD (i:Int).toNat (Ab tSt)).2.2.2) ((ss.getD (i:Int).toNat (Ab tSS)).1,(ss.getD (i:Int).toNat (Ab tSS)).2.1,(ss.getD (i:Int).toNat (Ab tSS)).2.2)=Br (st.getD (i:Int).toNat (Ab tSt)) (ss.getD (i:Int).toNat (Ab tSS)):=by rw [eta]
  obtain ⟨nl,hnl⟩ : ∃ nl,Br (st.getD (i:Int).toNat (Ab tSt)) (ss.getD (i:Int).toNat (Ab tSS))=nl:=⟨_,rfl⟩
  rw [hnl] at hin hF hT en
  refine ex4 _ (fun j:Nat=>⟨[.any,.any,.ptr 0 0,.ptr 1 0,.any,.any,.any,.any,.int .i64 (↑i:Int),.ptr 2 0,.any,.any,.any,.any,.any,.any,.any,.any,.any,.any,.any,.any,.any,.any,.any,.any,.any,.any,.any,.any,.any,.any,.any,.any,.any,.any,.any,.any,.any,.any,.any,.any,.any,.any,.any,.any,.any,.any,.any,.any,.any,.any,.any,.any,.any,.any,.any,.any,.any,.any,.any,.any,.any,.ptr 1 0,.sl tSS ss,.int .i64 (↑ss.length:Int),.int .i64 (↑i:Int),.bool (decide ((↑i:Int) < (↑ss.length:Int))),.int .i64 (↑i:Int),.eptr   [PV.sl (.int .i64) (ss.getD (↑i:Int).toNat (Ab tSS)).1,     PV.int .i64 (ss.getD (↑i:Int).toNat (Ab tSS)).2.1,PV.bool (ss.getD (↑i:Int).toNat (Ab tSS)).2.2],.agg   [.sl (.int .i64) (ss.getD (↑i:Int).toNat (Ab tSS)).1,     .int .i64 (ss.getD (↑i:Int).toNat (Ab tSS)).2.1,.bool (ss.getD (↑i:Int).toNat (Ab tSS)).2.2],.ptr 0 0,.sl tSt st,.int .i64 (↑i:Int),.eptr   [PV.int .i64 (st.getD (↑i:Int).toNat (Ab tSt)).1,     PV.int .i64 (st.getD (↑i:Int).toNat (Ab tSt)).2.1,     PV.int .i64 (ExprT.kind (st.getD (↑i:Int).toNat (Ab tSt)).2.2.1),     PV.int .i64 (ExprT.op (st.getD (↑i:Int).toNat (Ab tSt)).2.2.1),     PV.str (ExprT.name (st.getD (↑i:Int).toNat (Ab tSt)).2.2.1),     PV.int .i64 (ExprT.value (st.getD (↑i:Int).toNat (Ab tSt)).2.2.1),     PV.sl .expr (ExprT.args (st.getD (↑i:Int).toNat (Ab tSt)).2.2.1),     PV.sl (.int .i64) (st.getD (↑i:Int).toNat (Ab tSt)).2.2.2],.agg   [.int .i64 (st.getD (↑i:Int).toNat (Ab tSt)).1,     .int .i64 (st.getD (↑i:Int).toNat (Ab tSt)).2.1,     .int .i64 (ExprT.kind (st.getD (↑i:Int).toNat (Ab tSt)).2.2.1),     .int .i64 (ExprT.op (st.getD (↑i:Int).toNat (Ab tSt)).2.2.1),     .str (ExprT.name (st.getD (↑i:Int).toNat (Ab tSt)).2.2.1),     .int .i64 (ExprT.value (st.getD (↑i:Int).toNat (Ab tSt)).2.2.1),     .sl .expr (ExprT.args (st.getD (↑i:Int).toNat (Ab tSt)).2.2.1),     .sl (.int .i64) (st.getD (↑i:Int).toNat (Ab tSt)).2.2.2],.agg   [.sl (.int .i64) (ss.getD (↑i:Int).toNat (Ab tSS)).1,     .int .i64 (ss.getD (↑i:Int).toNat (Ab tSS)).2.1,.bool (ss.getD (↑i:Int).toNat (Ab tSS)).2.2],.sl (.int .i64)   (Br     ((st.getD (↑i:Int).toNat (Ab tSt)).1,(st.getD (↑i:Int).toNat (Ab tSt)).2.1,       ExprT.mk (ExprT.kind (st.getD (↑i:Int).toNat (Ab tSt)).2.2.1)         (ExprT.op (st.getD (↑i:Int).toNat (Ab tSt)).2.2.1) (ExprT.name (st.getD (↑i:Int).toNat (Ab tSt)).2.2.1)         (ExprT.value (st.getD (↑i:Int).toNat (Ab tSt)).2.2.1)         (ExprT.args (st.getD (↑i:Int).toNat (Ab tSt)).2.2.1),       (st.getD (↑i:Int).toNat (Ab tSt)).2.2.2)     ((ss.getD (↑i:Int).toNat (Ab tSS)).1,(ss.getD (↑i:Int).toNat (Ab tSS)).2.1,       (ss.getD (↑i:Int).toNat (Ab tSS)).2.2)),.int .i64   (↑(Br           ((st.getD (↑i:Int).toNat (Ab tSt)).1,(st.getD (↑i:Int).toNat (Ab tSt)).2.1,             ExprT.mk (ExprT.kind (st.getD (↑i:Int).toNat (Ab tSt)).2.2.1)               (ExprT.op (st.getD (↑i:Int).toNat (Ab tSt)).2.2.1)               (ExprT.name (st.getD (↑i:Int).toNat (Ab tSt)).2.2.1)               (ExprT.value (st.getD (↑i:Int).toNat (Ab tSt)).2.2.1)               (ExprT.args (st.getD (↑i:Int).toNat (Ab tSt)).2.2.1),             (st.getD (↑i:Int).toNat (Ab tSt)).2.2.2)           ((ss.getD (↑i:Int).toNat (Ab tSS)).1,(ss.getD (↑i:Int).toNat (Ab tSS)).2.1,             (ss.getD (↑i:Int).toNat (Ab tSS)).2.2)).length :     Int),.int .i64 (j:Int)]++nA 15,[.cells [.sl tSt st,.sl A3 ps],.cells [.sl tSS ss,.sl A8 cs,.sl (.sl (.int .i64)) os,.bool dr],.cells   [.sl (.int .i64) (ss.getD (↑i:Int).toNat (Ab tSS)).1,     .int .i64 (ss.getD (↑i:Int).toNat (Ab tSS)).2.1,.bool (ss.getD (↑i:Int).toNat (Ab tSS)).2.2]],3⟩) (fun j=>j≤nl.length∧(nl.take j).any (fun n=>!Cf (Dt (ss,cs,os,dr) (pIn (st,ps) i n)))=false) (fun j=>nl.length - j) (aI (eI (0) (eI ([some 0,some 1,some 2]) (aI ?_ (aB (aI (aI (aA (by rfl)) (aI (aA (by rfl)) (aI (aA (by rfl)) tT))) (by rfl)))))) ?_)
  ·exact ⟨Nat.zero_le _,rfl⟩
  rintro j ⟨hj,hc3⟩
  have hlt2:decide ((j:Int) < (nl.length:Int))=true→j < nl.length:=fun h=>by have:=of_decide_eq_true h;omega
  have hmem:j < nl.length→nl.getD j 0∈nl:=fun h=>by rw [Bt h];exact List.getElem_mem h
  refine (aI (fun n0=>(aO (aF (aI tT (aI ?_ (aI tT (aI (fun n1=>(Aa rfl ?_)) (fun n1=>(aO ?_))))))))) (fun n0=>(aO ?_)))
  ·have hj1:j < nl.length:=by rw [← en];exact Int.ofNat_lt.1 (of_decide_eq_true n0)
   have h:=hin _ (hmem hj1)
   rw [← en] at h
   exact h
  ·have hj1:j < nl.length:=by rw [← en];exact Int.ofNat_lt.1 (of_decide_eq_true n0)
   have h1:(!Cf (Dt (ss,cs,os,dr) (pIn (st,ps) i (nl.getD j 0))))=true:=by rw [← en];exact n1
   exact congrArg (fun b=>(b,())) (hF (List.any_eq_true.2 ⟨_,hmem hj1,h1⟩))
  ·have hj1:j < nl.length:=by rw [← en];exact Int.ofNat_lt.1 (of_decide_eq_true n0)
   have h1:(!Cf (Dt (ss,cs,os,dr) (pIn (st,ps) i (nl.getD j 0))))=false:=by rw [← en];exact n1
   clear n0 n1
   refine eI (j+1) (eI ([some 0,some 1,some 2]) (aI ?_ (aI ?_ (aB (aI (aI (aA (by rfl)) (aI (aA (by rfl)) (aI (aA (by rfl)) tT))) (by rfl))))))
   ·refine ⟨hj1, ?_⟩
    rw [List.take_succ_eq_append_getElem hj1,List.any_append,hc3,Bool.false_or,List.any_cons,List.any_nil,Bool.or_false,← Bt (d:=0) hj1]
    exact h1
   ·show nl.length - (j+1) < nl.length - j
    omega
  ·have hj1:¬ j < nl.length:=by rw [← en];exact fun h=>of_decide_eq_false n0 (Int.ofNat_lt.2 h)
   clear n0
   refine eI (i+1) (eI ([some 0,some 1]) (aI ?_ (aI ?_ (aB (aI (aI (aA (by rfl)) (aI (aA (by rfl)) tT)) (by rfl))))))
   ·refine ⟨hlt m0,hT ?_⟩
    rwa [List.take_of_length_le (by omega)] at hc3
   ·have:=hlt m0
    show ss.length - (i+1) < ss.length - i
    omega
 ·have hi2:i=ss.length:=by
   have:¬ (i:Int) < (ss.length:Int):=of_decide_eq_false m0
   omega
  subst hi2
  rw [p1,hc2];rfl
def cxqG:Ctx:=⟨O7,[(64,([],cSinks)),(97,([],c31)),(98,([],cAnyV)),(100,([],cBuff))]⟩
theorem Adu:Ah Tryz.prog cxqG:=C7 (Ae Z0 (Ae R7 (Ae Anw (Ae Anx Ag))))
theorem Ahq (l:List Int):(bif decide (200 < (l.length:Int)) then true else l.any Av)=H0 l:=by unfold H0;cases decide (200 < (l.length:Int)) <;> rfl
def cValid:Ctr:=fnC [dPl,dFs] rB (fun y=>WF y.1) (fun y=>(J1 y.1 y.2.1,()))
set_option maxHeartbeats 8000000 in
theorem Amn:GoodC Tryz.prog 60 cValid:=by
 refine Ap Adu 3 _ _ _ _ ⟨_,Tryz.func60,rfl,rfl⟩ fun (⟨⟨st,ps⟩,⟨ss,cs,os,dr⟩,_⟩ : PlT × FsT × Unit) hk=>?_
 replace hk:WF (st,ps):=hk
 refine (aF (aF (aI (fun h0 h1 h2 h3 h4=>tT) (fun h5=>(fun h6=>(fun h7=>(fun h8=>(fun h9=>(aI (fun h10=>(Aa rfl ?_)) (fun h10=>(fun h11=>?_)))))))))))
 ·have h:ss.length≠st.length∨cs.length≠ps.length∨(os.length:Int)≠Bq st:=by
   have h10:(bif bif !decide ((ss.length:Int)=st.length) then true else !decide ((cs.length:Int)=ps.length) then true else !decide ((os.length:Int)=Bq st))=true:=h10
   apply Classical.byContradiction
   intro hn
   rw [decide_eq_true (show (ss.length:Int)=st.length by omega),decide_eq_true (show (cs.length:Int)=ps.length by omega),decide_eq_true (show (os.length:Int)=Bq st by omega)] at h10
   cases h10
  exact congrArg (fun b=>(b,())) (if_pos h)
 have hL:ss.length=st.length∧cs.length=ps.length∧(os.length:Int)=Bq st:=by
  have a:=Iu h10
  have b:=Iu a.1
  have b1:(ss.length:Int)=st.length:=of_decide_eq_true (Bw b.1)
  have b2:(cs.length:Int)=ps.length:=of_decide_eq_true (Bw b.2)
  have b3:(os.length:Int)=Bq st:=of_decide_eq_true (Bw a.2)
  exact ⟨by omega,by omega,b3⟩
 have p1:J1 (st,ps) (ss,cs,os,dr)=if (List.range ss.length).any (fun i=>!decide ((Ar (sg (st,ps) i) (ss.getD i ([],0,false))).2=0))=true then false
  else if os.any H0=true then false else N1 (st,ps) (ss,cs,os,dr):=if_neg (show ¬ (ss.length≠st.length∨cs.length≠ps.length∨(os.length:Int)≠Bq st) by omega)
 clear h5 h6 h7 h10
 refine ex4 _ (fun i:Nat=>⟨[.any,.any,.ptr 0 0,.ptr 1 0,.any,.any,.any,.any,.any,.any,.any,.any,.any,.any,.any,.any,.any,.any,.any,.any,.any,.any,.any,.any,.any,.any,.any,.any,.any,.any,.any,.any,.any,.any,.any,.any,.ptr 1 0,.sl tSS ss,.int .i64 (↑ss.length:Int),.int .i64 (i:Int)]++nA 35,[.cells [.sl tSt st,.sl A3 ps],.cells [.sl tSS ss,.sl A8 cs,.sl (.sl (.int .i64)) os,.bool dr]],2⟩) (fun i=>i≤ss.length∧(List.range i).any (fun i=>!decide ((Ar (sg (st,ps) i) (ss.getD i ([],0,false))).2=0))=false) (fun i=>ss.length - i) (aI (eI (0) (eI ([some 0,some 1]) (aI ?_ (aB (aI (aI (aA (by rfl)) (aI (aA (by rfl)) tT)) (by rfl)))))) ?_)
 ·exact ⟨Nat.zero_le _,rfl⟩
 rintro i ⟨hi,hc⟩
 have hlt:decide ((i:Int) < (ss.length:Int))=true→i < ss.length:=fun h=>by have:=of_decide_eq_true h;omega
 have hF:i < ss.length→(!decide ((Ar (st.getD (i:Int).toNat (Ab tSt)) (ss.getD (i:Int).toNat (Ab tSS))).2=0))=true→J1 (st,ps) (ss,cs,os,dr)=false:=fun h1 h2=>p1.trans (if_pos (Qn h1 h2))
 have hT:i < ss.length→(!decide ((Ar (st.getD (i:Int).toNat (Ab tSt)) (ss.getD (i:Int).toNat (Ab tSS))).2=0))=false→(List.range (i+1)).any (fun i=>!decide ((Ar (sg (st,ps) i) (ss.getD i ([],0,false))).2=0))=false:=fun h1 h2=>Qo hc h2
 refine (aI (fun k0=>(aO (aF (aO (aI tT (aI (fun k1=>(Aa rfl ?_)) (fun k1=>(aO ?_)))))))) (fun k0=>(fun k2=>?_)))
 ·simp only [eta] at k1
  exact congrArg (fun b=>(b,())) (hF (hlt k0) k1)
 ·simp only [eta] at k1
  have hi1:=hlt k0
  have h2:=hT hi1 k1
  clear k0 k1
  refine eI (i+1) (eI ([some 0,some 1]) (aI ?_ (aI ?_ (aB (aI (aI (aA (by rfl)) (aI (aA (by rfl)) tT)) (by rfl))))))
  ·exact ⟨hi1,h2⟩
  ·show ss.length - (i+1) < ss.length - i
   omega
 have hi2:i=ss.length:=by
  have:¬ (i:Int) < (ss.length:Int):=of_decide_eq_false k0
  omega
 subst hi2
 rw [if_neg (fun h=>Bool.false_ne_true (hc.symm.trans h))] at p1
 clear hlt hF hT k0
 refine ex4 _ (fun j:Nat=>⟨[.any,.any,.ptr 0 0,.ptr 1 0,.any,.any,.any,.any,.any,.any,.any,.any,.any,.any,.any,.any,.any,.any,.any,.any,.any,.any,.any,.any,.any,.any,.any,.any,.any,.any,.any,.any,.any,.any,.any,.any,.any,.any,.any,.any,.any,.any,.any,.any,.any,.any,.any,.any,.any,.any,.any,.any,.any,.any,.any,.any,.any,.ptr 1 2,.sl (.sl (.int .i64)) os,.int .i64 (↑os.length:Int),.int .i64 (j:Int)]++nA 14,[.cells [.sl tSt st,.sl A3 ps],.cells [.sl tSS ss,.sl A8 cs,.sl (.sl (.int .i64)) os,.bool dr]],2⟩) (fun j=>j≤os.length∧(os.take j).any H0=false) (fun j=>os.length - j) (aI (eI (0) (eI ([some 0,some 1]) (aI ?_ (aB (aI (aI (aA (by rfl)) (aI (aA (by rfl)) tT)) (by rfl)))))) ?_)
 ·exact ⟨Nat.zero_le _,rfl⟩
 rintro j ⟨hj,hc2⟩
 have hlt:decide ((j:Int) < (os.length:Int))=true→j < os.length:=fun h=>by have:=of_decide_eq_true h;omega
 have hF:j < os.length→H0 (os.getD (j:Int).toNat (Ab tIs))=true→J1 (st,ps) (ss,cs,os,dr)=false:=fun h1 h2=>p1.trans (if_pos (List.any_eq_true.2 ⟨os.getD j [],by rw [Bt h1];exact List.getElem_mem h1,h2⟩))
 have hT:j < os.length→H0 (os.getD (j:Int).toNat (Ab tIs))=false→(os.take (j+1)).any H0=false:=fun h1 h2=>by
  rw [List.take_succ_eq_append_getElem h1,List.any_append,hc2,Bool.false_or,List.any_cons,List.any_nil,Bool.or_false,← Bt (d:=[]) h1]
  exact h2
 refine (aI (fun m0=>(aO (fun m1=>(aI (fun m2=>tT) (aI (fun m3=>(Aa rfl ?_)) (fun m3=>(aO ?_))))))) (fun m0=>(aI ?_ (Aa rfl ?_))))
 ·rw [Ahq] at m3
  exact congrArg (fun b=>(b,())) (hF (hlt m0) m3)
 ·rw [Ahq] at m3
  have hj1:=hlt m0
  have h2:=hT hj1 m3
  clear m0 m1 m3
  refine eI (j+1) (eI ([some 0,some 1]) (aI ?_ (aI ?_ (aB (aI (aI (aA (by rfl)) (aI (aA (by rfl)) tT)) (by rfl))))))
  ·exact ⟨hj1,h2⟩
  ·show os.length - (j+1) < os.length - j
   omega
 ·refine ⟨hk,hL.1,hL.2.1,fun i hi=>?_⟩
  have h:=List.any_eq_false.1 hc i (List.mem_range.2 (show i < ss.length by have:i < st.length:=hi;omega))
  have h2:(!decide ((Ar (sg (st,ps) (i:Int)) (Ci (ss,cs,os,dr) (i:Int))).2=0))=false:=by
   cases hb:(!decide ((Ar (sg (st,ps) (i:Int)) (Ci (ss,cs,os,dr) (i:Int))).2=0))
   ·rfl
   ·exact absurd hb h
  exact of_decide_eq_true (Bw h2)
 ·have hj1:¬ (j:Int) < (os.length:Int):=of_decide_eq_false m0
  rw [List.take_of_length_le (by omega)] at hc2
  exact congrArg (fun b=>(b,())) (p1.trans (if_neg (fun h=>Bool.false_ne_true (hc2.symm.trans h))))
def cxqG2:Ctx:=⟨O7,[(51,([],cPChk)),(60,([],cValid))]⟩
theorem Z2:Ah Tryz.prog cxqG2:=C7 (Ae Aho (Ae Amn Ag))
def cVal:Ctr:=fnC [dPl,dFs] rI (fun _=>True) (fun y=>(Cv y.1 y.2.1,()))
theorem Aj0:GoodC Tryz.prog 30 cVal:=by
 refine Ap Z2 3 _ _ _ _ ⟨_,Tryz.func30,rfl,rfl⟩ fun (⟨⟨st,ps⟩,⟨ss,cs,os,dr⟩,_⟩ : PlT × FsT × Unit) _=>?_
 refine (aF (aI tT (aI (fun h0=>?_) (aI (fun h1=>(Aa rfl ?_)) (fun h1=>(Aa rfl ?_))))))
 ·exact Kz.1 (of_decide_eq_true (Bw h0))
 ·unfold Cv
  rw [if_pos]
  have h1:(bif !decide (It (st,ps)=0) then true else !J1 (st,ps) (ss,cs,os,dr))=true:=h1
  by_cases hp:It (st,ps)=0
  ·rw [decide_eq_true hp] at h1
   right
   cases hv:J1 (st,ps) (ss,cs,os,dr)
   ·rfl
   ·rw [hv] at h1;cases h1
  ·exact .inl hp
 ·unfold Cv
  have h2:=Iu h1
  rw [if_neg]
  rintro (h | h)
  ·exact h (of_decide_eq_true (Bw h2.1))
  ·exact Bool.false_ne_true (h.symm.trans (Bw h2.2))
def cxqG3:Ctx:=⟨O7,[(30,([],cVal))]⟩
theorem Z3:Ah Tryz.prog cxqG3:=C7 (Ae Aj0 Ag)
def cDVal:Ctr:=fnC [dPl,dFs] rB (fun _=>True) (fun y=>(decide (Cv y.1 y.2.1=0),()))
theorem Ahr:GoodC Tryz.prog 41 cDVal:=by
 refine Ap Z3 3 _ _ _ _ ⟨_,Tryz.func41,rfl,rfl⟩ fun (⟨⟨st,ps⟩,⟨ss,cs,os,dr⟩,_⟩ : PlT × FsT × Unit) _=>?_
 refine (aF (aI tT (Aa rfl (by rfl))))
end Go.Proofs.YtckpldpombdkgaaGreat
