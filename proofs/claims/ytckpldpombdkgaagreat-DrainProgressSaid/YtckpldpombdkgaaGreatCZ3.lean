/- Pipelines. -/
import Derived.Test.YtckpldpombdkgaaGreatCZ2
set_option linter.unusedSimpArgs false
set_option linter.unusedVariables false
set_option maxRecDepth 100000
namespace Go.Proofs.YtckpldpombdkgaaGreat
open Go.Sx
def one (b:Bool):Int:=if b=true then 1 else 0
def opF (o a b:Int):Int × Int :=
 if o=3 then (a+b,0) else if o=4 then (a - b,0) else if o=5 then B3 a b
 else if o=6 then (if b=0 then (0,24) else (a.tdiv b,0)) else if o=7 then (if b=0 then (0,24) else (a.tmod b,0))
 else if o=8 then (one (decide (a=b)),0) else if o=9 then (one (!decide (a=b)),0)
 else if o=10 then (one (decide (a < b)),0) else if o=11 then (one (decide (a≤b)),0)
 else if o=12 then (one (decide (b < a)),0) else if o=13 then (one (decide (b≤a)),0)
 else if o=14 then (one (bif !decide (a=0) then !decide (b=0) else false),0)
 else (one (bif !decide (a=0) then true else !decide (b=0)),0)
def Ox (l:List Bd) (e:ExprT) (vs:List Int):Int × Int :=
 if e.kind=1 then (e.value,0) else if e.kind=2 then ((Cl l e.name).1.2.2,0)
 else if e.kind=3 then (if e.op=2 then (1 - vs.getD 0 0,0) else (0 - vs.getD 0 0,0))
 else opF e.op (vs.getD 0 0) (vs.getD 1 0)
def Ff (r:Int × Int):Int × Int :=
 if r.2≠0 then (0,r.2) else if 1099511627776 < Cz r.1 then (0,14) else r
mutual
def Er (l:List Bd):ExprT→Int × Int
 | .mk k o nm v args=>if (Ew l args).2=0 then Ff (Ox l (.mk k o nm v args) (Ew l args).1) else (0,(Ew l args).2)
def Ew (l:List Bd):List ExprT→List Int × Int
 | []=>([],0)
 | e :: r=>if (Er l e).2=0 then ((Er l e).1 :: (Ew l r).1,(Ew l r).2) else ([],(Er l e).2)
end
theorem Nu (l:List Bd) (e:ExprT):Er l e=if (Ew l e.args).2=0 then Ff (Ox l e (Ew l e.args).1) else (0,(Ew l e.args).2):=by
 obtain ⟨k,o,nm,v,args⟩:=e
 rfl
theorem T0 (l:List Bd) {args:List ExprT} {i:Nat} {e0:ExprT} (h:i < args.length):Ew l (args.drop i) =
 if (Er l (args.getD i e0)).2=0 then ((Er l (args.getD i e0)).1 :: (Ew l (args.drop (i+1))).1,(Ew l (args.drop (i+1))).2) else ([],(Er l (args.getD i e0)).2):=by
 rw [List.drop_eq_getElem_cons h]
 simp [Ew,List.getD,h]
def inM (n:Int):Prop:=-1099511627776≤n∧n≤1099511627776
theorem Abd (r:Int × Int):inM (Ff r).1:=by
 have z:inM 0:=⟨by decide,by decide⟩
 unfold Ff
 split
 ·exact z
 ·split
  ·exact z
  ·rename_i h
   unfold inM
   rcases Gg r.1 with ⟨h1,h2⟩ | ⟨h1,h2⟩ <;> omega
theorem Ajf (l:List Bd) (e:ExprT):inM (Er l e).1:=by
 have z:inM 0:=⟨by decide,by decide⟩
 rw [Nu]
 split
 ·exact Abd _
 ·exact z
theorem Nv {n:Int} (h:decide (1099511627776 < Cz n)=true):Ff (n,0)=(0,14):=by
 unfold Ff
 rw [if_neg (by simp),if_pos (of_decide_eq_true h)]
theorem Nw {n:Int} (h:decide (1099511627776 < Cz n)=false):Ff (n,0)=(n,0):=by
 unfold Ff
 rw [if_neg (by simp),if_neg (of_decide_eq_false h)]
theorem Ajg {n f:Int} (h:f≠0):Ff (n,f)=(0,f):=by
 unfold Ff
 rw [if_pos h]
theorem Vn {vs:List Int} (h:∀ v∈vs,inM v) (n:Nat):inM (vs.getD n 0):=by
 by_cases hn:n < vs.length
 ·rw [List.getD_eq_getElem?_getD,List.getElem?_eq_getElem hn]
  exact h _ (List.getElem_mem hn)
 ·rw [List.getD_eq_getElem?_getD,List.getElem?_eq_none (by omega)]
  exact ⟨by decide,by decide⟩
def Af1 (l:List Bd):Prop:=∀ b∈l,inM b.2.2
theorem Ajh {l:List Bd} (h:Af1 l) (s:ByteArray):inM (Cl l s).1.2.2:=by
 unfold Cl
 split
 ·exact ⟨by decide,by decide⟩
 ·rename_i h1
  have h2:=Mo (Jc s) l 0 (Int.le_refl _)
  have h3:0≤Ak (Jc s) l 0:=by simpa using h1
  have h4:(Ak (Jc s) l 0).toNat < l.length:=by omega
  refine h _ ?_
  simp [List.getD_eq_getElem?_getD,List.getElem?_eq_getElem h4]
theorem Af2 (a b:Int):-1099511627776≤(B3 a b).1∧(B3 a b).1≤1099511627776:=by
 unfold B3
 split
 ·exact ⟨by show _≤(0:Int);decide,by show (0:Int)≤_;decide⟩
 ·rename_i h
  exact Pt (by simpa using h)
theorem Af3 (a b:Int) (h:(B3 a b).2≠0):(B3 a b).1=0:=by
 unfold B3 at h ⊢
 split
 ·rfl
 ·rename_i h1
  rw [if_neg h1] at h
  exact absurd rfl h
theorem Abe (a b:Int):(a.tdiv b).natAbs≤a.natAbs:=by
 rw [Int.natAbs_tdiv];exact Nat.div_le_self _ _
theorem Aji (a b:Int):(a.tmod b).natAbs≤a.natAbs:=by
 rw [Int.natAbs_tmod];exact Nat.mod_le _ _
def Anl (N:Nat):Ctr:=fnC [dX,Vc] rII (fun y=>(Ed y.1=0∧Af1 y.2.1)∧exW y.1 < N) (fun y=>((Er y.2.1 y.1).1,(Er y.2.1 y.1).2,()))
def Anm (N:Nat):Ctx:=⟨C5,[(258,([],Anl N)),(251,([],c134)),(294,([],c139)),(268,([],c145))]⟩
set_option maxHeartbeats 8000000 in
theorem Xu:∀ N,GoodC Tryz.prog 258 (Anl N)
 | 0=>by
  refine Ap Ag 3 _ _ _ _ ⟨_,Tryz.func258,rfl,rfl⟩ fun y hn=>?_
  exact absurd hn.2 (Nat.not_lt_zero _)
 | N+1=>by
  refine Ap (cx:=Anm N) (Ae (Xu N) (Ae Aa8 (Ae Aa7 (Ae Ai2 Ag)))) 8 _ _ _ _ ⟨_,Tryz.func258,rfl,rfl⟩ fun (⟨e,l,_⟩ : ExprT × List Bd × Unit) hn=>?_
  have hN:exW e < N+1:=hn.2
  have hc:Ed e=0:=hn.1.1
  have hb:Af1 l:=hn.1.2
  clear hn
  obtain ⟨hc1,hc2⟩:=R4 hc
  obtain ⟨hk,ha,hv,-,-,ho⟩:=Vm hc1
  have hl2:=Abc ha
  refine (aF (fun h0=>?_))
  refine ex4 _ (fun p:Nat × List Int=>⟨[.any,.sl tBd l,.ptr 0 0,.any,.any,.any,.own 1,.any,.any,.any,.any,.any,.any,.any,.any,.ptr 0 4,.sl .expr e.args,.int .i64 (↑e.args.length:Int),.int .i64 (p.1:Int)]++nA 73,[.cells   [.int .i64 e.kind,.int .i64 e.op,.str e.name,.int .i64 e.value,.sl .expr e.args],.rows tI p.2],2⟩) (fun p=>p.1≤e.args.length∧(p.2.length=p.1∧∀ v∈p.2,inM v)∧(Ew l (e.args.drop p.1)).2=(Ew l e.args).2∧((Ew l e.args).2=0→(Ew l e.args).1=p.2++(Ew l (e.args.drop p.1)).1)) (fun p=>e.args.length - p.1) (aI (eI ((0,[])) (eI ([some 0,none]) (aI ?_ (aB (aI (aI (aA (by rfl)) (aA tT)) (by rfl)))))) ?_)
  ·exact ⟨Nat.zero_le _,⟨rfl,by simp⟩,rfl,fun _=>rfl⟩
  rintro ⟨i,vs⟩ ⟨hi,⟨hvl,hvi⟩,h2,h3⟩
  replace hvl:vs.length=i:=hvl
  replace hvi:∀ v∈vs,inM v:=hvi
  have room:(vs.length+1) * 8≤lim:=by
   have:i≤e.args.length:=hi
   simp only [lim];omega
  have hend:decide ((i:Int) < (e.args.length:Int))=false→vs.length=e.args.length∧Er l e=Ff (Ox l e vs):=fun h=>by
   have hi':¬ i < e.args.length:=by simpa using h
   have hle:i≤e.args.length:=hi
   have hnil:e.args.drop i=[]:=List.drop_of_length_le (by omega)
   have h2':(Ew l e.args).2=0:=by rw [← h2];show (Ew l (e.args.drop i)).2=0;rw [hnil];rfl
   have h3':=h3 h2'
   have h4:(Ew l e.args).1=vs:=by rw [h3'];show vs++(Ew l (e.args.drop i)).1=vs;rw [hnil];simp [Ew]
   refine ⟨by omega, ?_⟩
   rw [Nu,if_pos h2',h4]
  have hargs:∀ k:Int,e.kind=k→(e.args.length:Int)=[0,0,0,1,2].getD k.toNat 0:=fun k h=>by rw [← h];exact ha
  have v0:-1099511627776≤vs.getD 0 0∧vs.getD 0 0≤1099511627776:=Vn hvi 0
  have v1:-1099511627776≤vs.getD 1 0∧vs.getD 1 0≤1099511627776:=Vn hvi 1
  have len3:decide ((i:Int) < (e.args.length:Int))=false→decide (e.kind=3)=true→vs.length=1:=fun h h'=>by
   have h4:=hargs _ (of_decide_eq_true h')
   simp at h4
   rw [(hend h).1];omega
  have len4:decide ((i:Int) < (e.args.length:Int))=false→decide (e.kind=1)=false→decide (e.kind=2)=false→decide (e.kind=3)=false→vs.length=2:=fun h h1 h2 h3=>by
   have h1:=of_decide_eq_false h1
   have h2:=of_decide_eq_false h2
   have h3:=of_decide_eq_false h3
   have h4:=hargs 4 (by omega)
   simp at h4
   rw [(hend h).1];omega
  have ln:∀ (a:Int) (n:Nat),vs.length=n→0≤a→a < n→0≤a∧a < (vs.length:Int):=fun a n h h1 h2=>⟨h1,by omega⟩
  have fi:=Ajh hb e.name
  have x1:-9223372036854775808≤0 - vs.getD 0 0∧0 - vs.getD 0 0≤9223372036854775807:=by omega
  have x2:-9223372036854775807≤0 - vs.getD 0 0∧0 - vs.getD 0 0≤9223372036854775807:=by omega
  have x3:-9223372036854775808≤1 - vs.getD 0 0∧1 - vs.getD 0 0≤9223372036854775807:=by omega
  have x4:-9223372036854775807≤1 - vs.getD 0 0∧1 - vs.getD 0 0≤9223372036854775807:=by omega
  have xv:e.kind=1→-9223372036854775807≤e.value∧e.value≤9223372036854775807:=fun h=>by
   have:=hv h
   omega
  refine (aI (fun k0=>(aI (by (intros;(try subst_vars);(try simp only [nB] at *);(try simp only [inK,big,lim,nL] at *);omega)) (aI ?_ (aI (fun k1=>(Aa rfl ?_)) (fun k1=>(aI (by omega) (aI (by (intros;(try subst_vars);(try simp only [nB] at *);(try simp only [inK,big,lim,nL] at *);omega)) ?_))))))) (fun k0=>(aI (fun k2=>(aI (fun k3=>(xv (of_decide_eq_true k2))) (aI (fun k4=>(aI (fun k5=>(Aa rfl ?_)) (fun k5=>False.elim (Bool.false_ne_true (Eq.symm (Eq.trans (by kernel_rfl) k5)))))) (fun k4=>(aI (fun k6=>nG k6) (fun k6=>(Aa rfl ?_))))))) (fun k2=>(aI (fun k7=>(aI tT (fun (k8:(ByteArray × Int × Int) × Bool × PUnit)=>(fun k9=>(aI (fun k10=>?_) (aI (fun k11=>(aI (fun k12=>(Aa rfl ?_)) (fun k12=>False.elim (Bool.false_ne_true (Eq.symm (Eq.trans (by kernel_rfl) k12)))))) (fun k11=>(aI (fun k13=>nG k13) (fun k13=>(Aa rfl ?_)))))))))) (fun k7=>(aI (fun k14=>(aI (ln _ _ (len3 k0 k14) (by decide) (by decide)) (aI (x1) (aI (fun k15=>(aI (ln _ _ (len3 k0 k14) (by decide) (by decide)) (aI (x3) (aI (fun k16=>(x4)) (aI (fun k17=>(aI (fun k18=>(Aa rfl ?_)) (fun k18=>False.elim (Bool.false_ne_true (Eq.symm (Eq.trans (by kernel_rfl) k18)))))) (fun k17=>(aI (fun k19=>nG k19) (fun k19=>(Aa rfl ?_))))))))) (fun k15=>(aI (fun k20=>(x2)) (aI (fun k21=>(aI (fun k22=>(Aa rfl ?_)) (fun k22=>False.elim (Bool.false_ne_true (Eq.symm (Eq.trans (by kernel_rfl) k22)))))) (fun k21=>(aI (fun k23=>nG k23) (fun k23=>(Aa rfl ?_))))))))))) (fun k14=>(aK (aI (ln _ _ (len4 k0 k2 k7 k14) (by decide) (by decide)) (aI (ln _ _ (len4 k0 k2 k7 k14) (by decide) (by decide)) (aB (aA (aI (ln _ _ (len4 k0 k2 k7 k14) (by decide) (by decide)) (aB (aA (aI (ln _ _ (len4 k0 k2 k7 k14) (by decide) (by decide)) (aB (aF (aF (aF (aF (aF (aF (aF (aF (aF (aF (aF (aF (aF (aF (aF (aF (aF (aF (aF (aF (aF (aB (aA (aI (ln _ _ (len4 k0 k2 k7 k14) (by decide) (by decide)) (aB (aA (aI (ln _ _ (len4 k0 k2 k7 k14) (by decide) (by decide)) (aB ?_))))))))))))))))))))))))))))))))))))))))))))))
  ·have hi':i < e.args.length:=by simpa using k0
   rw [eta]
   exact ⟨⟨Nt _ _ _ hi' hc2,hb⟩,Nat.lt_of_lt_of_le (Jw hi') (by omega)⟩
  ·have hi':i < e.args.length:=by simpa using k0
   have hk:(Er l (e.args.getD i (Ab .expr))).2≠0:=by have h:=k1;simp only [eta] at h;simpa using h
   have hd:=T0 l (e0:=Ab .expr) hi'
   rw [if_neg hk] at hd
   have h4:(Ew l e.args).2=(Er l (e.args.getD i (Ab .expr))).2:=by rw [← h2];show (Ew l (e.args.drop i)).2=_;rw [hd]
   simp only [eta]
   show ((Er l e).1,(Er l e).2,())=(0,(Er l (e.args.getD i (Ab .expr))).2,())
   rw [Nu,if_neg (by rw [h4];exact hk),h4]
  ·have hi':i < e.args.length:=by simpa using k0
   have hk:(Er l (e.args.getD i (Ab .expr))).2=0:=by have h:=k1;simp only [eta] at h;simpa using h
   have hd:=T0 l (e0:=Ab .expr) hi'
   rw [if_pos hk] at hd
   refine eI ((i+1,vs++[(Er l (ExprT.mk (e.args.getD i (Ab .expr)).kind (e.args.getD i (Ab .expr)).op (e.args.getD i (Ab .expr)).name (e.args.getD i (Ab .expr)).value (e.args.getD i (Ab .expr)).args)).1])) (eI ([some 0,some 4]) (aI ?_ (aI ?_ (aB (aI (aI (aA (by rfl)) (aA tT)) (by rfl))))))
   ·rw [eta]
    refine ⟨hi',⟨by show (vs++[_]).length=i+1;simp [hvl],fun v hv=>?_⟩, ?_,fun h=>?_⟩
    ·rcases List.mem_append.1 hv with h | h
     ·exact hvi v h
     ·rw [List.mem_singleton.1 h];exact Ajf _ _
    ·rw [← h2];show (Ew l (e.args.drop (i+1))).2=(Ew l (e.args.drop i)).2;rw [hd]
    ·rw [h3 h];show vs++(Ew l (e.args.drop i)).1=(vs++[_])++(Ew l (e.args.drop (i+1))).1;rw [hd];simp
   ·show e.args.length - (i+1) < e.args.length - i
    omega
  ·obtain ⟨-,he⟩:=hend k0
   have h1:e.kind=1:=of_decide_eq_true k2
   rw [he,Ox,if_pos h1]
   show ((Ff (e.value,0)).1,(Ff (e.value,0)).2,())=_
   rw [Nv (show decide (1099511627776 < Cz e.value)=true from k4)]
  ·obtain ⟨-,he⟩:=hend k0
   have h1:e.kind=1:=of_decide_eq_true k2
   rw [he,Ox,if_pos h1]
   show ((Ff (e.value,0)).1,(Ff (e.value,0)).2,())=_
   rw [Nw (show decide (1099511627776 < Cz e.value)=false from k4)]
  ·have h9:k8.1.2.2=(Cl l e.name).1.2.2:=by rw [k9]
   have hf:-1099511627776≤(Cl l e.name).1.2.2∧(Cl l e.name).1.2.2≤1099511627776:=fi
   rw [← h9] at hf
   exact ⟨Int.le_trans (by decide) hf.1,Int.le_trans hf.2 (by decide)⟩
  ·obtain ⟨-,he⟩:=hend k0
   have h1:e.kind≠1:=of_decide_eq_false k2
   have h2:e.kind=2:=of_decide_eq_true k7
   have h9:k8.1.2.2=(Cl l e.name).1.2.2:=by rw [k9]
   have h11:decide (1099511627776 < Cz k8.1.2.2)=true:=k11
   rw [h9] at h11
   rw [he,Ox,if_neg h1,if_pos h2]
   show ((Ff ((Cl l e.name).1.2.2,0)).1,(Ff ((Cl l e.name).1.2.2,0)).2,())=_
   rw [Nv h11]
  ·obtain ⟨-,he⟩:=hend k0
   have h1:e.kind≠1:=of_decide_eq_false k2
   have h2:e.kind=2:=of_decide_eq_true k7
   have h9:k8.1.2.2=(Cl l e.name).1.2.2:=by rw [k9]
   have h11:decide (1099511627776 < Cz k8.1.2.2)=false:=k11
   rw [h9] at h11
   rw [he,Ox,if_neg h1,if_pos h2]
   show ((Ff ((Cl l e.name).1.2.2,0)).1,(Ff ((Cl l e.name).1.2.2,0)).2,())=(k8.1.2.2,0,())
   rw [Nw h11,h9]
  ·obtain ⟨-,he⟩:=hend k0
   have h1:e.kind≠1:=of_decide_eq_false k2
   have h2:e.kind≠2:=of_decide_eq_false k7
   have h3:e.kind=3:=of_decide_eq_true k14
   have h4:e.op=2:=of_decide_eq_true k15
   rw [he,Ox,if_neg h1,if_neg h2,if_pos h3,if_pos h4]
   show ((Ff (1 - vs.getD 0 0,0)).1,(Ff (1 - vs.getD 0 0,0)).2,())=_
   rw [Nv (show decide (1099511627776 < Cz (1 - vs.getD 0 0))=true from k17)]
  ·obtain ⟨-,he⟩:=hend k0
   have h1:e.kind≠1:=of_decide_eq_false k2
   have h2:e.kind≠2:=of_decide_eq_false k7
   have h3:e.kind=3:=of_decide_eq_true k14
   have h4:e.op=2:=of_decide_eq_true k15
   rw [he,Ox,if_neg h1,if_neg h2,if_pos h3,if_pos h4]
   show ((Ff (1 - vs.getD 0 0,0)).1,(Ff (1 - vs.getD 0 0,0)).2,())=_
   rw [Nw (show decide (1099511627776 < Cz (1 - vs.getD 0 0))=false from k17)]
   rfl
  ·obtain ⟨-,he⟩:=hend k0
   have h1:e.kind≠1:=of_decide_eq_false k2
   have h2:e.kind≠2:=of_decide_eq_false k7
   have h3:e.kind=3:=of_decide_eq_true k14
   have h4:e.op≠2:=of_decide_eq_false k15
   rw [he,Ox,if_neg h1,if_neg h2,if_pos h3,if_neg h4]
   show ((Ff (0 - vs.getD 0 0,0)).1,(Ff (0 - vs.getD 0 0,0)).2,())=_
   rw [Nv (show decide (1099511627776 < Cz (0 - vs.getD 0 0))=true from k21)]
  ·obtain ⟨-,he⟩:=hend k0
   have h1:e.kind≠1:=of_decide_eq_false k2
   have h2:e.kind≠2:=of_decide_eq_false k7
   have h3:e.kind=3:=of_decide_eq_true k14
   have h4:e.op≠2:=of_decide_eq_false k15
   rw [he,Ox,if_neg h1,if_neg h2,if_pos h3,if_neg h4]
   show ((Ff (0 - vs.getD 0 0,0)).1,(Ff (0 - vs.getD 0 0,0)).2,())=_
   rw [Nw (show decide (1099511627776 < Cz (0 - vs.getD 0 0))=false from k21)]
   rfl
  obtain ⟨-,he⟩:=hend k0
  have g1:e.kind≠1:=of_decide_eq_false k2
  have g2:e.kind≠2:=of_decide_eq_false k7
  have g3:e.kind≠3:=of_decide_eq_false k14
  rw [Ox,if_neg g1,if_neg g2,if_neg g3] at he
  have hR:∀ p:Int,decide (e.op=p)=true→Er l e=Ff (opF p (vs.getD 0 0) (vs.getD 1 0)):=fun p h=>by rw [he,of_decide_eq_true h]
  have LA:∀ p n:Int,decide (e.op=p)=true→opF p (vs.getD 0 0) (vs.getD 1 0)=(n,0)→decide (1099511627776 < Cz n)=true→((Er l e).1,(Er l e).2,())=(0,14,()):=fun p n h h' h''=>by rw [hR p h,h',Nv h'']
  have LB:∀ p n:Int,decide (e.op=p)=true→opF p (vs.getD 0 0) (vs.getD 1 0)=(n,0)→decide (1099511627776 < Cz n)=false→((Er l e).1,(Er l e).2,())=(n,0,()):=fun p n h h' h''=>by rw [hR p h,h',Nw h'']
  have LC:∀ p f:Int,decide (e.op=p)=true→opF p (vs.getD 0 0) (vs.getD 1 0)=(0,f)→f≠0→((Er l e).1,(Er l e).2,())=(0,f,()):=fun p f h h' h''=>by rw [hR p h,h',Ajg h'']
  have D6:decide (vs.getD 1 0=0)=false→opF 6 (vs.getD 0 0) (vs.getD 1 0)=((vs.getD 0 0).tdiv (vs.getD 1 0),0):=fun h=>by
   show (if vs.getD 1 0=0 then (0,24) else ((vs.getD 0 0).tdiv (vs.getD 1 0),0))=_
   rw [if_neg (of_decide_eq_false h)]
  have Z6:decide (vs.getD 1 0=0)=true→opF 6 (vs.getD 0 0) (vs.getD 1 0)=(0,24):=fun h=>by
   show (if vs.getD 1 0=0 then (0,24) else ((vs.getD 0 0).tdiv (vs.getD 1 0),0))=_
   rw [if_pos (of_decide_eq_true h)]
  have D7:decide (vs.getD 1 0=0)=false→opF 7 (vs.getD 0 0) (vs.getD 1 0)=((vs.getD 0 0).tmod (vs.getD 1 0),0):=fun h=>by
   show (if vs.getD 1 0=0 then (0,24) else ((vs.getD 0 0).tmod (vs.getD 1 0),0))=_
   rw [if_neg (of_decide_eq_false h)]
  have Z7:decide (vs.getD 1 0=0)=true→opF 7 (vs.getD 0 0) (vs.getD 1 0)=(0,24):=fun h=>by
   show (if vs.getD 1 0=0 then (0,24) else ((vs.getD 0 0).tmod (vs.getD 1 0),0))=_
   rw [if_pos (of_decide_eq_true h)]
  have w1:-9223372036854775808≤vs.getD 0 0+vs.getD 1 0∧vs.getD 0 0+vs.getD 1 0≤9223372036854775807:=by omega
  have w2:-9223372036854775807≤vs.getD 0 0+vs.getD 1 0∧vs.getD 0 0+vs.getD 1 0≤9223372036854775807:=by omega
  have w3:-9223372036854775808≤vs.getD 0 0 - vs.getD 1 0∧vs.getD 0 0 - vs.getD 1 0≤9223372036854775807:=by omega
  have w4:-9223372036854775807≤vs.getD 0 0 - vs.getD 1 0∧vs.getD 0 0 - vs.getD 1 0≤9223372036854775807:=by omega
  have w5:-9223372036854775807≤(B3 (vs.getD 0 0) (vs.getD 1 0)).1∧(B3 (vs.getD 0 0) (vs.getD 1 0)).1≤9223372036854775807:=by
   have:=Af2 (vs.getD 0 0) (vs.getD 1 0)
   omega
  have w6:inK .i64 ((vs.getD 0 0).tdiv (vs.getD 1 0)):=by
   have:=Abe (vs.getD 0 0) (vs.getD 1 0)
   simp only [inK];omega
  have w7:-9223372036854775807≤(vs.getD 0 0).tdiv (vs.getD 1 0)∧(vs.getD 0 0).tdiv (vs.getD 1 0)≤9223372036854775807:=by
   have:=Abe (vs.getD 0 0) (vs.getD 1 0)
   omega
  have w8:-9223372036854775807≤(vs.getD 0 0).tmod (vs.getD 1 0)∧(vs.getD 0 0).tmod (vs.getD 1 0)≤9223372036854775807:=by
   have:=Aji (vs.getD 0 0) (vs.getD 1 0)
   omega
  refine .inl ?_
  refine (aI (fun m0=>(aB (aI (by (intros;(try subst_vars);(try simp only [nB] at *);(try simp only [inK,big,lim,nL] at *);omega)) (aB (aA (aI (by (intros;(try subst_vars);(try simp only [nB] at *);(try simp only [inK,big,lim,nL] at *);omega)) (aB (aF (aF (aI (w1) (aC (aI (fun m1=>(w2)) (aI (fun m2=>(aI (fun m3=>(Aa rfl (by exact LA 3 _ m0 rfl m2))) (fun m3=>False.elim (Bool.false_ne_true (Eq.symm (Eq.trans (by kernel_rfl) m3)))))) (fun m2=>(aI (fun m4=>nG m4) (fun m4=>(Aa rfl (by exact LB 3 _ m0 rfl m2)))))))))))))))))) (fun m0=>(aI (fun m5=>(aB (aI (by (intros;(try subst_vars);(try simp only [nB] at *);(try simp only [inK,big,lim,nL] at *);omega)) (aB (aA (aI (by (intros;(try subst_vars);(try simp only [nB] at *);(try simp only [inK,big,lim,nL] at *);omega)) (aB (aF (aF (aI (w3) (aC (aI (fun m6=>(w4)) (aI (fun m7=>(aI (fun m8=>(Aa rfl (by exact LA 4 _ m5 rfl m7))) (fun m8=>False.elim (Bool.false_ne_true (Eq.symm (Eq.trans (by kernel_rfl) m8)))))) (fun m7=>(aI (fun m9=>nG m9) (fun m9=>(Aa rfl (by exact LB 4 _ m5 rfl m7)))))))))))))))))) (fun m5=>(aI (fun m10=>(aB (aI (by (intros;(try subst_vars);(try simp only [nB] at *);(try simp only [inK,big,lim,nL] at *);omega)) (aB (aA (aI (by (intros;(try subst_vars);(try simp only [nB] at *);(try simp only [inK,big,lim,nL] at *);omega)) (aB (aI (⟨v0,v1⟩) (aC (aI (fun m11=>(w5)) (aI (fun m12=>(aI (fun m13=>(Aa rfl ?_)) (fun m13=>False.elim (Bool.false_ne_true (Eq.symm (Eq.trans (by kernel_rfl) m13)))))) (fun m12=>(aI (fun m14=>(Aa rfl ?_)) (fun m14=>(Aa rfl ?_))))))))))))))) (fun m10=>(aI (fun m15=>(aB (aI (by (intros;(try subst_vars);(try simp only [nB] at *);(try simp only [inK,big,lim,nL] at *);omega)) (aB (aA (aI (by (intros;(try subst_vars);(try simp only [nB] at *);(try simp only [inK,big,lim,nL] at *);omega)) (aB (aF (aI (fun m16=>(aC (aI (fun m17=>(by decide)) (aI (fun m18=>nG m18) (fun m18=>(aI (fun m19=>(Aa rfl (by exact LC 6 24 m15 (Z6 m16) (by decide)))) (fun m19=>False.elim (Bool.false_ne_true (Eq.symm (Eq.trans (by kernel_rfl) m19)))))))))) (fun m16=>(aF (aI (⟨of_decide_eq_false m16,w6⟩) (aC (aI (fun m20=>(w7)) (aI (fun m21=>(aI (fun m22=>(Aa rfl (by exact LA 6 _ m15 (D6 m16) m21))) (fun m22=>False.elim (Bool.false_ne_true (Eq.symm (Eq.trans (by kernel_rfl) m22)))))) (fun m21=>(aI (fun m23=>nG m23) (fun m23=>(Aa rfl (by exact LB 6 _ m15 (D6 m16) m21)))))))))))))))))))) (fun m15=>(aI (fun m24=>(aB (aI (by (intros;(try subst_vars);(try simp only [nB] at *);(try simp only [inK,big,lim,nL] at *);omega)) (aB (aA (aI (by (intros;(try subst_vars);(try simp only [nB] at *);(try simp only [inK,big,lim,nL] at *);omega)) (aB (aF (aI (fun m25=>(aC (aI (fun m26=>(by decide)) (aI (fun m27=>nG m27) (fun m27=>(aI (fun m28=>(Aa rfl (by exact LC 7 24 m24 (Z7 m25) (by decide)))) (fun m28=>False.elim (Bool.false_ne_true (Eq.symm (Eq.trans (by kernel_rfl) m28)))))))))) (fun m25=>(aF (aI (of_decide_eq_false m25) (aC (aI (fun m29=>(w8)) (aI (fun m30=>(aI (fun m31=>(Aa rfl (by exact LA 7 _ m24 (D7 m25) m30))) (fun m31=>False.elim (Bool.false_ne_true (Eq.symm (Eq.trans (by kernel_rfl) m31)))))) (fun m30=>(aI (fun m32=>nG m32) (fun m32=>(Aa rfl (by exact LB 7 _ m24 (D7 m25) m30)))))))))))))))))))) (fun m24=>(aI (fun m33=>(aB (aI (by (intros;(try subst_vars);(try simp only [nB] at *);(try simp only [inK,big,lim,nL] at *);omega)) (aB (aA (aI (by (intros;(try subst_vars);(try simp only [nB] at *);(try simp only [inK,big,lim,nL] at *);omega)) (aB (aF (aF (aF (aI (fun m34=>(aC (aI (fun m35=>(by decide)) (aI (fun m36=>nG m36) (fun m36=>(aI (fun m37=>nG m37) (fun m37=>(Aa rfl (by exact LB 8 1 m33 (congrArg (fun c=>(one c,(0:Int))) m34) rfl))))))))) (fun m34=>(aC (aI (fun m38=>(by decide)) (aI (fun m39=>nG m39) (fun m39=>(aI (fun m40=>nG m40) (fun m40=>(Aa rfl (by exact LB 8 0 m33 (congrArg (fun c=>(one c,(0:Int))) m34) rfl)))))))))))))))))))) (fun m33=>(aI (fun m41=>(aB (aI (by (intros;(try subst_vars);(try simp only [nB] at *);(try simp only [inK,big,lim,nL] at *);omega)) (aB (aA (aI (by (intros;(try subst_vars);(try simp only [nB] at *);(try simp only [inK,big,lim,nL] at *);omega)) (aB (aF (aF (aF (aI (fun m42=>(aC (aI (fun m43=>(by decide)) (aI (fun m44=>nG m44) (fun m44=>(aI (fun m45=>nG m45) (fun m45=>(Aa rfl (by exact LB 9 1 m41 (congrArg (fun c=>(one c,(0:Int))) m42) rfl))))))))) (fun m42=>(aC (aI (fun m46=>(by decide)) (aI (fun m47=>nG m47) (fun m47=>(aI (fun m48=>nG m48) (fun m48=>(Aa rfl (by exact LB 9 0 m41 (congrArg (fun c=>(one c,(0:Int))) m42) rfl)))))))))))))))))))) (fun m41=>(aI (fun m49=>(aB (aI (by (intros;(try subst_vars);(try simp only [nB] at *);(try simp only [inK,big,lim,nL] at *);omega)) (aB (aA (aI (by (intros;(try subst_vars);(try simp only [nB] at *);(try simp only [inK,big,lim,nL] at *);omega)) (aB (aF (aF (aF (aI (fun m50=>(aC (aI (fun m51=>(by decide)) (aI (fun m52=>nG m52) (fun m52=>(aI (fun m53=>nG m53) (fun m53=>(Aa rfl (by exact LB 10 1 m49 (congrArg (fun c=>(one c,(0:Int))) m50) rfl))))))))) (fun m50=>(aC (aI (fun m54=>(by decide)) (aI (fun m55=>nG m55) (fun m55=>(aI (fun m56=>nG m56) (fun m56=>(Aa rfl (by exact LB 10 0 m49 (congrArg (fun c=>(one c,(0:Int))) m50) rfl)))))))))))))))))))) (fun m49=>(aI (fun m57=>(aB (aI (by (intros;(try subst_vars);(try simp only [nB] at *);(try simp only [inK,big,lim,nL] at *);omega)) (aB (aA (aI (by (intros;(try subst_vars);(try simp only [nB] at *);(try simp only [inK,big,lim,nL] at *);omega)) (aB (aF (aF (aF (aI (fun m58=>(aC (aI (fun m59=>(by decide)) (aI (fun m60=>nG m60) (fun m60=>(aI (fun m61=>nG m61) (fun m61=>(Aa rfl (by exact LB 11 1 m57 (congrArg (fun c=>(one c,(0:Int))) m58) rfl))))))))) (fun m58=>(aC (aI (fun m62=>(by decide)) (aI (fun m63=>nG m63) (fun m63=>(aI (fun m64=>nG m64) (fun m64=>(Aa rfl (by exact LB 11 0 m57 (congrArg (fun c=>(one c,(0:Int))) m58) rfl)))))))))))))))))))) (fun m57=>(aI (fun m65=>(aB (aI (by (intros;(try subst_vars);(try simp only [nB] at *);(try simp only [inK,big,lim,nL] at *);omega)) (aB (aA (aI (by (intros;(try subst_vars);(try simp only [nB] at *);(try simp only [inK,big,lim,nL] at *);omega)) (aB (aF (aF (aF (aI (fun m66=>(aC (aI (fun m67=>(by decide)) (aI (fun m68=>nG m68) (fun m68=>(aI (fun m69=>nG m69) (fun m69=>(Aa rfl (by exact LB 12 1 m65 (congrArg (fun c=>(one c,(0:Int))) m66) rfl))))))))) (fun m66=>(aC (aI (fun m70=>(by decide)) (aI (fun m71=>nG m71) (fun m71=>(aI (fun m72=>nG m72) (fun m72=>(Aa rfl (by exact LB 12 0 m65 (congrArg (fun c=>(one c,(0:Int))) m66) rfl)))))))))))))))))))) (fun m65=>(aI (fun m73=>(aB (aI (by (intros;(try subst_vars);(try simp only [nB] at *);(try simp only [inK,big,lim,nL] at *);omega)) (aB (aA (aI (by (intros;(try subst_vars);(try simp only [nB] at *);(try simp only [inK,big,lim,nL] at *);omega)) (aB (aF (aF (aF (aI (fun m74=>(aC (aI (fun m75=>(by decide)) (aI (fun m76=>nG m76) (fun m76=>(aI (fun m77=>nG m77) (fun m77=>(Aa rfl (by exact LB 13 1 m73 (congrArg (fun c=>(one c,(0:Int))) m74) rfl))))))))) (fun m74=>(aC (aI (fun m78=>(by decide)) (aI (fun m79=>nG m79) (fun m79=>(aI (fun m80=>nG m80) (fun m80=>(Aa rfl (by exact LB 13 0 m73 (congrArg (fun c=>(one c,(0:Int))) m74) rfl)))))))))))))))))))) (fun m73=>(aI (fun m81=>(aB (aI (by (intros;(try subst_vars);(try simp only [nB] at *);(try simp only [inK,big,lim,nL] at *);omega)) (aB (aA (aI (by (intros;(try subst_vars);(try simp only [nB] at *);(try simp only [inK,big,lim,nL] at *);omega)) (aB (aF (aF (aF (aI (fun m82=>(aC (aI (fun m83=>(by decide)) (aI (fun m84=>nG m84) (fun m84=>(aI (fun m85=>nG m85) (fun m85=>(Aa rfl (by exact LB 14 1 m81 (congrArg (fun c=>(one c,(0:Int))) m82) rfl))))))))) (fun m82=>(aC (aI (fun m86=>(by decide)) (aI (fun m87=>nG m87) (fun m87=>(aI (fun m88=>nG m88) (fun m88=>(Aa rfl (by exact LB 14 0 m81 (congrArg (fun c=>(one c,(0:Int))) m82) rfl)))))))))))))))))))) (fun m81=>(aI (fun m89=>(aB (aI (by (intros;(try subst_vars);(try simp only [nB] at *);(try simp only [inK,big,lim,nL] at *);omega)) (aB (aA (aI (by (intros;(try subst_vars);(try simp only [nB] at *);(try simp only [inK,big,lim,nL] at *);omega)) (aB (aF (aF (aF (aI (fun m90=>(aC (aI (fun m91=>(by decide)) (aI (fun m92=>nG m92) (fun m92=>(aI (fun m93=>nG m93) (fun m93=>(Aa rfl (by exact LB 15 1 m89 (congrArg (fun c=>(one c,(0:Int))) m90) rfl))))))))) (fun m90=>(aC (aI (fun m94=>(by decide)) (aI (fun m95=>nG m95) (fun m95=>(aI (fun m96=>nG m96) (fun m96=>(Aa rfl (by exact LB 15 0 m89 (congrArg (fun c=>(one c,(0:Int))) m90) rfl)))))))))))))))))))) (fun m89=>(aB (aI (by (intros;(try subst_vars);(try simp only [nB] at *);(try simp only [inK,big,lim,nL] at *);omega)) (aB (aA (aI (by (intros;(try subst_vars);(try simp only [nB] at *);(try simp only [inK,big,lim,nL] at *);omega)) (aB ?_))))))))))))))))))))))))))))))))
  ·obtain ⟨f,hf⟩ : ∃ f,(B3 (vs.getD 0 0) (vs.getD 1 0)).2=f:=⟨_,rfl⟩
   have h:(bif decide ((B3 (vs.getD 0 0) (vs.getD 1 0)).2=0) then decide (1099511627776 < Cz (B3 (vs.getD 0 0) (vs.getD 1 0)).1) else false)=true:=m12
   rw [hf] at h
   by_cases hz:f=0
   ·rw [decide_eq_true hz] at h
    subst hz
    exact LA 5 (B3 (vs.getD 0 0) (vs.getD 1 0)).1 m10 (Prod.ext rfl hf) h
   ·rw [decide_eq_false hz] at h;cases h
  ·have hf:(B3 (vs.getD 0 0) (vs.getD 1 0)).2≠0:=by
    have h:(!decide ((B3 (vs.getD 0 0) (vs.getD 1 0)).2=0))=true:=m14
    simpa using h
   exact LC 5 (B3 (vs.getD 0 0) (vs.getD 1 0)).2 m10 (Prod.ext (Af3 _ _ hf) rfl) hf
  ·have hf:(B3 (vs.getD 0 0) (vs.getD 1 0)).2=0:=by
    have h:(!decide ((B3 (vs.getD 0 0) (vs.getD 1 0)).2=0))=false:=m14
    simpa using h
   have h:(bif decide ((B3 (vs.getD 0 0) (vs.getD 1 0)).2=0) then decide (1099511627776 < Cz (B3 (vs.getD 0 0) (vs.getD 1 0)).1) else false)=false:=m12
   rw [decide_eq_true hf] at h
   exact LB 5 (B3 (vs.getD 0 0) (vs.getD 1 0)).1 m10 (Prod.ext rfl hf) h
  ·exfalso
   have h:=ho (by omega)
   have q:∀ p:Int,decide (e.op=p)=false→¬ e.op=p:=fun p h=>of_decide_eq_false h
   unfold Ls at h
   simp only [Sp,Rz,List.map_cons,List.map_nil,Mg,if_neg (q _ m0),if_neg (q _ m5),if_neg (q _ m10),if_neg (q _ m15),if_neg (q _ m24),if_neg (q _ m33),if_neg (q _ m41),if_neg (q _ m49),if_neg (q _ m57),if_neg (q _ m65),if_neg (q _ m73),if_neg (q _ m81),if_neg (q _ m89)] at h
   cases h
def c125A:Ctr:=fnC [dX,Vc] rII (fun y=>Ed y.1=0∧Af1 y.2.1) (fun y=>((Er y.2.1 y.1).1,(Er y.2.1 y.1).2,()))
theorem Ajj:GoodC Tryz.prog 258 c125A:=Nl (fun y=>exW y.1) Xu
theorem Af4 {l:List Bd} (h:Gh l=true):Af1 l:=by
 intro b hb
 obtain ⟨i,hi,rfl⟩:=List.getElem_of_mem hb
 have h1:(List.range l.length).any (F8 l)=false:=by
  unfold Gh at h
  cases hc:(List.range l.length).any (F8 l)
  ·rfl
  ·rw [hc] at h;cases h
 have h2:F8 l i=false:=by
  have:=List.any_eq_false.1 h1 i (List.mem_range.2 hi)
  simpa using this
 have e1:l.getD ((i:Int).toNat) (Ab tBd)=l[i]:=by
  rw [Int.toNat_natCast,List.getD_eq_getElem?_getD,List.getElem?_eq_getElem hi];rfl
 have key:∀ lo hi:Int,Pu lo hi l i=false→lo≤l[i].2.2∧l[i].2.2≤hi:=fun lo hi h=>by
  unfold Pu at h
  rw [e1] at h
  have aux:∀ q a b:Bool,(bif (bif q then true else a) then true else b)=false→a=false∧b=false:=by
   intro q a b;cases q <;> cases a <;> cases b <;> simp
  obtain ⟨h3,h4⟩:=aux _ _ _ h
  have h5:=of_decide_eq_false h3
  have h6:=of_decide_eq_false h4
  exact ⟨Int.not_lt.1 h5,Int.not_lt.1 h6⟩
 unfold F8 at h2
 cases hd:decide ((l.getD (i:Int).toNat (Ab tBd)).2.1=2) with
 | true =>
  rw [hd] at h2
  have:=key _ _ h2
  unfold inM;omega
 | false =>
  rw [hd] at h2
  exact key _ _ h2
def Hy (e:ExprT) (l:List Bd):Int × Int:=if (Bb e l).2≠0 then (0,(Bb e l).2) else Er l e
theorem Ze {e:ExprT} {l:List Bd} (h:(Bb e l).2=0):Bl e=0∧Gh l=true:=by
 unfold Bb at h
 split at h
 ·rename_i h1;exact absurd h h1
 ·rename_i h1
  split at h
  ·rename_i h2;exact ⟨by simpa using h1,h2⟩
  ·exact absurd h (by decide)
def cxEv:Ctx:=⟨C5,[(176,([],c82)),(258,([],c125A))]⟩
theorem Ac8:Ah Tryz.prog cxEv:=Ae Af0 (Ae Ajj Ag)
def c108:Ctr:=fnC [dX,Vc] rII (fun _=>True) (fun y=>((Hy y.1 y.2.1).1,(Hy y.1 y.2.1).2,()))
theorem Abf:GoodC Tryz.prog 238 c108:=by
 refine Ap Ac8 3 _ _ _ _ ⟨_,Tryz.func238,rfl,rfl⟩ fun (⟨e,l,_⟩ : ExprT × List Bd × Unit) _=>?_
 refine (aF (aI tT (aI (fun h0=>(Aa rfl ?_)) (fun h0=>(aI ?_ (Aa rfl ?_))))))
 ·have hk:(Bb e l).2≠0:=by have h:=h0;simp only [eta] at h;simpa using h
  simp only [eta]
  show ((Hy e l).1,(Hy e l).2,())=(0,(Bb e l).2,())
  rw [Hy,if_pos hk]
 ·have hk:(Bb e l).2=0:=by have h:=h0;simp only [eta] at h;simpa using h
  simp only [eta]
  exact ⟨Afy (Ze hk).1,Af4 (Ze hk).2⟩
 ·have hk:¬ (Bb e l).2≠0:=by have h:=h0;simp only [eta] at h;simpa using h
  simp only [eta]
  show ((Hy e l).1,(Hy e l).2,())=((Er l e).1,(Er l e).2,())
  rw [Hy,if_neg hk]
def isS (v:ByteArray) (x:ByteArray):Bool:=decide (v=x)
def isI (v:Int) (x:Int):Bool:=decide (v=x)
def c115:Ctr:=fnC [dSs,dS] rI (fun _=>True) (fun y=>(Ak (isS y.2.1) y.1 0,()))
theorem Ajk:GoodC Tryz.prog 223 c115:=by
 refine Ap Ag 3 _ _ _ _ ⟨_,Tryz.func223,rfl,rfl⟩ fun (⟨xs,s,_⟩ : List ByteArray × ByteArray × Unit) _=>?_
 refine (aF (fun h0=>?_))
 refine ex4 _ (fun i:Nat=>⟨[.sl .str xs,.str s,.any,.any,.any,.any,.sl .str xs,.int .i64 (↑xs.length:Int),.int .i64 (i:Int),.any,.any,.any,.any,.any,.any,.any,.any,.any,.any],[],0⟩) (fun i=>i≤xs.length∧Ak (isS s) xs 0=Ak (isS s) (xs.drop i) i) (fun i=>xs.length - i) (aI (eI (0) (eI ([]) (aI ?_ (aB (aI tT (by rfl)))))) ?_)
 ·exact ⟨Nat.zero_le _,rfl⟩
 rintro i ⟨hi,ht⟩
 refine (aI (fun k0=>(aO (aI (fun k1=>(Aa rfl ?_)) (fun k1=>(aO ?_))))) (fun k0=>(Aa rfl ?_)))
 ·have hi':i < xs.length:=by simpa using k0
  have hk:isS s (xs.getD i (Ab .str))=true:=k1
  rw [Au _ (Ab .str) _ _ hi',if_pos hk] at ht
  show (Ak (isS s) xs 0,())=(_,())
  rw [ht]
 ·have hi':i < xs.length:=by simpa using k0
  have hk:isS s (xs.getD i (Ab .str))=false:=k1
  rw [Au _ (Ab .str) _ _ hi',if_neg (by rw [hk];simp)] at ht
  refine eI (i+1) (eI ([]) (aI ?_ (aI ?_ (aB (aI tT (by rfl))))))
  ·exact ⟨hi',ht⟩
  ·show xs.length - (i+1) < xs.length - i
   omega
 ·have hi':¬ i < xs.length:=by simpa using k0
  rw [List.drop_of_length_le (by omega)] at ht
  show (Ak (isS s) xs 0,())=(_,())
  rw [ht];rfl
def c81:Ctr:=fnC [dSs,dS] rB (fun _=>True) (fun y=>(y.1.any (isS y.2.1),()))
def cxH1:Ctx:=⟨C5,[(223,([],c115))]⟩
theorem Ac9:Ah Tryz.prog cxH1:=Ae Ajk Ag
theorem Aly:GoodC Tryz.prog 175 c81:=by
 refine Ap Ac9 3 _ _ _ _ ⟨_,Tryz.func175,rfl,rfl⟩ fun (⟨xs,s,_⟩ : List ByteArray × ByteArray × Unit) _=>?_
 refine (aF (aI tT (Aa rfl ?_)))
 show (xs.any (isS s),())=_
 rw [← Dn (isS s) xs 0 (Int.le_refl _)]
def c58:Ctr:=fnC [dIs,dI] rI (fun _=>True) (fun y=>(Ak (isI y.2.1) y.1 0,()))
theorem Alz:GoodC Tryz.prog 182 c58:=by
 refine Ap Ag 3 _ _ _ _ ⟨_,Tryz.func182,rfl,rfl⟩ fun (⟨xs,s,_⟩ : List Int × Int × Unit) _=>?_
 refine (aF (fun h0=>?_))
 refine ex4 _ (fun i:Nat=>⟨[.sl (.int .i64) xs,.int .i64 s,.any,.any,.any,.any,.sl (.int .i64) xs,.int .i64 (↑xs.length:Int),.int .i64 (i:Int),.any,.any,.any,.any,.any,.any,.any,.any,.any,.any],[],0⟩) (fun i=>i≤xs.length∧Ak (isI s) xs 0=Ak (isI s) (xs.drop i) i) (fun i=>xs.length - i) (aI (eI (0) (eI ([]) (aI ?_ (aB (aI tT (by rfl)))))) ?_)
 ·exact ⟨Nat.zero_le _,rfl⟩
 rintro i ⟨hi,ht⟩
 refine (aI (fun k0=>(aO (aI (fun k1=>(Aa rfl ?_)) (fun k1=>(aO ?_))))) (fun k0=>(Aa rfl ?_)))
 ·have hi':i < xs.length:=by simpa using k0
  have hk:isI s (xs.getD i (Ab tI))=true:=k1
  rw [Au _ (Ab tI) _ _ hi',if_pos hk] at ht
  show (Ak (isI s) xs 0,())=(_,())
  rw [ht]
 ·have hi':i < xs.length:=by simpa using k0
  have hk:isI s (xs.getD i (Ab tI))=false:=k1
  rw [Au _ (Ab tI) _ _ hi',if_neg (by rw [hk];simp)] at ht
  refine eI (i+1) (eI ([]) (aI ?_ (aI ?_ (aB (aI tT (by rfl))))))
  ·exact ⟨hi',ht⟩
  ·show xs.length - (i+1) < xs.length - i
   omega
 ·have hi':¬ i < xs.length:=by simpa using k0
  rw [List.drop_of_length_le (by omega)] at ht
  show (Ak (isI s) xs 0,())=(_,())
  rw [ht];rfl
def c25:Ctr:=fnC [dIs,dI] rB (fun _=>True) (fun y=>(y.1.any (isI y.2.1),()))
def cxH2:Ctx:=⟨C5,[(182,([],c58))]⟩
theorem Ada:Ah Tryz.prog cxH2:=Ae Alz Ag
theorem Zf:GoodC Tryz.prog 189 c25:=by
 refine Ap Ada 3 _ _ _ _ ⟨_,Tryz.func189,rfl,rfl⟩ fun (⟨xs,s,_⟩ : List Int × Int × Unit) _=>?_
 refine (aF (aI tT (Aa rfl ?_)))
 show (xs.any (isI s),())=_
 rw [← Dn (isI s) xs 0 (Int.le_refl _)]
def Bv:List ByteArray→List Int→List Bd
 | n :: ns,v :: vs=>(n,1,v) :: Bv ns vs
 | _,_=>[]
def c83:Ctr:=fnC [dSs,dIs] [(false,.sl tBd)] (fun y=>y.1.length≤y.2.1.length∧y.1.length≤2) (fun y=>(Bv y.1 y.2.1,()))
theorem Zg:GoodC Tryz.prog 177 c83:=by
 refine Ap Ag 3 _ _ _ _ ⟨_,Tryz.func177,rfl,rfl⟩ fun (⟨ns,vs,_⟩ : List ByteArray × List Int × Unit) hn=>?_
 have hn1:ns.length≤vs.length:=hn.1
 have hn2:ns.length≤2:=hn.2
 clear hn
 refine (aF (fun h0=>?_))
 refine ex4 _ (fun p:Nat × List Bd=>⟨[.sl .str ns,.sl (.int .i64) vs,.any,.any,.any,.own 0,.any,.any,.sl .str ns,.int .i64 (↑ns.length:Int),.int .i64 (p.1:Int)]++nA 15,[.rows tBd p.2],1⟩) (fun p=>p.1≤ns.length∧p.2.length=p.1∧Bv ns vs=p.2++Bv (ns.drop p.1) (vs.drop p.1)) (fun p=>ns.length - p.1) (aI (eI ((0,[])) (eI ([none]) (aI ?_ (aB (aI (aA tT) (by rfl)))))) ?_)
 ·exact ⟨Nat.zero_le _,rfl,rfl⟩
 rintro ⟨i,bs⟩ ⟨hi,hl,hb⟩
 replace hl:bs.length=i:=hl
 have room:(bs.length+1) * 32≤lim:=by
  have:i≤ns.length:=hi
  simp only [lim];omega
 refine (aI (fun k0=>(aI (by first | exact room | (intros;(try subst_vars);(try simp only [nB] at *);(try simp only [inK,big,lim,nL] at *);omega)) (aI (by first | exact room | (intros;(try subst_vars);(try simp only [nB] at *);(try simp only [inK,big,lim,nL] at *);omega)) (aI (by first | exact room | (intros;(try subst_vars);(try simp only [nB] at *);(try simp only [inK,big,lim,nL] at *);omega)) (aI (by first | exact room | (intros;(try subst_vars);(try simp only [nB] at *);(try simp only [inK,big,lim,nL] at *);omega)) ?_))))) (fun k0=>(Aa rfl ?_)))
 ·have hi':i < ns.length:=by simpa using k0
  refine eI ((i+1,bs++[(ns.getD i (Ab .str),1,vs.getD i (Ab tI))])) (eI ([some 2]) (aI ?_ (aI ?_ (aB (aI (aA tT) (by rfl))))))
  ·refine ⟨hi',by show (bs++[_]).length=i+1;simp [hl], ?_⟩
   have hv:i < vs.length:=by omega
   rw [hb]
   show bs++Bv (ns.drop i) (vs.drop i)=(bs++[_])++Bv (ns.drop (i+1)) (vs.drop (i+1))
   rw [List.drop_eq_getElem_cons hi',List.drop_eq_getElem_cons hv]
   simp [Bv,List.getD_eq_getElem?_getD,hi',hv]
  ·show ns.length - (i+1) < ns.length - i
   omega
 ·have hi':¬ i < ns.length:=by simpa using k0
  show (Bv ns vs,())=(bs,())
  rw [hb]
  show (bs++Bv (ns.drop i) (vs.drop i),())=_
  rw [List.drop_of_length_le (by omega)]
  simp [Bv]
@[reducible] def tH:Ty:=.pair tI (.pair tI (.pair tI (.pair tI (.pair tI (.pair tSs (.pair .fn .fn))))))
@[reducible] def HdT:Type:=Int × Int × Int × Int × Int × List ByteArray × FnT × FnT
def hnd (i o l m k:Int) (ns:List ByteArray) (t e:FnT):HdT:=(i,o,l,m,k,ns,t,e)
def nmX:List ByteArray:=[⟨#[120]⟩]
def Ey:List ByteArray:=[⟨#[120]⟩,⟨#[121]⟩]
def Ao (k:Int):HdT :=
 if k=1 then hnd 0 1 0 0 0 [] (.mk 204 []) (.mk 203 [])
 else if k=2 then hnd 1 1 0 0 1 nmX (.mk 205 []) (.mk 203 [])
 else if k=3 then hnd 1 1 0 0 2 nmX (.mk 206 []) (.mk 203 [])
 else if k=4 then hnd 1 1 1 100 0 [] (.mk 207 []) (.mk 208 [])
 else if k=5 then hnd 1 1 0 100 0 [] (.mk 210 []) (.mk 203 [])
 else if k=6 then hnd 1 1 0 200 0 [] (.mk 211 []) (.mk 203 [])
 else if k=7 then hnd 1 2 0 0 2 nmX (.mk 212 []) (.mk 203 [])
 else if k=8 then hnd 2 1 0 0 0 [] (.mk 214 [.mk 202 []]) (.mk 213 [])
 else if k=9 then hnd 2 1 0 0 1 Ey (.mk 215 []) (.mk 216 [])
 else if k=10 then hnd 1 0 0 0 0 [] (.mk 217 []) (.mk 203 [])
 else hnd 0 0 0 0 0 [] .nil .nil
def Mr (k:Int):Bool:=bif decide (k < 1) then false else !decide (10 < k)
def c40:Ctr:=fnC [dI] [(true,tH),(false,.bool)] (fun _=>True) (fun y=>(Ao y.1,Mr y.1,()))
set_option maxHeartbeats 8000000 in
theorem Al0:GoodC Tryz.prog 127 c40:=by
 refine Ap Ag 4 _ _ _ _ ⟨_,Tryz.func127,rfl,rfl⟩ fun (⟨k,_⟩ : Int × Unit) _=>?_
 by_cases hk:1≤k∧k≤10
 ·have h:k=1∨k=2∨k=3∨k=4∨k=5∨k=6∨k=7∨k=8∨k=9∨k=10:=by omega
  clear hk
  rcases h with rfl | rfl | rfl | rfl | rfl | rfl | rfl | rfl | rfl | rfl
  ·refine (aF (aI (fun h0=>nG h0) (fun h0=>(aF (aO (Aa rfl (by rfl)))))))
  ·refine (aF (aI (fun h0=>nG h0) (fun h0=>(aF (aO (Aa rfl (by rfl)))))))
  ·refine (aF (aI (fun h0=>nG h0) (fun h0=>(aF (aO (Aa rfl (by rfl)))))))
  ·refine (aF (aI (fun h0=>nG h0) (fun h0=>(aF (aO (Aa rfl (by rfl)))))))
  ·refine (aF (aI (fun h0=>nG h0) (fun h0=>(aF (aO (Aa rfl (by rfl)))))))
  ·refine (aF (aI (fun h0=>nG h0) (fun h0=>(aF (aO (Aa rfl (by rfl)))))))
  ·refine (aF (aI (fun h0=>nG h0) (fun h0=>(aF (aO (Aa rfl (by rfl)))))))
  ·refine (aF (aI (fun h0=>nG h0) (fun h0=>(aF (aO (Aa rfl (by rfl)))))))
  ·refine (aF (aI (fun h0=>nG h0) (fun h0=>(aF (aO (Aa rfl (by rfl)))))))
  ·refine (aF (aI (fun h0=>nG h0) (fun h0=>(aF (aO (Aa rfl (by rfl)))))))
 ·refine (aF (aI (fun h0=>(Aa rfl ?_)) (fun h0=>(aF (aO ?_)))))
  ·have hB:Mr k=false:=by
    unfold Mr
    by_cases h1:k < 1
    ·rw [decide_eq_true h1];rfl
    ·rw [decide_eq_false h1,decide_eq_true (show 10 < k by omega)];rfl
   have hF:Ao k=hnd 0 0 0 0 0 [] .nil .nil:=by
    unfold Ao
    iterate 10 rw [if_neg (by omega)]
   show (Ao k,Mr k,())=_
   rw [hF,hB];rfl
  ·exfalso
   have h:(bif decide (k < 1) then true else decide (10 < k))=false:=h0
   by_cases h1:k < 1
   ·rw [decide_eq_true h1] at h;cases h
   ·rw [decide_eq_true (show 10 < k by omega)] at h
    cases hd:decide (k < 1) <;> rw [hd] at h <;> cases h
def Nx (a:List AK) (r:List (Bool × Ty)) (pick:AK.dens a→Nat) (tab:List (AK.dens a × G7 r)):Ctr:=fun args =>
 match Mc a args with
 | some y=>(match tab[pick y]? with
  | some p=>some ⟨⟨some (y=p.1),none,[],Eu r p.2⟩,fun k=>k (Eu r p.2)⟩
  | none=>none)
 | none=>none
theorem Hi {P:Program} {g:FuncId} {a:List AK} {r:List (Bool × Ty)} {need:AK.dens a→Prop} {f:AK.dens a→G7 r} (h:GoodC P g (fnC a r need f)) (pick:AK.dens a→Nat) (tab:List (AK.dens a × G7 r))
 (ht:∀ p∈tab,need p.1∧f p.1=p.2):GoodC P g (Nx a r pick tab):=by
 refine ⟨h.1,fun args cg hC k hk=>?_,fun args cr gen hC hn w F0 vs hF hsz hrd=>?_⟩
 ·unfold Nx at hC
  split at hC
  ·split at hC
   ·cases hC
    exact hk
   ·cases hC
  ·cases hC
 ·unfold Nx at hC
  split at hC
  ·rename_i y hy
   split at hC
   ·rename_i p hp
    cases hC
    have hn':y=p.1:=hn
    obtain ⟨h1,h2⟩:=ht p (List.mem_of_getElem? hp)
    subst hn'
    have hC':fnC a r need f args=some ⟨⟨some (need p.1),none,[],Eu r (f p.1)⟩,if Ali r then fun k=>∀ z,z=f p.1→k (Eu r z) else fun k=>k (Eu r (f p.1))⟩:=by
     unfold fnC
     rw [hy]
    rw [h2] at hC'
    exact h.calls _ _ _ hC' h1 w F0 vs hF hsz hrd
   ·cases hC
  ·cases hC
theorem T2 {P:Program} {g:FuncId} (a:List AK) (r:List (Bool × Ty)) (need:AK.dens a→Prop) (f:AK.dens a→G7 r)
 (hfn:∃ fn,P.funcs[g]?=some fn∧fn.body.isSome=true∧(fn.name == "runtime.NumGoroutine")=false)
 (h:∀ y,need y→∃ call:CallSem,A7 P call∧call g (F7 a y) [] 0 (G0 ⟨none,none,[],Eu r (f y)⟩)):GoodC P g (fnC a r need f):=by
 refine ⟨hfn,fun args cg hC k hk=>?_,fun args cr gen hC hn w F0 vs hF hsz hrd=>?_⟩
 ·unfold fnC at hC
  split at hC
  ·rename_i y hy
   cases hC
   simp only at hk
   split at hk
   ·exact hk _ rfl
   ·exact hk
  ·cases hC
 unfold fnC at hC
 split at hC
 ·rename_i y hy
  cases hC
  obtain ⟨call,hcall,hy'⟩:=h y hn
  obtain ⟨C,hgood,hCa⟩:=Rx hcall hfn _ _ hy'
  obtain ⟨e,hall⟩:=Gv (E:=Env.base w F0) a args y hy
  exact hgood.calls _ _ _ hCa trivial w F0 vs hF (hsz.trans e.symm) (fun i v x hv hx=>hall hrd i v x hv hx vs.toList (fun i u hu=>by simpa using hu) (by simpa using hsz))
 ·cases hC
def Al1:List (AK.dens [dI] × G7 [(true,tH),(false,.bool)]) :=
 [((1,()),((0,1,0,0,0,[],.mk 204 [],.mk 203 []),true,())),((2,()),((1,1,0,0,1,[⟨#[120]⟩],.mk 205 [],.mk 203 []),true,())),((3,()),((1,1,0,0,2,[⟨#[120]⟩],.mk 206 [],.mk 203 []),true,())),
  ((4,()),((1,1,1,100,0,[],.mk 207 [],.mk 208 []),true,())),((5,()),((1,1,0,100,0,[],.mk 210 [],.mk 203 []),true,())),((6,()),((1,1,0,200,0,[],.mk 211 [],.mk 203 []),true,())),
  ((7,()),((1,2,0,0,2,[⟨#[120]⟩],.mk 212 [],.mk 203 []),true,())),((8,()),((2,1,0,0,0,[],.mk 214 [.mk 202 []],.mk 213 []),true,())),((9,()),((2,1,0,0,1,[⟨#[120]⟩,⟨#[121]⟩],.mk 215 [],.mk 216 []),true,())),
  ((10,()),((1,0,0,0,0,[],.mk 217 [],.mk 203 []),true,()))]
def c40k:Ctr:=Nx [dI] [(true,tH),(false,.bool)] (fun y=>y.1.toNat - 1) Al1
theorem Ny:GoodC Tryz.prog 127 c40k:=by
 refine Hi Al0 _ Al1 fun p hp=>?_
 simp only [Al1,List.mem_cons,List.not_mem_nil,or_false] at hp
 rcases hp with rfl | rfl | rfl | rfl | rfl | rfl | rfl | rfl | rfl | rfl <;> exact ⟨trivial,rfl⟩
end Go.Proofs.YtckpldpombdkgaaGreat
