import Derived.Test.YticmijfmgmkkcaaGreatVZa2
set_option linter.unusedSimpArgs false
set_option linter.unusedVariables false
set_option maxRecDepth 100000
namespace Go.Proofs.YticmijfmgmkkcaaGreat
open Go.Sx
def one (b:Bool):Int:=if b=true then 1 else 0
def opF (o a b:Int):Int × Int :=
 if o=3 then (a+b,0) else if o=4 then (a - b,0) else if o=5 then timesF a b
 else if o=6 then (if b=0 then (0,24) else (a.tdiv b,0)) else if o=7 then (if b=0 then (0,24) else (a.tmod b,0))
 else if o=8 then (one (decide (a=b)),0) else if o=9 then (one (!decide (a=b)),0)
 else if o=10 then (one (decide (a < b)),0) else if o=11 then (one (decide (a≤b)),0)
 else if o=12 then (one (decide (b < a)),0) else if o=13 then (one (decide (b≤a)),0)
 else if o=14 then (one (bif !decide (a=0) then !decide (b=0) else false),0)
 else (one (bif !decide (a=0) then true else !decide (b=0)),0)
def valR (l:List Bd) (e:ExprT) (vs:List Int):Int × Int :=
 if e.kind=1 then (e.value,0) else if e.kind=2 then ((findB l e.name).1.2.2,0)
 else if e.kind=3 then (if e.op=2 then (1 - vs.getD 0 0,0) else (0 - vs.getD 0 0,0))
 else opF e.op (vs.getD 0 0) (vs.getD 1 0)
def clip (r:Int × Int):Int × Int :=
 if r.2≠0 then (0,r.2) else if 1099511627776 < absI r.1 then (0,14) else r
mutual
def valF (l:List Bd):ExprT→Int × Int
 | .mk k o nm v args=>if (valL l args).2=0 then clip (valR l (.mk k o nm v args) (valL l args).1) else (0,(valL l args).2)
def valL (l:List Bd):List ExprT→List Int × Int
 | []=>([],0)
 | e :: r=>if (valF l e).2=0 then ((valF l e).1 :: (valL l r).1,(valL l r).2) else ([],(valF l e).2)
end
theorem valF_eq (l:List Bd) (e:ExprT):valF l e=if (valL l e.args).2=0 then clip (valR l e (valL l e.args).1) else (0,(valL l e.args).2):=by
 obtain ⟨k,o,nm,v,args⟩:=e
 rfl
theorem valL_drop (l:List Bd) {args:List ExprT} {i:Nat} {e0:ExprT} (h:i < args.length):valL l (args.drop i) =
 if (valF l (args.getD i e0)).2=0 then ((valF l (args.getD i e0)).1 :: (valL l (args.drop (i+1))).1,(valL l (args.drop (i+1))).2) else ([],(valF l (args.getD i e0)).2):=by
 rw [List.drop_eq_getElem_cons h]
 simp [valL,List.getD,h]
def inM (n:Int):Prop:=-1099511627776≤n∧n≤1099511627776
theorem clip_in (r:Int × Int):inM (clip r).1:=by
 have z:inM 0:=⟨by decide,by decide⟩
 unfold clip
 split
 ·exact z
 ·split
  ·exact z
  ·rename_i h
   unfold inM
   rcases absI_cases r.1 with ⟨h1,h2⟩ | ⟨h1,h2⟩ <;> omega
theorem valF_in (l:List Bd) (e:ExprT):inM (valF l e).1:=by
 have z:inM 0:=⟨by decide,by decide⟩
 rw [valF_eq]
 split
 ·exact clip_in _
 ·exact z
theorem clip_hi {n:Int} (h:decide (1099511627776 < absI n)=true):clip (n,0)=(0,14):=by
 unfold clip
 rw [if_neg (by simp),if_pos (of_decide_eq_true h)]
theorem clip_lo {n:Int} (h:decide (1099511627776 < absI n)=false):clip (n,0)=(n,0):=by
 unfold clip
 rw [if_neg (by simp),if_neg (of_decide_eq_false h)]
theorem clip_er {n f:Int} (h:f≠0):clip (n,f)=(0,f):=by
 unfold clip
 rw [if_pos h]
theorem getD_in {vs:List Int} (h:∀ v∈vs,inM v) (n:Nat):inM (vs.getD n 0):=by
 by_cases hn:n < vs.length
 ·rw [List.getD_eq_getElem?_getD,List.getElem?_eq_getElem hn]
  exact h _ (List.getElem_mem hn)
 ·rw [List.getD_eq_getElem?_getD,List.getElem?_eq_none (by omega)]
  exact ⟨by decide,by decide⟩
def bdOk (l:List Bd):Prop:=∀ b∈l,inM b.2.2
theorem find_in {l:List Bd} (h:bdOk l) (s:ByteArray):inM (findB l s).1.2.2:=by
 unfold findB
 split
 ·exact ⟨by decide,by decide⟩
 ·rename_i h1
  have h2:=firstAt_lt (isNm s) l 0 (Int.le_refl _)
  have h3:0≤firstAt (isNm s) l 0:=by simpa using h1
  have h4:(firstAt (isNm s) l 0).toNat < l.length:=by omega
  refine h _ ?_
  simp [List.getD_eq_getElem?_getD,List.getElem?_eq_getElem h4]
theorem times_in (a b:Int):-1099511627776≤(timesF a b).1∧(timesF a b).1≤1099511627776:=by
 unfold timesF
 split
 ·exact ⟨by show _≤(0:Int);decide,by show (0:Int)≤_;decide⟩
 ·rename_i h
  exact times_range (by simpa using h)
theorem times_er (a b:Int) (h:(timesF a b).2≠0):(timesF a b).1=0:=by
 unfold timesF at h ⊢
 split
 ·rfl
 ·rename_i h1
  rw [if_neg h1] at h
  exact absurd rfl h
theorem tdiv_in (a b:Int):(a.tdiv b).natAbs≤a.natAbs:=by
 rw [Int.natAbs_tdiv];exact Nat.div_le_self _ _
theorem tmod_in (a b:Int):(a.tmod b).natAbs≤a.natAbs:=by
 rw [Int.natAbs_tmod];exact Nat.mod_le _ _
def c125 (N:Nat):Ctr:=fnC [dX,dBds] rII (fun y=>(chkT y.1=0∧bdOk y.2.1)∧exW y.1 < N) (fun y=>((valF y.2.1 y.1).1,(valF y.2.1 y.1).2,()))
def cxVal (N:Nat):Ctx:=⟨tys0,[(125,([],c125 N)),(134,([],c134)),(139,([],c139)),(145,([],c145))]⟩
set_option maxHeartbeats 8000000 in
theorem good125':∀ N,GoodC Tryz.prog 125 (c125 N)
 | 0=>by
  refine goodF cx0_good 3 _ _ _ _ ⟨_,Tryz.func125,rfl,rfl⟩ fun y hn=>?_
  exact absurd hn.2 (Nat.not_lt_zero _)
 | N+1=>by
  refine goodF (cx:=cxVal N) (cx_cons (good125' N) (cx_cons good134 (cx_cons good139 (cx_cons good145 cx0_good)))) 8 _ _ _ _ ⟨_,Tryz.func125,rfl,rfl⟩ fun (⟨e,l,_⟩ : ExprT × List Bd × Unit) hn=>?_
  have hN:exW e < N+1:=hn.2
  have hc:chkT e=0:=hn.1.1
  have hb:bdOk l:=hn.1.2
  clear hn
  obtain ⟨hc1,hc2⟩:=chk_node hc
  obtain ⟨hk,ha,hv,-,-,ho⟩:=node_ok hc1
  have hl2:=len_two ha
  refine (aI (by first | kernel_rfl | rfl) (fun h0=>?_))
  refine ex4 _ (fun p:Nat × List Int=>⟨[.any,.sl tBd l,.ptr 0 0,.any,.any,.any,.own 1,.any,.any,.any,.any,.any,.any,.any,.any,.ptr 0 4,.sl .expr e.args,.int .i64 (↑e.args.length:Int),.int .i64 (p.1:Int)]++nA 73,[.cells   [.int .i64 e.kind,.int .i64 e.op,.str e.name,.int .i64 e.value,.sl .expr e.args],.rows tI p.2],2⟩) (fun p=>p.1≤e.args.length∧(p.2.length=p.1∧∀ v∈p.2,inM v)∧(valL l (e.args.drop p.1)).2=(valL l e.args).2∧((valL l e.args).2=0→(valL l e.args).1=p.2++(valL l (e.args.drop p.1)).1)) (fun p=>e.args.length - p.1) (aI (Exists.intro ((0,[])) (Exists.intro ([some 0,none]) (aI ?_ (aI (by rfl) (aI (by rfl) (aI (aI (aI (by rfl) (by rfl)) (aI (by rfl) True.intro)) (by rfl))))))) ?_)
  ·exact ⟨Nat.zero_le _,⟨rfl,by simp⟩,rfl,fun _=>rfl⟩
  rintro ⟨i,vs⟩ ⟨hi,⟨hvl,hvi⟩,h2,h3⟩
  replace hvl:vs.length=i:=hvl
  replace hvi:∀ v∈vs,inM v:=hvi
  have room:(vs.length+1) * 8≤lim:=by
   have:i≤e.args.length:=hi
   simp only [lim];omega
  have hend:decide ((i:Int) < (e.args.length:Int))=false→vs.length=e.args.length∧valF l e=clip (valR l e vs):=fun h=>by
   have hi':¬ i < e.args.length:=by simpa using h
   have hle:i≤e.args.length:=hi
   have hnil:e.args.drop i=[]:=List.drop_of_length_le (by omega)
   have h2':(valL l e.args).2=0:=by rw [← h2];show (valL l (e.args.drop i)).2=0;rw [hnil];rfl
   have h3':=h3 h2'
   have h4:(valL l e.args).1=vs:=by rw [h3'];show vs++(valL l (e.args.drop i)).1=vs;rw [hnil];simp [valL]
   refine ⟨by omega, ?_⟩
   rw [valF_eq,if_pos h2',h4]
  have hargs:∀ k:Int,e.kind=k→(e.args.length:Int)=[0,0,0,1,2].getD k.toNat 0:=fun k h=>by rw [← h];exact ha
  have v0:-1099511627776≤vs.getD 0 0∧vs.getD 0 0≤1099511627776:=getD_in hvi 0
  have v1:-1099511627776≤vs.getD 1 0∧vs.getD 1 0≤1099511627776:=getD_in hvi 1
  have len3:decide ((i:Int) < (e.args.length:Int))=false→decide (e.kind=3)=true→vs.length=1:=fun h h'=>by
   have h4:=hargs _ (of_decide_eq_true h')
   simp at h4
   rw [(hend h).1];omega
  have len4:decide ((i:Int) < (e.args.length:Int))=false→decide (e.kind=1)=false→decide (e.kind=2)=false→decide (e.kind=3)=false→vs.length=2:=fun h h1 h2 h3=>by
   have h1:=of_decide_eq_false h1
   have h2:=of_decide_eq_false h2
   have h3:=of_decide_eq_false h3
   have h4:=hargs 4 (by omega)
   simp at h4
   rw [(hend h).1];omega
  have ln:∀ (a:Int) (n:Nat),vs.length=n→0≤a→a < n→0≤a∧a < (vs.length:Int):=fun a n h h1 h2=>⟨h1,by omega⟩
  have fi:=find_in hb e.name
  have x1:-9223372036854775808≤0 - vs.getD 0 0∧0 - vs.getD 0 0≤9223372036854775807:=by omega
  have x2:-9223372036854775807≤0 - vs.getD 0 0∧0 - vs.getD 0 0≤9223372036854775807:=by omega
  have x3:-9223372036854775808≤1 - vs.getD 0 0∧1 - vs.getD 0 0≤9223372036854775807:=by omega
  have x4:-9223372036854775807≤1 - vs.getD 0 0∧1 - vs.getD 0 0≤9223372036854775807:=by omega
  have xv:e.kind=1→-9223372036854775807≤e.value∧e.value≤9223372036854775807:=fun h=>by
   have:=hv h
   omega
  refine (aI (fun k0=>(aI (by (intros;(try subst_vars);(try simp only [nB] at *);(try simp only [inK,big,lim,nL] at *);omega)) (aI ?_ (aI (fun k1=>(fin_of rfl ?_)) (fun k1=>(aI (by omega) (aI (by (intros;(try subst_vars);(try simp only [nB] at *);(try simp only [inK,big,lim,nL] at *);omega)) ?_))))))) (fun k0=>(aI (fun k2=>(aI (fun k3=>(xv (of_decide_eq_true k2))) (aI (fun k4=>(aI (fun k5=>(fin_of rfl ?_)) (fun k5=>False.elim (Bool.false_ne_true (Eq.symm (Eq.trans (by kernel_rfl) k5)))))) (fun k4=>(aI (fun k6=>nF (by kernel_rfl) k6) (fun k6=>(fin_of rfl ?_))))))) (fun k2=>(aI (fun k7=>(aI True.intro (fun (k8:(ByteArray × Int × Int) × Bool × PUnit)=>(fun k9=>(aI (fun k10=>?_) (aI (fun k11=>(aI (fun k12=>(fin_of rfl ?_)) (fun k12=>False.elim (Bool.false_ne_true (Eq.symm (Eq.trans (by kernel_rfl) k12)))))) (fun k11=>(aI (fun k13=>nF (by kernel_rfl) k13) (fun k13=>(fin_of rfl ?_)))))))))) (fun k7=>(aI (fun k14=>(aI (ln _ _ (len3 k0 k14) (by decide) (by decide)) (aI (x1) (aI (fun k15=>(aI (ln _ _ (len3 k0 k14) (by decide) (by decide)) (aI (x3) (aI (fun k16=>(x4)) (aI (fun k17=>(aI (fun k18=>(fin_of rfl ?_)) (fun k18=>False.elim (Bool.false_ne_true (Eq.symm (Eq.trans (by kernel_rfl) k18)))))) (fun k17=>(aI (fun k19=>nF (by kernel_rfl) k19) (fun k19=>(fin_of rfl ?_))))))))) (fun k15=>(aI (fun k20=>(x2)) (aI (fun k21=>(aI (fun k22=>(fin_of rfl ?_)) (fun k22=>False.elim (Bool.false_ne_true (Eq.symm (Eq.trans (by kernel_rfl) k22)))))) (fun k21=>(aI (fun k23=>nF (by kernel_rfl) k23) (fun k23=>(fin_of rfl ?_))))))))))) (fun k14=>(aI (by kernel_rfl) (aI (ln _ _ (len4 k0 k2 k7 k14) (by decide) (by decide)) (aI (ln _ _ (len4 k0 k2 k7 k14) (by decide) (by decide)) (aI (by rfl) (aI (by rfl) (aI (by rfl) (aI (ln _ _ (len4 k0 k2 k7 k14) (by decide) (by decide)) (aI (by rfl) (aI (by rfl) (aI (by rfl) (aI (ln _ _ (len4 k0 k2 k7 k14) (by decide) (by decide)) (aI (by rfl) (aI (by rfl) (aI (by first | kernel_rfl | rfl) (aI (by first | kernel_rfl | rfl) (aI (by first | kernel_rfl | rfl) (aI (by first | kernel_rfl | rfl) (aI (by first | kernel_rfl | rfl) (aI (by first | kernel_rfl | rfl) (aI (by first | kernel_rfl | rfl) (aI (by first | kernel_rfl | rfl) (aI (by first | kernel_rfl | rfl) (aI (by first | kernel_rfl | rfl) (aI (by first | kernel_rfl | rfl) (aI (by first | kernel_rfl | rfl) (aI (by first | kernel_rfl | rfl) (aI (by first | kernel_rfl | rfl) (aI (by first | kernel_rfl | rfl) (aI (by first | kernel_rfl | rfl) (aI (by first | kernel_rfl | rfl) (aI (by first | kernel_rfl | rfl) (aI (by first | kernel_rfl | rfl) (aI (by first | kernel_rfl | rfl) (aI (by first | kernel_rfl | rfl) (aI (by rfl) (aI (by rfl) (aI (by rfl) (aI (ln _ _ (len4 k0 k2 k7 k14) (by decide) (by decide)) (aI (by rfl) (aI (by rfl) (aI (by rfl) (aI (ln _ _ (len4 k0 k2 k7 k14) (by decide) (by decide)) (aI (by rfl) (aI (by rfl) ?_))))))))))))))))))))))))))))))))))))))))))))))))))))
  ·have hi':i < e.args.length:=by simpa using k0
   rw [eta]
   exact ⟨⟨chk_args _ _ _ hi' hc2,hb⟩,Nat.lt_of_lt_of_le (arg_lt hi') (by omega)⟩
  ·have hi':i < e.args.length:=by simpa using k0
   have hk:(valF l (e.args.getD i (dflt .expr))).2≠0:=by have h:=k1;simp only [eta] at h;simpa using h
   have hd:=valL_drop l (e0:=dflt .expr) hi'
   rw [if_neg hk] at hd
   have h4:(valL l e.args).2=(valF l (e.args.getD i (dflt .expr))).2:=by rw [← h2];show (valL l (e.args.drop i)).2=_;rw [hd]
   simp only [eta]
   show ((valF l e).1,(valF l e).2,())=(0,(valF l (e.args.getD i (dflt .expr))).2,())
   rw [valF_eq,if_neg (by rw [h4];exact hk),h4]
  ·have hi':i < e.args.length:=by simpa using k0
   have hk:(valF l (e.args.getD i (dflt .expr))).2=0:=by have h:=k1;simp only [eta] at h;simpa using h
   have hd:=valL_drop l (e0:=dflt .expr) hi'
   rw [if_pos hk] at hd
   refine Exists.intro ((i+1,vs++[(valF l (ExprT.mk (e.args.getD i (dflt .expr)).kind (e.args.getD i (dflt .expr)).op (e.args.getD i (dflt .expr)).name (e.args.getD i (dflt .expr)).value (e.args.getD i (dflt .expr)).args)).1])) (Exists.intro ([some 0,some 4]) (aI ?_ (aI ?_ (aI (by rfl) (aI (by rfl) (aI (aI (aI (by rfl) (by rfl)) (aI (by rfl) True.intro)) (by rfl)))))))
   ·rw [eta]
    refine ⟨hi',⟨by show (vs++[_]).length=i+1;simp [hvl],fun v hv=>?_⟩, ?_,fun h=>?_⟩
    ·rcases List.mem_append.1 hv with h | h
     ·exact hvi v h
     ·rw [List.mem_singleton.1 h];exact valF_in _ _
    ·rw [← h2];show (valL l (e.args.drop (i+1))).2=(valL l (e.args.drop i)).2;rw [hd]
    ·rw [h3 h];show vs++(valL l (e.args.drop i)).1=(vs++[_])++(valL l (e.args.drop (i+1))).1;rw [hd];simp
   ·show e.args.length - (i+1) < e.args.length - i
    omega
  ·obtain ⟨-,he⟩:=hend k0
   have h1:e.kind=1:=of_decide_eq_true k2
   rw [he,valR,if_pos h1]
   show ((clip (e.value,0)).1,(clip (e.value,0)).2,())=_
   rw [clip_hi (show decide (1099511627776 < absI e.value)=true from k4)]
  ·obtain ⟨-,he⟩:=hend k0
   have h1:e.kind=1:=of_decide_eq_true k2
   rw [he,valR,if_pos h1]
   show ((clip (e.value,0)).1,(clip (e.value,0)).2,())=_
   rw [clip_lo (show decide (1099511627776 < absI e.value)=false from k4)]
  ·have h9:k8.1.2.2=(findB l e.name).1.2.2:=by rw [k9]
   have hf:-1099511627776≤(findB l e.name).1.2.2∧(findB l e.name).1.2.2≤1099511627776:=fi
   rw [← h9] at hf
   exact ⟨Int.le_trans (by decide) hf.1,Int.le_trans hf.2 (by decide)⟩
  ·obtain ⟨-,he⟩:=hend k0
   have h1:e.kind≠1:=of_decide_eq_false k2
   have h2:e.kind=2:=of_decide_eq_true k7
   have h9:k8.1.2.2=(findB l e.name).1.2.2:=by rw [k9]
   have h11:decide (1099511627776 < absI k8.1.2.2)=true:=k11
   rw [h9] at h11
   rw [he,valR,if_neg h1,if_pos h2]
   show ((clip ((findB l e.name).1.2.2,0)).1,(clip ((findB l e.name).1.2.2,0)).2,())=_
   rw [clip_hi h11]
  ·obtain ⟨-,he⟩:=hend k0
   have h1:e.kind≠1:=of_decide_eq_false k2
   have h2:e.kind=2:=of_decide_eq_true k7
   have h9:k8.1.2.2=(findB l e.name).1.2.2:=by rw [k9]
   have h11:decide (1099511627776 < absI k8.1.2.2)=false:=k11
   rw [h9] at h11
   rw [he,valR,if_neg h1,if_pos h2]
   show ((clip ((findB l e.name).1.2.2,0)).1,(clip ((findB l e.name).1.2.2,0)).2,())=(k8.1.2.2,0,())
   rw [clip_lo h11,h9]
  ·obtain ⟨-,he⟩:=hend k0
   have h1:e.kind≠1:=of_decide_eq_false k2
   have h2:e.kind≠2:=of_decide_eq_false k7
   have h3:e.kind=3:=of_decide_eq_true k14
   have h4:e.op=2:=of_decide_eq_true k15
   rw [he,valR,if_neg h1,if_neg h2,if_pos h3,if_pos h4]
   show ((clip (1 - vs.getD 0 0,0)).1,(clip (1 - vs.getD 0 0,0)).2,())=_
   rw [clip_hi (show decide (1099511627776 < absI (1 - vs.getD 0 0))=true from k17)]
  ·obtain ⟨-,he⟩:=hend k0
   have h1:e.kind≠1:=of_decide_eq_false k2
   have h2:e.kind≠2:=of_decide_eq_false k7
   have h3:e.kind=3:=of_decide_eq_true k14
   have h4:e.op=2:=of_decide_eq_true k15
   rw [he,valR,if_neg h1,if_neg h2,if_pos h3,if_pos h4]
   show ((clip (1 - vs.getD 0 0,0)).1,(clip (1 - vs.getD 0 0,0)).2,())=_
   rw [clip_lo (show decide (1099511627776 < absI (1 - vs.getD 0 0))=false from k17)]
   rfl
  ·obtain ⟨-,he⟩:=hend k0
   have h1:e.kind≠1:=of_decide_eq_false k2
   have h2:e.kind≠2:=of_decide_eq_false k7
   have h3:e.kind=3:=of_decide_eq_true k14
   have h4:e.op≠2:=of_decide_eq_false k15
   rw [he,valR,if_neg h1,if_neg h2,if_pos h3,if_neg h4]
   show ((clip (0 - vs.getD 0 0,0)).1,(clip (0 - vs.getD 0 0,0)).2,())=_
   rw [clip_hi (show decide (1099511627776 < absI (0 - vs.getD 0 0))=true from k21)]
  ·obtain ⟨-,he⟩:=hend k0
   have h1:e.kind≠1:=of_decide_eq_false k2
   have h2:e.kind≠2:=of_decide_eq_false k7
   have h3:e.kind=3:=of_decide_eq_true k14
   have h4:e.op≠2:=of_decide_eq_false k15
   rw [he,valR,if_neg h1,if_neg h2,if_pos h3,if_neg h4]
   show ((clip (0 - vs.getD 0 0,0)).1,(clip (0 - vs.getD 0 0,0)).2,())=_
   rw [clip_lo (show decide (1099511627776 < absI (0 - vs.getD 0 0))=false from k21)]
   rfl
  obtain ⟨-,he⟩:=hend k0
  have g1:e.kind≠1:=of_decide_eq_false k2
  have g2:e.kind≠2:=of_decide_eq_false k7
  have g3:e.kind≠3:=of_decide_eq_false k14
  rw [valR,if_neg g1,if_neg g2,if_neg g3] at he
  have hR:∀ p:Int,decide (e.op=p)=true→valF l e=clip (opF p (vs.getD 0 0) (vs.getD 1 0)):=fun p h=>by rw [he,of_decide_eq_true h]
  have LA:∀ p n:Int,decide (e.op=p)=true→opF p (vs.getD 0 0) (vs.getD 1 0)=(n,0)→decide (1099511627776 < absI n)=true→((valF l e).1,(valF l e).2,())=(0,14,()):=fun p n h h' h''=>by rw [hR p h,h',clip_hi h'']
  have LB:∀ p n:Int,decide (e.op=p)=true→opF p (vs.getD 0 0) (vs.getD 1 0)=(n,0)→decide (1099511627776 < absI n)=false→((valF l e).1,(valF l e).2,())=(n,0,()):=fun p n h h' h''=>by rw [hR p h,h',clip_lo h'']
  have LC:∀ p f:Int,decide (e.op=p)=true→opF p (vs.getD 0 0) (vs.getD 1 0)=(0,f)→f≠0→((valF l e).1,(valF l e).2,())=(0,f,()):=fun p f h h' h''=>by rw [hR p h,h',clip_er h'']
  have D6:decide (vs.getD 1 0=0)=false→opF 6 (vs.getD 0 0) (vs.getD 1 0)=((vs.getD 0 0).tdiv (vs.getD 1 0),0):=fun h=>by
   show (if vs.getD 1 0=0 then (0,24) else ((vs.getD 0 0).tdiv (vs.getD 1 0),0))=_
   rw [if_neg (of_decide_eq_false h)]
  have Z6:decide (vs.getD 1 0=0)=true→opF 6 (vs.getD 0 0) (vs.getD 1 0)=(0,24):=fun h=>by
   show (if vs.getD 1 0=0 then (0,24) else ((vs.getD 0 0).tdiv (vs.getD 1 0),0))=_
   rw [if_pos (of_decide_eq_true h)]
  have D7:decide (vs.getD 1 0=0)=false→opF 7 (vs.getD 0 0) (vs.getD 1 0)=((vs.getD 0 0).tmod (vs.getD 1 0),0):=fun h=>by
   show (if vs.getD 1 0=0 then (0,24) else ((vs.getD 0 0).tmod (vs.getD 1 0),0))=_
   rw [if_neg (of_decide_eq_false h)]
  have Z7:decide (vs.getD 1 0=0)=true→opF 7 (vs.getD 0 0) (vs.getD 1 0)=(0,24):=fun h=>by
   show (if vs.getD 1 0=0 then (0,24) else ((vs.getD 0 0).tmod (vs.getD 1 0),0))=_
   rw [if_pos (of_decide_eq_true h)]
  have w1:-9223372036854775808≤vs.getD 0 0+vs.getD 1 0∧vs.getD 0 0+vs.getD 1 0≤9223372036854775807:=by omega
  have w2:-9223372036854775807≤vs.getD 0 0+vs.getD 1 0∧vs.getD 0 0+vs.getD 1 0≤9223372036854775807:=by omega
  have w3:-9223372036854775808≤vs.getD 0 0 - vs.getD 1 0∧vs.getD 0 0 - vs.getD 1 0≤9223372036854775807:=by omega
  have w4:-9223372036854775807≤vs.getD 0 0 - vs.getD 1 0∧vs.getD 0 0 - vs.getD 1 0≤9223372036854775807:=by omega
  have w5:-9223372036854775807≤(timesF (vs.getD 0 0) (vs.getD 1 0)).1∧(timesF (vs.getD 0 0) (vs.getD 1 0)).1≤9223372036854775807:=by
   have:=times_in (vs.getD 0 0) (vs.getD 1 0)
   omega
  have w6:inK .i64 ((vs.getD 0 0).tdiv (vs.getD 1 0)):=by
   have:=tdiv_in (vs.getD 0 0) (vs.getD 1 0)
   simp only [inK];omega
  have w7:-9223372036854775807≤(vs.getD 0 0).tdiv (vs.getD 1 0)∧(vs.getD 0 0).tdiv (vs.getD 1 0)≤9223372036854775807:=by
   have:=tdiv_in (vs.getD 0 0) (vs.getD 1 0)
   omega
  have w8:-9223372036854775807≤(vs.getD 0 0).tmod (vs.getD 1 0)∧(vs.getD 0 0).tmod (vs.getD 1 0)≤9223372036854775807:=by
   have:=tmod_in (vs.getD 0 0) (vs.getD 1 0)
   omega
  refine .inl ?_
  refine (aI (fun m0=>(aI (by rfl) (aI (by rfl) (aI (by (intros;(try subst_vars);(try simp only [nB] at *);(try simp only [inK,big,lim,nL] at *);omega)) (aI (by rfl) (aI (by rfl) (aI (by rfl) (aI (by (intros;(try subst_vars);(try simp only [nB] at *);(try simp only [inK,big,lim,nL] at *);omega)) (aI (by rfl) (aI (by rfl) (aI (by first | kernel_rfl | rfl) (aI (by first | kernel_rfl | rfl) (aI (w1) (aI (by rfl) (aI (by rfl) (aI (by rfl) (aI (by rfl) (aI (fun m1=>(w2)) (aI (fun m2=>(aI (fun m3=>(fin_of rfl (by exact LA 3 _ m0 rfl m2))) (fun m3=>False.elim (Bool.false_ne_true (Eq.symm (Eq.trans (by kernel_rfl) m3)))))) (fun m2=>(aI (fun m4=>nF (by kernel_rfl) m4) (fun m4=>(fin_of rfl (by exact LB 3 _ m0 rfl m2)))))))))))))))))))))))) (fun m0=>(aI (fun m5=>(aI (by rfl) (aI (by rfl) (aI (by (intros;(try subst_vars);(try simp only [nB] at *);(try simp only [inK,big,lim,nL] at *);omega)) (aI (by rfl) (aI (by rfl) (aI (by rfl) (aI (by (intros;(try subst_vars);(try simp only [nB] at *);(try simp only [inK,big,lim,nL] at *);omega)) (aI (by rfl) (aI (by rfl) (aI (by first | kernel_rfl | rfl) (aI (by first | kernel_rfl | rfl) (aI (w3) (aI (by rfl) (aI (by rfl) (aI (by rfl) (aI (by rfl) (aI (fun m6=>(w4)) (aI (fun m7=>(aI (fun m8=>(fin_of rfl (by exact LA 4 _ m5 rfl m7))) (fun m8=>False.elim (Bool.false_ne_true (Eq.symm (Eq.trans (by kernel_rfl) m8)))))) (fun m7=>(aI (fun m9=>nF (by kernel_rfl) m9) (fun m9=>(fin_of rfl (by exact LB 4 _ m5 rfl m7)))))))))))))))))))))))) (fun m5=>(aI (fun m10=>(aI (by rfl) (aI (by rfl) (aI (by (intros;(try subst_vars);(try simp only [nB] at *);(try simp only [inK,big,lim,nL] at *);omega)) (aI (by rfl) (aI (by rfl) (aI (by rfl) (aI (by (intros;(try subst_vars);(try simp only [nB] at *);(try simp only [inK,big,lim,nL] at *);omega)) (aI (by rfl) (aI (by rfl) (aI (⟨v0,v1⟩) (aI (by rfl) (aI (by rfl) (aI (by rfl) (aI (by rfl) (aI (fun m11=>(w5)) (aI (fun m12=>(aI (fun m13=>(fin_of rfl ?_)) (fun m13=>False.elim (Bool.false_ne_true (Eq.symm (Eq.trans (by kernel_rfl) m13)))))) (fun m12=>(aI (fun m14=>(fin_of rfl ?_)) (fun m14=>(fin_of rfl ?_))))))))))))))))))))) (fun m10=>(aI (fun m15=>(aI (by rfl) (aI (by rfl) (aI (by (intros;(try subst_vars);(try simp only [nB] at *);(try simp only [inK,big,lim,nL] at *);omega)) (aI (by rfl) (aI (by rfl) (aI (by rfl) (aI (by (intros;(try subst_vars);(try simp only [nB] at *);(try simp only [inK,big,lim,nL] at *);omega)) (aI (by rfl) (aI (by rfl) (aI (by first | kernel_rfl | rfl) (aI (fun m16=>(aI (by rfl) (aI (by rfl) (aI (by rfl) (aI (by rfl) (aI (fun m17=>(by decide)) (aI (fun m18=>nF (by kernel_rfl) m18) (fun m18=>(aI (fun m19=>(fin_of rfl (by exact LC 6 24 m15 (Z6 m16) (by decide)))) (fun m19=>False.elim (Bool.false_ne_true (Eq.symm (Eq.trans (by kernel_rfl) m19))))))))))))) (fun m16=>(aI (by first | kernel_rfl | rfl) (aI (⟨of_decide_eq_false m16,w6⟩) (aI (by rfl) (aI (by rfl) (aI (by rfl) (aI (by rfl) (aI (fun m20=>(w7)) (aI (fun m21=>(aI (fun m22=>(fin_of rfl (by exact LA 6 _ m15 (D6 m16) m21))) (fun m22=>False.elim (Bool.false_ne_true (Eq.symm (Eq.trans (by kernel_rfl) m22)))))) (fun m21=>(aI (fun m23=>nF (by kernel_rfl) m23) (fun m23=>(fin_of rfl (by exact LB 6 _ m15 (D6 m16) m21)))))))))))))))))))))))))) (fun m15=>(aI (fun m24=>(aI (by rfl) (aI (by rfl) (aI (by (intros;(try subst_vars);(try simp only [nB] at *);(try simp only [inK,big,lim,nL] at *);omega)) (aI (by rfl) (aI (by rfl) (aI (by rfl) (aI (by (intros;(try subst_vars);(try simp only [nB] at *);(try simp only [inK,big,lim,nL] at *);omega)) (aI (by rfl) (aI (by rfl) (aI (by first | kernel_rfl | rfl) (aI (fun m25=>(aI (by rfl) (aI (by rfl) (aI (by rfl) (aI (by rfl) (aI (fun m26=>(by decide)) (aI (fun m27=>nF (by kernel_rfl) m27) (fun m27=>(aI (fun m28=>(fin_of rfl (by exact LC 7 24 m24 (Z7 m25) (by decide)))) (fun m28=>False.elim (Bool.false_ne_true (Eq.symm (Eq.trans (by kernel_rfl) m28))))))))))))) (fun m25=>(aI (by first | kernel_rfl | rfl) (aI (of_decide_eq_false m25) (aI (by rfl) (aI (by rfl) (aI (by rfl) (aI (by rfl) (aI (fun m29=>(w8)) (aI (fun m30=>(aI (fun m31=>(fin_of rfl (by exact LA 7 _ m24 (D7 m25) m30))) (fun m31=>False.elim (Bool.false_ne_true (Eq.symm (Eq.trans (by kernel_rfl) m31)))))) (fun m30=>(aI (fun m32=>nF (by kernel_rfl) m32) (fun m32=>(fin_of rfl (by exact LB 7 _ m24 (D7 m25) m30)))))))))))))))))))))))))) (fun m24=>(aI (fun m33=>(aI (by rfl) (aI (by rfl) (aI (by (intros;(try subst_vars);(try simp only [nB] at *);(try simp only [inK,big,lim,nL] at *);omega)) (aI (by rfl) (aI (by rfl) (aI (by rfl) (aI (by (intros;(try subst_vars);(try simp only [nB] at *);(try simp only [inK,big,lim,nL] at *);omega)) (aI (by rfl) (aI (by rfl) (aI (by first | kernel_rfl | rfl) (aI (by first | kernel_rfl | rfl) (aI (by first | kernel_rfl | rfl) (aI (fun m34=>(aI (by rfl) (aI (by rfl) (aI (by rfl) (aI (by rfl) (aI (fun m35=>(by decide)) (aI (fun m36=>nF (by kernel_rfl) m36) (fun m36=>(aI (fun m37=>nF (by kernel_rfl) m37) (fun m37=>(fin_of rfl (by exact LB 8 1 m33 (congrArg (fun c=>(one c,(0:Int))) m34) rfl)))))))))))) (fun m34=>(aI (by rfl) (aI (by rfl) (aI (by rfl) (aI (by rfl) (aI (fun m38=>(by decide)) (aI (fun m39=>nF (by kernel_rfl) m39) (fun m39=>(aI (fun m40=>nF (by kernel_rfl) m40) (fun m40=>(fin_of rfl (by exact LB 8 0 m33 (congrArg (fun c=>(one c,(0:Int))) m34) rfl)))))))))))))))))))))))))) (fun m33=>(aI (fun m41=>(aI (by rfl) (aI (by rfl) (aI (by (intros;(try subst_vars);(try simp only [nB] at *);(try simp only [inK,big,lim,nL] at *);omega)) (aI (by rfl) (aI (by rfl) (aI (by rfl) (aI (by (intros;(try subst_vars);(try simp only [nB] at *);(try simp only [inK,big,lim,nL] at *);omega)) (aI (by rfl) (aI (by rfl) (aI (by first | kernel_rfl | rfl) (aI (by first | kernel_rfl | rfl) (aI (by first | kernel_rfl | rfl) (aI (fun m42=>(aI (by rfl) (aI (by rfl) (aI (by rfl) (aI (by rfl) (aI (fun m43=>(by decide)) (aI (fun m44=>nF (by kernel_rfl) m44) (fun m44=>(aI (fun m45=>nF (by kernel_rfl) m45) (fun m45=>(fin_of rfl (by exact LB 9 1 m41 (congrArg (fun c=>(one c,(0:Int))) m42) rfl)))))))))))) (fun m42=>(aI (by rfl) (aI (by rfl) (aI (by rfl) (aI (by rfl) (aI (fun m46=>(by decide)) (aI (fun m47=>nF (by kernel_rfl) m47) (fun m47=>(aI (fun m48=>nF (by kernel_rfl) m48) (fun m48=>(fin_of rfl (by exact LB 9 0 m41 (congrArg (fun c=>(one c,(0:Int))) m42) rfl)))))))))))))))))))))))))) (fun m41=>(aI (fun m49=>(aI (by rfl) (aI (by rfl) (aI (by (intros;(try subst_vars);(try simp only [nB] at *);(try simp only [inK,big,lim,nL] at *);omega)) (aI (by rfl) (aI (by rfl) (aI (by rfl) (aI (by (intros;(try subst_vars);(try simp only [nB] at *);(try simp only [inK,big,lim,nL] at *);omega)) (aI (by rfl) (aI (by rfl) (aI (by first | kernel_rfl | rfl) (aI (by first | kernel_rfl | rfl) (aI (by first | kernel_rfl | rfl) (aI (fun m50=>(aI (by rfl) (aI (by rfl) (aI (by rfl) (aI (by rfl) (aI (fun m51=>(by decide)) (aI (fun m52=>nF (by kernel_rfl) m52) (fun m52=>(aI (fun m53=>nF (by kernel_rfl) m53) (fun m53=>(fin_of rfl (by exact LB 10 1 m49 (congrArg (fun c=>(one c,(0:Int))) m50) rfl)))))))))))) (fun m50=>(aI (by rfl) (aI (by rfl) (aI (by rfl) (aI (by rfl) (aI (fun m54=>(by decide)) (aI (fun m55=>nF (by kernel_rfl) m55) (fun m55=>(aI (fun m56=>nF (by kernel_rfl) m56) (fun m56=>(fin_of rfl (by exact LB 10 0 m49 (congrArg (fun c=>(one c,(0:Int))) m50) rfl)))))))))))))))))))))))))) (fun m49=>(aI (fun m57=>(aI (by rfl) (aI (by rfl) (aI (by (intros;(try subst_vars);(try simp only [nB] at *);(try simp only [inK,big,lim,nL] at *);omega)) (aI (by rfl) (aI (by rfl) (aI (by rfl) (aI (by (intros;(try subst_vars);(try simp only [nB] at *);(try simp only [inK,big,lim,nL] at *);omega)) (aI (by rfl) (aI (by rfl) (aI (by first | kernel_rfl | rfl) (aI (by first | kernel_rfl | rfl) (aI (by first | kernel_rfl | rfl) (aI (fun m58=>(aI (by rfl) (aI (by rfl) (aI (by rfl) (aI (by rfl) (aI (fun m59=>(by decide)) (aI (fun m60=>nF (by kernel_rfl) m60) (fun m60=>(aI (fun m61=>nF (by kernel_rfl) m61) (fun m61=>(fin_of rfl (by exact LB 11 1 m57 (congrArg (fun c=>(one c,(0:Int))) m58) rfl)))))))))))) (fun m58=>(aI (by rfl) (aI (by rfl) (aI (by rfl) (aI (by rfl) (aI (fun m62=>(by decide)) (aI (fun m63=>nF (by kernel_rfl) m63) (fun m63=>(aI (fun m64=>nF (by kernel_rfl) m64) (fun m64=>(fin_of rfl (by exact LB 11 0 m57 (congrArg (fun c=>(one c,(0:Int))) m58) rfl)))))))))))))))))))))))))) (fun m57=>(aI (fun m65=>(aI (by rfl) (aI (by rfl) (aI (by (intros;(try subst_vars);(try simp only [nB] at *);(try simp only [inK,big,lim,nL] at *);omega)) (aI (by rfl) (aI (by rfl) (aI (by rfl) (aI (by (intros;(try subst_vars);(try simp only [nB] at *);(try simp only [inK,big,lim,nL] at *);omega)) (aI (by rfl) (aI (by rfl) (aI (by first | kernel_rfl | rfl) (aI (by first | kernel_rfl | rfl) (aI (by first | kernel_rfl | rfl) (aI (fun m66=>(aI (by rfl) (aI (by rfl) (aI (by rfl) (aI (by rfl) (aI (fun m67=>(by decide)) (aI (fun m68=>nF (by kernel_rfl) m68) (fun m68=>(aI (fun m69=>nF (by kernel_rfl) m69) (fun m69=>(fin_of rfl (by exact LB 12 1 m65 (congrArg (fun c=>(one c,(0:Int))) m66) rfl)))))))))))) (fun m66=>(aI (by rfl) (aI (by rfl) (aI (by rfl) (aI (by rfl) (aI (fun m70=>(by decide)) (aI (fun m71=>nF (by kernel_rfl) m71) (fun m71=>(aI (fun m72=>nF (by kernel_rfl) m72) (fun m72=>(fin_of rfl (by exact LB 12 0 m65 (congrArg (fun c=>(one c,(0:Int))) m66) rfl)))))))))))))))))))))))))) (fun m65=>(aI (fun m73=>(aI (by rfl) (aI (by rfl) (aI (by (intros;(try subst_vars);(try simp only [nB] at *);(try simp only [inK,big,lim,nL] at *);omega)) (aI (by rfl) (aI (by rfl) (aI (by rfl) (aI (by (intros;(try subst_vars);(try simp only [nB] at *);(try simp only [inK,big,lim,nL] at *);omega)) (aI (by rfl) (aI (by rfl) (aI (by first | kernel_rfl | rfl) (aI (by first | kernel_rfl | rfl) (aI (by first | kernel_rfl | rfl) (aI (fun m74=>(aI (by rfl) (aI (by rfl) (aI (by rfl) (aI (by rfl) (aI (fun m75=>(by decide)) (aI (fun m76=>nF (by kernel_rfl) m76) (fun m76=>(aI (fun m77=>nF (by kernel_rfl) m77) (fun m77=>(fin_of rfl (by exact LB 13 1 m73 (congrArg (fun c=>(one c,(0:Int))) m74) rfl)))))))))))) (fun m74=>(aI (by rfl) (aI (by rfl) (aI (by rfl) (aI (by rfl) (aI (fun m78=>(by decide)) (aI (fun m79=>nF (by kernel_rfl) m79) (fun m79=>(aI (fun m80=>nF (by kernel_rfl) m80) (fun m80=>(fin_of rfl (by exact LB 13 0 m73 (congrArg (fun c=>(one c,(0:Int))) m74) rfl)))))))))))))))))))))))))) (fun m73=>(aI (fun m81=>(aI (by rfl) (aI (by rfl) (aI (by (intros;(try subst_vars);(try simp only [nB] at *);(try simp only [inK,big,lim,nL] at *);omega)) (aI (by rfl) (aI (by rfl) (aI (by rfl) (aI (by (intros;(try subst_vars);(try simp only [nB] at *);(try simp only [inK,big,lim,nL] at *);omega)) (aI (by rfl) (aI (by rfl) (aI (by first | kernel_rfl | rfl) (aI (by first | kernel_rfl | rfl) (aI (by first | kernel_rfl | rfl) (aI (fun m82=>(aI (by rfl) (aI (by rfl) (aI (by rfl) (aI (by rfl) (aI (fun m83=>(by decide)) (aI (fun m84=>nF (by kernel_rfl) m84) (fun m84=>(aI (fun m85=>nF (by kernel_rfl) m85) (fun m85=>(fin_of rfl (by exact LB 14 1 m81 (congrArg (fun c=>(one c,(0:Int))) m82) rfl)))))))))))) (fun m82=>(aI (by rfl) (aI (by rfl) (aI (by rfl) (aI (by rfl) (aI (fun m86=>(by decide)) (aI (fun m87=>nF (by kernel_rfl) m87) (fun m87=>(aI (fun m88=>nF (by kernel_rfl) m88) (fun m88=>(fin_of rfl (by exact LB 14 0 m81 (congrArg (fun c=>(one c,(0:Int))) m82) rfl)))))))))))))))))))))))))) (fun m81=>(aI (fun m89=>(aI (by rfl) (aI (by rfl) (aI (by (intros;(try subst_vars);(try simp only [nB] at *);(try simp only [inK,big,lim,nL] at *);omega)) (aI (by rfl) (aI (by rfl) (aI (by rfl) (aI (by (intros;(try subst_vars);(try simp only [nB] at *);(try simp only [inK,big,lim,nL] at *);omega)) (aI (by rfl) (aI (by rfl) (aI (by first | kernel_rfl | rfl) (aI (by first | kernel_rfl | rfl) (aI (by first | kernel_rfl | rfl) (aI (fun m90=>(aI (by rfl) (aI (by rfl) (aI (by rfl) (aI (by rfl) (aI (fun m91=>(by decide)) (aI (fun m92=>nF (by kernel_rfl) m92) (fun m92=>(aI (fun m93=>nF (by kernel_rfl) m93) (fun m93=>(fin_of rfl (by exact LB 15 1 m89 (congrArg (fun c=>(one c,(0:Int))) m90) rfl)))))))))))) (fun m90=>(aI (by rfl) (aI (by rfl) (aI (by rfl) (aI (by rfl) (aI (fun m94=>(by decide)) (aI (fun m95=>nF (by kernel_rfl) m95) (fun m95=>(aI (fun m96=>nF (by kernel_rfl) m96) (fun m96=>(fin_of rfl (by exact LB 15 0 m89 (congrArg (fun c=>(one c,(0:Int))) m90) rfl)))))))))))))))))))))))))) (fun m89=>(aI (by rfl) (aI (by rfl) (aI (by (intros;(try subst_vars);(try simp only [nB] at *);(try simp only [inK,big,lim,nL] at *);omega)) (aI (by rfl) (aI (by rfl) (aI (by rfl) (aI (by (intros;(try subst_vars);(try simp only [nB] at *);(try simp only [inK,big,lim,nL] at *);omega)) (aI (by rfl) (aI (by rfl) ?_)))))))))))))))))))))))))))))))))))
  ·obtain ⟨f,hf⟩ : ∃ f,(timesF (vs.getD 0 0) (vs.getD 1 0)).2=f:=⟨_,rfl⟩
   have h:(bif decide ((timesF (vs.getD 0 0) (vs.getD 1 0)).2=0) then decide (1099511627776 < absI (timesF (vs.getD 0 0) (vs.getD 1 0)).1) else false)=true:=m12
   rw [hf] at h
   by_cases hz:f=0
   ·rw [decide_eq_true hz] at h
    subst hz
    exact LA 5 (timesF (vs.getD 0 0) (vs.getD 1 0)).1 m10 (Prod.ext rfl hf) h
   ·rw [decide_eq_false hz] at h;cases h
  ·have hf:(timesF (vs.getD 0 0) (vs.getD 1 0)).2≠0:=by
    have h:(!decide ((timesF (vs.getD 0 0) (vs.getD 1 0)).2=0))=true:=m14
    simpa using h
   exact LC 5 (timesF (vs.getD 0 0) (vs.getD 1 0)).2 m10 (Prod.ext (times_er _ _ hf) rfl) hf
  ·have hf:(timesF (vs.getD 0 0) (vs.getD 1 0)).2=0:=by
    have h:(!decide ((timesF (vs.getD 0 0) (vs.getD 1 0)).2=0))=false:=m14
    simpa using h
   have h:(bif decide ((timesF (vs.getD 0 0) (vs.getD 1 0)).2=0) then decide (1099511627776 < absI (timesF (vs.getD 0 0) (vs.getD 1 0)).1) else false)=false:=m12
   rw [decide_eq_true hf] at h
   exact LB 5 (timesF (vs.getD 0 0) (vs.getD 1 0)).1 m10 (Prod.ext rfl hf) h
  ·exfalso
   have h:=ho (by omega)
   have q:∀ p:Int,decide (e.op=p)=false→¬ e.op=p:=fun p h=>of_decide_eq_false h
   unfold opKnown at h
   simp only [dmpE,opTab,List.map_cons,List.map_nil,memD,if_neg (q _ m0),if_neg (q _ m5),if_neg (q _ m10),if_neg (q _ m15),if_neg (q _ m24),if_neg (q _ m33),if_neg (q _ m41),if_neg (q _ m49),if_neg (q _ m57),if_neg (q _ m65),if_neg (q _ m73),if_neg (q _ m81),if_neg (q _ m89)] at h
   cases h
end Go.Proofs.YticmijfmgmkkcaaGreat
namespace Go.Proofs.YticmijfmgmkkcaaGreat
open Go.Sx
def c125A:Ctr:=fnC [dX,dBds] rII (fun y=>chkT y.1=0∧bdOk y.2.1) (fun y=>((valF y.2.1 y.1).1,(valF y.2.1 y.1).2,()))
theorem good125:GoodC Tryz.prog 125 c125A:=good_rec (fun y=>exW y.1) good125'
theorem bound_ok {l:List Bd} (h:boundB l=true):bdOk l:=by
 intro b hb
 obtain ⟨i,hi,rfl⟩:=List.getElem_of_mem hb
 have h1:(List.range l.length).any (badBd l)=false:=by
  unfold boundB at h
  cases hc:(List.range l.length).any (badBd l)
  ·rfl
  ·rw [hc] at h;cases h
 have h2:badBd l i=false:=by
  have:=List.any_eq_false.1 h1 i (List.mem_range.2 hi)
  simpa using this
 have e1:l.getD ((i:Int).toNat) (dflt tBd)=l[i]:=by
  rw [Int.toNat_natCast,List.getD_eq_getElem?_getD,List.getElem?_eq_getElem hi];rfl
 have key:∀ lo hi:Int,badIn lo hi l i=false→lo≤l[i].2.2∧l[i].2.2≤hi:=fun lo hi h=>by
  unfold badIn at h
  rw [e1] at h
  have aux:∀ q a b:Bool,(bif (bif q then true else a) then true else b)=false→a=false∧b=false:=by
   intro q a b;cases q <;> cases a <;> cases b <;> simp
  obtain ⟨h3,h4⟩:=aux _ _ _ h
  have h5:=of_decide_eq_false h3
  have h6:=of_decide_eq_false h4
  exact ⟨Int.not_lt.1 h5,Int.not_lt.1 h6⟩
 unfold badBd at h2
 cases hd:decide ((l.getD (i:Int).toNat (dflt tBd)).2.1=2) with
 | true =>
  rw [hd] at h2
  have:=key _ _ h2
  unfold inM;omega
 | false =>
  rw [hd] at h2
  exact key _ _ h2
def exEval (e:ExprT) (l:List Bd):Int × Int:=if (exType e l).2≠0 then (0,(exType e l).2) else valF l e
theorem typ_ok {e:ExprT} {l:List Bd} (h:(exType e l).2=0):exChk e=0∧boundB l=true:=by
 unfold exType at h
 split at h
 ·rename_i h1;exact absurd h h1
 ·rename_i h1
  split at h
  ·rename_i h2;exact ⟨by simpa using h1,h2⟩
  ·exact absurd h (by decide)
def cxEv:Ctx:=⟨tys0,[(82,([],c82)),(125,([],c125A))]⟩
theorem cxEv_good:GoodCtx Tryz.prog cxEv:=cx_cons good82 (cx_cons good125 cx0_good)
def c108:Ctr:=fnC [dX,dBds] rII (fun _=>True) (fun y=>((exEval y.1 y.2.1).1,(exEval y.1 y.2.1).2,()))
theorem good108:GoodC Tryz.prog 108 c108:=by
 refine goodF cxEv_good 3 _ _ _ _ ⟨_,Tryz.func108,rfl,rfl⟩ fun (⟨e,l,_⟩ : ExprT × List Bd × Unit) _=>?_
 refine (aI (by first | kernel_rfl | rfl) (aI True.intro (aI (fun h0=>(fin_of rfl ?_)) (fun h0=>(aI ?_ (fin_of rfl ?_))))))
 ·have hk:(exType e l).2≠0:=by have h:=h0;simp only [eta] at h;simpa using h
  simp only [eta]
  show ((exEval e l).1,(exEval e l).2,())=(0,(exType e l).2,())
  rw [exEval,if_pos hk]
 ·have hk:(exType e l).2=0:=by have h:=h0;simp only [eta] at h;simpa using h
  simp only [eta]
  exact ⟨chk_T (typ_ok hk).1,bound_ok (typ_ok hk).2⟩
 ·have hk:¬ (exType e l).2≠0:=by have h:=h0;simp only [eta] at h;simpa using h
  simp only [eta]
  show ((exEval e l).1,(exEval e l).2,())=((valF l e).1,(valF l e).2,())
  rw [exEval,if_neg hk]
end Go.Proofs.YticmijfmgmkkcaaGreat
namespace Go.Proofs.YticmijfmgmkkcaaGreat
open Go.Sx
def isS (v:ByteArray) (x:ByteArray):Bool:=decide (v=x)
def isI (v:Int) (x:Int):Bool:=decide (v=x)
def c115:Ctr:=fnC [dSs,dS] rI (fun _=>True) (fun y=>(firstAt (isS y.2.1) y.1 0,()))
theorem good115:GoodC Tryz.prog 115 c115:=by
 refine goodF cx0_good 3 _ _ _ _ ⟨_,Tryz.func115,rfl,rfl⟩ fun (⟨xs,s,_⟩ : List ByteArray × ByteArray × Unit) _=>?_
 refine (aI (by first | kernel_rfl | rfl) (fun h0=>?_))
 refine ex4 _ (fun i:Nat=>⟨[.sl .str xs,.str s,.any,.any,.any,.any,.sl .str xs,.int .i64 (↑xs.length:Int),.int .i64 (i:Int),.any,.any,.any,.any,.any,.any,.any,.any,.any,.any],[],0⟩) (fun i=>i≤xs.length∧firstAt (isS s) xs 0=firstAt (isS s) (xs.drop i) i) (fun i=>xs.length - i) (aI (Exists.intro (0) (Exists.intro ([]) (aI ?_ (aI (by rfl) (aI (by rfl) (aI True.intro (by rfl))))))) ?_)
 ·exact ⟨Nat.zero_le _,rfl⟩
 rintro i ⟨hi,ht⟩
 refine (aI (fun k0=>(aI (by intros;(try subst_vars);(try simp only [nB] at *);(try simp only [inK,big,lim,nL] at *);omega) (aI (fun k1=>(fin_of rfl ?_)) (fun k1=>(aI (by intros;(try subst_vars);(try simp only [nB] at *);(try simp only [inK,big,lim,nL] at *);omega) ?_))))) (fun k0=>(fin_of rfl ?_)))
 ·have hi':i < xs.length:=by simpa using k0
  have hk:isS s (xs.getD i (dflt .str))=true:=k1
  rw [firstAt_drop _ (dflt .str) _ _ hi',if_pos hk] at ht
  show (firstAt (isS s) xs 0,())=(_,())
  rw [ht]
 ·have hi':i < xs.length:=by simpa using k0
  have hk:isS s (xs.getD i (dflt .str))=false:=k1
  rw [firstAt_drop _ (dflt .str) _ _ hi',if_neg (by rw [hk];simp)] at ht
  refine Exists.intro (i+1) (Exists.intro ([]) (aI ?_ (aI ?_ (aI (by rfl) (aI (by rfl) (aI True.intro (by rfl)))))))
  ·exact ⟨hi',ht⟩
  ·show xs.length - (i+1) < xs.length - i
   omega
 ·have hi':¬ i < xs.length:=by simpa using k0
  rw [List.drop_of_length_le (by omega)] at ht
  show (firstAt (isS s) xs 0,())=(_,())
  rw [ht];rfl
def c81:Ctr:=fnC [dSs,dS] rB (fun _=>True) (fun y=>(y.1.any (isS y.2.1),()))
def cxH1:Ctx:=⟨tys0,[(115,([],c115))]⟩
theorem cxH1_good:GoodCtx Tryz.prog cxH1:=cx_cons good115 cx0_good
theorem good81:GoodC Tryz.prog 81 c81:=by
 refine goodF cxH1_good 3 _ _ _ _ ⟨_,Tryz.func81,rfl,rfl⟩ fun (⟨xs,s,_⟩ : List ByteArray × ByteArray × Unit) _=>?_
 refine (aI (by first | kernel_rfl | rfl) (aI True.intro (fin_of rfl ?_)))
 show (xs.any (isS s),())=_
 rw [← firstAt_ge (isS s) xs 0 (Int.le_refl _)]
def c58:Ctr:=fnC [dIs,dI] rI (fun _=>True) (fun y=>(firstAt (isI y.2.1) y.1 0,()))
theorem good58:GoodC Tryz.prog 58 c58:=by
 refine goodF cx0_good 3 _ _ _ _ ⟨_,Tryz.func58,rfl,rfl⟩ fun (⟨xs,s,_⟩ : List Int × Int × Unit) _=>?_
 refine (aI (by first | kernel_rfl | rfl) (fun h0=>?_))
 refine ex4 _ (fun i:Nat=>⟨[.sl (.int .i64) xs,.int .i64 s,.any,.any,.any,.any,.sl (.int .i64) xs,.int .i64 (↑xs.length:Int),.int .i64 (i:Int),.any,.any,.any,.any,.any,.any,.any,.any,.any,.any],[],0⟩) (fun i=>i≤xs.length∧firstAt (isI s) xs 0=firstAt (isI s) (xs.drop i) i) (fun i=>xs.length - i) (aI (Exists.intro (0) (Exists.intro ([]) (aI ?_ (aI (by rfl) (aI (by rfl) (aI True.intro (by rfl))))))) ?_)
 ·exact ⟨Nat.zero_le _,rfl⟩
 rintro i ⟨hi,ht⟩
 refine (aI (fun k0=>(aI (by intros;(try subst_vars);(try simp only [nB] at *);(try simp only [inK,big,lim,nL] at *);omega) (aI (fun k1=>(fin_of rfl ?_)) (fun k1=>(aI (by intros;(try subst_vars);(try simp only [nB] at *);(try simp only [inK,big,lim,nL] at *);omega) ?_))))) (fun k0=>(fin_of rfl ?_)))
 ·have hi':i < xs.length:=by simpa using k0
  have hk:isI s (xs.getD i (dflt tI))=true:=k1
  rw [firstAt_drop _ (dflt tI) _ _ hi',if_pos hk] at ht
  show (firstAt (isI s) xs 0,())=(_,())
  rw [ht]
 ·have hi':i < xs.length:=by simpa using k0
  have hk:isI s (xs.getD i (dflt tI))=false:=k1
  rw [firstAt_drop _ (dflt tI) _ _ hi',if_neg (by rw [hk];simp)] at ht
  refine Exists.intro (i+1) (Exists.intro ([]) (aI ?_ (aI ?_ (aI (by rfl) (aI (by rfl) (aI True.intro (by rfl)))))))
  ·exact ⟨hi',ht⟩
  ·show xs.length - (i+1) < xs.length - i
   omega
 ·have hi':¬ i < xs.length:=by simpa using k0
  rw [List.drop_of_length_le (by omega)] at ht
  show (firstAt (isI s) xs 0,())=(_,())
  rw [ht];rfl
def c25:Ctr:=fnC [dIs,dI] rB (fun _=>True) (fun y=>(y.1.any (isI y.2.1),()))
def cxH2:Ctx:=⟨tys0,[(58,([],c58))]⟩
theorem cxH2_good:GoodCtx Tryz.prog cxH2:=cx_cons good58 cx0_good
theorem good25:GoodC Tryz.prog 25 c25:=by
 refine goodF cxH2_good 3 _ _ _ _ ⟨_,Tryz.func25,rfl,rfl⟩ fun (⟨xs,s,_⟩ : List Int × Int × Unit) _=>?_
 refine (aI (by first | kernel_rfl | rfl) (aI True.intro (fin_of rfl ?_)))
 show (xs.any (isI s),())=_
 rw [← firstAt_ge (isI s) xs 0 (Int.le_refl _)]
def bindF:List ByteArray→List Int→List Bd
 | n :: ns,v :: vs=>(n,1,v) :: bindF ns vs
 | _,_=>[]
def c83:Ctr:=fnC [dSs,dIs] [(false,.sl tBd)] (fun y=>y.1.length≤y.2.1.length∧y.1.length≤2) (fun y=>(bindF y.1 y.2.1,()))
theorem good83:GoodC Tryz.prog 83 c83:=by
 refine goodF cx0_good 3 _ _ _ _ ⟨_,Tryz.func83,rfl,rfl⟩ fun (⟨ns,vs,_⟩ : List ByteArray × List Int × Unit) hn=>?_
 have hn1:ns.length≤vs.length:=hn.1
 have hn2:ns.length≤2:=hn.2
 clear hn
 refine (aI (by first | kernel_rfl | rfl) (fun h0=>?_))
 refine ex4 _ (fun p:Nat × List Bd=>⟨[.sl .str ns,.sl (.int .i64) vs,.any,.any,.any,.own 0,.any,.any,.sl .str ns,.int .i64 (↑ns.length:Int),.int .i64 (p.1:Int)]++nA 15,[.rows tBd p.2],1⟩) (fun p=>p.1≤ns.length∧p.2.length=p.1∧bindF ns vs=p.2++bindF (ns.drop p.1) (vs.drop p.1)) (fun p=>ns.length - p.1) (aI (Exists.intro ((0,[])) (Exists.intro ([none]) (aI ?_ (aI (by rfl) (aI (by rfl) (aI (aI (by rfl) True.intro) (by rfl))))))) ?_)
 ·exact ⟨Nat.zero_le _,rfl,rfl⟩
 rintro ⟨i,bs⟩ ⟨hi,hl,hb⟩
 replace hl:bs.length=i:=hl
 have room:(bs.length+1) * 32≤lim:=by
  have:i≤ns.length:=hi
  simp only [lim];omega
 refine (aI (fun k0=>(aI (by first | exact room | (intros;(try subst_vars);(try simp only [nB] at *);(try simp only [inK,big,lim,nL] at *);omega)) (aI (by first | exact room | (intros;(try subst_vars);(try simp only [nB] at *);(try simp only [inK,big,lim,nL] at *);omega)) (aI (by first | exact room | (intros;(try subst_vars);(try simp only [nB] at *);(try simp only [inK,big,lim,nL] at *);omega)) (aI (by first | exact room | (intros;(try subst_vars);(try simp only [nB] at *);(try simp only [inK,big,lim,nL] at *);omega)) ?_))))) (fun k0=>(fin_of rfl ?_)))
 ·have hi':i < ns.length:=by simpa using k0
  refine Exists.intro ((i+1,bs++[(ns.getD i (dflt .str),1,vs.getD i (dflt tI))])) (Exists.intro ([some 2]) (aI ?_ (aI ?_ (aI (by rfl) (aI (by rfl) (aI (aI (by rfl) True.intro) (by rfl)))))))
  ·refine ⟨hi',by show (bs++[_]).length=i+1;simp [hl], ?_⟩
   have hv:i < vs.length:=by omega
   rw [hb]
   show bs++bindF (ns.drop i) (vs.drop i)=(bs++[_])++bindF (ns.drop (i+1)) (vs.drop (i+1))
   rw [List.drop_eq_getElem_cons hi',List.drop_eq_getElem_cons hv]
   simp [bindF,List.getD_eq_getElem?_getD,hi',hv]
  ·show ns.length - (i+1) < ns.length - i
   omega
 ·have hi':¬ i < ns.length:=by simpa using k0
  show (bindF ns vs,())=(bs,())
  rw [hb]
  show (bs++bindF (ns.drop i) (vs.drop i),())=_
  rw [List.drop_of_length_le (by omega)]
  simp [bindF]
@[reducible] def tH:Ty:=.pair tI (.pair tI (.pair tI (.pair tI (.pair tI (.pair tSs (.pair .fn .fn))))))
@[reducible] def HdT:Type:=Int × Int × Int × Int × Int × List ByteArray × FnT × FnT
def hnd (i o l m k:Int) (ns:List ByteArray) (t e:FnT):HdT:=(i,o,l,m,k,ns,t,e)
def nmX:List ByteArray:=[⟨#[120]⟩]
def nmXY:List ByteArray:=[⟨#[120]⟩,⟨#[121]⟩]
def knownF (k:Int):HdT :=
 if k=1 then hnd 0 1 0 0 0 [] (.mk 94 []) (.mk 93 [])
 else if k=2 then hnd 1 1 0 0 1 nmX (.mk 95 []) (.mk 93 [])
 else if k=3 then hnd 1 1 0 0 2 nmX (.mk 96 []) (.mk 93 [])
 else if k=4 then hnd 1 1 1 100 0 [] (.mk 97 []) (.mk 98 [])
 else if k=5 then hnd 1 1 0 100 0 [] (.mk 100 []) (.mk 93 [])
 else if k=6 then hnd 1 1 0 200 0 [] (.mk 101 []) (.mk 93 [])
 else if k=7 then hnd 1 2 0 0 2 nmX (.mk 102 []) (.mk 93 [])
 else if k=8 then hnd 2 1 0 0 0 [] (.mk 104 [.mk 92 []]) (.mk 103 [])
 else if k=9 then hnd 2 1 0 0 1 nmXY (.mk 105 []) (.mk 106 [])
 else if k=10 then hnd 1 0 0 0 0 [] (.mk 107 []) (.mk 93 [])
 else hnd 0 0 0 0 0 [] .nil .nil
def knownB (k:Int):Bool:=bif decide (k < 1) then false else !decide (10 < k)
def c40:Ctr:=fnC [dI] [(true,tH),(false,.bool)] (fun _=>True) (fun y=>(knownF y.1,knownB y.1,()))
set_option maxHeartbeats 8000000 in
theorem good40:GoodC Tryz.prog 40 c40:=by
 refine goodF cx0_good 4 _ _ _ _ ⟨_,Tryz.func40,rfl,rfl⟩ fun (⟨k,_⟩ : Int × Unit) _=>?_
 by_cases hk:1≤k∧k≤10
 ·have h:k=1∨k=2∨k=3∨k=4∨k=5∨k=6∨k=7∨k=8∨k=9∨k=10:=by omega
  clear hk
  rcases h with rfl | rfl | rfl | rfl | rfl | rfl | rfl | rfl | rfl | rfl
  ·refine (aI (by first | kernel_rfl | rfl) (aI (fun h0=>nF (by kernel_rfl) h0) (fun h0=>(aI (by first | kernel_rfl | rfl) (aI (by intros;(try subst_vars);(try simp only [nB] at *);(try simp only [inK,big,lim,nL] at *);omega) (fin_of rfl (by rfl)))))))
  ·refine (aI (by first | kernel_rfl | rfl) (aI (fun h0=>nF (by kernel_rfl) h0) (fun h0=>(aI (by first | kernel_rfl | rfl) (aI (by intros;(try subst_vars);(try simp only [nB] at *);(try simp only [inK,big,lim,nL] at *);omega) (fin_of rfl (by rfl)))))))
  ·refine (aI (by first | kernel_rfl | rfl) (aI (fun h0=>nF (by kernel_rfl) h0) (fun h0=>(aI (by first | kernel_rfl | rfl) (aI (by intros;(try subst_vars);(try simp only [nB] at *);(try simp only [inK,big,lim,nL] at *);omega) (fin_of rfl (by rfl)))))))
  ·refine (aI (by first | kernel_rfl | rfl) (aI (fun h0=>nF (by kernel_rfl) h0) (fun h0=>(aI (by first | kernel_rfl | rfl) (aI (by intros;(try subst_vars);(try simp only [nB] at *);(try simp only [inK,big,lim,nL] at *);omega) (fin_of rfl (by rfl)))))))
  ·refine (aI (by first | kernel_rfl | rfl) (aI (fun h0=>nF (by kernel_rfl) h0) (fun h0=>(aI (by first | kernel_rfl | rfl) (aI (by intros;(try subst_vars);(try simp only [nB] at *);(try simp only [inK,big,lim,nL] at *);omega) (fin_of rfl (by rfl)))))))
  ·refine (aI (by first | kernel_rfl | rfl) (aI (fun h0=>nF (by kernel_rfl) h0) (fun h0=>(aI (by first | kernel_rfl | rfl) (aI (by intros;(try subst_vars);(try simp only [nB] at *);(try simp only [inK,big,lim,nL] at *);omega) (fin_of rfl (by rfl)))))))
  ·refine (aI (by first | kernel_rfl | rfl) (aI (fun h0=>nF (by kernel_rfl) h0) (fun h0=>(aI (by first | kernel_rfl | rfl) (aI (by intros;(try subst_vars);(try simp only [nB] at *);(try simp only [inK,big,lim,nL] at *);omega) (fin_of rfl (by rfl)))))))
  ·refine (aI (by first | kernel_rfl | rfl) (aI (fun h0=>nF (by kernel_rfl) h0) (fun h0=>(aI (by first | kernel_rfl | rfl) (aI (by intros;(try subst_vars);(try simp only [nB] at *);(try simp only [inK,big,lim,nL] at *);omega) (fin_of rfl (by rfl)))))))
  ·refine (aI (by first | kernel_rfl | rfl) (aI (fun h0=>nF (by kernel_rfl) h0) (fun h0=>(aI (by first | kernel_rfl | rfl) (aI (by intros;(try subst_vars);(try simp only [nB] at *);(try simp only [inK,big,lim,nL] at *);omega) (fin_of rfl (by rfl)))))))
  ·refine (aI (by first | kernel_rfl | rfl) (aI (fun h0=>nF (by kernel_rfl) h0) (fun h0=>(aI (by first | kernel_rfl | rfl) (aI (by intros;(try subst_vars);(try simp only [nB] at *);(try simp only [inK,big,lim,nL] at *);omega) (fin_of rfl (by rfl)))))))
 ·refine (aI (by first | kernel_rfl | rfl) (aI (fun h0=>(fin_of rfl ?_)) (fun h0=>(aI (by first | kernel_rfl | rfl) (aI (by intros;(try subst_vars);(try simp only [nB] at *);(try simp only [inK,big,lim,nL] at *);omega) ?_)))))
  ·have hB:knownB k=false:=by
    unfold knownB
    by_cases h1:k < 1
    ·rw [decide_eq_true h1];rfl
    ·rw [decide_eq_false h1,decide_eq_true (show 10 < k by omega)];rfl
   have hF:knownF k=hnd 0 0 0 0 0 [] .nil .nil:=by
    unfold knownF
    iterate 10 rw [if_neg (by omega)]
   show (knownF k,knownB k,())=_
   rw [hF,hB];rfl
  ·exfalso
   have h:(bif decide (k < 1) then true else decide (10 < k))=false:=h0
   by_cases h1:k < 1
   ·rw [decide_eq_true h1] at h;cases h
   ·rw [decide_eq_true (show 10 < k by omega)] at h
    cases hd:decide (k < 1) <;> rw [hd] at h <;> cases h
def pickC (a:List AK) (r:List (Bool × Ty)) (pick:AK.dens a→Nat) (tab:List (AK.dens a × Rens r)):Ctr:=fun args =>
 match ofAVs a args with
 | some y=>(match tab[pick y]? with
  | some p=>some ⟨⟨some (y=p.1),none,[],resAV r p.2⟩,fun k=>k (resAV r p.2)⟩
  | none=>none)
 | none=>none
theorem good_pick {P:Program} {g:FuncId} {a:List AK} {r:List (Bool × Ty)} {need:AK.dens a→Prop} {f:AK.dens a→Rens r} (h:GoodC P g (fnC a r need f)) (pick:AK.dens a→Nat) (tab:List (AK.dens a × Rens r))
 (ht:∀ p∈tab,need p.1∧f p.1=p.2):GoodC P g (pickC a r pick tab):=by
 refine ⟨h.1,fun args cg hC k hk=>?_,fun args cr gen hC hn w F0 vs hF hsz hrd=>?_⟩
 ·unfold pickC at hC
  split at hC
  ·split at hC
   ·cases hC
    exact hk
   ·cases hC
  ·cases hC
 ·unfold pickC at hC
  split at hC
  ·rename_i y hy
   split at hC
   ·rename_i p hp
    cases hC
    have hn':y=p.1:=hn
    obtain ⟨h1,h2⟩:=ht p (List.mem_of_getElem? hp)
    subst hn'
    have hC':fnC a r need f args=some ⟨⟨some (need p.1),none,[],resAV r (f p.1)⟩,if rich r then fun k=>∀ z,z=f p.1→k (resAV r z) else fun k=>k (resAV r (f p.1))⟩:=by
     unfold fnC
     rw [hy]
    rw [h2] at hC'
    exact h.calls _ _ _ hC' h1 w F0 vs hF hsz hrd
   ·cases hC
  ·cases hC
theorem goodG {P:Program} {g:FuncId} (a:List AK) (r:List (Bool × Ty)) (need:AK.dens a→Prop) (f:AK.dens a→Rens r)
 (hfn:∃ fn,P.funcs[g]?=some fn∧fn.body.isSome=true∧(fn.name == "runtime.NumGoroutine")=false)
 (h:∀ y,need y→∃ call:CallSem,CallOk P call∧call g (toAVs a y) [] 0 (finK ⟨none,none,[],resAV r (f y)⟩)):GoodC P g (fnC a r need f):=by
 refine ⟨hfn,fun args cg hC k hk=>?_,fun args cr gen hC hn w F0 vs hF hsz hrd=>?_⟩
 ·unfold fnC at hC
  split at hC
  ·rename_i y hy
   cases hC
   simp only at hk
   split at hk
   ·exact hk _ rfl
   ·exact hk
  ·cases hC
 unfold fnC at hC
 split at hC
 ·rename_i y hy
  cases hC
  obtain ⟨call,hcall,hy'⟩:=h y hn
  obtain ⟨C,hgood,hCa⟩:=goodC_oneS hcall hfn _ _ hy'
  obtain ⟨e,hall⟩:=ofAVs_ok (E:=Env.base w F0) a args y hy
  exact hgood.calls _ _ _ hCa trivial w F0 vs hF (hsz.trans e.symm) (fun i v x hv hx=>hall hrd i v x hv hx vs.toList (fun i u hu=>by simpa using hu) (by simpa using hsz))
 ·cases hC
def kTab:List (AK.dens [dI] × Rens [(true,tH),(false,.bool)]) :=
 [((1,()),((0,1,0,0,0,[],.mk 94 [],.mk 93 []),true,())),((2,()),((1,1,0,0,1,[⟨#[120]⟩],.mk 95 [],.mk 93 []),true,())),((3,()),((1,1,0,0,2,[⟨#[120]⟩],.mk 96 [],.mk 93 []),true,())),
  ((4,()),((1,1,1,100,0,[],.mk 97 [],.mk 98 []),true,())),((5,()),((1,1,0,100,0,[],.mk 100 [],.mk 93 []),true,())),((6,()),((1,1,0,200,0,[],.mk 101 [],.mk 93 []),true,())),
  ((7,()),((1,2,0,0,2,[⟨#[120]⟩],.mk 102 [],.mk 93 []),true,())),((8,()),((2,1,0,0,0,[],.mk 104 [.mk 92 []],.mk 103 []),true,())),((9,()),((2,1,0,0,1,[⟨#[120]⟩,⟨#[121]⟩],.mk 105 [],.mk 106 []),true,())),
  ((10,()),((1,0,0,0,0,[],.mk 107 [],.mk 93 []),true,()))]
def c40k:Ctr:=pickC [dI] [(true,tH),(false,.bool)] (fun y=>y.1.toNat - 1) kTab
theorem good40k:GoodC Tryz.prog 40 c40k:=by
 refine good_pick good40 _ kTab fun p hp=>?_
 simp only [kTab,List.mem_cons,List.not_mem_nil,or_false] at hp
 rcases hp with rfl | rfl | rfl | rfl | rfl | rfl | rfl | rfl | rfl | rfl <;> exact ⟨trivial,rfl⟩
end Go.Proofs.YticmijfmgmkkcaaGreat
