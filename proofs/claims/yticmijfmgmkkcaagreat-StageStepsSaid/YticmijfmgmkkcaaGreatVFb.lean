import Derived.Test.YticmijfmgmkkcaaGreatVFa
import Derived.Test.YticmijfmgmkkcaaGreatVZa6
set_option linter.unusedSimpArgs false
set_option linter.unusedVariables false
set_option maxRecDepth 100000
namespace Go.Proofs.YticmijfmgmkkcaaGreat
open Go.Sx
theorem typ_args {l:List Bd} {e:ExprT} (h:(typF l e).2=0):(typL l e.args).2=0:=by
 rw [typF_eq] at h
 by_cases h1:(typL l e.args).2=0
 ·exact h1
 ·rw [if_neg h1] at h;exact h
theorem clip_id {n:Int} (h:-1099511627776≤n∧n≤1099511627776):clip (n,0)=(n,0):=by
 refine clip_lo (decide_eq_false ?_)
 rcases absI_cases n with ⟨h1,h2⟩ | ⟨h1,h2⟩ <;> omega
theorem ev_num {l:List Bd} {e:ExprT} {vs:List Int} (hc:chkNode e=0) (h:e.kind=1):clip (valR l e vs)=(e.value,0):=by
 obtain ⟨-,-,hv,-,-,-⟩:=node_ok hc
 have:=hv h
 rw [valR,if_pos h]
 exact clip_id (by omega)
theorem ev_name {l:List Bd} {e:ExprT} {vs:List Int} (hb:bdOk l) (h:e.kind=2):clip (valR l e vs)=((findB l e.name).1.2.2,0):=by
 rw [valR,if_neg (by omega),if_pos h]
 exact clip_id (find_in hb e.name)
theorem ev_neg {l:List Bd} {e:ExprT} {vs:List Int} (h:e.kind=3) (h2:e.op≠2) (hv:inM (vs.getD 0 0)):clip (valR l e vs)=(0 - vs.getD 0 0,0):=by
 rw [valR,if_neg (by omega),if_neg (by omega),if_pos h,if_neg h2]
 unfold inM at hv
 exact clip_id (by omega)
theorem ev_not {l:List Bd} {e:ExprT} {vs:List Int} (h:e.kind=3) (h2:e.op=2) (hv:vs.getD 0 0=0∨vs.getD 0 0=1):clip (valR l e vs)=(1 - vs.getD 0 0,0):=by
 rw [valR,if_neg (by omega),if_neg (by omega),if_pos h,if_pos h2]
 exact clip_id (by omega)
theorem ev_op {l:List Bd} {e:ExprT} {vs:List Int} (h1:e.kind≠1) (h2:e.kind≠2) (h3:e.kind≠3):valR l e vs=opF e.op (vs.getD 0 0) (vs.getD 1 0):=by
 rw [valR,if_neg h1,if_neg h2,if_neg h3]
theorem arg_bool {l:List Bd} (hl:∀ s,(findB l s).2=true→(findB l s).1.2.1=1) {e:ExprT} (hc:chkT e=0) (h0:(typF l e).2=0) (h:e.kind=3) (h2:e.op=2) (hv:(valL l e.args).2=0) :
 (valL l e.args).1.getD 0 0=0∨(valL l e.args).1.getD 0 0=1:=by
 obtain ⟨hc1,hc2⟩:=chk_node hc
 obtain ⟨hk,ha,-,-,h3,ho⟩:=node_ok hc1
 rw [h] at ha
 simp at ha
 have hlen:0 < e.args.length:=by omega
 have ht:=typ_args h0
 rw [typF_eq,if_pos ht] at h0
 unfold typN at h0
 rw [if_neg (by omega),if_neg (by omega),if_pos h,if_pos h2] at h0
 obtain ⟨g1,g2⟩:=typL_get l e.args 0 (dflt .expr) ht hlen
 rw [valL_get l e.args 0 (dflt .expr) hv hlen]
 refine val_bool hl _ _ (Nat.lt_succ_self _) (chk_args _ _ _ hlen hc2) g1 ?_
 rw [← g2]
 by_cases t2:(typL l e.args).1.getD 0 0=2
 ·exact t2
 ·rw [if_neg t2] at h0;exact absurd h0 (by decide)
def c109 (N:Nat):Ctr:=fnC [dX,dBds] rII (fun y=>((chkT y.1=0∧bdOk y.2.1)∧(typF y.2.1 y.1).2=0∧∀ s,(findB y.2.1 s).2=true→(findB y.2.1 s).1.2.1=1)∧exW y.1 < N) (fun y=>((valF y.2.1 y.1).1,(valF y.2.1 y.1).2,()))
def cxF109 (N:Nat):Ctx:=⟨tys0,[(109,([],c109 N)),(126,([],c126)),(127,([],c127))]⟩
set_option maxHeartbeats 8000000 in
theorem good109':∀ N,GoodC Tryz.prog 109 (c109 N)
 | 0=>by
  refine goodF cx0_good 3 _ _ _ _ ⟨_,Tryz.func109,rfl,rfl⟩ fun y hn=>?_
  exact absurd hn.2 (Nat.not_lt_zero _)
 | N+1=>by
  refine goodF (cx:=cxF109 N) (cx_cons (good109' N) (cx_cons good126 (cx_cons good127 cx0_good))) 8 _ _ _ _ ⟨_,Tryz.func109,rfl,rfl⟩ fun (⟨e,l,_⟩ : ExprT × List Bd × Unit) hn=>?_
  have hN:exW e < N+1:=hn.2
  have hc:chkT e=0:=hn.1.1.1
  have hb:bdOk l:=hn.1.1.2
  have hty:(typF l e).2=0:=hn.1.2.1
  have hin:∀ s,(findB l s).2=true→(findB l s).1.2.1=1:=hn.1.2.2
  clear hn
  obtain ⟨hc1,hc2⟩:=chk_node hc
  obtain ⟨hk,ha,hv,-,hop3,ho⟩:=node_ok hc1
  have hl2:=len_two ha
  have hta:=typ_args hty
  refine (aI (by first | kernel_rfl | rfl) ?_)
  refine ex4 _ (fun p:Nat × List Int=>⟨[.any,.sl tBd l,.ptr 0 0,.any,.any,.any,.own 1,.int .i64 (p.1:Int)]++nA 75,[.cells   [.int .i64 e.kind,.int .i64 e.op,.str e.name,.int .i64 e.value,.sl .expr e.args],.rows tI p.2],2⟩) (fun p=>p.1≤e.args.length∧(p.2.length=p.1∧∀ v∈p.2,inM v)∧(valL l (e.args.drop p.1)).2=(valL l e.args).2∧((valL l e.args).2=0→(valL l e.args).1=p.2++(valL l (e.args.drop p.1)).1)) (fun p=>e.args.length - p.1) (aI (Exists.intro ((0,[])) (Exists.intro ([some 0,none]) (aI ?_ (aI (by rfl) (aI (by rfl) (aI (aI (aI (by rfl) (by rfl)) (aI (by rfl) True.intro)) (by rfl))))))) ?_)
  ·exact ⟨Nat.zero_le _,⟨rfl,by simp⟩,rfl,fun _=>rfl⟩
  rintro ⟨i,vs⟩ ⟨hi,⟨hvl,hvi⟩,h2,h3⟩
  replace hvl:vs.length=i:=hvl
  replace hvi:∀ v∈vs,inM v:=hvi
  have room:(vs.length+1) * 8≤lim:=by
   have:i≤e.args.length:=hi
   simp only [lim];omega
  have hend:decide ((i:Int) < (e.args.length:Int))=false→vs.length=e.args.length∧valF l e=clip (valR l e vs)∧(valL l e.args).2=0∧(valL l e.args).1=vs:=fun h=>by
   have hi':¬ i < e.args.length:=by simpa using h
   have hle:i≤e.args.length:=hi
   have hnil:e.args.drop i=[]:=List.drop_of_length_le (by omega)
   have h2':(valL l e.args).2=0:=by rw [← h2];show (valL l (e.args.drop i)).2=0;rw [hnil];rfl
   have h3':=h3 h2'
   have h4:(valL l e.args).1=vs:=by rw [h3'];show vs++(valL l (e.args.drop i)).1=vs;rw [hnil];simp [valL]
   refine ⟨by omega, ?_,h2',h4⟩
   rw [valF_eq,if_pos h2',h4]
  have hargs:∀ k:Int,e.kind=k→(e.args.length:Int)=[0,0,0,1,2].getD k.toNat 0:=fun k h=>by rw [← h];exact ha
  have v0:-1099511627776≤vs.getD 0 0∧vs.getD 0 0≤1099511627776:=getD_in hvi 0
  have v1:-1099511627776≤vs.getD 1 0∧vs.getD 1 0≤1099511627776:=getD_in hvi 1
  have len3:decide ((i:Int) < (e.args.length:Int))=false→decide (e.kind=3)=true→vs.length=1:=fun h h'=>by
   have h4:=hargs _ (of_decide_eq_true h')
   simp at h4
   rw [(hend h).1];omega
  have len4:decide ((i:Int) < (e.args.length:Int))=false→decide (e.kind=1)=false→decide (e.kind=2)=false→decide (e.kind=3)=false→vs.length=2:=fun h h1 h2 h3=>by
   have h1:=of_decide_eq_false h1
   have h2:=of_decide_eq_false h2
   have h3:=of_decide_eq_false h3
   have h4:=hargs 4 (by omega)
   simp at h4
   rw [(hend h).1];omega
  have ln:∀ (a:Int) (n:Nat),vs.length=n→0≤a→a < n→0≤a∧a < (vs.length:Int):=fun a n h h1 h2=>⟨h1,by omega⟩
  have x1:-9223372036854775808≤0 - vs.getD 0 0∧0 - vs.getD 0 0≤9223372036854775807:=by omega
  have x3:-9223372036854775808≤1 - vs.getD 0 0∧1 - vs.getD 0 0≤9223372036854775807:=by omega
  refine (fun k0=>(aI (fun k1=>(aI (by (intros;(try subst_vars);(try simp only [nB] at *);(try simp only [inK,big,lim,nL] at *);omega)) (aI ?_ (aI (fun k2=>(fin_of rfl ?_)) (fun k2=>(aI (by omega) (aI (by (intros;(try subst_vars);(try simp only [nB] at *);(try simp only [inK,big,lim,nL] at *);omega)) ?_))))))) (fun k1=>(aI (fun k3=>(fin_of rfl ?_)) (fun k3=>(aI (fun k4=>(aI True.intro (fun (k5:(ByteArray × Int × Int) × Bool × PUnit)=>(fun k6=>(fin_of rfl ?_))))) (fun k4=>(aI (fun k7=>(aI (fun k8=>(aI (by (intros;(try subst_vars);(try simp only [nB] at *);(try simp only [inK,big,lim,nL] at *);omega)) (aI (x1) (fin_of rfl ?_)))) (fun k8=>(aI (by (intros;(try subst_vars);(try simp only [nB] at *);(try simp only [inK,big,lim,nL] at *);omega)) (aI (x3) (fin_of rfl ?_)))))) (fun k7=>(aI (by first | kernel_rfl | rfl) (aI (by (intros;(try subst_vars);(try simp only [nB] at *);(try simp only [inK,big,lim,nL] at *);omega)) (aI (by (intros;(try subst_vars);(try simp only [nB] at *);(try simp only [inK,big,lim,nL] at *);omega)) (aI ?_ (fin_of rfl ?_))))))))))))))
  ·have hi':i < e.args.length:=by simpa using k1
   rw [eta]
   exact ⟨⟨⟨chk_args _ _ _ hi' hc2,hb⟩,(typL_get l e.args i (dflt .expr) hta hi').1,hin⟩,Nat.lt_of_lt_of_le (arg_lt hi') (by omega)⟩
  ·have hi':i < e.args.length:=by simpa using k1
   have hk:(valF l (e.args.getD i (dflt .expr))).2≠0:=by have h:=k2;simp only [eta] at h;simpa using h
   have hd:=valL_drop l (e0:=dflt .expr) hi'
   rw [if_neg hk] at hd
   have h4:(valL l e.args).2=(valF l (e.args.getD i (dflt .expr))).2:=by rw [← h2];show (valL l (e.args.drop i)).2=_;rw [hd]
   simp only [eta]
   show ((valF l e).1,(valF l e).2,())=(0,(valF l (e.args.getD i (dflt .expr))).2,())
   rw [valF_eq,if_neg (by rw [h4];exact hk),h4]
  ·have hi':i < e.args.length:=by simpa using k1
   have hk:(valF l (e.args.getD i (dflt .expr))).2=0:=by have h:=k2;simp only [eta] at h;simpa using h
   have hd:=valL_drop l (e0:=dflt .expr) hi'
   rw [if_pos hk] at hd
   refine Exists.intro ((i+1,vs++[(valF l (ExprT.mk (e.args.getD i (dflt .expr)).kind (e.args.getD i (dflt .expr)).op (e.args.getD i (dflt .expr)).name (e.args.getD i (dflt .expr)).value (e.args.getD i (dflt .expr)).args)).1])) (Exists.intro ([some 0,some 3]) (aI ?_ (aI ?_ (aI (by rfl) (aI (by rfl) (aI (aI (aI (by rfl) (by rfl)) (aI (by rfl) True.intro)) (by rfl)))))))
   ·rw [eta]
    refine ⟨hi',⟨by show (vs++[_]).length=i+1;simp [hvl],fun v hv=>?_⟩, ?_,fun h=>?_⟩
    ·rcases List.mem_append.1 hv with h | h
     ·exact hvi v h
     ·rw [List.mem_singleton.1 h];exact valF_in _ _
    ·rw [← h2];show (valL l (e.args.drop (i+1))).2=(valL l (e.args.drop i)).2;rw [hd]
    ·rw [h3 h];show vs++(valL l (e.args.drop i)).1=(vs++[_])++(valL l (e.args.drop (i+1))).1;rw [hd];simp
   ·show e.args.length - (i+1) < e.args.length - i
    omega
  ·rw [(hend k1).2.1,ev_num hc1 (of_decide_eq_true k3)]
  ·rw [(hend k1).2.1,ev_name hb (of_decide_eq_true k4),k6]
  ·have h8:e.op=1:=of_decide_eq_true k8
   rw [(hend k1).2.1,ev_neg (of_decide_eq_true k7) (by omega) (getD_in hvi 0)];rfl
  ·have h8:e.op≠1:=of_decide_eq_false k8
   have h7:e.kind=3:=of_decide_eq_true k7
   have h9:e.op=2:=(hop3 h7).resolve_left h8
   have hb9:=arg_bool hin hc hty h7 h9 (hend k1).2.2.1
   rw [(hend k1).2.2.2] at hb9
   rw [(hend k1).2.1,ev_not h7 h9 hb9];rfl
  ·have h1:e.kind≠1:=of_decide_eq_false k3
   have h2:e.kind≠2:=of_decide_eq_false k4
   have h3:e.kind≠3:=of_decide_eq_false k7
   have h4:=ho (by omega)
   rw [opKnown_iff] at h4
   refine ⟨?_,getD_in hvi 0,getD_in hvi 1⟩
   show 3≤e.op∧e.op≤15
   by_cases h:e.op < 3
   ·rw [decide_eq_true h] at h4;cases h4
   ·by_cases h':15 < e.op
    ·rw [decide_eq_false h,decide_eq_true h'] at h4;cases h4
    ·omega
  ·rw [(hend k1).2.1,ev_op (of_decide_eq_false k3) (of_decide_eq_false k4) (of_decide_eq_false k7)];rfl
def c109A:Ctr:=fnC [dX,dBds] rII (fun y=>(chkT y.1=0∧bdOk y.2.1)∧(typF y.2.1 y.1).2=0∧∀ s,(findB y.2.1 s).2=true→(findB y.2.1 s).1.2.1=1) (fun y=>((valF y.2.1 y.1).1,(valF y.2.1 y.1).2,()))
theorem good109:GoodC Tryz.prog 109 c109A:=good_rec (fun y=>exW y.1) good109'
def cxF77:Ctx:=⟨tys0,[(86,([],c86)),(109,([],c109A))]⟩
theorem cxF77_good:GoodCtx Tryz.prog cxF77:=cx_cons good86 (cx_cons good109 cx0_good)
def c77:Ctr:=fnC [dX,dBds] rII (fun y=>∀ s,(findB y.2.1 s).2=true→(findB y.2.1 s).1.2.1=1) (fun y=>((exEval y.1 y.2.1).1,(exEval y.1 y.2.1).2,()))
theorem typ_zero {e:ExprT} {l:List Bd} (h:(exType e l).2=0):(typF l e).2=0:=by
 have ⟨h1,h2⟩:=typ_ok h
 unfold exType at h
 rw [if_neg (by omega),if_pos h2] at h
 exact h
theorem good77:GoodC Tryz.prog 77 c77:=by
 refine goodF cxF77_good 3 _ _ _ _ ⟨_,Tryz.func77,rfl,rfl⟩ fun (⟨e,l,_⟩ : ExprT × List Bd × Unit) hn=>?_
 have hin:∀ s,(findB l s).2=true→(findB l s).1.2.1=1:=hn
 refine (aI (by first | kernel_rfl | rfl) (aI True.intro (aI (fun h0=>(fin_of rfl ?_)) (fun h0=>(aI ?_ (fin_of rfl ?_))))))
 ·have hk:(exType e l).2≠0:=by have h:=h0;simp only [eta] at h;simpa using h
  simp only [eta]
  show ((exEval e l).1,(exEval e l).2,())=(0,(exType e l).2,())
  rw [exEval,if_pos hk]
 ·have hk:(exType e l).2=0:=by have h:=h0;simp only [eta] at h;simpa using h
  simp only [eta]
  exact ⟨⟨chk_T (typ_ok hk).1,bound_ok (typ_ok hk).2⟩,typ_zero hk,hin⟩
 ·have hk:¬ (exType e l).2≠0:=by have h:=h0;simp only [eta] at h;simpa using h
  simp only [eta]
  show ((exEval e l).1,(exEval e l).2,())=((valF l e).1,(valF l e).2,())
  rw [exEval,if_neg hk]
end Go.Proofs.YticmijfmgmkkcaaGreat
namespace Go.Proofs.YticmijfmgmkkcaaGreat
open Go.Sx
def agreeN (ns:List ByteArray) (l m:List Bd):Prop:=∀ s,s∈ns→findB l s=findB m s
theorem agree_l {a b:List ByteArray} {l m:List Bd} (h:agreeN (a++b) l m):agreeN a l m:=fun s hs=>h s (List.mem_append.2 (.inl hs))
theorem agree_r {a b:List ByteArray} {l m:List Bd} (h:agreeN (a++b) l m):agreeN b l m:=fun s hs=>h s (List.mem_append.2 (.inr hs))
theorem typN_nm {l m:List Bd} {e:ExprT} (h:agreeN (namT e) l m) (ts:List Int):typN l e ts=typN m e ts:=by
 unfold typN
 by_cases h1:e.kind=1
 ·rw [if_pos h1,if_pos h1]
 ·rw [if_neg h1,if_neg h1]
  by_cases h2:e.kind=2
  ·have h3:findB l e.name=findB m e.name:=h _ (by rw [namT_eq,if_pos h2];simp)
   rw [h3]
  ·rw [if_neg h2,if_neg h2]
theorem valR_nm {l m:List Bd} {e:ExprT} (h:agreeN (namT e) l m) (vs:List Int):valR l e vs=valR m e vs:=by
 unfold valR
 by_cases h1:e.kind=1
 ·rw [if_pos h1,if_pos h1]
 ·rw [if_neg h1,if_neg h1]
  by_cases h2:e.kind=2
  ·have h3:findB l e.name=findB m e.name:=h _ (by rw [namT_eq,if_pos h2];simp)
   rw [h3]
  ·rw [if_neg h2,if_neg h2]
mutual
theorem typF_nm {l m:List Bd}:∀ e,agreeN (namT e) l m→typF l e=typF m e
 | .mk k o nm v args,h=>by
  have ha:agreeN (namL args) l m:=by rw [namT_eq] at h;exact agree_r h
  simp only [typF]
  rw [typL_nm args ha]
  by_cases h1:(typL m args).2=0
  ·rw [if_pos h1,if_pos h1,typN_nm h]
  ·rw [if_neg h1,if_neg h1]
theorem typL_nm {l m:List Bd}:∀ args,agreeN (namL args) l m→typL l args=typL m args
 | [],_=>rfl
 | e :: r,h=>by
  simp only [namL] at h
  simp only [typL]
  rw [typF_nm e (agree_l h),typL_nm r (agree_r h)]
end
mutual
theorem valF_nm {l m:List Bd}:∀ e,agreeN (namT e) l m→valF l e=valF m e
 | .mk k o nm v args,h=>by
  have ha:agreeN (namL args) l m:=by rw [namT_eq] at h;exact agree_r h
  simp only [valF]
  rw [valL_nm args ha]
  by_cases h1:(valL m args).2=0
  ·rw [if_pos h1,if_pos h1,valR_nm h]
  ·rw [if_neg h1,if_neg h1]
theorem valL_nm {l m:List Bd}:∀ args,agreeN (namL args) l m→valL l args=valL m args
 | [],_=>rfl
 | e :: r,h=>by
  simp only [namL] at h
  simp only [valL]
  rw [valF_nm e (agree_l h),valL_nm r (agree_r h)]
end
theorem in_lo {a:Int} (h:inM a):decide (a < -1099511627776)=false:=by unfold inM at h;exact decide_eq_false (by omega)
theorem in_hi {a:Int} (h:inM a):decide (1099511627776 < a)=false:=by unfold inM at h;exact decide_eq_false (by omega)
theorem bound_x {a b:Int} (ha:inM a):boundB (bindF nmX [a,b])=true:=by
 have e0:badBd (bindF nmX [a,b]) 0=(bif decide (a < -1099511627776) then true else decide (1099511627776 < a)):=rfl
 have e1:boundB (bindF nmX [a,b])=(bif (badBd (bindF nmX [a,b]) 0 || false) then false else true):=rfl
 rw [e1,e0,in_lo ha,in_hi ha];rfl
theorem bound_xy {a b:Int} (ha:inM a) (hb:inM b):boundB (bindF nmXY [a,b])=true:=by
 have e0:badBd (bindF nmXY [a,b]) 0=(bif decide (a < -1099511627776) then true else decide (1099511627776 < a)):=rfl
 have e1:badBd (bindF nmXY [a,b]) 1=(bif decide (b < -1099511627776) then true else decide (1099511627776 < b)):=rfl
 have e2:boundB (bindF nmXY [a,b])=(bif (badBd (bindF nmXY [a,b]) 0 || (badBd (bindF nmXY [a,b]) 1 || false)) then false else true):=rfl
 rw [e2,e0,e1,in_lo ha,in_hi ha,in_lo hb,in_hi hb];rfl
theorem in_0:inM 0:=⟨by decide,by decide⟩
def onlyX (e:ExprT):Prop:=∀ s,s∈namT e→s=⟨#[120]⟩
theorem agree_x {e:ExprT} (h:onlyX e) (a b d:Int):agreeN (namT e) (bindF nmX [a,b]) (bindF nmXY [a,d]):=fun s hs=>by
 rw [h s hs,find_x,find_xy,if_pos rfl,if_pos rfl]
theorem type_x {e:ExprT} (h:onlyX e) {a b d:Int} (ha:inM a) (hd:inM d):exType e (bindF nmX [a,b])=exType e (bindF nmXY [a,d]):=by
 unfold exType
 rw [bound_x ha,bound_xy ha hd,typF_nm e (agree_x h a b d)]
theorem eval_x {e:ExprT} (h:onlyX e) {a b d:Int} (ha:inM a) (hd:inM d):exEval e (bindF nmX [a,b])=exEval e (bindF nmXY [a,d]):=by
 unfold exEval
 rw [type_x h ha hd,valF_nm e (agree_x h a b d)]
theorem int_xy (a b:Int):∀ s,(findB (bindF nmXY [a,b]) s).2=true→(findB (bindF nmXY [a,b]) s).1.2.1=1:=fun s=>by
 rw [find_xy]
 split
 ·intro _;rfl
 ·split
  ·intro _;rfl
  ·intro h;cases h
theorem any_mem {a b:List ByteArray} (h:∀ t,t∈a↔t∈b) (p:ByteArray→Bool):a.any p=b.any p:=by
 rw [Bool.eq_iff_iff,List.any_eq_true,List.any_eq_true]
 constructor
 ·rintro ⟨x,hx,hp⟩;exact ⟨x,(h x).1 hx,hp⟩
 ·rintro ⟨x,hx,hp⟩;exact ⟨x,(h x).2 hx,hp⟩
def badN (k:Int) (s:ByteArray):Bool:=bif !decide (s=⟨#[120]⟩) then (bif !decide (s=⟨#[121]⟩) then true else !decide (k=9)) else false
theorem badN_9 (s:ByteArray):badN 9 s=!nmXY.any (isS s):=by
 unfold badN nmXY isS
 by_cases h1:s=⟨#[120]⟩ <;> by_cases h2:s=⟨#[121]⟩ <;> simp [h1,h2]
theorem badN_x {k:Int} (hk:k≠9) (s:ByteArray):badN k s=!nmX.any (isS s):=by
 unfold badN nmX isS
 rw [decide_eq_false hk]
 by_cases h1:s=⟨#[120]⟩ <;> by_cases h2:s=⟨#[121]⟩ <;> simp [h1,h2]
def nmK (k:Int):List ByteArray:=if k=9 then nmXY else nmX
def tyK (k:Int):Int:=if k=2∨k=9 then 1 else 2
theorem chkX_is {k:Int} {e:ExprT}:chkX (nmK k) (tyK k) e=if exChk e≠0 then exChk e else if (refNames e).any (badN k)=true then 5
 else if (exType e (bindF nmXY [0,0])).2≠0∨(exType e (bindF nmXY [0,0])).1≠tyK k then 15 else 0:=by
 unfold chkX
 by_cases h0:exChk e≠0
 ·rw [if_pos h0,if_pos h0]
 ·rw [if_neg h0,if_neg h0]
  have h0':exChk e=0:=by simpa using h0
  have e1:(refNames e).any (badN k)=(exNames e).any (fun s=>!(nmK k).any (isS s)):=by
   rw [any_mem (fun t=>refNames_mem h0') (badN k)]
   congr 1
   funext s
   unfold nmK
   by_cases hk:k=9
   ·rw [if_pos hk,hk];exact badN_9 s
   ·rw [if_neg hk];exact badN_x hk s
  rw [e1]
  by_cases h1:(exNames e).any (fun s=>!(nmK k).any (isS s))=true
  ·rw [if_pos h1,if_pos h1]
  ·rw [if_neg h1,if_neg h1]
   have e2:exType e (bindF (nmK k) [0,0])=exType e (bindF nmXY [0,0]):=by
    unfold nmK
    by_cases hk:k=9
    ·rw [if_pos hk]
    ·rw [if_neg hk]
     unfold nmK at h1
     rw [if_neg hk] at h1
     refine type_x (fun s hs=>?_) in_0 in_0
     have h2:(exNames e).any (fun s=>!nmX.any (isS s))=false:=by simpa using h1
     have h3:=List.any_eq_false.1 h2 s ((exNames_mem h0').2 hs)
     unfold nmX isS at h3
     simp at h3
     exact h3
   rw [e2]
end Go.Proofs.YticmijfmgmkkcaaGreat
namespace Go.Proofs.YticmijfmgmkkcaaGreat
open Go.Sx
def streamF (l:List Int):Int:=if longB l=true then 4 else if l.any notNum=true then 2 else 0
def c48:Ctr:=fnC [dIs] rI (fun _=>True) (fun y=>(streamF y.1,()))
theorem good48:GoodC Tryz.prog 48 c48:=by
 refine goodF cx0_good 4 _ _ _ _ ⟨_,Tryz.func48,rfl,rfl⟩ fun (⟨l,_⟩ : List Int × Unit) _=>?_
 refine (aI (by first | kernel_rfl | rfl) (fun h0=>(aI (fun h1=>(fin_of rfl ?_)) (fun h1=>?_))))
 ·show (streamF l,())=(4,())
  rw [streamF,if_pos (show longB l=true from h1)]
 have hl:¬ longB l=true:=by rw [show longB l=false from h1];simp
 refine ex4 _ (fun i:Nat=>⟨[.sl (.int .i64) l,.any,.any,.int .i64 (i:Int)]++nA 15,[],0⟩) (fun i=>i≤l.length∧(l.take i).any notNum=false) (fun i=>l.length - i) (aI (Exists.intro (0) (Exists.intro ([]) (aI ?_ (aI (by rfl) (aI (by rfl) (aI True.intro (by rfl))))))) ?_)
 ·exact ⟨Nat.zero_le _,rfl⟩
 rintro i ⟨hi,ht⟩
 refine (fun k0=>(aI (fun k1=>(aI (by intros;(try subst_vars);(try simp only [nB] at *);(try simp only [inK,big,lim,nL] at *);omega) (aI (by first | kernel_rfl | rfl) (aI (by first | kernel_rfl | rfl) (aI (fun k2=>(fin_of rfl ?_)) (fun k2=>(aI (by intros;(try subst_vars);(try simp only [nB] at *);(try simp only [inK,big,lim,nL] at *);omega) ?_))))))) (fun k1=>(fin_of rfl ?_))))
 ·have hi':i < l.length:=by simpa using k1
  show (streamF l,())=(2,())
  rw [streamF,if_neg hl,if_pos (any_hit (d:=dflt tI) hi' k2)]
 ·have hi':i < l.length:=by simpa using k1
  refine Exists.intro (i+1) (Exists.intro ([]) (aI ?_ (aI ?_ (aI (by rfl) (aI (by rfl) (aI True.intro (by rfl)))))))
  ·exact ⟨hi',any_next (d:=dflt tI) hi' ht k2⟩
  ·show l.length - (i+1) < l.length - i
   omega
 ·have hi':¬ i < l.length:=by simpa using k1
  show (streamF l,())=(0,())
  rw [streamF,if_neg hl,if_neg (by rw [any_end hi' ht];simp)]
def cxFA:Ctx:=⟨tys0,[(77,([],c77)),(84,([],c84)),(85,([],c85)),(86,([],c86)),(48,([],c48))]⟩
theorem cxFA_good:GoodCtx Tryz.prog cxFA:=cx_cons good77 (cx_cons good84 (cx_cons good85 (cx_cons good86 (cx_cons good48 cx0_good))))
def c57:Ctr:=fnC [dSt] rI (fun y=>y.1.1=2∨y.1.1=3∨y.1.1=7∨y.1.1=9) (fun y=>(chkX (nmK y.1.1) (tyK y.1.1) y.1.2.2.1,()))
theorem good57:GoodC Tryz.prog 57 c57:=by
 refine goodF cxFA_good 4 _ _ _ _ ⟨_,Tryz.func57,rfl,rfl⟩ fun (⟨⟨k,z,e,l⟩,_⟩ : StT × Unit) hn=>?_
 have hk:k=2∨k=3∨k=7∨k=9:=hn
 clear hn
 refine (aI (by first | kernel_rfl | rfl) (aI True.intro (aI (fun h0=>(fin_of rfl ?_)) (fun h0=>(aI True.intro (fun (h1:List ByteArray × PUnit)=>(fun h2=>?_)))))))
 ·have hx:exChk e≠0:=by have h:=h0;simp only [eta] at h;simpa using h
  show (chkX (nmK k) (tyK k) e,())=_
  rw [chkX_is,if_pos hx,eta]
 have hx:¬ exChk e≠0:=by have h:=h0;simp only [eta] at h;simpa using h
 have en:h1.1=refNames e:=by rw [h2];simp only [eta]
 have q:chkX (nmK k) (tyK k) e=if h1.1.any (badN k)=true then 5 else if (exType e (bindF nmXY [0,0])).2≠0∨(exType e (bindF nmXY [0,0])).1≠tyK k then 15 else 0:=by
  rw [chkX_is,if_neg hx,en]
 refine ex4 _ (fun i:Nat=>⟨[.any,.ptr 0 0,.any,.any,.sl .str h1.1,.int .i64 (i:Int)]++nA 50,[.cells   [.int .i64 k,.int .i64 z,.int .i64 e.kind,.int .i64 e.op,.str e.name,     .int .i64 e.value,.sl .expr e.args,.sl (.int .i64) l]],1⟩) (fun i=>i≤h1.1.length∧(h1.1.take i).any (badN k)=false) (fun i=>h1.1.length - i) (aI (Exists.intro (0) (Exists.intro ([some 0]) (aI ?_ (aI (by rfl) (aI (by rfl) (aI (aI (aI (by rfl) (by rfl)) True.intro) (by rfl))))))) ?_)
 ·exact ⟨Nat.zero_le _,rfl⟩
 rintro i ⟨hi,ht⟩
 have f15:∀ T:Int,tyK k=T→decide ((i:Int) < (h1.1.length:Int))=false→(bif !decide ((exType (ExprT.mk e.kind e.op e.name e.value e.args) [(⟨#[120]⟩,1,0),(⟨#[121]⟩,1,0)]).2=0) then true
  else !decide ((exType (ExprT.mk e.kind e.op e.name e.value e.args) [(⟨#[120]⟩,1,0),(⟨#[121]⟩,1,0)]).1=T))=true→(chkX (nmK k) (tyK k) e,())=((15:Int),()):=fun T hT h h'=>by
  have hi':¬ i < h1.1.length:=by simpa using h
  have hc:=orX h'
  rw [eta] at hc
  rw [q,if_neg (by rw [any_end hi' ht];simp),hT,if_pos]
  exact hc
 have f0:∀ T:Int,tyK k=T→decide ((i:Int) < (h1.1.length:Int))=false→(bif !decide ((exType (ExprT.mk e.kind e.op e.name e.value e.args) [(⟨#[120]⟩,1,0),(⟨#[121]⟩,1,0)]).2=0) then true
  else !decide ((exType (ExprT.mk e.kind e.op e.name e.value e.args) [(⟨#[120]⟩,1,0),(⟨#[121]⟩,1,0)]).1=T))=false→(chkX (nmK k) (tyK k) e,())=((0:Int),()):=fun T hT h h'=>by
  have hi':¬ i < h1.1.length:=by simpa using h
  have hc:=orY h'
  rw [eta] at hc
  rw [q,if_neg (by rw [any_end hi' ht];simp),hT,if_neg]
  exact hc
 have t2:decide (k=2)=true→tyK k=1:=fun h=>if_pos (.inl (of_decide_eq_true h))
 have t9:decide (k=9)=true→tyK k=1:=fun h=>if_pos (.inr (of_decide_eq_true h))
 have t3:decide (k=3)=true→tyK k=2:=fun h=>by have:=of_decide_eq_true h;exact if_neg (by omega)
 have t7:decide (k=7)=true→tyK k=2:=fun h=>by have:=of_decide_eq_true h;exact if_neg (by omega)
 refine (fun m0=>(aI (fun m1=>(aI (by intros;(try subst_vars);(try simp only [nB] at *);(try simp only [inK,big,lim,nL] at *);omega) (aI (fun m2=>(by intros;(try subst_vars);(try simp only [nB] at *);(try simp only [inK,big,lim,nL] at *);omega)) (aI (fun m3=>(fin_of rfl ?_)) (fun m3=>(aI (by intros;(try subst_vars);(try simp only [nB] at *);(try simp only [inK,big,lim,nL] at *);omega) ?_)))))) (fun m1=>(aI (by kernel_rfl) (aI (by rfl) (aI (by rfl) (aI (by first | kernel_rfl | rfl) (aI (by rfl) (aI (by rfl) (aI True.intro (aI (by rfl) (aI (by rfl) (aI (by rfl) (aI (by rfl) (aI (fun m4=>(aI (by first | kernel_rfl | rfl) (aI (fun m5=>(aI (fun m6=>(aI (fun m7=>(fin_of rfl (by exact f15 _ (t2 (by assumption)) (by assumption) (by assumption)))) (fun m7=>(fin_of rfl (by exact f0 _ (t2 (by assumption)) (by assumption) (by assumption)))))) (fun m6=>absurd (Eq.trans (Eq.symm m5) m6) (by decide)))) (fun m5=>(aI (fun m8=>(aI (fun m9=>(fin_of rfl (by exact f15 _ (t9 (by assumption)) (by assumption) (by assumption)))) (fun m9=>(fin_of rfl (by exact f0 _ (t9 (by assumption)) (by assumption) (by assumption)))))) (fun m8=>(aI (fun m10=>(aI (fun m11=>(aI (fun m12=>(fin_of rfl (by exact f15 _ (t3 (by assumption)) (by assumption) (by assumption)))) (fun m12=>(fin_of rfl (by exact f0 _ (t3 (by assumption)) (by assumption) (by assumption)))))) (fun m11=>absurd (Eq.trans (Eq.symm m10) m11) (by decide)))) (fun m10=>(aI (fun m13=>(aI (fun m14=>(fin_of rfl (by exact f15 _ (t7 (by assumption)) (by assumption) (by assumption)))) (fun m14=>(fin_of rfl (by exact f0 _ (t7 (by assumption)) (by assumption) (by assumption)))))) (fun m13=>(aI (fun m15=>(fin_of rfl ?_)) (fun m15=>(fin_of rfl ?_))))))))))))) (fun m4=>(aI (fun m16=>(fin_of rfl ?_)) (fun m16=>(fin_of rfl ?_)))))))))))))))))))
 ·have hi':i < h1.1.length:=by simpa using m1
  rw [q,if_pos (any_hit (d:=dflt .str) hi' m3)]
 ·have hi':i < h1.1.length:=by simpa using m1
  refine Exists.intro (i+1) (Exists.intro ([some 0]) (aI ?_ (aI ?_ (aI (by rfl) (aI (by rfl) (aI (aI (aI (by rfl) (by rfl)) True.intro) (by rfl)))))))
  ·exact ⟨hi',any_next (d:=dflt .str) hi' ht m3⟩
  ·show h1.1.length - (i+1) < h1.1.length - i
   omega
 ·simp only [decide_eq_false_iff_not] at m5 m8 m10 m13;omega
 ·simp only [decide_eq_false_iff_not] at m5 m8 m10 m13;omega
 ·have hi':¬ i < h1.1.length:=by simpa using m1
  have hc:(exType (ExprT.mk e.kind e.op e.name e.value e.args) [(⟨#[120]⟩,1,0),(⟨#[121]⟩,1,0)]).2≠0:=by simpa using m4
  rw [eta] at hc
  rw [q,if_neg (by rw [any_end hi' ht];simp),if_pos]
  exact .inl hc
 ·rw [m4] at m16;cases m16
end Go.Proofs.YticmijfmgmkkcaaGreat
namespace Go.Proofs.YticmijfmgmkkcaaGreat
open Go.Sx
def tyE (k:Int):Int:=if k=2 then 1 else if k=9 then 1 else if k=3 then 2 else if k=7 then 2 else 0
def c55:Ctr:=fnC [dI] rI (fun _=>True) (fun y=>(tyE y.1,()))
theorem good55:GoodC Tryz.prog 55 c55:=by
 refine goodF cx0_good 4 _ _ _ _ ⟨_,Tryz.func55,rfl,rfl⟩ fun (⟨k,_⟩ : Int × Unit) _=>?_
 refine (aI (by first | kernel_rfl | rfl) (aI (fun h0=>(aI (fun h1=>(fin_of rfl (by (try subst_vars);(try simp only [Bool.cond_true_left,Bool.cond_false_right,Bool.or_eq_true,Bool.or_eq_false_iff,Bool.and_eq_true,Bool.not_eq_true',Bool.not_eq_false',decide_eq_true_eq,decide_eq_false_iff_not] at *);first | (simp only [tyE, *,if_true,if_false,ne_eq,not_true,not_false_iff,Bool.false_eq_true];done) | grind [tyE]))) (fun h1=>absurd (Eq.trans (Eq.symm h0) h1) (by decide)))) (fun h0=>(aI (fun h2=>(fin_of rfl (by (try subst_vars);(try simp only [Bool.cond_true_left,Bool.cond_false_right,Bool.or_eq_true,Bool.or_eq_false_iff,Bool.and_eq_true,Bool.not_eq_true',Bool.not_eq_false',decide_eq_true_eq,decide_eq_false_iff_not] at *);first | (simp only [tyE, *,if_true,if_false,ne_eq,not_true,not_false_iff,Bool.false_eq_true];done) | grind [tyE]))) (fun h2=>(aI (fun h3=>(aI (fun h4=>(fin_of rfl (by (try subst_vars);(try simp only [Bool.cond_true_left,Bool.cond_false_right,Bool.or_eq_true,Bool.or_eq_false_iff,Bool.and_eq_true,Bool.not_eq_true',Bool.not_eq_false',decide_eq_true_eq,decide_eq_false_iff_not] at *);first | (simp only [tyE, *,if_true,if_false,ne_eq,not_true,not_false_iff,Bool.false_eq_true];done) | grind [tyE]))) (fun h4=>absurd (Eq.trans (Eq.symm h3) h4) (by decide)))) (fun h3=>(aI (fun h5=>(fin_of rfl (by (try subst_vars);(try simp only [Bool.cond_true_left,Bool.cond_false_right,Bool.or_eq_true,Bool.or_eq_false_iff,Bool.and_eq_true,Bool.not_eq_true',Bool.not_eq_false',decide_eq_true_eq,decide_eq_false_iff_not] at *);first | (simp only [tyE, *,if_true,if_false,ne_eq,not_true,not_false_iff,Bool.false_eq_true];done) | grind [tyE]))) (fun h5=>(fin_of rfl (by (try subst_vars);(try simp only [Bool.cond_true_left,Bool.cond_false_right,Bool.or_eq_true,Bool.or_eq_false_iff,Bool.and_eq_true,Bool.not_eq_true',Bool.not_eq_false',decide_eq_true_eq,decide_eq_false_iff_not] at *);first | (simp only [tyE, *,if_true,if_false,ne_eq,not_true,not_false_iff,Bool.false_eq_true];done) | grind [tyE])))))))))))
def c56:Ctr:=fnC [dX] rB (fun _=>True) (fun y=>(noneE y.1,()))
theorem good56:GoodC Tryz.prog 56 c56:=by
 refine goodF cx0_good 4 _ _ _ _ ⟨_,Tryz.func56,rfl,rfl⟩ fun (⟨e,_⟩ : ExprT × Unit) _=>?_
 refine (aI (by first | kernel_rfl | rfl) (fun h0=>(fin_of rfl (by rfl))))
def wiB (n a b:Int):Bool:=bif decide (a≤n) then decide (n≤b) else false
def c54:Ctr:=fnC [dI,dI,dI] rB (fun _=>True) (fun y=>(wiB y.1 y.2.1 y.2.2.1,()))
theorem good54:GoodC Tryz.prog 54 c54:=by
 refine goodF cx0_good 4 _ _ _ _ ⟨_,Tryz.func54,rfl,rfl⟩ fun (⟨n,a,b,_⟩ : Int × Int × Int × Unit) _=>?_
 refine (aI (by first | kernel_rfl | rfl) (fin_of rfl (by rfl)))
def r1 (k z:Int) (e:ExprT) (l:List Int):Bool:=bif bif bif !bif bif decide (k=4) then true else decide (k=5) then true else decide (k=6) then !decide (z=0) else false then true else bif !decide (k=1) then decide (0 < (l.length:Int)) else false then true else bif decide (tyE k=0) then !noneE e else false
def r2 (k z:Int):Bool:=bif bif bif decide (k=4) then !wiB z 1 100 else false then true else bif decide (k=5) then !wiB z 0 100 else false then true else bif decide (k=6) then !wiB z 0 200 else false
theorem r1_is {k z:Int} {e:ExprT} {l:List Int} (hk:1≤k∧k≤10):ck1 (knownF k) (k,z,e,l)=r1 k z e l:=by
 have h:k=1∨k=2∨k=3∨k=4∨k=5∨k=6∨k=7∨k=8∨k=9∨k=10:=by omega
 rcases h with rfl | rfl | rfl | rfl | rfl | rfl | rfl | rfl | rfl | rfl
 all_goals
  unfold ck1 r1 tyE
  generalize noneE e=a
  generalize decide (z=0)=b
  generalize decide (0 < (l.length:Int))=c
  cases a <;> cases b <;> cases c <;> rfl
theorem r1_z {k z:Int} {e:ExprT} {l:List Int} (h4:k≠4) (h5:k≠5) (h6:k≠6) (h:r1 k z e l=false):z=0:=by
 unfold r1 at h
 rw [decide_eq_false h4,decide_eq_false h5,decide_eq_false h6] at h
 by_cases hz:z=0
 ·exact hz
 ·rw [decide_eq_false hz] at h;cases h
theorem not_wi {z a b:Int}:(bif decide (z < a) then true else decide (b < z))=!wiB z a b:=by
 unfold wiB
 rw [Bool.eq_iff_iff]
 simp only [Bool.cond_eq_ite,decide_eq_true_eq]
 by_cases h1:z < a
 ·simp [h1,Int.not_le.2 h1]
 ·simp [h1,Int.not_lt.1 h1]
theorem r2_is {k z:Int} {e:ExprT} {l:List Int} (hk:1≤k∧k≤10) (h1:r1 k z e l=false):ck2 (knownF k) (k,z,e,l)=r2 k z:=by
 by_cases h4:k=4
 ·subst h4
  show (bif decide (z < 1) then true else decide (100 < z))=r2 4 z
  rw [not_wi];show _=(bif bif !wiB z 1 100 then true else false then true else false)
  cases wiB z 1 100 <;> rfl
 ·by_cases h5:k=5
  ·subst h5
   show (bif decide (z < 0) then true else decide (100 < z))=r2 5 z
   rw [not_wi];show _=(bif bif false then true else !wiB z 0 100 then true else false)
   cases wiB z 0 100 <;> rfl
  ·by_cases h6:k=6
   ·subst h6
    show (bif decide (z < 0) then true else decide (200 < z))=r2 6 z
    rw [not_wi];show _=(bif false then true else !wiB z 0 200)
    cases wiB z 0 200 <;> rfl
   ·have hz:=r1_z h4 h5 h6 h1
    subst hz
    have h:k=1∨k=2∨k=3∨k=7∨k=8∨k=9∨k=10:=by omega
    rcases h with rfl | rfl | rfl | rfl | rfl | rfl | rfl <;> rfl
theorem chk_ref {k z:Int} {e:ExprT} {l:List Int} (hk:1≤k∧k≤10):stChk (k,z,e,l)=if r1 k z e l=true then 1 else if r2 k z=true then 2 else if streamF l≠0 then streamF l else if tyE k≠0 then chkX (nmK k) (tyK k) e else 0:=by
 rw [stChk_in hk.1 hk.2]
 show chkH (knownF k) (k,z,e,l)=_
 unfold chkH
 rw [r1_is hk]
 by_cases h1:r1 k z e l=true
 ·rw [if_pos h1,if_pos h1]
 ·rw [if_neg h1,if_neg h1,r2_is hk (by simpa using h1)]
  by_cases h2:r2 k z=true
  ·rw [if_pos h2,if_pos h2]
  ·rw [if_neg h2,if_neg h2]
   unfold streamF
   have e3:ck3 (k,z,e,l)=longB l:=rfl
   rw [e3]
   by_cases h3:longB l=true
   ·simp [h3]
   ·by_cases h4:l.any notNum=true
    ·simp [h3,h4]
    ·rw [if_neg h3,if_neg h4,if_neg h3,if_neg h4,if_neg (show ¬ (0:Int)≠0 from fun h=>h rfl)]
     have h:k=1∨k=2∨k=3∨k=4∨k=5∨k=6∨k=7∨k=8∨k=9∨k=10:=by omega
     rcases h with rfl | rfl | rfl | rfl | rfl | rfl | rfl | rfl | rfl | rfl <;> rfl
def cxFB:Ctx:=⟨tys0,[(57,([],c57)),(48,([],c48)),(55,([],c55)),(56,([],c56)),(54,([],c54))]⟩
theorem cxFB_good:GoodCtx Tryz.prog cxFB:=cx_cons good57 (cx_cons good48 (cx_cons good55 (cx_cons good56 (cx_cons good54 cx0_good))))
def c18:Ctr:=fnC [dSt] rI (fun _=>True) (fun y=>(stChk y.1,()))
set_option maxHeartbeats 8000000 in
theorem good18:GoodC Tryz.prog 18 c18:=by
 refine goodF cxFB_good 4 _ _ _ _ ⟨_,Tryz.func18,rfl,rfl⟩ fun (⟨⟨k,z,e,l⟩,_⟩ : StT × Unit) _=>?_
 have hw:∀ {b:Bool},(!wiB k 1 10)=b→b=false→1≤k∧k≤10:=fun h h'=>by
  have h2:wiB k 1 10=true:=by rw [h'] at h;simpa using h
  unfold wiB at h2
  simpa [Bool.cond_eq_ite] using h2
 refine (aI (by first | kernel_rfl | rfl) (aI True.intro (aI (fun a0=>(fin_of rfl ?_)) (fun a0=>(fun a1=>(aI (fun a2=>True.intro) (aI (fun a3=>True.intro) (aI (fun a4=>(fin_of rfl ?_)) (fun a4=>(aI (fun a5=>True.intro) (aI (fun a6=>True.intro) (aI (fun a7=>True.intro) (aI (fun a8=>(fin_of rfl ?_)) (fun a8=>(aI True.intro (aI (fun a9=>(fin_of rfl ?_)) (fun a9=>(aI True.intro (aI (fun a10=>(aI ?_ (fin_of rfl ?_))) (fun a10=>(fin_of rfl ?_)))))))))))))))))))))
 ·rw [stChk_out (fun h=>?_)]
  have h2:wiB k 1 10=false:=by simpa using a0
  unfold wiB at h2
  rw [decide_eq_true h.1,decide_eq_true h.2] at h2;cases h2
 ·rw [eta] at a4
  rw [chk_ref (hw a0 rfl),if_pos (show r1 k z e l=true from a4)]
 ·rw [eta] at a4
  rw [chk_ref (hw a0 rfl),if_neg (by rw [show r1 k z e l=false from a4];simp),if_pos (show r2 k z=true from a8)]
 ·rw [eta] at a4
  rw [chk_ref (hw a0 rfl),if_neg (by rw [show r1 k z e l=false from a4];simp),if_neg (by rw [show r2 k z=false from a8];simp),if_pos (by simpa using a9)]
 ·have h9:tyE k≠0:=by simpa using a10
  show k=2∨k=3∨k=7∨k=9
  unfold tyE at h9
  by_cases h2:k=2
  ·exact .inl h2
  ·by_cases h3:k=3
   ·exact .inr (.inl h3)
   ·by_cases h7:k=7
    ·exact .inr (.inr (.inl h7))
    ·by_cases h8:k=9
     ·exact .inr (.inr (.inr h8))
     ·rw [if_neg h2,if_neg h8,if_neg h3,if_neg h7] at h9
      exact absurd rfl h9
 ·rw [eta] at a4
  rw [eta,chk_ref (hw a0 rfl),if_neg (by rw [show r1 k z e l=false from a4];simp),if_neg (by rw [show r2 k z=false from a8];simp),if_neg (by simpa using a9),if_pos (by simpa using a10)]
 ·rw [eta] at a4
  rw [chk_ref (hw a0 rfl),if_neg (by rw [show r1 k z e l=false from a4];simp),if_neg (by rw [show r2 k z=false from a8];simp),if_neg (by simpa using a9),if_neg (by simpa using a10)]
theorem in_ref {k z:Int} {e:ExprT} {l:List Int}:stIn (k,z,e,l)=if (bif !decide (stChk (k,z,e,l)=0) then true else decide (k=1))=true then 0 else if (bif decide (k=8) then true else decide (k=9))=true then 2 else 1:=by
 unfold stIn
 by_cases h:stChk (k,z,e,l)=0
 ·have hk:=kinds (chk_kind h)
  rw [if_pos h,decide_eq_true h]
  clear h
  replace hk:k=1∨k=2∨k=3∨k=4∨k=5∨k=6∨k=7∨k=8∨k=9∨k=10:=hk
  rcases hk with rfl | rfl | rfl | rfl | rfl | rfl | rfl | rfl | rfl | rfl <;> rfl
 ·rw [if_neg h,decide_eq_false h];rfl
theorem out_ref {k z:Int} {e:ExprT} {l:List Int}:stOut (k,z,e,l)=if (bif !decide (stChk (k,z,e,l)=0) then true else decide (k=10))=true then 0 else if decide (k=7)=true then 2 else 1:=by
 unfold stOut
 by_cases h:stChk (k,z,e,l)=0
 ·have hk:=kinds (chk_kind h)
  rw [if_pos h,decide_eq_true h]
  clear h
  replace hk:k=1∨k=2∨k=3∨k=4∨k=5∨k=6∨k=7∨k=8∨k=9∨k=10:=hk
  rcases hk with rfl | rfl | rfl | rfl | rfl | rfl | rfl | rfl | rfl | rfl <;> rfl
 ·rw [if_neg h,decide_eq_false h];rfl
def cxFC:Ctx:=⟨tys0,[(18,([],c18))]⟩
theorem cxFC_good:GoodCtx Tryz.prog cxFC:=cx_cons good18 cx0_good
def c20:Ctr:=fnC [dSt] rI (fun _=>True) (fun y=>(stIn y.1,()))
set_option maxHeartbeats 8000000 in
theorem good20:GoodC Tryz.prog 20 c20:=by
 refine goodF cxFC_good 4 _ _ _ _ ⟨_,Tryz.func20,rfl,rfl⟩ fun (⟨⟨k,z,e,l⟩,_⟩ : StT × Unit) _=>?_
 refine (aI (by first | kernel_rfl | rfl) (aI True.intro (aI (fun a0=>(fin_of rfl ?_)) (fun a0=>(aI (fun a1=>(fin_of rfl ?_)) (fun a1=>(fin_of rfl ?_)))))))
 ·rw [eta] at a0
  rw [in_ref,if_pos a0]
 ·rw [eta] at a0
  rw [in_ref,if_neg (by rw [a0];simp),if_pos a1]
 ·rw [eta] at a0
  rw [in_ref,if_neg (by rw [a0];simp),if_neg (by rw [a1];simp)]
def c22:Ctr:=fnC [dSt] rI (fun _=>True) (fun y=>(stOut y.1,()))
set_option maxHeartbeats 8000000 in
theorem good22:GoodC Tryz.prog 22 c22:=by
 refine goodF cxFC_good 4 _ _ _ _ ⟨_,Tryz.func22,rfl,rfl⟩ fun (⟨⟨k,z,e,l⟩,_⟩ : StT × Unit) _=>?_
 refine (aI (by first | kernel_rfl | rfl) (aI True.intro (aI (fun b0=>(fin_of rfl ?_)) (fun b0=>(aI (fun b1=>(fin_of rfl ?_)) (fun b1=>(fin_of rfl ?_)))))))
 ·rw [eta] at b0
  rw [out_ref,if_pos b0]
 ·rw [eta] at b0
  rw [out_ref,if_neg (by rw [b0];simp),if_pos b1]
 ·rw [eta] at b0
  rw [out_ref,if_neg (by rw [b0];simp),if_neg (by rw [b1];simp)]
end Go.Proofs.YticmijfmgmkkcaaGreat
namespace Go.Proofs.YticmijfmgmkkcaaGreat
open Go.Sx
def c68:Ctr:=fnC [dI] rB (fun _=>True) (fun y=>(numB y.1,()))
theorem good68:GoodC Tryz.prog 68 c68:=by
 refine goodF cx0_good 4 _ _ _ _ ⟨_,Tryz.func68,rfl,rfl⟩ fun (⟨k,_⟩ : Int × Unit) _=>?_
 refine (aI (by first | kernel_rfl | rfl) (aI (by first | kernel_rfl | rfl) (fin_of rfl (by rfl))))
def cxFD:Ctx:=⟨tys0,[(18,([],c18)),(54,([],c54)),(68,([],c68))]⟩
theorem cxFD_good:GoodCtx Tryz.prog cxFD:=cx_cons good18 (cx_cons good54 (cx_cons good68 cx0_good))
def badV (k:Int) (l:List Int) (i:Nat):Bool:=bif !numB (l.getD (i:Int).toNat (dflt tI)) then true else bif decide (k=8) then bif !wiB (l.getD (i:Int).toNat (dflt tI)) 0 1 then true else bif decide (0 < (i:Int)) then decide (l.getD (i:Int).toNat (dflt tI)≤l.getD ((i:Int) - 1).toNat (dflt tI)) else false else false
theorem vcR {x:StT} {s:SST} {m h:Int} (hb:bndF x=(m,h)):vc1 x s=(bif !wiB s.2.1 0 m then true else decide (h < (s.1.length:Int))):=by
 unfold vc1
 rw [hb]
 show (bif (bif decide (s.2.1 < 0) then true else decide (m < s.2.1)) then true else decide (h < (s.1.length:Int)))=_
 rw [not_wi]
theorem badV_8 (l:List Int) (i:Nat):badV 8 l i=(bif notNum (l.getD i (dflt tI)) then true else heldBad l i):=by
 unfold badV heldBad notNum
 rw [not_wi,Int.toNat_natCast];rfl
theorem badV_n {k:Int} (hk:k≠8) (l:List Int) (i:Nat):badV k l i=notNum (l.getD i (dflt tI)):=by
 unfold badV notNum
 rw [decide_eq_false hk,Int.toNat_natCast]
 cases numB (l.getD i (dflt tI)) <;> rfl
section
variable {k z c:Int} {e:ExprT} {l hd:List Int} {b:Bool} {i:Nat}
theorem vHit (hv:vc1 (k,z,e,l) (hd,c,b)=false) (hi:decide ((i:Int) < (hd.length:Int))=true) (h:badV k hd i=true):(validF (k,z,e,l) (hd,c,b),())=(false,()):=by
 have hi':i < hd.length:=by simpa using hi
 by_cases h1:hd.any notNum=true
 ·exact V2 hv h1
 ·have h1':hd.any notNum=false:=by simpa using h1
  have h2:notNum (hd.getD i (dflt tI))=false:=by
   cases h3:notNum (hd.getD i (dflt tI)) with
   | false=>rfl
   | true=>exact absurd (any_hit hi' h3) h1
  by_cases hk:k=8
  ·subst hk
   rw [badV_8,h2] at h
   rw [V4 hv h1' (by rfl) (by rfl),if_pos (range_hit hi' h)]
  ·rw [badV_n hk,h2] at h;cases h
theorem vAll (hi:decide ((i:Int) < (hd.length:Int))=false) (hle:i≤hd.length) (h:(List.range i).any (badV k hd)=false):hd.any notNum=false∧(k=8→(List.range hd.length).any (heldBad hd)=false):=by
 have hi':i=hd.length:=by have:¬ i < hd.length:=by simpa using hi
                          omega
 subst hi'
 have key:∀ j,j < hd.length→badV k hd j=false:=fun j hj=>by
  have:=List.any_eq_false.1 h j (List.mem_range.2 hj)
  simpa using this
 constructor
 ·refine List.any_eq_false.2 fun x hx=>?_
  obtain ⟨j,hj,rfl⟩:=List.getElem_of_mem hx
  have h1:=key j hj
  have e1:hd.getD j (dflt tI)=hd[j]:=by simp [List.getD_eq_getElem?_getD,List.getElem?_eq_getElem hj]
  by_cases hk:k=8
  ·subst hk
   rw [badV_8,e1] at h1
   intro h2;rw [h2] at h1;cases h1
  ·rw [badV_n hk,e1] at h1
   rw [h1];simp
 ·intro hk
  subst hk
  refine List.any_eq_false.2 fun j hj=>?_
  have h1:=key j (List.mem_range.1 hj)
  rw [badV_8] at h1
  cases h2:notNum (hd.getD j (dflt tI)) with
  | true=>rw [h2] at h1;cases h1
  | false=>rw [h2] at h1;intro h3;rw [h3] at h1;cases h1
theorem v4R (hv:vc1 (k,z,e,l) (hd,c,b)=false) (hle:i≤hd.length) (h:(List.range i).any (badV k hd)=false) (hi:decide ((i:Int) < (hd.length:Int))=false) (hk:decide (k=4)=true) :
 (validF (k,z,e,l) (hd,c,b),())=((bif !b then true else decide ((hd.length:Int)=0)),()):=V3 hv (vAll hi hle h).1 hk
theorem v8R (hv:vc1 (k,z,e,l) (hd,c,b)=false) (hle:i≤hd.length) (h:(List.range i).any (badV k hd)=false) (hi:decide ((i:Int) < (hd.length:Int))=false) (h4:decide (k=4)=false) (hk:decide (k=8)=true) :
 (validF (k,z,e,l) (hd,c,b),())=((b == decide ((hd.length:Int)=2)),()):=by
 rw [V4 hv (vAll hi hle h).1 h4 hk,if_neg]
 have h9:=(vAll hi hle h).2 (of_decide_eq_true hk)
 intro h8;rw [show (List.range hd.length).any (heldBad hd)=true from h8] at h9;cases h9
theorem v9R (hv:vc1 (k,z,e,l) (hd,c,b)=false) (hle:i≤hd.length) (h:(List.range i).any (badV k hd)=false) (hi:decide ((i:Int) < (hd.length:Int))=false) (h4:decide (k=4)=false) (h8:decide (k=8)=false) (hk:decide (k=9)=true) :
 (validF (k,z,e,l) (hd,c,b),())=((bif (b == decide (c=3)) then (bif decide (c < 2) then true else decide ((hd.length:Int)=0)) else false),()):=V5 hv (vAll hi hle h).1 h4 h8 hk
theorem v0R (hv:vc1 (k,z,e,l) (hd,c,b)=false) (hle:i≤hd.length) (h:(List.range i).any (badV k hd)=false) (hi:decide ((i:Int) < (hd.length:Int))=false) (h4:decide (k=4)=false) (h8:decide (k=8)=false) (hk:decide (k=9)=false) :
 (validF (k,z,e,l) (hd,c,b),())=(true,()):=V6 hv (vAll hi hle h).1 h4 h8 hk
end
def c91:Ctr:=fnC [dSt,dSS] rB (fun y=>-1000≤y.1.2.1∧y.1.2.1≤1000) (fun y=>(validF y.1 y.2.1,()))
set_option maxHeartbeats 8000000 in
theorem good91:GoodC Tryz.prog 91 c91:=by
 refine goodF cxFD_good 4 _ _ _ _ ⟨_,Tryz.func91,rfl,rfl⟩ fun (⟨⟨k,z,e,l⟩,⟨hd,c,b⟩,_⟩ : StT × SST × Unit) hn=>?_
 have hz:-1000≤z∧z≤1000:=hn
 clear hn
 have B1:decide (k=1)=true→bndF (k,z,e,l)=((l.length:Int),0):=fun h=>if_pos (of_decide_eq_true h)
 have B6:decide (k=6)=true→bndF (k,z,e,l)=(z,0):=fun h=>by have:=of_decide_eq_true h;subst this;rfl
 have B4:decide (k=4)=true→bndF (k,z,e,l)=(0,z - 1):=fun h=>by have:=of_decide_eq_true h;subst this;rfl
 have B8:decide (k=8)=true→bndF (k,z,e,l)=(1,2):=fun h=>by have:=of_decide_eq_true h;subst this;rfl
 have B9:decide (k=9)=true→bndF (k,z,e,l)=(3,1):=fun h=>by have:=of_decide_eq_true h;subst this;rfl
 have B0:decide (k=1)=false→decide (k=6)=false→decide (k=4)=false→decide (k=8)=false→decide (k=9)=false→bndF (k,z,e,l)=(0,0):=fun h1 h6 h4 h8 h9=>by
  unfold bndF
  rw [if_neg (of_decide_eq_false h1),if_neg (of_decide_eq_false h6),if_neg (of_decide_eq_false h8),if_neg (of_decide_eq_false h9),if_neg (of_decide_eq_false h4)]
 refine (aI (by first | kernel_rfl | rfl) (aI (fun a0=>(fun a1=>(aI True.intro (fun a2=>(aI (fun a3=>(fin_of rfl ?_)) (fun a3=>?_)))))) (fun a0=>(aI (fun a4=>(aI True.intro (fun a5=>(aI (fun a6=>(fin_of rfl ?_)) (fun a6=>?_))))) (fun a4=>(aI (fun a7=>(aI (by intros;(try subst_vars);(try simp only [nB] at *);(try simp only [inK,big,lim,nL] at *);omega) (aI True.intro (fun a8=>(aI (fun a9=>(fin_of rfl ?_)) (fun a9=>?_)))))) (fun a7=>(aI (fun a10=>(aI True.intro (fun a11=>(aI (fun a12=>(fin_of rfl ?_)) (fun a12=>?_))))) (fun a10=>(aI (fun a13=>(aI True.intro (fun a14=>(aI (fun a15=>(fin_of rfl ?_)) (fun a15=>?_))))) (fun a13=>(aI True.intro (fun a16=>(aI (fun a17=>(fin_of rfl ?_)) (fun a17=>?_)))))))))))))))
 ·exact V1 ((vcR (B1 a0)).trans (by assumption))
 ·have hv:vc1 (k,z,e,l) (hd,c,b)=false:=(vcR (B1 a0)).trans (by assumption)
  refine ex4 _ (fun i:Nat=>⟨[.any,.any,.ptr 0 0,.ptr 1 0,.any,.any,.any,.int .i64 (i:Int)]++nA 119,[.cells   [.int .i64 k,.int .i64 z,.int .i64 e.kind,.int .i64 e.op,.str e.name,     .int .i64 e.value,.sl .expr e.args,.sl (.int .i64) l],.cells [.sl (.int .i64) hd,.int .i64 c,.bool b]],2⟩) (fun i=>i≤hd.length∧(List.range i).any (badV k hd)=false) (fun i=>hd.length - i) (aI (Exists.intro (0) (Exists.intro ([some 0,some 1]) (aI ?_ (aI (by rfl) (aI (by rfl) (aI (aI (aI (by rfl) (by rfl)) (aI (aI (by rfl) (by rfl)) True.intro)) (by rfl))))))) ?_)
  ·exact ⟨Nat.zero_le _,rfl⟩
  rintro i ⟨hi,ht⟩
  refine (fun m0=>(aI (fun m1=>(aI (by first | kernel_rfl | rfl) (aI (by intros;(try subst_vars);(try simp only [nB] at *);(try simp only [inK,big,lim,nL] at *);omega) (aI True.intro (aI (fun m2=>(by intros;(try subst_vars);(try simp only [nB] at *);(try simp only [inK,big,lim,nL] at *);omega)) (aI (fun m3=>True.intro) (aI (fun m4=>(by intros;(try subst_vars);(try simp only [nB] at *);(try simp only [inK,big,lim,nL] at *);omega)) (aI (fun m5=>(by intros;(try subst_vars);(try simp only [nB] at *);(try simp only [inK,big,lim,nL] at *);omega)) (aI (fun m6=>(by intros;(try subst_vars);(try simp only [nB] at *);(try simp only [inK,big,lim,nL] at *);omega)) (aI (fun m7=>(fin_of rfl (by exact vHit hv (by assumption) (by assumption)))) (fun m7=>(aI (by intros;(try subst_vars);(try simp only [nB] at *);(try simp only [inK,big,lim,nL] at *);omega) ?_)))))))))))) (fun m1=>(aI (fun m8=>(fun m9=>(fin_of rfl (by exact v4R hv hi ht (by assumption) (by assumption))))) (fun m8=>(aI (fun m10=>(fun m11=>(fin_of rfl (by exact v8R hv hi ht (by assumption) (by assumption) (by assumption))))) (fun m10=>(aI (fun m12=>(fun m13=>(fin_of rfl (by exact v9R hv hi ht (by assumption) (by assumption) (by assumption) (by assumption))))) (fun m12=>(fin_of rfl (by exact v0R hv hi ht (by assumption) (by assumption) (by assumption) (by assumption))))))))))))
  have hi':i < hd.length:=by simpa using m1
  refine Exists.intro (i+1) (Exists.intro ([some 0,some 1]) (aI ?_ (aI ?_ (aI (by rfl) (aI (by rfl) (aI (aI (aI (by rfl) (by rfl)) (aI (aI (by rfl) (by rfl)) True.intro)) (by rfl)))))))
  ·exact ⟨hi',range_next ht (by assumption)⟩
  ·show hd.length - (i+1) < hd.length - i
   omega
 ·exact V1 ((vcR (B6 a4)).trans (by assumption))
 ·have hv:vc1 (k,z,e,l) (hd,c,b)=false:=(vcR (B6 a4)).trans (by assumption)
  refine ex4 _ (fun i:Nat=>⟨[.any,.any,.ptr 0 0,.ptr 1 0,.any,.any,.any,.int .i64 (i:Int)]++nA 119,[.cells   [.int .i64 k,.int .i64 z,.int .i64 e.kind,.int .i64 e.op,.str e.name,     .int .i64 e.value,.sl .expr e.args,.sl (.int .i64) l],.cells [.sl (.int .i64) hd,.int .i64 c,.bool b]],2⟩) (fun i=>i≤hd.length∧(List.range i).any (badV k hd)=false) (fun i=>hd.length - i) (aI (Exists.intro (0) (Exists.intro ([some 0,some 1]) (aI ?_ (aI (by rfl) (aI (by rfl) (aI (aI (aI (by rfl) (by rfl)) (aI (aI (by rfl) (by rfl)) True.intro)) (by rfl))))))) ?_)
  ·exact ⟨Nat.zero_le _,rfl⟩
  rintro i ⟨hi,ht⟩
  refine (fun m0=>(aI (fun m1=>(aI (by first | kernel_rfl | rfl) (aI (by intros;(try subst_vars);(try simp only [nB] at *);(try simp only [inK,big,lim,nL] at *);omega) (aI True.intro (aI (fun m2=>(by intros;(try subst_vars);(try simp only [nB] at *);(try simp only [inK,big,lim,nL] at *);omega)) (aI (fun m3=>True.intro) (aI (fun m4=>(by intros;(try subst_vars);(try simp only [nB] at *);(try simp only [inK,big,lim,nL] at *);omega)) (aI (fun m5=>(by intros;(try subst_vars);(try simp only [nB] at *);(try simp only [inK,big,lim,nL] at *);omega)) (aI (fun m6=>(by intros;(try subst_vars);(try simp only [nB] at *);(try simp only [inK,big,lim,nL] at *);omega)) (aI (fun m7=>(fin_of rfl (by exact vHit hv (by assumption) (by assumption)))) (fun m7=>(aI (by intros;(try subst_vars);(try simp only [nB] at *);(try simp only [inK,big,lim,nL] at *);omega) ?_)))))))))))) (fun m1=>(aI (fun m8=>(fun m9=>(fin_of rfl (by exact v4R hv hi ht (by assumption) (by assumption))))) (fun m8=>(aI (fun m10=>(fun m11=>(fin_of rfl (by exact v8R hv hi ht (by assumption) (by assumption) (by assumption))))) (fun m10=>(aI (fun m12=>(fun m13=>(fin_of rfl (by exact v9R hv hi ht (by assumption) (by assumption) (by assumption) (by assumption))))) (fun m12=>(fin_of rfl (by exact v0R hv hi ht (by assumption) (by assumption) (by assumption) (by assumption))))))))))))
  have hi':i < hd.length:=by simpa using m1
  refine Exists.intro (i+1) (Exists.intro ([some 0,some 1]) (aI ?_ (aI ?_ (aI (by rfl) (aI (by rfl) (aI (aI (aI (by rfl) (by rfl)) (aI (aI (by rfl) (by rfl)) True.intro)) (by rfl)))))))
  ·exact ⟨hi',range_next ht (by assumption)⟩
  ·show hd.length - (i+1) < hd.length - i
   omega
 ·exact V1 ((vcR (B4 a7)).trans (by assumption))
 ·have hv:vc1 (k,z,e,l) (hd,c,b)=false:=(vcR (B4 a7)).trans (by assumption)
  refine ex4 _ (fun i:Nat=>⟨[.any,.any,.ptr 0 0,.ptr 1 0,.any,.any,.any,.int .i64 (i:Int)]++nA 119,[.cells   [.int .i64 k,.int .i64 z,.int .i64 e.kind,.int .i64 e.op,.str e.name,     .int .i64 e.value,.sl .expr e.args,.sl (.int .i64) l],.cells [.sl (.int .i64) hd,.int .i64 c,.bool b]],2⟩) (fun i=>i≤hd.length∧(List.range i).any (badV k hd)=false) (fun i=>hd.length - i) (aI (Exists.intro (0) (Exists.intro ([some 0,some 1]) (aI ?_ (aI (by rfl) (aI (by rfl) (aI (aI (aI (by rfl) (by rfl)) (aI (aI (by rfl) (by rfl)) True.intro)) (by rfl))))))) ?_)
  ·exact ⟨Nat.zero_le _,rfl⟩
  rintro i ⟨hi,ht⟩
  refine (fun m0=>(aI (fun m1=>(aI (by first | kernel_rfl | rfl) (aI (by intros;(try subst_vars);(try simp only [nB] at *);(try simp only [inK,big,lim,nL] at *);omega) (aI True.intro (aI (fun m2=>(by intros;(try subst_vars);(try simp only [nB] at *);(try simp only [inK,big,lim,nL] at *);omega)) (aI (fun m3=>True.intro) (aI (fun m4=>(by intros;(try subst_vars);(try simp only [nB] at *);(try simp only [inK,big,lim,nL] at *);omega)) (aI (fun m5=>(by intros;(try subst_vars);(try simp only [nB] at *);(try simp only [inK,big,lim,nL] at *);omega)) (aI (fun m6=>(by intros;(try subst_vars);(try simp only [nB] at *);(try simp only [inK,big,lim,nL] at *);omega)) (aI (fun m7=>(fin_of rfl (by exact vHit hv (by assumption) (by assumption)))) (fun m7=>(aI (by intros;(try subst_vars);(try simp only [nB] at *);(try simp only [inK,big,lim,nL] at *);omega) ?_)))))))))))) (fun m1=>(aI (fun m8=>(fun m9=>(fin_of rfl (by exact v4R hv hi ht (by assumption) (by assumption))))) (fun m8=>absurd (Eq.trans (Eq.symm a7) m8) (by decide))))))
  have hi':i < hd.length:=by simpa using m1
  refine Exists.intro (i+1) (Exists.intro ([some 0,some 1]) (aI ?_ (aI ?_ (aI (by rfl) (aI (by rfl) (aI (aI (aI (by rfl) (by rfl)) (aI (aI (by rfl) (by rfl)) True.intro)) (by rfl)))))))
  ·exact ⟨hi',range_next ht (by assumption)⟩
  ·show hd.length - (i+1) < hd.length - i
   omega
 ·exact V1 ((vcR (B8 a10)).trans (by assumption))
 ·have hv:vc1 (k,z,e,l) (hd,c,b)=false:=(vcR (B8 a10)).trans (by assumption)
  refine ex4 _ (fun i:Nat=>⟨[.any,.any,.ptr 0 0,.ptr 1 0,.any,.any,.any,.int .i64 (i:Int)]++nA 119,[.cells   [.int .i64 k,.int .i64 z,.int .i64 e.kind,.int .i64 e.op,.str e.name,     .int .i64 e.value,.sl .expr e.args,.sl (.int .i64) l],.cells [.sl (.int .i64) hd,.int .i64 c,.bool b]],2⟩) (fun i=>i≤hd.length∧(List.range i).any (badV k hd)=false) (fun i=>hd.length - i) (aI (Exists.intro (0) (Exists.intro ([some 0,some 1]) (aI ?_ (aI (by rfl) (aI (by rfl) (aI (aI (aI (by rfl) (by rfl)) (aI (aI (by rfl) (by rfl)) True.intro)) (by rfl))))))) ?_)
  ·exact ⟨Nat.zero_le _,rfl⟩
  rintro i ⟨hi,ht⟩
  refine (fun m0=>(aI (fun m1=>(aI (by first | kernel_rfl | rfl) (aI (by intros;(try subst_vars);(try simp only [nB] at *);(try simp only [inK,big,lim,nL] at *);omega) (aI True.intro (aI (fun m2=>(by intros;(try subst_vars);(try simp only [nB] at *);(try simp only [inK,big,lim,nL] at *);omega)) (aI (fun m3=>True.intro) (aI (fun m4=>(by intros;(try subst_vars);(try simp only [nB] at *);(try simp only [inK,big,lim,nL] at *);omega)) (aI (fun m5=>(by intros;(try subst_vars);(try simp only [nB] at *);(try simp only [inK,big,lim,nL] at *);omega)) (aI (fun m6=>(by intros;(try subst_vars);(try simp only [nB] at *);(try simp only [inK,big,lim,nL] at *);omega)) (aI (fun m7=>(fin_of rfl (by exact vHit hv (by assumption) (by assumption)))) (fun m7=>(aI (by intros;(try subst_vars);(try simp only [nB] at *);(try simp only [inK,big,lim,nL] at *);omega) ?_)))))))))))) (fun m1=>(aI (fun m8=>absurd (Eq.trans (Eq.symm a7) m8) (by decide)) (fun m8=>(aI (fun m9=>(fun m10=>(fin_of rfl (by exact v8R hv hi ht (by assumption) (by assumption) (by assumption))))) (fun m9=>absurd (Eq.trans (Eq.symm a10) m9) (by decide))))))))
  have hi':i < hd.length:=by simpa using m1
  refine Exists.intro (i+1) (Exists.intro ([some 0,some 1]) (aI ?_ (aI ?_ (aI (by rfl) (aI (by rfl) (aI (aI (aI (by rfl) (by rfl)) (aI (aI (by rfl) (by rfl)) True.intro)) (by rfl)))))))
  ·exact ⟨hi',range_next ht (by assumption)⟩
  ·show hd.length - (i+1) < hd.length - i
   omega
 ·exact V1 ((vcR (B9 a13)).trans (by assumption))
 ·have hv:vc1 (k,z,e,l) (hd,c,b)=false:=(vcR (B9 a13)).trans (by assumption)
  refine ex4 _ (fun i:Nat=>⟨[.any,.any,.ptr 0 0,.ptr 1 0,.any,.any,.any,.int .i64 (i:Int)]++nA 119,[.cells   [.int .i64 k,.int .i64 z,.int .i64 e.kind,.int .i64 e.op,.str e.name,     .int .i64 e.value,.sl .expr e.args,.sl (.int .i64) l],.cells [.sl (.int .i64) hd,.int .i64 c,.bool b]],2⟩) (fun i=>i≤hd.length∧(List.range i).any (badV k hd)=false) (fun i=>hd.length - i) (aI (Exists.intro (0) (Exists.intro ([some 0,some 1]) (aI ?_ (aI (by rfl) (aI (by rfl) (aI (aI (aI (by rfl) (by rfl)) (aI (aI (by rfl) (by rfl)) True.intro)) (by rfl))))))) ?_)
  ·exact ⟨Nat.zero_le _,rfl⟩
  rintro i ⟨hi,ht⟩
  refine (fun m0=>(aI (fun m1=>(aI (by first | kernel_rfl | rfl) (aI (by intros;(try subst_vars);(try simp only [nB] at *);(try simp only [inK,big,lim,nL] at *);omega) (aI True.intro (aI (fun m2=>(by intros;(try subst_vars);(try simp only [nB] at *);(try simp only [inK,big,lim,nL] at *);omega)) (aI (fun m3=>True.intro) (aI (fun m4=>(by intros;(try subst_vars);(try simp only [nB] at *);(try simp only [inK,big,lim,nL] at *);omega)) (aI (fun m5=>(by intros;(try subst_vars);(try simp only [nB] at *);(try simp only [inK,big,lim,nL] at *);omega)) (aI (fun m6=>(by intros;(try subst_vars);(try simp only [nB] at *);(try simp only [inK,big,lim,nL] at *);omega)) (aI (fun m7=>(fin_of rfl (by exact vHit hv (by assumption) (by assumption)))) (fun m7=>(aI (by intros;(try subst_vars);(try simp only [nB] at *);(try simp only [inK,big,lim,nL] at *);omega) ?_)))))))))))) (fun m1=>(aI (fun m8=>absurd (Eq.trans (Eq.symm a7) m8) (by decide)) (fun m8=>(aI (fun m9=>absurd (Eq.trans (Eq.symm a10) m9) (by decide)) (fun m9=>(aI (fun m10=>(fun m11=>(fin_of rfl (by exact v9R hv hi ht (by assumption) (by assumption) (by assumption) (by assumption))))) (fun m10=>absurd (Eq.trans (Eq.symm a13) m10) (by decide))))))))))
  have hi':i < hd.length:=by simpa using m1
  refine Exists.intro (i+1) (Exists.intro ([some 0,some 1]) (aI ?_ (aI ?_ (aI (by rfl) (aI (by rfl) (aI (aI (aI (by rfl) (by rfl)) (aI (aI (by rfl) (by rfl)) True.intro)) (by rfl)))))))
  ·exact ⟨hi',range_next ht (by assumption)⟩
  ·show hd.length - (i+1) < hd.length - i
   omega
 ·exact V1 ((vcR (B0 a0 a4 a7 a10 a13)).trans (by assumption))
 ·have hv:vc1 (k,z,e,l) (hd,c,b)=false:=(vcR (B0 a0 a4 a7 a10 a13)).trans (by assumption)
  refine ex4 _ (fun i:Nat=>⟨[.any,.any,.ptr 0 0,.ptr 1 0,.any,.any,.any,.int .i64 (i:Int)]++nA 119,[.cells   [.int .i64 k,.int .i64 z,.int .i64 e.kind,.int .i64 e.op,.str e.name,     .int .i64 e.value,.sl .expr e.args,.sl (.int .i64) l],.cells [.sl (.int .i64) hd,.int .i64 c,.bool b]],2⟩) (fun i=>i≤hd.length∧(List.range i).any (badV k hd)=false) (fun i=>hd.length - i) (aI (Exists.intro (0) (Exists.intro ([some 0,some 1]) (aI ?_ (aI (by rfl) (aI (by rfl) (aI (aI (aI (by rfl) (by rfl)) (aI (aI (by rfl) (by rfl)) True.intro)) (by rfl))))))) ?_)
  ·exact ⟨Nat.zero_le _,rfl⟩
  rintro i ⟨hi,ht⟩
  refine (fun m0=>(aI (fun m1=>(aI (by first | kernel_rfl | rfl) (aI (by intros;(try subst_vars);(try simp only [nB] at *);(try simp only [inK,big,lim,nL] at *);omega) (aI True.intro (aI (fun m2=>(by intros;(try subst_vars);(try simp only [nB] at *);(try simp only [inK,big,lim,nL] at *);omega)) (aI (fun m3=>True.intro) (aI (fun m4=>(by intros;(try subst_vars);(try simp only [nB] at *);(try simp only [inK,big,lim,nL] at *);omega)) (aI (fun m5=>(by intros;(try subst_vars);(try simp only [nB] at *);(try simp only [inK,big,lim,nL] at *);omega)) (aI (fun m6=>(by intros;(try subst_vars);(try simp only [nB] at *);(try simp only [inK,big,lim,nL] at *);omega)) (aI (fun m7=>(fin_of rfl (by exact vHit hv (by assumption) (by assumption)))) (fun m7=>(aI (by intros;(try subst_vars);(try simp only [nB] at *);(try simp only [inK,big,lim,nL] at *);omega) ?_)))))))))))) (fun m1=>(aI (fun m8=>absurd (Eq.trans (Eq.symm a7) m8) (by decide)) (fun m8=>(aI (fun m9=>absurd (Eq.trans (Eq.symm a10) m9) (by decide)) (fun m9=>(aI (fun m10=>absurd (Eq.trans (Eq.symm a13) m10) (by decide)) (fun m10=>(fin_of rfl (by exact v0R hv hi ht (by assumption) (by assumption) (by assumption) (by assumption))))))))))))
  have hi':i < hd.length:=by simpa using m1
  refine Exists.intro (i+1) (Exists.intro ([some 0,some 1]) (aI ?_ (aI ?_ (aI (by rfl) (aI (by rfl) (aI (aI (aI (by rfl) (by rfl)) (aI (aI (by rfl) (by rfl)) True.intro)) (by rfl)))))))
  ·exact ⟨hi',range_next ht (by assumption)⟩
  ·show hd.length - (i+1) < hd.length - i
   omega
end Go.Proofs.YticmijfmgmkkcaaGreat
namespace Go.Proofs.YticmijfmgmkkcaaGreat
open Go.Sx
def refE (x:StT) (s:SST) (i:Int):Bool:=if x.1=9 then (bif decide (s.2.1=3) then true else decide (s.2.1=i+1)) else s.1.any (isI i)
def c67:Ctr:=fnC [dSt,dSS,dI] rB (fun y=>-1000≤y.2.2.1∧y.2.2.1≤1000) (fun y=>(refE y.1 y.2.1 y.2.2.1,()))
theorem good67:GoodC Tryz.prog 67 c67:=by
 refine goodF cx0_good 4 _ _ _ _ ⟨_,Tryz.func67,rfl,rfl⟩ fun (⟨⟨k,z,e,l⟩,⟨hd,c,b⟩,j,_⟩ : StT × SST × Int × Unit) hn=>?_
 have hj:-1000≤j∧j≤1000:=hn
 clear hn
 refine (aI (by first | kernel_rfl | rfl) (aI (fun a0=>(aI (fun a1=>(by intros;(try subst_vars);(try simp only [nB] at *);(try simp only [inK,big,lim,nL] at *);omega)) (fin_of rfl ?_))) (fun a0=>?_)))
 ·show (refE (k,z,e,l) (hd,c,b) j,())=_
  rw [refE,if_pos (of_decide_eq_true a0)]
 have hk:k≠9:=of_decide_eq_false a0
 refine ex4 _ (fun i:Nat=>⟨[.any,.any,.int .i64 j,.any,.ptr 1 0,.any,.any,.int .i64 (i:Int)]++nA 27,[.cells   [.int .i64 k,.int .i64 z,.int .i64 e.kind,.int .i64 e.op,.str e.name,     .int .i64 e.value,.sl .expr e.args,.sl (.int .i64) l],.cells [.sl (.int .i64) hd,.int .i64 c,.bool b]],2⟩) (fun i=>i≤hd.length∧(hd.take i).any (isI j)=false) (fun i=>hd.length - i) (aI (Exists.intro (0) (Exists.intro ([some 0,some 1]) (aI ?_ (aI (by rfl) (aI (by rfl) (aI (aI (aI (by rfl) (by rfl)) (aI (aI (by rfl) (by rfl)) True.intro)) (by rfl))))))) ?_)
 ·exact ⟨Nat.zero_le _,rfl⟩
 rintro i ⟨hi,ht⟩
 refine (fun m0=>(aI (fun m1=>(aI (by intros;(try subst_vars);(try simp only [nB] at *);(try simp only [inK,big,lim,nL] at *);omega) (aI (fun m2=>(fin_of rfl ?_)) (fun m2=>(aI (by intros;(try subst_vars);(try simp only [nB] at *);(try simp only [inK,big,lim,nL] at *);omega) ?_))))) (fun m1=>(fin_of rfl ?_))))
 ·have hi':i < hd.length:=by simpa using m1
  have hp:isI j (hd.getD i (dflt tI))=true:=by unfold isI;exact decide_eq_true (of_decide_eq_true m2).symm
  show (refE (k,z,e,l) (hd,c,b) j,())=(true,())
  rw [refE,if_neg hk,show (List.any _ _)=true from any_hit hi' hp]
 ·have hi':i < hd.length:=by simpa using m1
  have hp:isI j (hd.getD i (dflt tI))=false:=by unfold isI;exact decide_eq_false fun h=>(of_decide_eq_false m2) h.symm
  refine Exists.intro (i+1) (Exists.intro ([some 0,some 1]) (aI ?_ (aI ?_ (aI (by rfl) (aI (by rfl) (aI (aI (aI (by rfl) (by rfl)) (aI (aI (by rfl) (by rfl)) True.intro)) (by rfl)))))))
  ·exact ⟨hi',any_next hi' ht hp⟩
  ·show hd.length - (i+1) < hd.length - i
   omega
 ·have hi':¬ i < hd.length:=by simpa using m1
  show (refE (k,z,e,l) (hd,c,b) j,())=(false,())
  rw [refE,if_neg hk,show (List.any _ _)=false from any_end hi' ht]
def cxFE:Ctx:=⟨tys0,[(18,([],c18)),(91,([],c91))]⟩
theorem cxFE_good:GoodCtx Tryz.prog cxFE:=cx_cons good18 (cx_cons good91 cx0_good)
def chkS (x:StT) (s:SST):Int:=if stChk x≠0 then stChk x else if validF x s=true then 0 else 1
theorem chkS_zero {x:StT} {s:SST} (h:chkS x s=0):stChk x=0∧validF x s=true:=by
 unfold chkS at h
 by_cases h1:stChk x≠0
 ·rw [if_pos h1] at h;exact absurd h h1
 ·rw [if_neg h1] at h
  by_cases h2:validF x s=true
  ·exact ⟨by simpa using h1,h2⟩
  ·rw [if_neg h2] at h;cases h
theorem need_S {x:StT} {s:SST} (h:chkS x s≠0):needF x s=([],chkS x s):=by
 unfold chkS at h ⊢
 by_cases h1:stChk x≠0
 ·rw [if_pos h1,ND0 (by simpa using h1)]
 ·rw [if_neg h1] at h ⊢
  by_cases h2:validF x s=true
  ·rw [if_pos h2] at h;exact absurd rfl h
  ·rw [if_neg h2,ND1 (by simpa using h1) (by simpa using h2)]
theorem need_0 {x:StT} {s:SST} (h:chkS x s=0):(!decide (stChk x=0))=false∧(!validF x s)=false:=by
 obtain ⟨h1,h2⟩:=chkS_zero h
 rw [h1,h2];exact ⟨rfl,rfl⟩
theorem refE_8 {x:StT} {s:SST} {i:Int} (h:x.1=8):refE x s i=endF x s i:=by
 rw [refE,endF,if_neg (by omega),if_pos h]
theorem cnt_9 {x:StT} {s:SST} (h:validF x s=true) (hk:x.1=9):0≤s.2.1∧s.2.1≤3:=by
 have h1:=valid_cnt h
 unfold bndF at h1
 rw [if_neg (by omega),if_neg (by omega),if_neg (by omega),if_pos hk] at h1
 exact ⟨h1.1,h1.2.1⟩
theorem refE_9 {x:StT} {s:SST} {i:Int} (hv:validF x s=true) (h:x.1=9) (hi:i=0∨i=1):refE x s i=endF x s i:=by
 have h1:=cnt_9 hv h
 rw [refE,endF,if_pos h,if_neg (by omega),if_pos h]
 have hc:s.2.1=0∨s.2.1=1∨s.2.1=2∨s.2.1=3:=by omega
 rcases hc with hc | hc | hc | hc <;> rw [hc] <;> rcases hi with rfl | rfl <;> rfl
def c66:Ctr:=fnC [dSt,dSS] rI (fun _=>True) (fun y=>(chkS y.1 y.2.1,()))
theorem good66:GoodC Tryz.prog 66 c66:=by
 refine goodF cxFE_good 4 _ _ _ _ ⟨_,Tryz.func66,rfl,rfl⟩ fun (⟨⟨k,z,e,l⟩,⟨hd,c,b⟩,_⟩ : StT × SST × Unit) _=>?_
 refine (aI (by first | kernel_rfl | rfl) (aI True.intro (aI (fun a0=>(fin_of rfl ?_)) (fun a0=>(aI ?_ (aI (fun a1=>(fin_of rfl ?_)) (fun a1=>(fin_of rfl ?_))))))))
 ·rw [eta] at a0
  rw [eta,chkS,if_pos (by simpa using a0)]
 ·rw [eta] at a0
  have:=chk_size (x:=(k,z,e,l)) (by simpa using a0)
  show -1000≤z∧z≤1000
  replace this:0≤z∧z≤200∧_:=this
  omega
 ·rw [eta] at a0 a1
  rw [chkS,if_neg (by simpa using a0),if_neg (by simpa using a1)]
 ·rw [eta] at a0 a1
  rw [chkS,if_neg (by simpa using a0),if_pos (by simpa using a1)]
def nmC (a:List AK) (need:AK.dens a→Prop) (v:AK.dens a→AV) (gen:AK.dens a→(AV→Prop)→Prop):Ctr:=fun args =>
 match ofAVs a args with
 | some y=>some ⟨⟨some (need y),none,[],v y⟩,gen y⟩
 | none=>none
theorem good_nm {P:Program} {g:FuncId} {a:List AK} {r:List (Bool × Ty)} {need0:AK.dens a→Prop} {f:AK.dens a→Rens r} (h:GoodC P g (fnC a r need0 f)) {need:AK.dens a→Prop} {v:AK.dens a→AV} {gen:AK.dens a→(AV→Prop)→Prop}
 (hv:∀ y,need y→need0 y∧resAV r (f y)=v y) (hg:∀ y k,gen y k→k (v y)):GoodC P g (nmC a need v gen):=by
 refine ⟨h.1,fun args cg hC k hk=>?_,fun args cr gen' hC hn w F0 vs hF hsz hrd=>?_⟩
 ·unfold nmC at hC
  split at hC
  ·cases hC
   exact hg _ k hk
  ·cases hC
 ·unfold nmC at hC
  split at hC
  ·rename_i y hy
   cases hC
   obtain ⟨h1,h2⟩:=hv y hn
   have hC':fnC a r need0 f args=some ⟨⟨some (need0 y),none,[],resAV r (f y)⟩,if rich r then fun k=>∀ z,z=f y→k (resAV r z) else fun k=>k (resAV r (f y))⟩:=by
    unfold fnC
    rw [hy]
   have:=h.calls _ _ _ hC' h1 w F0 vs hF hsz hrd
   rw [h2] at this
   exact this
  ·cases hC
def c67n:Ctr:=nmC [dSt,dSS,dI] (fun y=>-1000≤y.2.2.1∧y.2.2.1≤1000) (fun y=>.bool (refE y.1 y.2.1 y.2.2.1)) (fun y k=>∀ q:Bool,q=refE y.1 y.2.1 y.2.2.1→k (.bool q))
theorem good67n:GoodC Tryz.prog 67 c67n:=good_nm good67 (fun _ hn=>⟨hn,rfl⟩) (fun _ _ hk=>hk _ rfl)
def cxFF:Ctx:=⟨tys0,[(66,([],c66)),(67,([],c67n))]⟩
theorem cxFF_good:GoodCtx Tryz.prog cxFF:=cx_cons good66 (cx_cons good67n cx0_good)
def c33:Ctr:=fnC [dSt,dSS] rIsI (fun _=>True) (fun y=>((needF y.1 y.2.1).1,(needF y.1 y.2.1).2,()))
theorem exec_cond {cx:Ctx} {P:Program} {call:CallSem} {n0:Nat} {c:Operand} {a b:Code} {sl:List AV} {H:List Ob} {n:Nat} {K:Ex→Kont} {q:Bool} (h:ev sl c=.bool q) (h1:q=true→exec cx P call n0 a sl H n K) (h2:q=false→exec cx P call n0 b sl H n K):exec cx P call n0 (.cond c a b) sl H n K:=by
 simp only [exec,h]
 exact ⟨h1,h2⟩
set_option maxHeartbeats 8000000 in
theorem good33:GoodC Tryz.prog 33 c33:=by
 refine goodF cxFF_good 4 _ _ _ _ ⟨_,Tryz.func33,rfl,rfl⟩ fun (⟨⟨k,z,⟨ek,eo,em,ev,ea⟩,l⟩,⟨hd,c,b⟩,_⟩ : StT × SST × Unit) _=>?_
 have S0:(!decide (chkS (k,z,ExprT.mk ek eo em ev ea,l) (hd,c,b)=0))=false→chkS (k,z,ExprT.mk ek eo em ev ea,l) (hd,c,b)=0:=fun h=>by simpa using h
 have C8:chkS (k,z,ExprT.mk ek eo em ev ea,l) (hd,c,b)=0→decide (k=8)=true→0≤c∧c≤1:=fun h h'=>by
  have h1:=valid_cnt (chkS_zero h).2
  have hk:=of_decide_eq_true h'
  subst hk
  exact ⟨h1.1,h1.2.1⟩
 have E8:decide (k=8)=true→refE (k,z,ExprT.mk ek eo em ev ea,l) (hd,c,b) c=(bif decide (k=8) then endF (k,z,ExprT.mk ek eo em ev ea,l) (hd,c,b) c else false):=fun h=>by
  rw [h];exact refE_8 (of_decide_eq_true h)
 have N8:decide (k=8)=false→(bif decide (k=8) then endF (k,z,ExprT.mk ek eo em ev ea,l) (hd,c,b) c else false)=false:=fun h=>by rw [h];rfl
 have E9:chkS (k,z,ExprT.mk ek eo em ev ea,l) (hd,c,b)=0→(bif decide (k=9) then bif refE (k,z,ExprT.mk ek eo em ev ea,l) (hd,c,b) 0 then true else decide (0 < (hd.length:Int)) else false)=(bif decide (k=9) then bif endF (k,z,ExprT.mk ek eo em ev ea,l) (hd,c,b) 0 then true else decide (0 < (hd.length:Int)) else false):=fun h=>by
  cases h9:decide (k=9) with
  | false=>rfl
  | true=>rw [refE_9 (chkS_zero h).2 (of_decide_eq_true h9) (.inl rfl)]
 refine (aI (by first | kernel_rfl | rfl) (aI True.intro (aI (fun a0=>(fin_of rfl ?_)) (fun a0=>(aI (fun a1=>(fin_of rfl ?_)) (fun a1=>(aI (fun a2=>(aI ?_ (fun a3=>(fun a4=>(show dropWhen _ _ from (show exec _ _ _ _ _ _ _ _ _ from (exec_cond rfl (fun a5=>(aI ?_ (fin_of rfl ?_))) (fun a5=>(fin_of rfl ?_))))))))) (fun a2=>(aI (fun a6=>?_) (fun a7=>(aI (fun a8=>(fin_of rfl ?_)) (fun a8=>(fin_of rfl ?_)))))))))))))
 ·rw [need_S (by simpa using a0)]
 ·exact ND2' (need_0 (S0 a0)).1 (need_0 (S0 a0)).2 a1
 ·have:=C8 (S0 a0) a2
  show -1000≤c∧c≤1000
  omega
 ·have:=C8 (S0 a0) a2
  show -9223372036854775808≤1 - c∧1 - c≤9223372036854775807
  omega
 ·exact ND3' (need_0 (S0 a0)).1 (need_0 (S0 a0)).2 a1 ((E8 a2).symm.trans (a4.symm.trans a5))
 ·exact ND4' (need_0 (S0 a0)).1 (need_0 (S0 a0)).2 a1 ((E8 a2).symm.trans (a4.symm.trans a5)) a2
 ·show (-1000:Int)≤0∧(0:Int)≤1000
  decide
 ·exact ND5' (need_0 (S0 a0)).1 (need_0 (S0 a0)).2 a1 (N8 a2) a2 ((E9 (S0 a0)).symm.trans a8)
 ·exact ND6' (need_0 (S0 a0)).1 (need_0 (S0 a0)).2 a1 (N8 a2) a2 ((E9 (S0 a0)).symm.trans a8)
end Go.Proofs.YticmijfmgmkkcaaGreat
namespace Go.Proofs.YticmijfmgmkkcaaGreat
open Go.Sx
def eachO (k z:Int) (o:List Int × List Int) (n:Int) (i:Nat) (v:Int):List Int × List Int :=
 if k=2∨k=9 then (o.1++[v],o.2) else if k=3 then (if v=1 then (o.1++[n],o.2) else o) else if k=7 then (if v=1 then (o.1++[n],o.2) else (o.1,o.2++[n]))
 else if k=5 then (o.1++List.replicate z.toNat n,o.2) else if k=6 then (if (i:Int) < z then (o.1++[n],o.2) else o) else o
def eachV (k:Int) (e:ExprT) (b:List Int) (n:Int) (i:Nat):Int × Int:=if tyE k≠0 then exEval e (bindF nmXY [n,if k=9 then b.getD i 0 else 0]) else (0,0)
def eachL (k z:Int) (e:ExprT) (b:List Int):List Int→Nat→List Int × List Int→(List Int × List Int) × Int
 | [],_,o=>(o,0)
 | n :: r,i,o=>if k=9∧b.length≤i then (o,0) else if (eachV k e b n i).2≠0 then (([],[]),(eachV k e b n i).2) else eachL k z e b r (i+1) (eachO k z o n i (eachV k e b n i).1)
def eachF (x:StT) (a b:List Int):List (List Int) × Int :=
 if (eachL x.1 x.2.1 x.2.2.1 b a 0 ([],[])).2≠0 then ([],(eachL x.1 x.2.1 x.2.2.1 b a 0 ([],[])).2) else ([(eachL x.1 x.2.1 x.2.2.1 b a 0 ([],[])).1.1,(eachL x.1 x.2.1 x.2.2.1 b a 0 ([],[])).1.2],0)
def c69:Ctr:=fnC [dSt,dIs,dIs] [(false,tIss)] (fun _=>True) (fun y=>([y.2.1,y.2.2.1].take (stOut y.1).toNat,()))
def cxFG:Ctx:=⟨tys0,[(22,([],c22)),(55,([],c55)),(77,([],c77))]⟩
theorem cxFG_good:GoodCtx Tryz.prog cxFG:=cx_cons good22 (cx_cons good55 (cx_cons good77 cx0_good))
theorem good69:GoodC Tryz.prog 69 c69:=by
 refine goodF cxFG_good 4 _ _ _ _ ⟨_,Tryz.func69,rfl,rfl⟩ fun (⟨⟨k,z,⟨ek,eo,em,ev,ea⟩,l⟩,a,b,_⟩ : StT × List Int × List Int × Unit) _=>?_
 have ho:0≤stOut (k,z,ExprT.mk ek eo em ev ea,l)∧stOut (k,z,ExprT.mk ek eo em ev ea,l)≤2:=by
  rw [out_ref]
  split
  ·omega
  ·split <;> omega
 refine (aI (by first | kernel_rfl | rfl) (aI True.intro (aI (by omega) (fin_of rfl ?_))))
 ·rfl
theorem nzT {a:Int} (h:(!decide (a=0))=true):a≠0:=by simpa using h
theorem nzF {a:Int} (h:(!decide (a=0))=false):a=0:=by simpa using h
theorem eo3t {z n v:Int} {i:Nat} {f s:List Int} (h:v=1):eachO 3 z (f,s) n i v=(f++[n],s):=if_pos h
theorem eo3f {z n v:Int} {i:Nat} {f s:List Int} (h:¬ v=1):eachO 3 z (f,s) n i v=(f,s):=if_neg h
theorem eo7t {z n v:Int} {i:Nat} {f s:List Int} (h:v=1):eachO 7 z (f,s) n i v=(f++[n],s):=if_pos h
theorem eo7f {z n v:Int} {i:Nat} {f s:List Int} (h:¬ v=1):eachO 7 z (f,s) n i v=(f,s++[n]):=if_neg h
section
variable {k z:Int} {e:ExprT} {a b l f s:List Int} {i:Nat}
theorem eachL_drop (h:i < a.length) (o:List Int × List Int):eachL k z e b (a.drop i) i o=if k=9∧b.length≤i then (o,0) else if (eachV k e b (a.getD i 0) i).2≠0 then (([],[]),(eachV k e b (a.getD i 0) i).2) else eachL k z e b (a.drop (i+1)) (i+1) (eachO k z o (a.getD i 0) i (eachV k e b (a.getD i 0) i).1):=by
 rw [List.drop_eq_getElem_cons h]
 simp [eachL,List.getD,h]
theorem each_end (ht:eachL k z e b a 0 ([],[])=eachL k z e b (a.drop i) i (f,s)) (h:¬ i < a.length):eachF (k,z,e,l) a b=([f,s],0):=by
 rw [List.drop_of_length_le (by omega)] at ht
 unfold eachF
 rw [show eachL (k,z,e,l).1 (k,z,e,l).2.1 (k,z,e,l).2.2.1 b a 0 ([],[])=((f,s),0) from ht];rfl
theorem each_brk (ht:eachL k z e b a 0 ([],[])=eachL k z e b (a.drop i) i (f,s)) (h:i < a.length) (h9:k=9) (hb:b.length≤i):eachF (k,z,e,l) a b=([f,s],0):=by
 rw [eachL_drop h,if_pos ⟨h9,hb⟩] at ht
 unfold eachF
 rw [show eachL (k,z,e,l).1 (k,z,e,l).2.1 (k,z,e,l).2.2.1 b a 0 ([],[])=((f,s),0) from ht];rfl
theorem each_err {v:Int × Int} (ht:eachL k z e b a 0 ([],[])=eachL k z e b (a.drop i) i (f,s)) (h:i < a.length) (hb:¬ (k=9∧b.length≤i)) (hv:eachV k e b (a.getD i 0) i=v) (h0:v.2≠0):eachF (k,z,e,l) a b=([],v.2):=by
 rw [eachL_drop h,if_neg hb,hv,if_pos h0] at ht
 unfold eachF
 rw [show eachL (k,z,e,l).1 (k,z,e,l).2.1 (k,z,e,l).2.2.1 b a 0 ([],[])=(([],[]),v.2) from ht]
 exact if_pos h0
theorem each_nxt {v:Int × Int} {f' s':List Int} (ht:eachL k z e b a 0 ([],[])=eachL k z e b (a.drop i) i (f,s)) (h:i < a.length) (hb:¬ (k=9∧b.length≤i)) (hv:eachV k e b (a.getD i 0) i=v) (h0:v.2=0) (ho:eachO k z (f,s) (a.getD i 0) i v.1=(f',s')) :
 eachL k z e b a 0 ([],[])=eachL k z e b (a.drop (i+1)) (i+1) (f',s'):=by
 rw [ht,eachL_drop h,if_neg hb,hv,if_neg (by rw [h0];simp),ho]
end
def c51:Ctr:=fnC [dSt,dIs,dIs] rIssI (fun y=>((0≤y.1.2.1∧y.1.2.1≤200)∧y.2.1.length≤1000)∧(y.1.1=2∨y.1.1=3∨y.1.1=5∨y.1.1=6∨y.1.1=7∨y.1.1=9∨y.1.1=10)) (fun y=>((eachF y.1 y.2.1 y.2.2.1).1,(eachF y.1 y.2.1 y.2.2.1).2,()))
set_option maxHeartbeats 8000000 in
theorem good51:GoodC Tryz.prog 51 c51:=by
 refine goodF cxFG_good 4 _ _ _ _ ⟨_,Tryz.func51,rfl,rfl⟩ fun (⟨⟨k,z,⟨ek,eo,em,ev,ea⟩,l⟩,a,b,_⟩ : StT × List Int × List Int × Unit) hn=>?_
 have hz:0≤z∧z≤200:=hn.1.1
 have ha:a.length≤1000:=hn.1.2
 have hk:k=2∨k=3∨k=5∨k=6∨k=7∨k=9∨k=10:=hn.2
 clear hn
 rcases hk with rfl | rfl | rfl | rfl | rfl | rfl | rfl
 ·skip
  refine (aI (by first | kernel_rfl | rfl) ?_)
  refine ex4 _ (fun p:Nat × List Int × List Int=>⟨[.any,.sl (.int .i64) a,.sl (.int .i64) b,.ptr 0 0,.any,.any,.any,.any,.own 1,.own 2,.int .i64 (p.1:Int)]++nA 114,[.cells   [.int .i64 2,.int .i64 z,.int .i64 (ExprT.mk ek eo em ev ea).kind,     .int .i64 (ExprT.mk ek eo em ev ea).op,.str (ExprT.mk ek eo em ev ea).name,     .int .i64 (ExprT.mk ek eo em ev ea).value,.sl .expr (ExprT.mk ek eo em ev ea).args,     .sl (.int .i64) l],.rows tI p.2.1,.rows tI p.2.2],3⟩) (fun p=>p.1≤a.length∧(p.2.1.length≤200 * p.1∧p.2.2.length≤200 * p.1)∧eachL 2 z (ExprT.mk ek eo em ev ea) b a 0 ([],[])=eachL 2 z (ExprT.mk ek eo em ev ea) b (a.drop p.1) p.1 (p.2.1,p.2.2)) (fun p=>a.length - p.1) (aI (Exists.intro ((0,[],[])) (Exists.intro ([some 0,none,none]) (aI ?_ (aI (by rfl) (aI (by rfl) (aI (aI (aI (by rfl) (by rfl)) (aI (by rfl) (aI (by rfl) True.intro))) (by rfl))))))) ?_)
  ·exact ⟨Nat.zero_le _,⟨Nat.zero_le _,Nat.zero_le _⟩,rfl⟩
  rintro ⟨i,f,s⟩ ⟨hi,⟨hf,hs⟩,ht⟩
  replace hi:i≤a.length:=hi
  replace hf:f.length≤200 * i:=hf
  replace hs:s.length≤200 * i:=hs
  replace ht:eachL 2 z (ExprT.mk ek eo em ev ea) b a 0 ([],[])=eachL 2 z (ExprT.mk ek eo em ev ea) b (a.drop i) i (f,s):=ht
  have rf:(f.length+1) * 8≤lim:=by simp only [lim];omega
  have rs:(s.length+1) * 8≤lim:=by simp only [lim];omega
  refine (fun c0=>(aI (fun c1=>(aI (fun c2=>nF (by kernel_rfl) c2) (fun c2=>(aI True.intro (aI (fun c3=>(aI (by kernel_rfl) (aI (by (intros;(try subst_vars);(try simp only [nB] at *);(try simp only [inK,big,lim,nL] at *);omega)) (aI (by rfl) (aI (by rfl) (aI (by rfl) (aI (by rfl) (aI (by (intros;(try subst_vars);(try simp only [nB] at *);(try simp only [inK,big,lim,nL] at *);omega)) (aI (by rfl) (aI (by rfl) (aI (by rfl) (aI (by first | kernel_rfl | rfl) (aI (by rfl) (aI (by rfl) (aI (fun c4 c5=>?_) (aI (by rfl) (aI (by rfl) (aI (by rfl) (aI (by rfl) (aI (fun c6=>(fin_of rfl ?_)) (fun c6=>(aI (fun c7=>(aI (fun c8=>(aI (by omega) (aI (by (intros;(try subst_vars);(try simp only [nB] at *);(try simp only [inK,big,lim,nL] at *);omega)) ?_))) (fun c8=>False.elim (Bool.false_ne_true (Eq.symm (Eq.trans (by kernel_rfl) c8)))))) (fun c7=>False.elim (Bool.false_ne_true (Eq.symm (Eq.trans (by kernel_rfl) c7)))))))))))))))))))))))))) (fun c3=>False.elim (Bool.false_ne_true (Eq.symm (Eq.trans (by kernel_rfl) c3))))))))) (fun c1=>(fin_of rfl ?_))))
  ·exact int_xy _ _ _ (by assumption)
  ·have hi':i < a.length:=by simpa using c1
   have q:=each_err (l:=l) ht hi' (fun h=>absurd h.1 (by decide)) (v:=exEval (ExprT.mk ek eo em ev ea) (bindF nmXY [a.getD i 0,0])) rfl (nzT c6)
   show ((eachF (2,z,(ExprT.mk ek eo em ev ea),l) a b).1,(eachF (2,z,(ExprT.mk ek eo em ev ea),l) a b).2,())=_
   rw [q];rfl
  ·have hi':i < a.length:=by simpa using c1
   refine Exists.intro ((i+1,f++[(exEval (ExprT.mk (ExprT.mk ek eo em ev ea).kind (ExprT.mk ek eo em ev ea).op (ExprT.mk ek eo em ev ea).name (ExprT.mk ek eo em ev ea).value (ExprT.mk ek eo em ev ea).args) [(⟨#[120]⟩,1,a.getD (i:Int).toNat (dflt tI)),(⟨#[121]⟩,1,0)]).1],s)) (Exists.intro ([some 0,some 5,some 2]) (aI ?_ (aI ?_ (aI (by rfl) (aI (by rfl) (aI (aI (aI (by rfl) (by rfl)) (aI (by rfl) (aI (by rfl) True.intro))) (by rfl)))))))
   ·refine ⟨hi',⟨?_, ?_⟩,each_nxt ht hi' (fun h=>absurd h.1 (by decide)) (v:=exEval (ExprT.mk ek eo em ev ea) (bindF nmXY [a.getD i 0,0])) rfl (nzF c6) rfl⟩
    ·show List.length (f++[(exEval (ExprT.mk ek eo em ev ea) (bindF nmXY [a.getD i 0,0])).1])≤200 * (i+1)
     simp only [List.length_append,List.length_cons,List.length_nil,List.length_replicate];omega
    ·show List.length (s)≤200 * (i+1)
     omega
   ·show a.length - (i+1) < a.length - i
    omega
  ·have q:=each_end (l:=l) ht (by simpa using c1)
   show ((eachF (2,z,(ExprT.mk ek eo em ev ea),l) a b).1,(eachF (2,z,(ExprT.mk ek eo em ev ea),l) a b).2,())=_
   rw [q]
 ·skip
  refine (aI (by first | kernel_rfl | rfl) ?_)
  refine ex4 _ (fun p:Nat × List Int × List Int=>⟨[.any,.sl (.int .i64) a,.sl (.int .i64) b,.ptr 0 0,.any,.any,.any,.any,.own 1,.own 2,.int .i64 (p.1:Int)]++nA 114,[.cells   [.int .i64 3,.int .i64 z,.int .i64 (ExprT.mk ek eo em ev ea).kind,     .int .i64 (ExprT.mk ek eo em ev ea).op,.str (ExprT.mk ek eo em ev ea).name,     .int .i64 (ExprT.mk ek eo em ev ea).value,.sl .expr (ExprT.mk ek eo em ev ea).args,     .sl (.int .i64) l],.rows tI p.2.1,.rows tI p.2.2],3⟩) (fun p=>p.1≤a.length∧(p.2.1.length≤200 * p.1∧p.2.2.length≤200 * p.1)∧eachL 3 z (ExprT.mk ek eo em ev ea) b a 0 ([],[])=eachL 3 z (ExprT.mk ek eo em ev ea) b (a.drop p.1) p.1 (p.2.1,p.2.2)) (fun p=>a.length - p.1) (aI (Exists.intro ((0,[],[])) (Exists.intro ([some 0,none,none]) (aI ?_ (aI (by rfl) (aI (by rfl) (aI (aI (aI (by rfl) (by rfl)) (aI (by rfl) (aI (by rfl) True.intro))) (by rfl))))))) ?_)
  ·exact ⟨Nat.zero_le _,⟨Nat.zero_le _,Nat.zero_le _⟩,rfl⟩
  rintro ⟨i,f,s⟩ ⟨hi,⟨hf,hs⟩,ht⟩
  replace hi:i≤a.length:=hi
  replace hf:f.length≤200 * i:=hf
  replace hs:s.length≤200 * i:=hs
  replace ht:eachL 3 z (ExprT.mk ek eo em ev ea) b a 0 ([],[])=eachL 3 z (ExprT.mk ek eo em ev ea) b (a.drop i) i (f,s):=ht
  have rf:(f.length+1) * 8≤lim:=by simp only [lim];omega
  have rs:(s.length+1) * 8≤lim:=by simp only [lim];omega
  refine (fun d0=>(aI (fun d1=>(aI (fun d2=>nF (by kernel_rfl) d2) (fun d2=>(aI True.intro (aI (fun d3=>(aI (by kernel_rfl) (aI (by (intros;(try subst_vars);(try simp only [nB] at *);(try simp only [inK,big,lim,nL] at *);omega)) (aI (by rfl) (aI (by rfl) (aI (by rfl) (aI (by rfl) (aI (by (intros;(try subst_vars);(try simp only [nB] at *);(try simp only [inK,big,lim,nL] at *);omega)) (aI (by rfl) (aI (by rfl) (aI (by rfl) (aI (by first | kernel_rfl | rfl) (aI (by rfl) (aI (by rfl) (aI (fun d4 d5=>?_) (aI (by rfl) (aI (by rfl) (aI (by rfl) (aI (by rfl) (aI (fun d6=>(fin_of rfl ?_)) (fun d6=>(aI (fun d7=>nF (by kernel_rfl) d7) (fun d7=>(aI (fun d8=>nF (by kernel_rfl) d8) (fun d8=>(aI (fun d9=>(aI (fun d10=>(aI (by (intros;(try subst_vars);(try simp only [nB] at *);(try simp only [inK,big,lim,nL] at *);omega)) (aI (by omega) (aI (by (intros;(try subst_vars);(try simp only [nB] at *);(try simp only [inK,big,lim,nL] at *);omega)) ?_)))) (fun d10=>(aI (by (intros;(try subst_vars);(try simp only [nB] at *);(try simp only [inK,big,lim,nL] at *);omega)) ?_)))) (fun d9=>False.elim (Bool.false_ne_true (Eq.symm (Eq.trans (by kernel_rfl) d9)))))))))))))))))))))))))))))) (fun d3=>False.elim (Bool.false_ne_true (Eq.symm (Eq.trans (by kernel_rfl) d3))))))))) (fun d1=>(fin_of rfl ?_))))
  ·exact int_xy _ _ _ (by assumption)
  ·have hi':i < a.length:=by simpa using d1
   have q:=each_err (l:=l) ht hi' (fun h=>absurd h.1 (by decide)) (v:=exEval (ExprT.mk ek eo em ev ea) (bindF nmXY [a.getD i 0,0])) rfl (nzT d6)
   show ((eachF (3,z,(ExprT.mk ek eo em ev ea),l) a b).1,(eachF (3,z,(ExprT.mk ek eo em ev ea),l) a b).2,())=_
   rw [q];rfl
  ·have hi':i < a.length:=by simpa using d1
   refine Exists.intro ((i+1,f++[a.getD (i:Int).toNat (dflt tI)],s)) (Exists.intro ([some 0,some 5,some 2]) (aI ?_ (aI ?_ (aI (by rfl) (aI (by rfl) (aI (aI (aI (by rfl) (by rfl)) (aI (by rfl) (aI (by rfl) True.intro))) (by rfl)))))))
   ·refine ⟨hi',⟨?_, ?_⟩,each_nxt ht hi' (fun h=>absurd h.1 (by decide)) (v:=exEval (ExprT.mk ek eo em ev ea) (bindF nmXY [a.getD i 0,0])) rfl (nzF d6) (eo3t (of_decide_eq_true d10))⟩
    ·show List.length (f++[a.getD i 0])≤200 * (i+1)
     simp only [List.length_append,List.length_cons,List.length_nil,List.length_replicate];omega
    ·show List.length (s)≤200 * (i+1)
     omega
   ·show a.length - (i+1) < a.length - i
    omega
  ·have hi':i < a.length:=by simpa using d1
   refine Exists.intro ((i+1,f,s)) (Exists.intro ([some 0,some 1,some 2]) (aI ?_ (aI ?_ (aI (by rfl) (aI (by rfl) (aI (aI (aI (by rfl) (by rfl)) (aI (by rfl) (aI (by rfl) True.intro))) (by rfl)))))))
   ·refine ⟨hi',⟨?_, ?_⟩,each_nxt ht hi' (fun h=>absurd h.1 (by decide)) (v:=exEval (ExprT.mk ek eo em ev ea) (bindF nmXY [a.getD i 0,0])) rfl (nzF d6) (eo3f (of_decide_eq_false d10))⟩
    ·show List.length (f)≤200 * (i+1)
     omega
    ·show List.length (s)≤200 * (i+1)
     omega
   ·show a.length - (i+1) < a.length - i
    omega
  ·have q:=each_end (l:=l) ht (by simpa using d1)
   show ((eachF (3,z,(ExprT.mk ek eo em ev ea),l) a b).1,(eachF (3,z,(ExprT.mk ek eo em ev ea),l) a b).2,())=_
   rw [q]
 ·skip
  refine (aI (by first | kernel_rfl | rfl) ?_)
  refine ex4 _ (fun p:Nat × List Int × List Int=>⟨[.any,.sl (.int .i64) a,.sl (.int .i64) b,.ptr 0 0,.any,.any,.any,.any,.own 1,.own 2,.int .i64 (p.1:Int)]++nA 114,[.cells   [.int .i64 5,.int .i64 z,.int .i64 (ExprT.mk ek eo em ev ea).kind,     .int .i64 (ExprT.mk ek eo em ev ea).op,.str (ExprT.mk ek eo em ev ea).name,     .int .i64 (ExprT.mk ek eo em ev ea).value,.sl .expr (ExprT.mk ek eo em ev ea).args,     .sl (.int .i64) l],.rows tI p.2.1,.rows tI p.2.2],3⟩) (fun p=>p.1≤a.length∧(p.2.1.length≤200 * p.1∧p.2.2.length≤200 * p.1)∧eachL 5 z (ExprT.mk ek eo em ev ea) b a 0 ([],[])=eachL 5 z (ExprT.mk ek eo em ev ea) b (a.drop p.1) p.1 (p.2.1,p.2.2)) (fun p=>a.length - p.1) (aI (Exists.intro ((0,[],[])) (Exists.intro ([some 0,none,none]) (aI ?_ (aI (by rfl) (aI (by rfl) (aI (aI (aI (by rfl) (by rfl)) (aI (by rfl) (aI (by rfl) True.intro))) (by rfl))))))) ?_)
  ·exact ⟨Nat.zero_le _,⟨Nat.zero_le _,Nat.zero_le _⟩,rfl⟩
  rintro ⟨i,f,s⟩ ⟨hi,⟨hf,hs⟩,ht⟩
  replace hi:i≤a.length:=hi
  replace hf:f.length≤200 * i:=hf
  replace hs:s.length≤200 * i:=hs
  replace ht:eachL 5 z (ExprT.mk ek eo em ev ea) b a 0 ([],[])=eachL 5 z (ExprT.mk ek eo em ev ea) b (a.drop i) i (f,s):=ht
  have rf:(f.length+1) * 8≤lim:=by simp only [lim];omega
  have rs:(s.length+1) * 8≤lim:=by simp only [lim];omega
  refine (fun q0=>(aI (fun q1=>(aI (fun q2=>nF (by kernel_rfl) q2) (fun q2=>(aI True.intro (aI (fun q3=>nF (by kernel_rfl) q3) (fun q3=>(aI (fun q4=>nF (by kernel_rfl) q4) (fun q4=>(aI (fun q5=>nF (by kernel_rfl) q5) (fun q5=>(aI (fun q6=>nF (by kernel_rfl) q6) (fun q6=>(aI (fun q7=>nF (by kernel_rfl) q7) (fun q7=>(aI (fun q8=>?_) (fun q8=>False.elim (Bool.false_ne_true (Eq.symm (Eq.trans (by kernel_rfl) q8))))))))))))))))))) (fun q1=>(fin_of rfl ?_))))
  ·refine ex4 _ (fun j:Nat=>⟨[.any,.sl (.int .i64) a,.sl (.int .i64) b,.ptr 0 0,.any,.any,.any,.any,.own 1,.own 2,.int .i64 (i:Int),.int .i64 0,.int .i64 0,.any,.any,.int .i64 (j:Int),.any,.any,.int .i64 (↑i:Int),.sl (.int .i64) a,.int .i64 (↑a.length:Int),.bool (decide ((↑i:Int) < (↑a.length:Int))),.any,.any,.ptr 0 0,.int .i64 5,.bool (decide (5=9)),.any,.any,.any,.any,.any,.any,.any,.any,.ptr 0 0,.int .i64 5,.int .i64 (tyE 5),.bool !decide (tyE 5=0),.any,.any,.any,.any,.any,.any,.any,.any,.any,.any,.any,.any,.any,.any,.any,.any,.any,.ptr 0 0,.int .i64 5,.bool (decide (5=9)),.bool (decide (5=2)),.bool (decide (5=9)),.any,.any,.any,.any,.bool (decide (5=3)),.bool (decide (5=3)),.any,.any,.any,.any,.any,.any,.any,.any,.any,.bool (decide (5=7)),.bool (decide (5=7)),.any,.any,.any,.any,.any,.any,.any,.any,.any,.any,.any,.any,.any,.any,.any,.any,.bool (decide (5=5)),.bool (decide (5=5))]++nA 29,[.cells   [.int .i64 5,.int .i64 z,.int .i64 (ExprT.mk ek eo em ev ea).kind,     .int .i64 (ExprT.mk ek eo em ev ea).op,.str (ExprT.mk ek eo em ev ea).name,     .int .i64 (ExprT.mk ek eo em ev ea).value,.sl .expr (ExprT.mk ek eo em ev ea).args,     .sl (.int .i64) l],.rows tI (f++List.replicate j (a.getD i 0)),.rows tI s],3⟩) (fun j=>(j:Int)≤z) (fun j=>z.toNat - j) (aI (Exists.intro (0) (Exists.intro ([some 0,some 1,some 2]) (aI ?_ (aI (by rfl) (aI (by rfl) (aI (aI (aI (by rfl) (by rfl)) (aI ?_ (aI (by rfl) True.intro))) (by rfl))))))) ?_)
   ·exact hz.1
   ·show Ob.rows tI f=Ob.rows tI (f++List.replicate 0 (a.getD i 0))
    rw [List.replicate_zero,List.append_nil]
   rintro j hj
   replace hj:(j:Int)≤z:=hj
   have rj:((f++List.replicate j (a.getD i 0)).length+1) * 8≤lim:=by simp only [lim,List.length_append,List.length_replicate];omega
   refine (aI (fun r0=>(aI (by (intros;(try subst_vars);(try simp only [nB] at *);(try simp only [inK,big,lim,nL] at *);omega)) (aI (by omega) (aI (by (intros;(try subst_vars);(try simp only [nB] at *);(try simp only [inK,big,lim,nL] at *);omega)) ?_)))) (fun r0=>(aI (by (intros;(try subst_vars);(try simp only [nB] at *);(try simp only [inK,big,lim,nL] at *);omega)) ?_)))
   ·have hj':(j:Int) < z:=of_decide_eq_true r0
    refine Exists.intro (j+1) (Exists.intro ([some 0,some 4,some 2]) (aI ?_ (aI ?_ (aI (by rfl) (aI (by rfl) (aI (aI (aI (by rfl) (by rfl)) (aI ?_ (aI (by rfl) True.intro))) (by rfl)))))))
    ·show ((j+1:Nat):Int)≤z
     omega
    ·show z.toNat - (j+1) < z.toNat - j
     omega
    ·show Ob.rows tI _=Ob.rows tI (f++List.replicate (j+1) _)
     rw [List.replicate_succ',← List.append_assoc];rfl
   ·have hj':¬ (j:Int) < z:=of_decide_eq_false r0
    have hi':i < a.length:=by simpa using q1
    have ej:j=z.toNat:=by omega
    refine Exists.intro ((i+1,f++List.replicate j (a.getD i 0),s)) (Exists.intro ([some 0,some 1,some 2]) (aI ?_ (aI ?_ (aI (by rfl) (aI (by rfl) (aI (aI (aI (by rfl) (by rfl)) (aI (by rfl) (aI (by rfl) True.intro))) (by rfl)))))))
    ·refine ⟨hi',⟨?_, ?_⟩,each_nxt ht hi' (fun h=>absurd h.1 (by decide)) (v:=(0,0)) rfl rfl (by rw [ej];rfl)⟩
     ·show List.length (f++List.replicate j (a.getD i 0))≤200 * (i+1)
      simp only [List.length_append,List.length_replicate];omega
     ·show List.length s≤200 * (i+1)
      omega
    ·show a.length - (i+1) < a.length - i
     omega
  ·have q:=each_end (l:=l) ht (by simpa using q1)
   show ((eachF (5,z,(ExprT.mk ek eo em ev ea),l) a b).1,(eachF (5,z,(ExprT.mk ek eo em ev ea),l) a b).2,())=_
   rw [q]
 ·skip
  refine (aI (by first | kernel_rfl | rfl) ?_)
  refine ex4 _ (fun p:Nat × List Int × List Int=>⟨[.any,.sl (.int .i64) a,.sl (.int .i64) b,.ptr 0 0,.any,.any,.any,.any,.own 1,.own 2,.int .i64 (p.1:Int)]++nA 114,[.cells   [.int .i64 6,.int .i64 z,.int .i64 (ExprT.mk ek eo em ev ea).kind,     .int .i64 (ExprT.mk ek eo em ev ea).op,.str (ExprT.mk ek eo em ev ea).name,     .int .i64 (ExprT.mk ek eo em ev ea).value,.sl .expr (ExprT.mk ek eo em ev ea).args,     .sl (.int .i64) l],.rows tI p.2.1,.rows tI p.2.2],3⟩) (fun p=>p.1≤a.length∧(p.2.1.length≤200 * p.1∧p.2.2.length≤200 * p.1)∧eachL 6 z (ExprT.mk ek eo em ev ea) b a 0 ([],[])=eachL 6 z (ExprT.mk ek eo em ev ea) b (a.drop p.1) p.1 (p.2.1,p.2.2)) (fun p=>a.length - p.1) (aI (Exists.intro ((0,[],[])) (Exists.intro ([some 0,none,none]) (aI ?_ (aI (by rfl) (aI (by rfl) (aI (aI (aI (by rfl) (by rfl)) (aI (by rfl) (aI (by rfl) True.intro))) (by rfl))))))) ?_)
  ·exact ⟨Nat.zero_le _,⟨Nat.zero_le _,Nat.zero_le _⟩,rfl⟩
  rintro ⟨i,f,s⟩ ⟨hi,⟨hf,hs⟩,ht⟩
  replace hi:i≤a.length:=hi
  replace hf:f.length≤200 * i:=hf
  replace hs:s.length≤200 * i:=hs
  replace ht:eachL 6 z (ExprT.mk ek eo em ev ea) b a 0 ([],[])=eachL 6 z (ExprT.mk ek eo em ev ea) b (a.drop i) i (f,s):=ht
  have rf:(f.length+1) * 8≤lim:=by simp only [lim];omega
  have rs:(s.length+1) * 8≤lim:=by simp only [lim];omega
  refine (fun m0=>(aI (fun m1=>(aI (fun m2=>nF (by kernel_rfl) m2) (fun m2=>(aI True.intro (aI (fun m3=>nF (by kernel_rfl) m3) (fun m3=>(aI (fun m4=>nF (by kernel_rfl) m4) (fun m4=>(aI (fun m5=>nF (by kernel_rfl) m5) (fun m5=>(aI (fun m6=>nF (by kernel_rfl) m6) (fun m6=>(aI (fun m7=>nF (by kernel_rfl) m7) (fun m7=>(aI (fun m8=>nF (by kernel_rfl) m8) (fun m8=>(aI (fun m9=>(aI (fun m10=>(aI (by (intros;(try subst_vars);(try simp only [nB] at *);(try simp only [inK,big,lim,nL] at *);omega)) (aI (by omega) (aI (by (intros;(try subst_vars);(try simp only [nB] at *);(try simp only [inK,big,lim,nL] at *);omega)) ?_)))) (fun m10=>(aI (by (intros;(try subst_vars);(try simp only [nB] at *);(try simp only [inK,big,lim,nL] at *);omega)) ?_)))) (fun m9=>False.elim (Bool.false_ne_true (Eq.symm (Eq.trans (by kernel_rfl) m9))))))))))))))))))))) (fun m1=>(fin_of rfl ?_))))
  ·have hi':i < a.length:=by simpa using m1
   refine Exists.intro ((i+1,f++[a.getD (i:Int).toNat (dflt tI)],s)) (Exists.intro ([some 0,some 4,some 2]) (aI ?_ (aI ?_ (aI (by rfl) (aI (by rfl) (aI (aI (aI (by rfl) (by rfl)) (aI (by rfl) (aI (by rfl) True.intro))) (by rfl)))))))
   ·refine ⟨hi',⟨?_, ?_⟩,each_nxt ht hi' (fun h=>absurd h.1 (by decide)) (v:=(0,0)) rfl rfl (if_pos (of_decide_eq_true m10))⟩
    ·show List.length (f++[a.getD i 0])≤200 * (i+1)
     simp only [List.length_append,List.length_cons,List.length_nil,List.length_replicate];omega
    ·show List.length (s)≤200 * (i+1)
     omega
   ·show a.length - (i+1) < a.length - i
    omega
  ·have hi':i < a.length:=by simpa using m1
   refine Exists.intro ((i+1,f,s)) (Exists.intro ([some 0,some 1,some 2]) (aI ?_ (aI ?_ (aI (by rfl) (aI (by rfl) (aI (aI (aI (by rfl) (by rfl)) (aI (by rfl) (aI (by rfl) True.intro))) (by rfl)))))))
   ·refine ⟨hi',⟨?_, ?_⟩,each_nxt ht hi' (fun h=>absurd h.1 (by decide)) (v:=(0,0)) rfl rfl (if_neg (of_decide_eq_false m10))⟩
    ·show List.length (f)≤200 * (i+1)
     omega
    ·show List.length (s)≤200 * (i+1)
     omega
   ·show a.length - (i+1) < a.length - i
    omega
  ·have q:=each_end (l:=l) ht (by simpa using m1)
   show ((eachF (6,z,(ExprT.mk ek eo em ev ea),l) a b).1,(eachF (6,z,(ExprT.mk ek eo em ev ea),l) a b).2,())=_
   rw [q]
 ·skip
  refine (aI (by first | kernel_rfl | rfl) ?_)
  refine ex4 _ (fun p:Nat × List Int × List Int=>⟨[.any,.sl (.int .i64) a,.sl (.int .i64) b,.ptr 0 0,.any,.any,.any,.any,.own 1,.own 2,.int .i64 (p.1:Int)]++nA 114,[.cells   [.int .i64 7,.int .i64 z,.int .i64 (ExprT.mk ek eo em ev ea).kind,     .int .i64 (ExprT.mk ek eo em ev ea).op,.str (ExprT.mk ek eo em ev ea).name,     .int .i64 (ExprT.mk ek eo em ev ea).value,.sl .expr (ExprT.mk ek eo em ev ea).args,     .sl (.int .i64) l],.rows tI p.2.1,.rows tI p.2.2],3⟩) (fun p=>p.1≤a.length∧(p.2.1.length≤200 * p.1∧p.2.2.length≤200 * p.1)∧eachL 7 z (ExprT.mk ek eo em ev ea) b a 0 ([],[])=eachL 7 z (ExprT.mk ek eo em ev ea) b (a.drop p.1) p.1 (p.2.1,p.2.2)) (fun p=>a.length - p.1) (aI (Exists.intro ((0,[],[])) (Exists.intro ([some 0,none,none]) (aI ?_ (aI (by rfl) (aI (by rfl) (aI (aI (aI (by rfl) (by rfl)) (aI (by rfl) (aI (by rfl) True.intro))) (by rfl))))))) ?_)
  ·exact ⟨Nat.zero_le _,⟨Nat.zero_le _,Nat.zero_le _⟩,rfl⟩
  rintro ⟨i,f,s⟩ ⟨hi,⟨hf,hs⟩,ht⟩
  replace hi:i≤a.length:=hi
  replace hf:f.length≤200 * i:=hf
  replace hs:s.length≤200 * i:=hs
  replace ht:eachL 7 z (ExprT.mk ek eo em ev ea) b a 0 ([],[])=eachL 7 z (ExprT.mk ek eo em ev ea) b (a.drop i) i (f,s):=ht
  have rf:(f.length+1) * 8≤lim:=by simp only [lim];omega
  have rs:(s.length+1) * 8≤lim:=by simp only [lim];omega
  refine (fun u0=>(aI (fun u1=>(aI (fun u2=>nF (by kernel_rfl) u2) (fun u2=>(aI True.intro (aI (fun u3=>(aI (by kernel_rfl) (aI (by (intros;(try subst_vars);(try simp only [nB] at *);(try simp only [inK,big,lim,nL] at *);omega)) (aI (by rfl) (aI (by rfl) (aI (by rfl) (aI (by rfl) (aI (by (intros;(try subst_vars);(try simp only [nB] at *);(try simp only [inK,big,lim,nL] at *);omega)) (aI (by rfl) (aI (by rfl) (aI (by rfl) (aI (by first | kernel_rfl | rfl) (aI (by rfl) (aI (by rfl) (aI (fun u4 u5=>?_) (aI (by rfl) (aI (by rfl) (aI (by rfl) (aI (by rfl) (aI (fun u6=>(fin_of rfl ?_)) (fun u6=>(aI (fun u7=>nF (by kernel_rfl) u7) (fun u7=>(aI (fun u8=>nF (by kernel_rfl) u8) (fun u8=>(aI (fun u9=>nF (by kernel_rfl) u9) (fun u9=>(aI (fun u10=>(aI (fun u11=>(aI (by (intros;(try subst_vars);(try simp only [nB] at *);(try simp only [inK,big,lim,nL] at *);omega)) (aI (by omega) (aI (by (intros;(try subst_vars);(try simp only [nB] at *);(try simp only [inK,big,lim,nL] at *);omega)) ?_)))) (fun u11=>(aI (by (intros;(try subst_vars);(try simp only [nB] at *);(try simp only [inK,big,lim,nL] at *);omega)) (aI (by omega) (aI (by (intros;(try subst_vars);(try simp only [nB] at *);(try simp only [inK,big,lim,nL] at *);omega)) ?_)))))) (fun u10=>False.elim (Bool.false_ne_true (Eq.symm (Eq.trans (by kernel_rfl) u10)))))))))))))))))))))))))))))))) (fun u3=>False.elim (Bool.false_ne_true (Eq.symm (Eq.trans (by kernel_rfl) u3))))))))) (fun u1=>(fin_of rfl ?_))))
  ·exact int_xy _ _ _ (by assumption)
  ·have hi':i < a.length:=by simpa using u1
   have q:=each_err (l:=l) ht hi' (fun h=>absurd h.1 (by decide)) (v:=exEval (ExprT.mk ek eo em ev ea) (bindF nmXY [a.getD i 0,0])) rfl (nzT u6)
   show ((eachF (7,z,(ExprT.mk ek eo em ev ea),l) a b).1,(eachF (7,z,(ExprT.mk ek eo em ev ea),l) a b).2,())=_
   rw [q];rfl
  ·have hi':i < a.length:=by simpa using u1
   refine Exists.intro ((i+1,f++[a.getD (i:Int).toNat (dflt tI)],s)) (Exists.intro ([some 0,some 5,some 2]) (aI ?_ (aI ?_ (aI (by rfl) (aI (by rfl) (aI (aI (aI (by rfl) (by rfl)) (aI (by rfl) (aI (by rfl) True.intro))) (by rfl)))))))
   ·refine ⟨hi',⟨?_, ?_⟩,each_nxt ht hi' (fun h=>absurd h.1 (by decide)) (v:=exEval (ExprT.mk ek eo em ev ea) (bindF nmXY [a.getD i 0,0])) rfl (nzF u6) (eo7t (of_decide_eq_true u11))⟩
    ·show List.length (f++[a.getD i 0])≤200 * (i+1)
     simp only [List.length_append,List.length_cons,List.length_nil,List.length_replicate];omega
    ·show List.length (s)≤200 * (i+1)
     omega
   ·show a.length - (i+1) < a.length - i
    omega
  ·have hi':i < a.length:=by simpa using u1
   refine Exists.intro ((i+1,f,s++[a.getD (i:Int).toNat (dflt tI)])) (Exists.intro ([some 0,some 1,some 5]) (aI ?_ (aI ?_ (aI (by rfl) (aI (by rfl) (aI (aI (aI (by rfl) (by rfl)) (aI (by rfl) (aI (by rfl) True.intro))) (by rfl)))))))
   ·refine ⟨hi',⟨?_, ?_⟩,each_nxt ht hi' (fun h=>absurd h.1 (by decide)) (v:=exEval (ExprT.mk ek eo em ev ea) (bindF nmXY [a.getD i 0,0])) rfl (nzF u6) (eo7f (of_decide_eq_false u11))⟩
    ·show List.length (f)≤200 * (i+1)
     omega
    ·show List.length (s++[a.getD i 0])≤200 * (i+1)
     simp only [List.length_append,List.length_cons,List.length_nil];omega
   ·show a.length - (i+1) < a.length - i
    omega
  ·have q:=each_end (l:=l) ht (by simpa using u1)
   show ((eachF (7,z,(ExprT.mk ek eo em ev ea),l) a b).1,(eachF (7,z,(ExprT.mk ek eo em ev ea),l) a b).2,())=_
   rw [q]
 ·skip
  refine (aI (by first | kernel_rfl | rfl) ?_)
  refine ex4 _ (fun p:Nat × List Int × List Int=>⟨[.any,.sl (.int .i64) a,.sl (.int .i64) b,.ptr 0 0,.any,.any,.any,.any,.own 1,.own 2,.int .i64 (p.1:Int)]++nA 114,[.cells   [.int .i64 9,.int .i64 z,.int .i64 (ExprT.mk ek eo em ev ea).kind,     .int .i64 (ExprT.mk ek eo em ev ea).op,.str (ExprT.mk ek eo em ev ea).name,     .int .i64 (ExprT.mk ek eo em ev ea).value,.sl .expr (ExprT.mk ek eo em ev ea).args,     .sl (.int .i64) l],.rows tI p.2.1,.rows tI p.2.2],3⟩) (fun p=>p.1≤a.length∧(p.2.1.length≤200 * p.1∧p.2.2.length≤200 * p.1)∧eachL 9 z (ExprT.mk ek eo em ev ea) b a 0 ([],[])=eachL 9 z (ExprT.mk ek eo em ev ea) b (a.drop p.1) p.1 (p.2.1,p.2.2)) (fun p=>a.length - p.1) (aI (Exists.intro ((0,[],[])) (Exists.intro ([some 0,none,none]) (aI ?_ (aI (by rfl) (aI (by rfl) (aI (aI (aI (by rfl) (by rfl)) (aI (by rfl) (aI (by rfl) True.intro))) (by rfl))))))) ?_)
  ·exact ⟨Nat.zero_le _,⟨Nat.zero_le _,Nat.zero_le _⟩,rfl⟩
  rintro ⟨i,f,s⟩ ⟨hi,⟨hf,hs⟩,ht⟩
  replace hi:i≤a.length:=hi
  replace hf:f.length≤200 * i:=hf
  replace hs:s.length≤200 * i:=hs
  replace ht:eachL 9 z (ExprT.mk ek eo em ev ea) b a 0 ([],[])=eachL 9 z (ExprT.mk ek eo em ev ea) b (a.drop i) i (f,s):=ht
  have rf:(f.length+1) * 8≤lim:=by simp only [lim];omega
  have rs:(s.length+1) * 8≤lim:=by simp only [lim];omega
  refine (fun v0=>(aI (fun v1=>(aI (fun v2=>(fun v3=>(aI (fun v4=>(fin_of rfl ?_)) (fun v4=>(aI (by (intros;(try subst_vars);(try simp only [nB] at *);(try simp only [inK,big,lim,nL] at *);omega)) (aI True.intro (aI (fun v5=>(aI (by kernel_rfl) (aI (by (intros;(try subst_vars);(try simp only [nB] at *);(try simp only [inK,big,lim,nL] at *);omega)) (aI (by rfl) (aI (by rfl) (aI (by rfl) (aI (by rfl) (aI (by (intros;(try subst_vars);(try simp only [nB] at *);(try simp only [inK,big,lim,nL] at *);omega)) (aI (by rfl) (aI (by rfl) (aI (by rfl) (aI (by first | kernel_rfl | rfl) (aI (by rfl) (aI (by rfl) (aI (fun v6 v7=>?_) (aI (by rfl) (aI (by rfl) (aI (by rfl) (aI (by rfl) (aI (fun v8=>(fin_of rfl ?_)) (fun v8=>(aI (fun v9=>nF (by kernel_rfl) v9) (fun v9=>(aI (fun v10=>(aI (by omega) (aI (by (intros;(try subst_vars);(try simp only [nB] at *);(try simp only [inK,big,lim,nL] at *);omega)) ?_))) (fun v10=>False.elim (Bool.false_ne_true (Eq.symm (Eq.trans (by kernel_rfl) v10)))))))))))))))))))))))))))) (fun v5=>False.elim (Bool.false_ne_true (Eq.symm (Eq.trans (by kernel_rfl) v5))))))))))) (fun v2=>False.elim (Bool.false_ne_true (Eq.symm (Eq.trans (by kernel_rfl) v2)))))) (fun v1=>(fin_of rfl ?_))))
  ·have q:=each_brk (l:=l) ht (by simpa using v1) rfl (by have:=of_decide_eq_true v4;omega)
   show ((eachF (9,z,(ExprT.mk ek eo em ev ea),l) a b).1,(eachF (9,z,(ExprT.mk ek eo em ev ea),l) a b).2,())=_
   rw [q]
  ·exact int_xy _ _ _ (by assumption)
  ·have hi':i < a.length:=by simpa using v1
   have q:=each_err (l:=l) ht hi' (fun h=>absurd h.2 (by have:=of_decide_eq_false v4;omega)) (v:=exEval (ExprT.mk ek eo em ev ea) (bindF nmXY [a.getD i 0,b.getD i 0])) rfl (nzT v8)
   show ((eachF (9,z,(ExprT.mk ek eo em ev ea),l) a b).1,(eachF (9,z,(ExprT.mk ek eo em ev ea),l) a b).2,())=_
   rw [q];rfl
  ·have hi':i < a.length:=by simpa using v1
   refine Exists.intro ((i+1,f++[(exEval (ExprT.mk (ExprT.mk ek eo em ev ea).kind (ExprT.mk ek eo em ev ea).op (ExprT.mk ek eo em ev ea).name (ExprT.mk ek eo em ev ea).value (ExprT.mk ek eo em ev ea).args) [(⟨#[120]⟩,1,a.getD (i:Int).toNat (dflt tI)),(⟨#[121]⟩,1,b.getD (i:Int).toNat (dflt tI))]).1],s)) (Exists.intro ([some 0,some 5,some 2]) (aI ?_ (aI ?_ (aI (by rfl) (aI (by rfl) (aI (aI (aI (by rfl) (by rfl)) (aI (by rfl) (aI (by rfl) True.intro))) (by rfl)))))))
   ·refine ⟨hi',⟨?_, ?_⟩,each_nxt ht hi' (fun h=>absurd h.2 (by have:=of_decide_eq_false v4;omega)) (v:=exEval (ExprT.mk ek eo em ev ea) (bindF nmXY [a.getD i 0,b.getD i 0])) rfl (nzF v8) rfl⟩
    ·show List.length (f++[(exEval (ExprT.mk ek eo em ev ea) (bindF nmXY [a.getD i 0,b.getD i 0])).1])≤200 * (i+1)
     simp only [List.length_append,List.length_cons,List.length_nil,List.length_replicate];omega
    ·show List.length (s)≤200 * (i+1)
     omega
   ·show a.length - (i+1) < a.length - i
    omega
  ·have q:=each_end (l:=l) ht (by simpa using v1)
   show ((eachF (9,z,(ExprT.mk ek eo em ev ea),l) a b).1,(eachF (9,z,(ExprT.mk ek eo em ev ea),l) a b).2,())=_
   rw [q]
 ·skip
  refine (aI (by first | kernel_rfl | rfl) ?_)
  refine ex4 _ (fun p:Nat × List Int × List Int=>⟨[.any,.sl (.int .i64) a,.sl (.int .i64) b,.ptr 0 0,.any,.any,.any,.any,.own 1,.own 2,.int .i64 (p.1:Int)]++nA 114,[.cells   [.int .i64 10,.int .i64 z,.int .i64 (ExprT.mk ek eo em ev ea).kind,     .int .i64 (ExprT.mk ek eo em ev ea).op,.str (ExprT.mk ek eo em ev ea).name,     .int .i64 (ExprT.mk ek eo em ev ea).value,.sl .expr (ExprT.mk ek eo em ev ea).args,     .sl (.int .i64) l],.rows tI p.2.1,.rows tI p.2.2],3⟩) (fun p=>p.1≤a.length∧(p.2.1.length≤200 * p.1∧p.2.2.length≤200 * p.1)∧eachL 10 z (ExprT.mk ek eo em ev ea) b a 0 ([],[])=eachL 10 z (ExprT.mk ek eo em ev ea) b (a.drop p.1) p.1 (p.2.1,p.2.2)) (fun p=>a.length - p.1) (aI (Exists.intro ((0,[],[])) (Exists.intro ([some 0,none,none]) (aI ?_ (aI (by rfl) (aI (by rfl) (aI (aI (aI (by rfl) (by rfl)) (aI (by rfl) (aI (by rfl) True.intro))) (by rfl))))))) ?_)
  ·exact ⟨Nat.zero_le _,⟨Nat.zero_le _,Nat.zero_le _⟩,rfl⟩
  rintro ⟨i,f,s⟩ ⟨hi,⟨hf,hs⟩,ht⟩
  replace hi:i≤a.length:=hi
  replace hf:f.length≤200 * i:=hf
  replace hs:s.length≤200 * i:=hs
  replace ht:eachL 10 z (ExprT.mk ek eo em ev ea) b a 0 ([],[])=eachL 10 z (ExprT.mk ek eo em ev ea) b (a.drop i) i (f,s):=ht
  have rf:(f.length+1) * 8≤lim:=by simp only [lim];omega
  have rs:(s.length+1) * 8≤lim:=by simp only [lim];omega
  refine (fun w0=>(aI (fun w1=>(aI (fun w2=>nF (by kernel_rfl) w2) (fun w2=>(aI True.intro (aI (fun w3=>nF (by kernel_rfl) w3) (fun w3=>(aI (fun w4=>nF (by kernel_rfl) w4) (fun w4=>(aI (fun w5=>nF (by kernel_rfl) w5) (fun w5=>(aI (fun w6=>nF (by kernel_rfl) w6) (fun w6=>(aI (fun w7=>nF (by kernel_rfl) w7) (fun w7=>(aI (fun w8=>nF (by kernel_rfl) w8) (fun w8=>(aI (fun w9=>nF (by kernel_rfl) w9) (fun w9=>(aI (by (intros;(try subst_vars);(try simp only [nB] at *);(try simp only [inK,big,lim,nL] at *);omega)) ?_))))))))))))))))))) (fun w1=>(fin_of rfl ?_))))
  ·have hi':i < a.length:=by simpa using w1
   refine Exists.intro ((i+1,f,s)) (Exists.intro ([some 0,some 1,some 2]) (aI ?_ (aI ?_ (aI (by rfl) (aI (by rfl) (aI (aI (aI (by rfl) (by rfl)) (aI (by rfl) (aI (by rfl) True.intro))) (by rfl)))))))
   ·refine ⟨hi',⟨?_, ?_⟩,each_nxt ht hi' (fun h=>absurd h.1 (by decide)) (v:=(0,0)) rfl rfl rfl⟩
    ·show List.length (f)≤200 * (i+1)
     omega
    ·show List.length (s)≤200 * (i+1)
     omega
   ·show a.length - (i+1) < a.length - i
    omega
  ·have q:=each_end (l:=l) ht (by simpa using w1)
   show ((eachF (10,z,(ExprT.mk ek eo em ev ea),l) a b).1,(eachF (10,z,(ExprT.mk ek eo em ev ea),l) a b).2,())=_
   rw [q]
end Go.Proofs.YticmijfmgmkkcaaGreat
namespace Go.Proofs.YticmijfmgmkkcaaGreat
open Go.Sx
def sumR:List Int→Int→Int × Int
 | [],n=>(n,0)
 | x :: r,n=>if notNum (n+x)=true then (0,14) else sumR r (n+x)
def sumsR (z:Nat):Nat→List Int→List Int→List Int × Int
 | 0,_,o=>(o,0)
 | f+1,l,o=>if l.length=0 then (o,0) else if (sumR (l.take z) 0).2≠0 then ([],14) else sumsR z f (l.drop z) (o++[(sumR (l.take z) 0).1])
def sumsF (z:Int) (l:List Int):List Int × Int:=sumsR z.toNat l.length l []
theorem num_inR {x:Int} (h:notNum x=false):inM x:=by
 unfold notNum at h
 have h1:numB x=true:=by simpa using h
 unfold numB at h1
 unfold inM
 simpa [Bool.cond_eq_ite] using h1
theorem sumR_drop {l:List Int} {i z k:Nat} {n:Int} (h:k < l.length) (h2:k < i+z):sumR ((l.drop k).take (i+z - k)) n=if notNum (n+l.getD k 0)=true then (0,14) else sumR ((l.drop (k+1)).take (i+z - (k+1))) (n+l.getD k 0):=by
 rw [List.drop_eq_getElem_cons h,show i+z - k=(i+z - (k+1))+1 by omega,List.take_succ_cons]
 simp [sumR,List.getD,h]
theorem sumsR_0 {z f:Nat} {l o:List Int} (h:l.length=0):sumsR z f l o=(o,0):=by
 cases f with
 | zero=>rfl
 | succ f=>rw [sumsR,if_pos h]
def cxFS:Ctx:=⟨tys0,[(68,([],c68))]⟩
theorem cxFS_good:GoodCtx Tryz.prog cxFS:=cx_cons good68 cx0_good
def c49:Ctr:=fnC [dI,dIs] rIsI (fun y=>(1≤y.1∧y.1≤200)∧(y.2.1.length≤1000∧y.2.1.any notNum=false)) (fun y=>((sumsF y.1 y.2.1).1,(sumsF y.1 y.2.1).2,()))
set_option maxHeartbeats 8000000 in
theorem good49:GoodC Tryz.prog 49 c49:=by
 refine goodF cxFS_good 4 _ _ _ _ ⟨_,Tryz.func49,rfl,rfl⟩ fun (⟨z,l,_⟩ : Int × List Int × Unit) hn=>?_
 have hz:1≤z∧z≤200:=hn.1
 have hl:l.length≤1000:=hn.2.1
 have hi:l.any notNum=false:=hn.2.2
 clear hn
 obtain ⟨w,rfl⟩ : ∃ w:Nat,z=(w:Int):=⟨z.toNat,by omega⟩
 have item:∀ j,inM (l.getD j 0):=fun j=>by
  by_cases hj:j < l.length
  ·refine num_inR ?_
   have h1:=List.any_eq_false.1 hi l[j] (List.getElem_mem hj)
   rw [List.getD_eq_getElem?_getD,List.getElem?_eq_getElem hj]
   simpa using h1
  ·rw [List.getD_eq_getElem?_getD,List.getElem?_eq_none (by omega)];exact in_0
 refine (aI (by first | kernel_rfl | rfl) ?_)
 refine ex4 _ (fun p:Nat × Nat × List Int=>⟨[.int .i64 ↑w,.sl (.int .i64) l,.any,.any,.any,.any,.own 0,.int .i64 (p.2.1:Int)]++nA 39,[.rows tI p.2.2],1⟩) (fun p=>(p.2.1≤l.length+200∧l.length - p.2.1≤p.1∧p.2.2.length≤p.2.1)∧sumsF (w:Int) l=sumsR w p.1 (l.drop p.2.1) p.2.2) (fun p=>l.length - p.2.1) (aI (Exists.intro ((l.length,0,[])) (Exists.intro ([none]) (aI ?_ (aI (by rfl) (aI (by rfl) (aI (aI (by rfl) True.intro) (by rfl))))))) ?_)
 ·exact ⟨⟨Nat.zero_le _,Nat.le_refl _,Nat.zero_le _⟩,rfl⟩
 rintro ⟨fu,i,o⟩ ⟨⟨h1,h2,h3⟩,ht⟩
 replace h1:i≤l.length+200:=h1
 replace h2:l.length - i≤fu:=h2
 replace h3:o.length≤i:=h3
 replace ht:sumsF (w:Int) l=sumsR w fu (l.drop i) o:=ht
 have ro:(o.length+1) * 8≤lim:=by simp only [lim];omega
 refine (fun k0=>(aI (fun k1=>?_) (fun k1=>(fin_of rfl ?_))))
 ·have hi':i < l.length:=by simpa using k1
  obtain ⟨fv,rfl⟩ : ∃ g,fu=g+1:=⟨fu - 1,by omega⟩
  have hne:¬ (l.drop i).length=0:=by rw [List.length_drop];omega
  refine ex4 _ (fun q:Nat × Int=>⟨[.int .i64 (↑w:Int),.sl (.int .i64) l,.any,.any,.any,.any,.own 0,.int .i64 (i:Int),.int .i64 q.2,.int .i64 (q.1:Int),.any,.int .i64 (↑i:Int),.sl (.int .i64) l,.int .i64 (↑l.length:Int),.bool (decide ((↑i:Int) < (↑l.length:Int))),.any,.any,.any,.int .i64 (↑i:Int)]++nA 28,[.rows tI o],1⟩) (fun q=>(i≤q.1∧q.1≤i+w∧q.1≤l.length∧inM q.2)∧sumR ((l.drop i).take w) 0=sumR ((l.drop q.1).take (i+w - q.1)) q.2) (fun q=>l.length - q.1) (aI (Exists.intro ((i,0)) (Exists.intro ([some 0]) (aI ?_ (aI (by rfl) (aI (by rfl) (aI (aI (by rfl) True.intro) (by rfl))))))) ?_)
  ·refine ⟨⟨Nat.le_refl _,by omega,by omega,in_0⟩, ?_⟩
   rw [show i+w - (i,(0:Int)).1=w by show i+w - i=_;omega]
  rintro ⟨j,n⟩ ⟨⟨g1,g2,g3,g4⟩,gt⟩
  replace g1:i≤j:=g1
  replace g2:j≤i+w:=g2
  replace g3:j≤l.length:=g3
  replace g4:-1099511627776≤n∧n≤1099511627776:=g4
  replace gt:sumR ((l.drop i).take w) 0=sumR ((l.drop j).take (i+w - j)) n:=gt
  have it:-1099511627776≤l.getD j 0∧l.getD j 0≤1099511627776:=item j
  have rn:-9223372036854775808≤n+l.getD j 0∧n+l.getD j 0≤9223372036854775807:=by omega
  have both:(bif decide ((j:Int) < (l.length:Int)) then decide ((j:Int) < (i:Int)+(w:Int)) else false)=true→j < l.length∧j < i+w:=fun h=>by
   cases h1:decide ((j:Int) < (l.length:Int)) with
   | false=>rw [h1] at h;cases h
   | true =>
    rw [h1] at h
    have h2:=of_decide_eq_true h1
    have h3:(j:Int) < (i:Int)+(w:Int):=of_decide_eq_true h
    omega
  have none:(bif decide ((j:Int) < (l.length:Int)) then decide ((j:Int) < (i:Int)+(w:Int)) else false)=false→j=l.length∨j=i+w:=fun h=>by
   cases h1:decide ((j:Int) < (l.length:Int)) with
   | false=>have h2:=of_decide_eq_false h1;omega
   | true =>
    rw [h1] at h
    have h3:¬ (j:Int) < (i:Int)+(w:Int):=of_decide_eq_false h
    omega
  refine (fun m0=>(aI (fun m1=>(by (intros;(try subst_vars);(try simp only [nB] at *);(try simp only [inK,big,lim,nL] at *);omega))) (aI (fun m2=>(aI (by (intros;(try subst_vars);(try simp only [nB] at *);(try simp only [inK,big,lim,nL] at *);omega)) (aI (rn) (aI True.intro (aI (fun m3=>(fin_of rfl ?_)) (fun m3=>(aI (by (intros;(try subst_vars);(try simp only [nB] at *);(try simp only [inK,big,lim,nL] at *);omega)) ?_))))))) (fun m2=>(aI (by omega) (aI (by (intros;(try subst_vars);(try simp only [nB] at *);(try simp only [inK,big,lim,nL] at *);omega)) ?_))))))
  ·have hb:=both m2
   have hn:notNum (n+l.getD j 0)=true:=m3
   have e1:sumR ((l.drop i).take w) 0=(0,14):=by rw [gt,sumR_drop hb.1 hb.2,if_pos hn]
   have e2:sumsF (w:Int) l=([],14):=by rw [ht,sumsR,if_neg hne,e1,if_pos (by simp)]
   show ((sumsF (w:Int) l).1,(sumsF (w:Int) l).2,())=_
   rw [e2]
  ·have hb:=both m2
   have hn:¬ notNum (n+l.getD j 0)=true:=by rw [show notNum (n+l.getD j 0)=false from m3];simp
   refine Exists.intro ((j+1,n+l.getD (j:Int).toNat (dflt tI))) (Exists.intro ([some 0]) (aI ?_ (aI ?_ (aI (by rfl) (aI (by rfl) (aI (aI (by rfl) True.intro) (by rfl)))))))
   ·refine ⟨⟨Nat.le_succ_of_le g1,hb.2,hb.1,num_inR (by simpa using hn)⟩, ?_⟩
    show sumR ((l.drop i).take w) 0=sumR ((l.drop (j+1)).take (i+w - (j+1))) (n+l.getD j 0)
    rw [gt,sumR_drop hb.1 hb.2,if_neg hn]
   ·show l.length - (j+1) < l.length - j
    omega
  ·have hnil:(l.drop j).take (i+w - j)=[]:=by
    rcases none m2 with h | h
    ·rw [List.drop_of_length_le (by omega),List.take_nil]
    ·rw [show i+w - j=0 by omega,List.take_zero]
   have e1:sumR ((l.drop i).take w) 0=(n,0):=by rw [gt,hnil];rfl
   refine Exists.intro ((fv,i+w,o++[n])) (Exists.intro ([some 2]) (aI ?_ (aI ?_ (aI (by rfl) (aI (by rfl) (aI (aI (by rfl) True.intro) (by rfl)))))))
   ·refine ⟨⟨?_, ?_, ?_⟩, ?_⟩
    ·show i+w≤l.length+200
     omega
    ·show l.length - (i+w)≤fv
     omega
    ·show (o++[n]).length≤i+w
     simp only [List.length_append,List.length_cons,List.length_nil];omega
    ·show sumsF (w:Int) l=sumsR w fv (l.drop (i+w)) (o++[n])
     rw [ht,sumsR,if_neg hne,e1,if_neg (by simp),List.drop_drop]
   ·show l.length - (i+w) < l.length - i
    omega
 ·have hi':¬ i < l.length:=by simpa using k1
  rw [sumsR_0 (by rw [List.length_drop];omega)] at ht
  rw [ht]
end Go.Proofs.YticmijfmgmkkcaaGreat
namespace Go.Proofs.YticmijfmgmkkcaaGreat
open Go.Sx
theorem sumS_14:∀ (l:List Int) (n:Int),(l.foldl sumS (n,14)).2=14
 | [],_=>rfl
 | x :: r,n=>by
  rw [List.foldl_cons]
  have h:sumS (n,14) x=(n+x,14):=by
   unfold sumS
   rw [show decide ((14:Int)=0)=false from rfl]
   cases numB (n+x) <;> rfl
  rw [h];exact sumS_14 r _
theorem sum_is:∀ (l:List Int) (n:Int),((sumR l n).2=0→l.foldl sumS (n,0)=sumR l n)∧((sumR l n).2≠0→(l.foldl sumS (n,0)).2=14)
 | [],n=>⟨fun _=>rfl,fun h=>absurd rfl h⟩
 | x :: r,n=>by
  rw [List.foldl_cons]
  by_cases h:notNum (n+x)=true
  ·have h1:sumR (x :: r) n=(0,14):=by rw [sumR,if_pos h]
   have h2:sumS (n,0) x=(n+x,14):=by
    have h3:numB (n+x)=false:=by unfold notNum at h;simpa using h
    unfold sumS
    rw [h3];rfl
   rw [h1,h2]
   exact ⟨fun h=>absurd h (by decide),fun _=>sumS_14 r _⟩
  ·have h1:sumR (x :: r) n=sumR r (n+x):=by rw [sumR,if_neg h]
   have h2:sumS (n,0) x=(n+x,0):=by
    have h3:numB (n+x)=true:=by unfold notNum at h;simpa using h
    unfold sumS
    rw [h3];rfl
   rw [h1,h2]
   exact sum_is r _
theorem sums_1 {z:Int} {l:List Int} (h:(l.length:Int)≤z) (h0:l.length≠0):sumsF z l=if (sumR l 0).2≠0 then ([],14) else ([(sumR l 0).1],0):=by
 unfold sumsF
 obtain ⟨m,hm⟩ : ∃ m,l.length=m+1:=⟨l.length - 1,by omega⟩
 have ht:l.take z.toNat=l:=List.take_of_length_le (by omega)
 have hd:l.drop z.toNat=[]:=List.drop_of_length_le (by omega)
 rw [hm,sumsR,if_neg h0,ht,hd,sumsR_0 (by rfl)]
 rfl
theorem sums_0 {z:Int}:sumsF z []=([],0):=rfl
theorem only_x {x:StT} (h:stChk x=0) (hk:x.1=2∨x.1=3∨x.1=7):onlyX x.2.2.1:=by
 obtain ⟨k,z,e,l⟩:=x
 have hk1:=chk_kind h
 rw [chk_ref hk1] at h
 replace hk:k=2∨k=3∨k=7:=hk
 have ht:tyE k≠0:=by rcases hk with rfl | rfl | rfl <;> decide
 have hn:nmK k=nmX:=if_neg (by omega)
 split at h
 ·exact absurd h (by decide)
 ·split at h
  ·exact absurd h (by decide)
  ·split at h
   ·rename_i h3;exact absurd h h3
   ·first | (replace h:chkX (nmK k) (tyK k) e=0:=h) | (rw [if_pos ht] at h;replace h:chkX (nmK k) (tyK k) e=0:=h)
    rw [hn] at h
    unfold chkX at h
    split at h
    ·rename_i h4;exact absurd h h4
    ·rename_i h4
     have h4':exChk e=0:=by simpa using h4
     split at h
     ·exact absurd h (by decide)
     ·rename_i h5
      intro s hs
      have h6:(exNames e).any (fun s=>!nmX.any (isS s))=false:=by simpa using h5
      have h7:=List.any_eq_false.1 h6 s ((exNames_mem h4').2 hs)
      unfold nmX isS at h7
      simp at h7
      exact h7
theorem ev_ref {x:StT} (h:stChk x=0) (hk:x.1=2∨x.1=3∨x.1=7) {n:Int} (hn:inM n):evX x.2.2.1 nmX n 0=exEval x.2.2.1 (bindF nmXY [n,0]):=eval_x (only_x h hk) hn in_0
end Go.Proofs.YticmijfmgmkkcaaGreat
