import Derived.Test.YticmijfmgmkkcaaGreatVZa3
set_option linter.unusedSimpArgs false
set_option linter.unusedVariables false
set_option maxRecDepth 100000
namespace Go.Proofs.YticmijfmgmkkcaaGreat
open Go.Sx
def chkX (ns:List ByteArray) (kd:Int) (e:ExprT):Int :=
 if exChk e≠0 then exChk e else if (exNames e).any (fun s=>!ns.any (isS s))=true then 5
 else if (exType e (bindF ns [0,0])).2≠0∨(exType e (bindF ns [0,0])).1≠kd then 15 else 0
def noneE (e:ExprT):Bool:=bif bif bif bif decide (e.kind=0) then decide (e.op=0) else false then decide (e.name=⟨#[]⟩) else false then decide (e.value=0) else false then decide ((e.args.length:Int)=0) else false
def ck1 (h:HdT) (x:StT):Bool:=bif bif bif decide (h.2.2.2.1=0) then !decide (x.2.1=0) else false then true else (bif decide (h.2.2.2.2.1=0) then !noneE x.2.2.1 else false) then true else (bif !decide (x.1=1) then decide (0 < (x.2.2.2.length:Int)) else false)
def ck2 (h:HdT) (x:StT):Bool:=bif decide (x.2.1 < h.2.2.1) then true else decide (h.2.2.2.1 < x.2.1)
def ck3 (x:StT):Bool:=decide (200 < (x.2.2.2.length:Int))
def chkH (h:HdT) (x:StT):Int :=
 if ck1 h x=true then 1 else if ck2 h x=true then 2 else if ck3 x=true then 4 else if x.2.2.2.any notNum=true then 2
 else if h.2.2.2.2.1=0 then 0 else chkX h.2.2.2.2.2.1 h.2.2.2.2.1 x.2.2.1
def stChk (x:StT):Int:=if knownB x.1=true then chkH (knownF x.1) x else 8
theorem stChk_in {x:StT} (h1:1≤x.1) (h2:x.1≤10):stChk x=chkH (knownF x.1) x:=by
 unfold stChk knownB
 rw [decide_eq_false (show ¬ x.1 < 1 by omega),decide_eq_false (show ¬ 10 < x.1 by omega)];rfl
theorem stChk_out {x:StT} (h:¬ (1≤x.1∧x.1≤10)):stChk x=8:=by
 unfold stChk
 rw [if_neg]
 unfold knownB
 by_cases h1:x.1 < 1
 ·rw [decide_eq_true h1];simp
 ·rw [decide_eq_true (show 10 < x.1 by omega)];cases decide (x.1 < 1) <;> simp
theorem K1 {h:HdT} {x:StT} (h1:ck1 h x=true):(chkH h x,())=(1,()):=by rw [chkH,if_pos h1]
theorem K2 {h:HdT} {x:StT} (h1:ck1 h x=false) (h2:ck2 h x=true):(chkH h x,())=(2,()):=by rw [chkH,if_neg (by rw [h1];simp),if_pos h2]
theorem K3 {h:HdT} {x:StT} (h1:ck1 h x=false) (h2:ck2 h x=false) (h3:ck3 x=true):(chkH h x,())=(4,()):=by rw [chkH,if_neg (by rw [h1];simp),if_neg (by rw [h2];simp),if_pos h3]
theorem K4 {h:HdT} {x:StT} (h1:ck1 h x=false) (h2:ck2 h x=false) (h3:ck3 x=false) (h4:x.2.2.2.any notNum=true):(chkH h x,())=(2,()):=by
 rw [chkH,if_neg (by rw [h1];simp),if_neg (by rw [h2];simp),if_neg (by rw [h3];simp),if_pos h4]
theorem K5 {h:HdT} {x:StT} (h1:ck1 h x=false) (h2:ck2 h x=false) (h3:ck3 x=false) (h4:x.2.2.2.any notNum=false) (h5:h.2.2.2.2.1=0):(chkH h x,())=(0,()):=by
 rw [chkH,if_neg (by rw [h1];simp),if_neg (by rw [h2];simp),if_neg (by rw [h3];simp),if_neg (by rw [h4];simp),if_pos h5]
theorem K6 {h:HdT} {x:StT} (h1:ck1 h x=false) (h2:ck2 h x=false) (h3:ck3 x=false) (h4:x.2.2.2.any notNum=false) (h5:h.2.2.2.2.1≠0):chkH h x=chkX h.2.2.2.2.2.1 h.2.2.2.2.1 x.2.2.1:=by
 rw [chkH,if_neg (by rw [h1];simp),if_neg (by rw [h2];simp),if_neg (by rw [h3];simp),if_neg (by rw [h4];simp),if_neg h5]
theorem orX {a b c:Int} (h:(bif !decide (a=0) then true else !decide (b=c))=true):a≠0∨b≠c:=by
 by_cases ha:a=0
 ·rw [decide_eq_true ha] at h
  exact .inr (by simpa using h)
 ·exact .inl ha
theorem orY {a b c:Int} (h:(bif !decide (a=0) then true else !decide (b=c))=false):¬ (a≠0∨b≠c):=by
 by_cases ha:a=0
 ·rw [decide_eq_true ha] at h
  have hb:b=c:=by simpa using h
  rintro (h1 | h1)
  ·exact h1 ha
  ·exact h1 hb
 ·rw [decide_eq_false ha] at h;cases h
def cxI1:Ctx:=⟨tys0,[(79,([],c79)),(80,([],c80)),(81,([],c81)),(82,([],c82)),(83,([],c83)),(41,([],c41)),(40,([],c40k))]⟩
theorem cxI1_good:GoodCtx Tryz.prog cxI1:=cx_cons good79 (cx_cons good80 (cx_cons good81 (cx_cons good82 (cx_cons good83 (cx_cons good41 (cx_cons good40k cx0_good))))))
def cxI0:Ctx:=⟨tys0,[(41,([],c41))]⟩
theorem cxI0_good:GoodCtx Tryz.prog cxI0:=cx_cons good41 cx0_good
def c17:Ctr:=fnC [dSt] rI (fun _=>True) (fun y=>(stChk y.1,()))
set_option maxHeartbeats 8000000 in
theorem good17:GoodC Tryz.prog 17 c17:=by
 refine goodG _ _ _ _ ⟨_,Tryz.func17,rfl,rfl⟩ fun (⟨⟨k,z,e,l⟩,_⟩ : StT × Unit) _=>?_
 by_cases hk:1≤k∧k≤10
 ·have hst:stChk (k,z,e,l)=chkH (knownF k) (k,z,e,l):=stChk_in hk.1 hk.2
  show ∃ call:CallSem,CallOk Tryz.prog call∧call 17 (toAVs [dSt] ((k,z,e,l),())) [] 0 (finK ⟨none,none,[],resAV rI (stChk (k,z,e,l),())⟩)
  rw [hst]
  clear hst
  have h:k=1∨k=2∨k=3∨k=4∨k=5∨k=6∨k=7∨k=8∨k=9∨k=10:=by omega
  clear hk
  refine ⟨_,callS_good cxI1_good (callS_good cxI1_good (callS_good cxI1_good no_call)), ?_⟩
  rcases h with rfl | rfl | rfl | rfl | rfl | rfl | rfl | rfl | rfl | rfl
  ·refine (aI (by first | kernel_rfl | rfl) (aI (by rfl) (aI (fun h0=>nF (by kernel_rfl) h0) (fun h0=>(fun h1=>(fun h2=>(aI (fun h3=>(fin_of rfl (by exact K1 (by assumption)))) (fun h3=>(aI (fun h4=>(fin_of rfl (by exact K2 (by assumption) (by assumption)))) (fun h4=>(fun h5=>(aI (fun h6=>(fin_of rfl (by exact K3 (by assumption) (by assumption) (by assumption)))) (fun h6=>(aI True.intro (aI (fun h7=>(fin_of rfl (by exact K4 (by assumption) (by assumption) (by assumption) (by assumption)))) (fun h7=>(aI (fun h8=>(fin_of rfl (by exact K5 (by assumption) (by assumption) (by assumption) (by assumption) rfl))) (fun h8=>False.elim (Bool.false_ne_true (Eq.symm (Eq.trans (by kernel_rfl) h8)))))))))))))))))))))
  ·refine (aI (by first | kernel_rfl | rfl) (aI (by rfl) (aI (fun h0=>nF (by kernel_rfl) h0) (fun h0=>(fun h1=>(fun h2=>(aI (fun h3=>(fin_of rfl (by exact K1 (by assumption)))) (fun h3=>(aI (fun h4=>(fin_of rfl (by exact K2 (by assumption) (by assumption)))) (fun h4=>(fun h5=>(aI (fun h6=>(fin_of rfl (by exact K3 (by assumption) (by assumption) (by assumption)))) (fun h6=>(aI True.intro (aI (fun h7=>(fin_of rfl (by exact K4 (by assumption) (by assumption) (by assumption) (by assumption)))) (fun h7=>(aI (fun h8=>nF (by kernel_rfl) h8) (fun h8=>(aI (by first | kernel_rfl | rfl) (aI True.intro (aI (fun h9=>(fin_of rfl ?_)) (fun h9=>(aI True.intro (fun (h10:List ByteArray × PUnit)=>(fun h11=>(fun h12=>?_))))))))))))))))))))))))))
   ·have q:chkH (knownF 2) (2,z,e,l)=chkX nmX 1 e:=K6 (by assumption) (by assumption) (by assumption) (by assumption) (by decide)
    have hx:exChk e≠0:=by have h:=‹(!decide (exChk (ExprT.mk e.kind e.op e.name e.value e.args)=0))=true›;simp only [eta] at h;simpa using h
    simp only [eta]
    show (chkH (knownF 2) (2,z,e,l),())=(exChk e,())
    rw [q,chkX,if_pos hx]
   have q:chkH (knownF 2) (2,z,e,l)=chkX nmX 1 e:=K6 (by assumption) (by assumption) (by assumption) (by assumption) (by decide)
   have hx:¬ exChk e≠0:=by have h:=‹(!decide (exChk (ExprT.mk e.kind e.op e.name e.value e.args)=0))=false›;simp only [eta] at h;simpa using h
   have en:h10.1=exNames e:=by rw [h11];simp only [eta]
   rw [q,chkX,if_neg hx,← en]
   clear q
   refine ex4 _ (fun i:Nat=>⟨[.any,.agg   [.int .i64 e.kind,.int .i64 e.op,.str e.name,.int .i64 e.value,.sl .expr e.args],.ptr 2 0,.ptr 3 0,.any,.any,.any,.any,.any,.any,.any,.any,.any,.any,.any,.agg   [.int .i64 e.kind,.int .i64 e.op,.str e.name,.int .i64 e.value,.sl .expr e.args],.sl .str h10.1,.int .i64 (↑h10.1.length:Int),.int .i64 (i:Int)]++nA 26,[.cells   [.int .i64 2,.int .i64 z,.int .i64 e.kind,.int .i64 e.op,.str e.name,     .int .i64 e.value,.sl .expr e.args,.sl (.int .i64) l],.cells   [.int .i64 1,.int .i64 1,.int .i64 0,.int .i64 0,.int .i64 1,     .sl .str [{ data:=#[120] }],.fn (Fn.func 95) [] [],.fn (Fn.func 93) [] []],.cells   [.int .i64 1,.int .i64 1,.int .i64 0,.int .i64 0,.int .i64 1,     .sl .str [{ data:=#[120] }],.fn (Fn.func 95) [] [],.fn (Fn.func 93) [] []],.cells   [.int .i64 e.kind,.int .i64 e.op,.str e.name,.int .i64 e.value,.sl .expr e.args]],4⟩) (fun i=>i≤h10.1.length∧(h10.1.take i).any (fun s=>!List.any nmX (isS s))=false) (fun i=>h10.1.length - i) (aI (Exists.intro (0) (Exists.intro ([some 0,some 1,some 2,some 3]) (aI ?_ (aI (by rfl) (aI (by rfl) (aI (aI (aI (by rfl) (by rfl)) (aI (aI (by rfl) (by rfl)) (aI (aI (by rfl) (by rfl)) (aI (aI (by rfl) (by rfl)) True.intro)))) (by rfl))))))) ?_)
   ·exact ⟨Nat.zero_le _,rfl⟩
   rintro i ⟨hi,ht⟩
   refine (aI (fun k0=>(aI (by intros;(try subst_vars);(try simp only [nB] at *);(try simp only [inK,big,lim,nL] at *);omega) (aI True.intro (aI (fun k1=>(fin_of rfl ?_)) (fun k1=>(aI (by intros;(try subst_vars);(try simp only [nB] at *);(try simp only [inK,big,lim,nL] at *);omega) ?_)))))) (fun k0=>(aI (by first | kernel_rfl | rfl) (aI (by decide) (aI True.intro (aI (fun k2=>(fin_of rfl ?_)) (fun k2=>(fin_of rfl ?_))))))))
   ·have hi':i < h10.1.length:=by simpa using k0
    have hk:(fun s=>!List.any nmX (isS s)) (h10.1.getD i (dflt .str))=true:=k1
    rw [if_pos (any_hit hi' hk)]
   ·have hi':i < h10.1.length:=by simpa using k0
    have hk:(fun s=>!List.any nmX (isS s)) (h10.1.getD i (dflt .str))=false:=k1
    refine Exists.intro (i+1) (Exists.intro ([some 0,some 1,some 2,some 3]) (aI ?_ (aI ?_ (aI (by rfl) (aI (by rfl) (aI (aI (aI (by rfl) (by rfl)) (aI (aI (by rfl) (by rfl)) (aI (aI (by rfl) (by rfl)) (aI (aI (by rfl) (by rfl)) True.intro)))) (by rfl)))))))
    ·exact ⟨hi',any_next hi' ht hk⟩
    ·show h10.1.length - (i+1) < h10.1.length - i
     omega
   ·have hi':¬ i < h10.1.length:=by simpa using k0
    have hn:¬ (h10.1.any fun s=>!List.any nmX (isS s))=true:=by rw [any_end hi' ht];simp
    have hc:(exType e (bindF nmX [0,0])).2≠0∨(exType e (bindF nmX [0,0])).1≠1:=orX (by have h:=k2;simp only [eta] at h;exact h)
    rw [if_neg hn,if_pos hc]
   ·have hi':¬ i < h10.1.length:=by simpa using k0
    have hn:¬ (h10.1.any fun s=>!List.any nmX (isS s))=true:=by rw [any_end hi' ht];simp
    have hc:¬ ((exType e (bindF nmX [0,0])).2≠0∨(exType e (bindF nmX [0,0])).1≠1):=orY (by have h:=k2;simp only [eta] at h;exact h)
    rw [if_neg hn,if_neg hc]
  ·refine (aI (by first | kernel_rfl | rfl) (aI (by rfl) (aI (fun h0=>nF (by kernel_rfl) h0) (fun h0=>(fun h1=>(fun h2=>(aI (fun h3=>(fin_of rfl (by exact K1 (by assumption)))) (fun h3=>(aI (fun h4=>(fin_of rfl (by exact K2 (by assumption) (by assumption)))) (fun h4=>(fun h5=>(aI (fun h6=>(fin_of rfl (by exact K3 (by assumption) (by assumption) (by assumption)))) (fun h6=>(aI True.intro (aI (fun h7=>(fin_of rfl (by exact K4 (by assumption) (by assumption) (by assumption) (by assumption)))) (fun h7=>(aI (fun h8=>nF (by kernel_rfl) h8) (fun h8=>(aI (by first | kernel_rfl | rfl) (aI True.intro (aI (fun h9=>(fin_of rfl ?_)) (fun h9=>(aI True.intro (fun (h10:List ByteArray × PUnit)=>(fun h11=>(fun h12=>?_))))))))))))))))))))))))))
   ·have q:chkH (knownF 3) (3,z,e,l)=chkX nmX 2 e:=K6 (by assumption) (by assumption) (by assumption) (by assumption) (by decide)
    have hx:exChk e≠0:=by have h:=‹(!decide (exChk (ExprT.mk e.kind e.op e.name e.value e.args)=0))=true›;simp only [eta] at h;simpa using h
    simp only [eta]
    show (chkH (knownF 3) (3,z,e,l),())=(exChk e,())
    rw [q,chkX,if_pos hx]
   have q:chkH (knownF 3) (3,z,e,l)=chkX nmX 2 e:=K6 (by assumption) (by assumption) (by assumption) (by assumption) (by decide)
   have hx:¬ exChk e≠0:=by have h:=‹(!decide (exChk (ExprT.mk e.kind e.op e.name e.value e.args)=0))=false›;simp only [eta] at h;simpa using h
   have en:h10.1=exNames e:=by rw [h11];simp only [eta]
   rw [q,chkX,if_neg hx,← en]
   clear q
   refine ex4 _ (fun i:Nat=>⟨[.any,.agg   [.int .i64 e.kind,.int .i64 e.op,.str e.name,.int .i64 e.value,.sl .expr e.args],.ptr 2 0,.ptr 3 0,.any,.any,.any,.any,.any,.any,.any,.any,.any,.any,.any,.agg   [.int .i64 e.kind,.int .i64 e.op,.str e.name,.int .i64 e.value,.sl .expr e.args],.sl .str h10.1,.int .i64 (↑h10.1.length:Int),.int .i64 (i:Int)]++nA 26,[.cells   [.int .i64 3,.int .i64 z,.int .i64 e.kind,.int .i64 e.op,.str e.name,     .int .i64 e.value,.sl .expr e.args,.sl (.int .i64) l],.cells   [.int .i64 1,.int .i64 1,.int .i64 0,.int .i64 0,.int .i64 2,     .sl .str [{ data:=#[120] }],.fn (Fn.func 96) [] [],.fn (Fn.func 93) [] []],.cells   [.int .i64 1,.int .i64 1,.int .i64 0,.int .i64 0,.int .i64 2,     .sl .str [{ data:=#[120] }],.fn (Fn.func 96) [] [],.fn (Fn.func 93) [] []],.cells   [.int .i64 e.kind,.int .i64 e.op,.str e.name,.int .i64 e.value,.sl .expr e.args]],4⟩) (fun i=>i≤h10.1.length∧(h10.1.take i).any (fun s=>!List.any nmX (isS s))=false) (fun i=>h10.1.length - i) (aI (Exists.intro (0) (Exists.intro ([some 0,some 1,some 2,some 3]) (aI ?_ (aI (by rfl) (aI (by rfl) (aI (aI (aI (by rfl) (by rfl)) (aI (aI (by rfl) (by rfl)) (aI (aI (by rfl) (by rfl)) (aI (aI (by rfl) (by rfl)) True.intro)))) (by rfl))))))) ?_)
   ·exact ⟨Nat.zero_le _,rfl⟩
   rintro i ⟨hi,ht⟩
   refine (aI (fun k0=>(aI (by intros;(try subst_vars);(try simp only [nB] at *);(try simp only [inK,big,lim,nL] at *);omega) (aI True.intro (aI (fun k1=>(fin_of rfl ?_)) (fun k1=>(aI (by intros;(try subst_vars);(try simp only [nB] at *);(try simp only [inK,big,lim,nL] at *);omega) ?_)))))) (fun k0=>(aI (by first | kernel_rfl | rfl) (aI (by decide) (aI True.intro (aI (fun k2=>(fin_of rfl ?_)) (fun k2=>(fin_of rfl ?_))))))))
   ·have hi':i < h10.1.length:=by simpa using k0
    have hk:(fun s=>!List.any nmX (isS s)) (h10.1.getD i (dflt .str))=true:=k1
    rw [if_pos (any_hit hi' hk)]
   ·have hi':i < h10.1.length:=by simpa using k0
    have hk:(fun s=>!List.any nmX (isS s)) (h10.1.getD i (dflt .str))=false:=k1
    refine Exists.intro (i+1) (Exists.intro ([some 0,some 1,some 2,some 3]) (aI ?_ (aI ?_ (aI (by rfl) (aI (by rfl) (aI (aI (aI (by rfl) (by rfl)) (aI (aI (by rfl) (by rfl)) (aI (aI (by rfl) (by rfl)) (aI (aI (by rfl) (by rfl)) True.intro)))) (by rfl)))))))
    ·exact ⟨hi',any_next hi' ht hk⟩
    ·show h10.1.length - (i+1) < h10.1.length - i
     omega
   ·have hi':¬ i < h10.1.length:=by simpa using k0
    have hn:¬ (h10.1.any fun s=>!List.any nmX (isS s))=true:=by rw [any_end hi' ht];simp
    have hc:(exType e (bindF nmX [0,0])).2≠0∨(exType e (bindF nmX [0,0])).1≠2:=orX (by have h:=k2;simp only [eta] at h;exact h)
    rw [if_neg hn,if_pos hc]
   ·have hi':¬ i < h10.1.length:=by simpa using k0
    have hn:¬ (h10.1.any fun s=>!List.any nmX (isS s))=true:=by rw [any_end hi' ht];simp
    have hc:¬ ((exType e (bindF nmX [0,0])).2≠0∨(exType e (bindF nmX [0,0])).1≠2):=orY (by have h:=k2;simp only [eta] at h;exact h)
    rw [if_neg hn,if_neg hc]
  ·refine (aI (by first | kernel_rfl | rfl) (aI (by rfl) (aI (fun h0=>nF (by kernel_rfl) h0) (fun h0=>(fun h1=>(fun h2=>(aI (fun h3=>(fin_of rfl (by exact K1 (by assumption)))) (fun h3=>(aI (fun h4=>(fin_of rfl (by exact K2 (by assumption) (by assumption)))) (fun h4=>(fun h5=>(aI (fun h6=>(fin_of rfl (by exact K3 (by assumption) (by assumption) (by assumption)))) (fun h6=>(aI True.intro (aI (fun h7=>(fin_of rfl (by exact K4 (by assumption) (by assumption) (by assumption) (by assumption)))) (fun h7=>(aI (fun h8=>(fin_of rfl (by exact K5 (by assumption) (by assumption) (by assumption) (by assumption) rfl))) (fun h8=>False.elim (Bool.false_ne_true (Eq.symm (Eq.trans (by kernel_rfl) h8)))))))))))))))))))))
  ·refine (aI (by first | kernel_rfl | rfl) (aI (by rfl) (aI (fun h0=>nF (by kernel_rfl) h0) (fun h0=>(fun h1=>(fun h2=>(aI (fun h3=>(fin_of rfl (by exact K1 (by assumption)))) (fun h3=>(aI (fun h4=>(fin_of rfl (by exact K2 (by assumption) (by assumption)))) (fun h4=>(fun h5=>(aI (fun h6=>(fin_of rfl (by exact K3 (by assumption) (by assumption) (by assumption)))) (fun h6=>(aI True.intro (aI (fun h7=>(fin_of rfl (by exact K4 (by assumption) (by assumption) (by assumption) (by assumption)))) (fun h7=>(aI (fun h8=>(fin_of rfl (by exact K5 (by assumption) (by assumption) (by assumption) (by assumption) rfl))) (fun h8=>False.elim (Bool.false_ne_true (Eq.symm (Eq.trans (by kernel_rfl) h8)))))))))))))))))))))
  ·refine (aI (by first | kernel_rfl | rfl) (aI (by rfl) (aI (fun h0=>nF (by kernel_rfl) h0) (fun h0=>(fun h1=>(fun h2=>(aI (fun h3=>(fin_of rfl (by exact K1 (by assumption)))) (fun h3=>(aI (fun h4=>(fin_of rfl (by exact K2 (by assumption) (by assumption)))) (fun h4=>(fun h5=>(aI (fun h6=>(fin_of rfl (by exact K3 (by assumption) (by assumption) (by assumption)))) (fun h6=>(aI True.intro (aI (fun h7=>(fin_of rfl (by exact K4 (by assumption) (by assumption) (by assumption) (by assumption)))) (fun h7=>(aI (fun h8=>(fin_of rfl (by exact K5 (by assumption) (by assumption) (by assumption) (by assumption) rfl))) (fun h8=>False.elim (Bool.false_ne_true (Eq.symm (Eq.trans (by kernel_rfl) h8)))))))))))))))))))))
  ·refine (aI (by first | kernel_rfl | rfl) (aI (by rfl) (aI (fun h0=>nF (by kernel_rfl) h0) (fun h0=>(fun h1=>(fun h2=>(aI (fun h3=>(fin_of rfl (by exact K1 (by assumption)))) (fun h3=>(aI (fun h4=>(fin_of rfl (by exact K2 (by assumption) (by assumption)))) (fun h4=>(fun h5=>(aI (fun h6=>(fin_of rfl (by exact K3 (by assumption) (by assumption) (by assumption)))) (fun h6=>(aI True.intro (aI (fun h7=>(fin_of rfl (by exact K4 (by assumption) (by assumption) (by assumption) (by assumption)))) (fun h7=>(aI (fun h8=>nF (by kernel_rfl) h8) (fun h8=>(aI (by first | kernel_rfl | rfl) (aI True.intro (aI (fun h9=>(fin_of rfl ?_)) (fun h9=>(aI True.intro (fun (h10:List ByteArray × PUnit)=>(fun h11=>(fun h12=>?_))))))))))))))))))))))))))
   ·have q:chkH (knownF 7) (7,z,e,l)=chkX nmX 2 e:=K6 (by assumption) (by assumption) (by assumption) (by assumption) (by decide)
    have hx:exChk e≠0:=by have h:=‹(!decide (exChk (ExprT.mk e.kind e.op e.name e.value e.args)=0))=true›;simp only [eta] at h;simpa using h
    simp only [eta]
    show (chkH (knownF 7) (7,z,e,l),())=(exChk e,())
    rw [q,chkX,if_pos hx]
   have q:chkH (knownF 7) (7,z,e,l)=chkX nmX 2 e:=K6 (by assumption) (by assumption) (by assumption) (by assumption) (by decide)
   have hx:¬ exChk e≠0:=by have h:=‹(!decide (exChk (ExprT.mk e.kind e.op e.name e.value e.args)=0))=false›;simp only [eta] at h;simpa using h
   have en:h10.1=exNames e:=by rw [h11];simp only [eta]
   rw [q,chkX,if_neg hx,← en]
   clear q
   refine ex4 _ (fun i:Nat=>⟨[.any,.agg   [.int .i64 e.kind,.int .i64 e.op,.str e.name,.int .i64 e.value,.sl .expr e.args],.ptr 2 0,.ptr 3 0,.any,.any,.any,.any,.any,.any,.any,.any,.any,.any,.any,.agg   [.int .i64 e.kind,.int .i64 e.op,.str e.name,.int .i64 e.value,.sl .expr e.args],.sl .str h10.1,.int .i64 (↑h10.1.length:Int),.int .i64 (i:Int)]++nA 26,[.cells   [.int .i64 7,.int .i64 z,.int .i64 e.kind,.int .i64 e.op,.str e.name,     .int .i64 e.value,.sl .expr e.args,.sl (.int .i64) l],.cells   [.int .i64 1,.int .i64 2,.int .i64 0,.int .i64 0,.int .i64 2,     .sl .str [{ data:=#[120] }],.fn (Fn.func 102) [] [],.fn (Fn.func 93) [] []],.cells   [.int .i64 1,.int .i64 2,.int .i64 0,.int .i64 0,.int .i64 2,     .sl .str [{ data:=#[120] }],.fn (Fn.func 102) [] [],.fn (Fn.func 93) [] []],.cells   [.int .i64 e.kind,.int .i64 e.op,.str e.name,.int .i64 e.value,.sl .expr e.args]],4⟩) (fun i=>i≤h10.1.length∧(h10.1.take i).any (fun s=>!List.any nmX (isS s))=false) (fun i=>h10.1.length - i) (aI (Exists.intro (0) (Exists.intro ([some 0,some 1,some 2,some 3]) (aI ?_ (aI (by rfl) (aI (by rfl) (aI (aI (aI (by rfl) (by rfl)) (aI (aI (by rfl) (by rfl)) (aI (aI (by rfl) (by rfl)) (aI (aI (by rfl) (by rfl)) True.intro)))) (by rfl))))))) ?_)
   ·exact ⟨Nat.zero_le _,rfl⟩
   rintro i ⟨hi,ht⟩
   refine (aI (fun k0=>(aI (by intros;(try subst_vars);(try simp only [nB] at *);(try simp only [inK,big,lim,nL] at *);omega) (aI True.intro (aI (fun k1=>(fin_of rfl ?_)) (fun k1=>(aI (by intros;(try subst_vars);(try simp only [nB] at *);(try simp only [inK,big,lim,nL] at *);omega) ?_)))))) (fun k0=>(aI (by first | kernel_rfl | rfl) (aI (by decide) (aI True.intro (aI (fun k2=>(fin_of rfl ?_)) (fun k2=>(fin_of rfl ?_))))))))
   ·have hi':i < h10.1.length:=by simpa using k0
    have hk:(fun s=>!List.any nmX (isS s)) (h10.1.getD i (dflt .str))=true:=k1
    rw [if_pos (any_hit hi' hk)]
   ·have hi':i < h10.1.length:=by simpa using k0
    have hk:(fun s=>!List.any nmX (isS s)) (h10.1.getD i (dflt .str))=false:=k1
    refine Exists.intro (i+1) (Exists.intro ([some 0,some 1,some 2,some 3]) (aI ?_ (aI ?_ (aI (by rfl) (aI (by rfl) (aI (aI (aI (by rfl) (by rfl)) (aI (aI (by rfl) (by rfl)) (aI (aI (by rfl) (by rfl)) (aI (aI (by rfl) (by rfl)) True.intro)))) (by rfl)))))))
    ·exact ⟨hi',any_next hi' ht hk⟩
    ·show h10.1.length - (i+1) < h10.1.length - i
     omega
   ·have hi':¬ i < h10.1.length:=by simpa using k0
    have hn:¬ (h10.1.any fun s=>!List.any nmX (isS s))=true:=by rw [any_end hi' ht];simp
    have hc:(exType e (bindF nmX [0,0])).2≠0∨(exType e (bindF nmX [0,0])).1≠2:=orX (by have h:=k2;simp only [eta] at h;exact h)
    rw [if_neg hn,if_pos hc]
   ·have hi':¬ i < h10.1.length:=by simpa using k0
    have hn:¬ (h10.1.any fun s=>!List.any nmX (isS s))=true:=by rw [any_end hi' ht];simp
    have hc:¬ ((exType e (bindF nmX [0,0])).2≠0∨(exType e (bindF nmX [0,0])).1≠2):=orY (by have h:=k2;simp only [eta] at h;exact h)
    rw [if_neg hn,if_neg hc]
  ·refine (aI (by first | kernel_rfl | rfl) (aI (by rfl) (aI (fun h0=>nF (by kernel_rfl) h0) (fun h0=>(fun h1=>(fun h2=>(aI (fun h3=>(fin_of rfl (by exact K1 (by assumption)))) (fun h3=>(aI (fun h4=>(fin_of rfl (by exact K2 (by assumption) (by assumption)))) (fun h4=>(fun h5=>(aI (fun h6=>(fin_of rfl (by exact K3 (by assumption) (by assumption) (by assumption)))) (fun h6=>(aI True.intro (aI (fun h7=>(fin_of rfl (by exact K4 (by assumption) (by assumption) (by assumption) (by assumption)))) (fun h7=>(aI (fun h8=>(fin_of rfl (by exact K5 (by assumption) (by assumption) (by assumption) (by assumption) rfl))) (fun h8=>False.elim (Bool.false_ne_true (Eq.symm (Eq.trans (by kernel_rfl) h8)))))))))))))))))))))
  ·refine (aI (by first | kernel_rfl | rfl) (aI (by rfl) (aI (fun h0=>nF (by kernel_rfl) h0) (fun h0=>(fun h1=>(fun h2=>(aI (fun h3=>(fin_of rfl (by exact K1 (by assumption)))) (fun h3=>(aI (fun h4=>(fin_of rfl (by exact K2 (by assumption) (by assumption)))) (fun h4=>(fun h5=>(aI (fun h6=>(fin_of rfl (by exact K3 (by assumption) (by assumption) (by assumption)))) (fun h6=>(aI True.intro (aI (fun h7=>(fin_of rfl (by exact K4 (by assumption) (by assumption) (by assumption) (by assumption)))) (fun h7=>(aI (fun h8=>nF (by kernel_rfl) h8) (fun h8=>(aI (by first | kernel_rfl | rfl) (aI True.intro (aI (fun h9=>(fin_of rfl ?_)) (fun h9=>(aI True.intro (fun (h10:List ByteArray × PUnit)=>(fun h11=>(fun h12=>?_))))))))))))))))))))))))))
   ·have q:chkH (knownF 9) (9,z,e,l)=chkX nmXY 1 e:=K6 (by assumption) (by assumption) (by assumption) (by assumption) (by decide)
    have hx:exChk e≠0:=by have h:=‹(!decide (exChk (ExprT.mk e.kind e.op e.name e.value e.args)=0))=true›;simp only [eta] at h;simpa using h
    simp only [eta]
    show (chkH (knownF 9) (9,z,e,l),())=(exChk e,())
    rw [q,chkX,if_pos hx]
   have q:chkH (knownF 9) (9,z,e,l)=chkX nmXY 1 e:=K6 (by assumption) (by assumption) (by assumption) (by assumption) (by decide)
   have hx:¬ exChk e≠0:=by have h:=‹(!decide (exChk (ExprT.mk e.kind e.op e.name e.value e.args)=0))=false›;simp only [eta] at h;simpa using h
   have en:h10.1=exNames e:=by rw [h11];simp only [eta]
   rw [q,chkX,if_neg hx,← en]
   clear q
   refine ex4 _ (fun i:Nat=>⟨[.any,.agg   [.int .i64 e.kind,.int .i64 e.op,.str e.name,.int .i64 e.value,.sl .expr e.args],.ptr 2 0,.ptr 3 0,.any,.any,.any,.any,.any,.any,.any,.any,.any,.any,.any,.agg   [.int .i64 e.kind,.int .i64 e.op,.str e.name,.int .i64 e.value,.sl .expr e.args],.sl .str h10.1,.int .i64 (↑h10.1.length:Int),.int .i64 (i:Int)]++nA 26,[.cells   [.int .i64 9,.int .i64 z,.int .i64 e.kind,.int .i64 e.op,.str e.name,     .int .i64 e.value,.sl .expr e.args,.sl (.int .i64) l],.cells   [.int .i64 2,.int .i64 1,.int .i64 0,.int .i64 0,.int .i64 1,     .sl .str [{ data:=#[120] },{ data:=#[121] }],.fn (Fn.func 105) [] [],.fn (Fn.func 106) [] []],.cells   [.int .i64 2,.int .i64 1,.int .i64 0,.int .i64 0,.int .i64 1,     .sl .str [{ data:=#[120] },{ data:=#[121] }],.fn (Fn.func 105) [] [],.fn (Fn.func 106) [] []],.cells   [.int .i64 e.kind,.int .i64 e.op,.str e.name,.int .i64 e.value,.sl .expr e.args]],4⟩) (fun i=>i≤h10.1.length∧(h10.1.take i).any (fun s=>!List.any nmXY (isS s))=false) (fun i=>h10.1.length - i) (aI (Exists.intro (0) (Exists.intro ([some 0,some 1,some 2,some 3]) (aI ?_ (aI (by rfl) (aI (by rfl) (aI (aI (aI (by rfl) (by rfl)) (aI (aI (by rfl) (by rfl)) (aI (aI (by rfl) (by rfl)) (aI (aI (by rfl) (by rfl)) True.intro)))) (by rfl))))))) ?_)
   ·exact ⟨Nat.zero_le _,rfl⟩
   rintro i ⟨hi,ht⟩
   refine (aI (fun k0=>(aI (by intros;(try subst_vars);(try simp only [nB] at *);(try simp only [inK,big,lim,nL] at *);omega) (aI True.intro (aI (fun k1=>(fin_of rfl ?_)) (fun k1=>(aI (by intros;(try subst_vars);(try simp only [nB] at *);(try simp only [inK,big,lim,nL] at *);omega) ?_)))))) (fun k0=>(aI (by first | kernel_rfl | rfl) (aI (by decide) (aI True.intro (aI (fun k2=>(fin_of rfl ?_)) (fun k2=>(fin_of rfl ?_))))))))
   ·have hi':i < h10.1.length:=by simpa using k0
    have hk:(fun s=>!List.any nmXY (isS s)) (h10.1.getD i (dflt .str))=true:=k1
    rw [if_pos (any_hit hi' hk)]
   ·have hi':i < h10.1.length:=by simpa using k0
    have hk:(fun s=>!List.any nmXY (isS s)) (h10.1.getD i (dflt .str))=false:=k1
    refine Exists.intro (i+1) (Exists.intro ([some 0,some 1,some 2,some 3]) (aI ?_ (aI ?_ (aI (by rfl) (aI (by rfl) (aI (aI (aI (by rfl) (by rfl)) (aI (aI (by rfl) (by rfl)) (aI (aI (by rfl) (by rfl)) (aI (aI (by rfl) (by rfl)) True.intro)))) (by rfl)))))))
    ·exact ⟨hi',any_next hi' ht hk⟩
    ·show h10.1.length - (i+1) < h10.1.length - i
     omega
   ·have hi':¬ i < h10.1.length:=by simpa using k0
    have hn:¬ (h10.1.any fun s=>!List.any nmXY (isS s))=true:=by rw [any_end hi' ht];simp
    have hc:(exType e (bindF nmXY [0,0])).2≠0∨(exType e (bindF nmXY [0,0])).1≠1:=orX (by have h:=k2;simp only [eta] at h;exact h)
    rw [if_neg hn,if_pos hc]
   ·have hi':¬ i < h10.1.length:=by simpa using k0
    have hn:¬ (h10.1.any fun s=>!List.any nmXY (isS s))=true:=by rw [any_end hi' ht];simp
    have hc:¬ ((exType e (bindF nmXY [0,0])).2≠0∨(exType e (bindF nmXY [0,0])).1≠1):=orY (by have h:=k2;simp only [eta] at h;exact h)
    rw [if_neg hn,if_neg hc]
  ·refine (aI (by first | kernel_rfl | rfl) (aI (by rfl) (aI (fun h0=>nF (by kernel_rfl) h0) (fun h0=>(fun h1=>(fun h2=>(aI (fun h3=>(fin_of rfl (by exact K1 (by assumption)))) (fun h3=>(aI (fun h4=>(fin_of rfl (by exact K2 (by assumption) (by assumption)))) (fun h4=>(fun h5=>(aI (fun h6=>(fin_of rfl (by exact K3 (by assumption) (by assumption) (by assumption)))) (fun h6=>(aI True.intro (aI (fun h7=>(fin_of rfl (by exact K4 (by assumption) (by assumption) (by assumption) (by assumption)))) (fun h7=>(aI (fun h8=>(fin_of rfl (by exact K5 (by assumption) (by assumption) (by assumption) (by assumption) rfl))) (fun h8=>False.elim (Bool.false_ne_true (Eq.symm (Eq.trans (by kernel_rfl) h8)))))))))))))))))))))
 ·have hst:stChk (k,z,e,l)=8:=stChk_out hk
  refine ⟨_,callS_good cxI0_good (callS_good cxI0_good (callS_good cxI0_good (callS_good cxI0_good no_call))), ?_⟩
  refine (aI (by first | kernel_rfl | rfl) (aI (by first | kernel_rfl | rfl) (aI (fun h0=>(aI (fun h1=>(fin_of rfl ?_)) (fun h1=>False.elim (Bool.false_ne_true (Eq.symm (Eq.trans (by kernel_rfl) h1)))))) (fun h0=>(aI (by first | kernel_rfl | rfl) (aI (by intros;(try subst_vars);(try simp only [nB] at *);(try simp only [inK,big,lim,nL] at *);omega) ?_))))))
  ·show (stChk (k,z,e,l),())=(8,())
   rw [hst]
  ·exfalso
   have h:(bif decide (k < 1) then true else decide (10 < k))=false:=h0
   by_cases h1:k < 1
   ·rw [decide_eq_true h1] at h;cases h
   ·rw [decide_eq_true (show 10 < k by omega)] at h
    cases hd:decide (k < 1) <;> rw [hd] at h <;> cases h
end Go.Proofs.YticmijfmgmkkcaaGreat
namespace Go.Proofs.YticmijfmgmkkcaaGreat
open Go.Sx
@[reducible] def tSS:Ty:=.pair tIs (.pair tI .bool)
@[reducible] def SST:Type:=List Int × Int × Bool
@[reducible] def dSS:AK:=.dat true tSS
def cxJ0:Ctx:=⟨tys0,[(17,([],c17))]⟩
theorem cxJ0_good:GoodCtx Tryz.prog cxJ0:=cx_cons good17 cx0_good
def stIn (x:StT):Int:=if stChk x=0 then (knownF x.1).1 else 0
def stOut (x:StT):Int:=if stChk x=0 then (knownF x.1).2.1 else 0
theorem chk_kind {x:StT} (h:stChk x=0):1≤x.1∧x.1≤10:=by
 by_cases hk:1≤x.1∧x.1≤10
 ·exact hk
 ·rw [stChk_out hk] at h;exact absurd h (by decide)
theorem kinds {k:Int} (h:1≤k∧k≤10):k=1∨k=2∨k=3∨k=4∨k=5∨k=6∨k=7∨k=8∨k=9∨k=10:=by omega
def bndF (x:StT):Int × Int:=if x.1=1 then ((x.2.2.2.length:Int),0) else if x.1=6 then (x.2.1,0) else if x.1=8 then (1,2) else if x.1=9 then (3,1) else if x.1=4 then (0,x.2.1 - 1) else (0,0)
def c89:Ctr:=fnC [dSt] rII (fun y=>-1000≤y.1.2.1∧y.1.2.1≤1000) (fun y=>((bndF y.1).1,(bndF y.1).2,()))
theorem good89:GoodC Tryz.prog 89 c89:=by
 refine goodF cx0_good 3 _ _ _ _ ⟨_,Tryz.func89,rfl,rfl⟩ fun (⟨⟨k,z,⟨ek,eo,em,ev,ea⟩,l⟩,_⟩ : StT × Unit) hn=>?_
 have hz:-1000≤z∧z≤1000:=hn
 clear hn
 have b1:∀ r,(bndF (k,z,ExprT.mk ek eo em ev ea,l))=r→(((bndF (k,z,ExprT.mk ek eo em ev ea,l)).1,(bndF (k,z,ExprT.mk ek eo em ev ea,l)).2,()):Int × Int × Unit)=(r.1,r.2,()):=fun r h=>by rw [h]
 refine (aI (by first | kernel_rfl | rfl) (aI (fun h0=>(fun h1=>(fin_of rfl ?_))) (fun h0=>(aI (fun h2=>(fin_of rfl ?_)) (fun h2=>(aI (fun h3=>(fin_of rfl ?_)) (fun h3=>(aI (fun h4=>(fin_of rfl ?_)) (fun h4=>(aI (fun h5=>(aI (by first | kernel_rfl | rfl) (aI (by intros;(try subst_vars);(try simp only [nB] at *);(try simp only [inK,big,lim,nL] at *);omega) (fin_of rfl ?_)))) (fun h5=>(fin_of rfl ?_))))))))))))
 ·exact b1 ((l.length:Int),0) (by rw [bndF,if_pos (of_decide_eq_true h0)])
 ·exact b1 (z,0) (by rw [bndF,if_neg (of_decide_eq_false h0),if_pos (of_decide_eq_true h2)])
 ·exact b1 (1,2) (by rw [bndF,if_neg (of_decide_eq_false h0),if_neg (of_decide_eq_false h2),if_pos (of_decide_eq_true h3)])
 ·exact b1 (3,1) (by rw [bndF,if_neg (of_decide_eq_false h0),if_neg (of_decide_eq_false h2),if_neg (of_decide_eq_false h3),if_pos (of_decide_eq_true h4)])
 ·exact b1 (0,z - 1) (by rw [bndF,if_neg (of_decide_eq_false h0),if_neg (of_decide_eq_false h2),if_neg (of_decide_eq_false h3),if_neg (of_decide_eq_false h4),if_pos (of_decide_eq_true h5)])
 ·exact b1 (0,0) (by rw [bndF,if_neg (of_decide_eq_false h0),if_neg (of_decide_eq_false h2),if_neg (of_decide_eq_false h3),if_neg (of_decide_eq_false h4),if_neg (of_decide_eq_false h5)])
def endF (x:StT) (s:SST) (i:Int):Bool:=if x.1=8 then s.1.any (isI i) else if x.1=9 then decide (bandI .i64 (shrI .i64 s.2.1 i) 1=1) else s.2.2
def cxJ2:Ctx:=⟨tys0,[(25,([],c25))]⟩
theorem cxJ2_good:GoodCtx Tryz.prog cxJ2:=cx_cons good25 cx0_good
def c65:Ctr:=fnC [dSt,dSS,dI] rB (fun y=>0≤y.2.2.1∨y.1.1≠9) (fun y=>(endF y.1 y.2.1 y.2.2.1,()))
theorem good65:GoodC Tryz.prog 65 c65:=by
 refine goodF cxJ2_good 3 _ _ _ _ ⟨_,Tryz.func65,rfl,rfl⟩ fun (⟨⟨k,z,⟨ek,eo,em,ev,ea⟩,l⟩,⟨hd,c,en⟩,i,_⟩ : StT × SST × Int × Unit) hn=>?_
 have hz:0≤i∨k≠9:=hn
 clear hn
 have b1:∀ r,(endF (k,z,ExprT.mk ek eo em ev ea,l) (hd,c,en) i)=r→((endF (k,z,ExprT.mk ek eo em ev ea,l) (hd,c,en) i,()):Bool × Unit)=(r,()):=fun r h=>by rw [h]
 refine (aI (by first | kernel_rfl | rfl) (aI (fun h0=>(aI True.intro (fin_of rfl ?_))) (fun h0=>(aI (fun h1=>(aI (by intros;(try subst_vars);(try simp only [nB] at *);(try simp only [inK,big,lim,nL] at *);omega) (fin_of rfl ?_))) (fun h1=>(fin_of rfl ?_))))))
 ·exact b1 _ (by rw [endF,if_pos (of_decide_eq_true h0)])
 ·exact b1 _ (by rw [endF,if_neg (of_decide_eq_false h0),if_pos (of_decide_eq_true h1)])
 ·exact b1 _ (by rw [endF,if_neg (of_decide_eq_false h0),if_neg (of_decide_eq_false h1)])
def heldBad (l:List Int) (i:Nat):Bool:=bif bif decide (l.getD (i:Int).toNat (dflt tI) < 0) then true else decide (1 < l.getD (i:Int).toNat (dflt tI)) then true else (bif decide (0 < (i:Int)) then decide (l.getD (i:Int).toNat (dflt tI)≤l.getD ((i:Int) - 1).toNat (dflt tI)) else false)
def vc1 (x:StT) (s:SST):Bool:=bif bif decide (s.2.1 < 0) then true else decide ((bndF x).1 < s.2.1) then true else decide ((bndF x).2 < (s.1.length:Int))
def validF (x:StT) (s:SST):Bool :=
 if vc1 x s=true then false
 else if s.1.any notNum=true then false
 else if x.1=4 then (bif !s.2.2 then true else decide ((s.1.length:Int)=0))
 else if x.1=8 then (if (List.range s.1.length).any (heldBad s.1)=true then false else (s.2.2 == decide ((s.1.length:Int)=2)))
 else if x.1=9 then (bif (s.2.2 == decide (s.2.1=3)) then (bif decide (s.2.1 < 2) then true else decide ((s.1.length:Int)=0)) else false)
 else true
theorem V1 {x:StT} {s:SST} (h:vc1 x s=true):(validF x s,())=(false,()):=by rw [validF,if_pos h]
theorem V2 {x:StT} {s:SST} (h:vc1 x s=false) (h2:s.1.any notNum=true):(validF x s,())=(false,()):=by rw [validF,if_neg (by rw [h];simp),if_pos h2]
theorem V3 {x:StT} {s:SST} (h:vc1 x s=false) (h2:s.1.any notNum=false) (h3:decide (x.1=4)=true):(validF x s,())=((bif !s.2.2 then true else decide ((s.1.length:Int)=0)),()):=by
 rw [validF,if_neg (by rw [h];simp),if_neg (by rw [h2];simp),if_pos (of_decide_eq_true h3)]
theorem V4 {x:StT} {s:SST} (h:vc1 x s=false) (h2:s.1.any notNum=false) (h3:decide (x.1=4)=false) (h4:decide (x.1=8)=true):validF x s=(if (List.range s.1.length).any (heldBad s.1)=true then false else (s.2.2 == decide ((s.1.length:Int)=2))):=by
 rw [validF,if_neg (by rw [h];simp),if_neg (by rw [h2];simp),if_neg (of_decide_eq_false h3),if_pos (of_decide_eq_true h4)]
theorem V5 {x:StT} {s:SST} (h:vc1 x s=false) (h2:s.1.any notNum=false) (h3:decide (x.1=4)=false) (h4:decide (x.1=8)=false) (h5:decide (x.1=9)=true):(validF x s,())=((bif (s.2.2 == decide (s.2.1=3)) then (bif decide (s.2.1 < 2) then true else decide ((s.1.length:Int)=0)) else false),()):=by
 rw [validF,if_neg (by rw [h];simp),if_neg (by rw [h2];simp),if_neg (of_decide_eq_false h3),if_neg (of_decide_eq_false h4),if_pos (of_decide_eq_true h5)]
theorem V6 {x:StT} {s:SST} (h:vc1 x s=false) (h2:s.1.any notNum=false) (h3:decide (x.1=4)=false) (h4:decide (x.1=8)=false) (h5:decide (x.1=9)=false):(validF x s,())=(true,()):=by
 rw [validF,if_neg (by rw [h];simp),if_neg (by rw [h2];simp),if_neg (of_decide_eq_false h3),if_neg (of_decide_eq_false h4),if_neg (of_decide_eq_false h5)]
def cxJ3:Ctx:=⟨tys0,[(89,([],c89)),(41,([],c41))]⟩
theorem cxJ3_good:GoodCtx Tryz.prog cxJ3:=cx_cons good89 (cx_cons good41 cx0_good)
def c64:Ctr:=fnC [dSt,dSS] rB (fun y=>-1000≤y.1.2.1∧y.1.2.1≤1000) (fun y=>(validF y.1 y.2.1,()))
set_option maxHeartbeats 2000000 in
theorem good64:GoodC Tryz.prog 64 c64:=by
 refine goodF cxJ3_good 3 _ _ _ _ ⟨_,Tryz.func64,rfl,rfl⟩ fun (⟨⟨k,z,⟨ek,eo,em,ev,ea⟩,l⟩,⟨hd,c,en⟩,_⟩ : StT × SST × Unit) hn=>?_
 have hz:-1000≤z∧z≤1000:=hn
 clear hn
 refine (aI (by first | kernel_rfl | rfl) (aI (by intros;(try subst_vars);(try simp only [nB] at *);(try simp only [inK,big,lim,nL] at *);omega) (fun v0=>(aI (fun v1=>(fin_of rfl (by first | exact V1 (by assumption) | exact V2 (by assumption) (by assumption) | exact V3 (by assumption) (by assumption) (by assumption) | exact V5 (by assumption) (by assumption) (by assumption) (by assumption) (by assumption) | exact V6 (by assumption) (by assumption) (by assumption) (by assumption) (by assumption)))) (fun v1=>(aI True.intro (aI (fun v2=>(fin_of rfl (by first | exact V1 (by assumption) | exact V2 (by assumption) (by assumption) | exact V3 (by assumption) (by assumption) (by assumption) | exact V5 (by assumption) (by assumption) (by assumption) (by assumption) (by assumption) | exact V6 (by assumption) (by assumption) (by assumption) (by assumption) (by assumption)))) (fun v2=>(aI (fun v3=>(fun v4=>(fin_of rfl (by first | exact V1 (by assumption) | exact V2 (by assumption) (by assumption) | exact V3 (by assumption) (by assumption) (by assumption) | exact V5 (by assumption) (by assumption) (by assumption) (by assumption) (by assumption) | exact V6 (by assumption) (by assumption) (by assumption) (by assumption) (by assumption))))) (fun v3=>(aI (fun v5=>(fun v6=>?_)) (fun v5=>(aI (fun v7=>(fun v8=>(fin_of rfl (by first | exact V1 (by assumption) | exact V2 (by assumption) (by assumption) | exact V3 (by assumption) (by assumption) (by assumption) | exact V5 (by assumption) (by assumption) (by assumption) (by assumption) (by assumption) | exact V6 (by assumption) (by assumption) (by assumption) (by assumption) (by assumption))))) (fun v7=>(fin_of rfl (by first | exact V1 (by assumption) | exact V2 (by assumption) (by assumption) | exact V3 (by assumption) (by assumption) (by assumption) | exact V5 (by assumption) (by assumption) (by assumption) (by assumption) (by assumption) | exact V6 (by assumption) (by assumption) (by assumption) (by assumption) (by assumption)))))))))))))))))
 have hv:=V4 (x:=(k,z,ExprT.mk ek eo em ev ea,l)) (s:=(hd,c,en)) (by assumption) (by assumption) (by assumption) (by assumption)
 refine ex4 _ (fun i:Nat=>⟨[.any,.any,.ptr 0 0,.ptr 1 0,.any,.any,.any,.any,.any,.any,.any,.any,.any,.any,.any,.any,.any,.any,.any,.any,.any,.any,.any,.any,.any,.any,.any,.any,.any,.any,.any,.any,.any,.ptr 0 0,.int .i64 k,.bool (decide (k=4)),.bool (decide (k=4)),.any,.any,.any,.any,.any,.any,.any,.any,.any,.bool (decide (k=8)),.bool (decide (k=8)),.ptr 1 0,.sl (.int .i64) hd,.int .i64 (↑hd.length:Int),.int .i64 (i:Int)]++nA 51,[.cells   [.int .i64 k,.int .i64 z,.int .i64 (ExprT.mk ek eo em ev ea).kind,     .int .i64 (ExprT.mk ek eo em ev ea).op,.str (ExprT.mk ek eo em ev ea).name,     .int .i64 (ExprT.mk ek eo em ev ea).value,.sl .expr (ExprT.mk ek eo em ev ea).args,     .sl (.int .i64) l],.cells [.sl (.int .i64) hd,.int .i64 c,.bool en]],2⟩) (fun i=>i≤hd.length∧(List.range i).any (heldBad hd)=false) (fun i=>hd.length - i) (aI (Exists.intro (0) (Exists.intro ([some 0,some 1]) (aI ?_ (aI (by rfl) (aI (by rfl) (aI (aI (aI (by rfl) (by rfl)) (aI (aI (by rfl) (by rfl)) True.intro)) (by rfl))))))) ?_)
 ·simp
 rintro i ⟨hi,ht⟩
 refine (aI (fun k0=>(aI (by intros;(try subst_vars);(try simp only [nB] at *);(try simp only [inK,big,lim,nL] at *);omega) (aI (fun k1=>(by intros;(try subst_vars);(try simp only [nB] at *);(try simp only [inK,big,lim,nL] at *);omega)) (aI (fun k2=>(by intros;(try subst_vars);(try simp only [nB] at *);(try simp only [inK,big,lim,nL] at *);omega)) (aI (fun k3=>(fin_of rfl ?_)) (fun k3=>(aI (by intros;(try subst_vars);(try simp only [nB] at *);(try simp only [inK,big,lim,nL] at *);omega) ?_))))))) (fun k0=>(fun k4=>(fin_of rfl ?_))))
 ·have hi':i < hd.length:=by simpa using k0
  have hk:heldBad hd i=true:=k3
  have hr:(List.range hd.length).any (heldBad hd)=true:=range_hit hi' hk
  show (validF (k,z,ExprT.mk ek eo em ev ea,l) (hd,c,en),())=(false,())
  rw [hv,if_pos hr]
 ·have hi':i < hd.length:=by simpa using k0
  have hk:heldBad hd i=false:=k3
  refine Exists.intro (i+1) (Exists.intro ([some 0,some 1]) (aI ?_ (aI ?_ (aI (by rfl) (aI (by rfl) (aI (aI (aI (by rfl) (by rfl)) (aI (aI (by rfl) (by rfl)) True.intro)) (by rfl)))))))
  ·exact ⟨hi',range_next ht hk⟩
  ·show hd.length - (i+1) < hd.length - i
   omega
 ·have hi':¬ i < hd.length:=by simpa using k0
  have e1:i=hd.length:=by omega
  rw [e1] at ht
  show (validF (k,z,ExprT.mk ek eo em ev ea,l) (hd,c,en),())=(en == decide ((hd.length:Int)=2),())
  rw [hv,if_neg (by show ¬ (List.range hd.length).any (heldBad hd)=true;rw [ht];simp)]
end Go.Proofs.YticmijfmgmkkcaaGreat
namespace Go.Proofs.YticmijfmgmkkcaaGreat
open Go.Sx
theorem chk_size {x:StT} (h:stChk x=0):0≤x.2.1∧x.2.1≤200∧(x.1=4→1≤x.2.1):=by
 have hk:=chk_kind h
 rw [stChk_in hk.1 hk.2] at h
 unfold chkH at h
 have h2:ck2 (knownF x.1) x=false:=by
  split at h
  ·exact absurd h (by decide)
  ·split at h
   ·exact absurd h (by decide)
   ·rename_i h2;simpa using h2
 unfold ck2 at h2
 have h3:¬ x.2.1 < (knownF x.1).2.2.1∧¬ (knownF x.1).2.2.2.1 < x.2.1:=by
  by_cases h1:x.2.1 < (knownF x.1).2.2.1
  ·rw [decide_eq_true h1] at h2;cases h2
  ·refine ⟨h1,fun h4=>?_⟩
   rw [decide_eq_false h1,decide_eq_true h4] at h2;cases h2
 rcases kinds hk with h | h | h | h | h | h | h | h | h | h <;> rw [h] at h3 <;> simp [knownF,hnd] at h3 <;> omega
theorem valid_cnt {x:StT} {s:SST} (h:validF x s=true):0≤s.2.1∧s.2.1≤(bndF x).1∧(s.1.length:Int)≤(bndF x).2:=by
 have h1:vc1 x s=false:=by
  cases hc:vc1 x s with
  | false=>rfl
  | true=>rw [validF,if_pos hc] at h;cases h
 unfold vc1 at h1
 by_cases a:s.2.1 < 0
 ·rw [decide_eq_true a] at h1;cases h1
 ·by_cases b:(bndF x).1 < s.2.1
  ·rw [decide_eq_false a,decide_eq_true b] at h1;cases h1
  ·by_cases c:(bndF x).2 < (s.1.length:Int)
   ·rw [decide_eq_false a,decide_eq_false b,decide_eq_true c] at h1;cases h1
   ·omega
def needF (x:StT) (s:SST):List Int × Int :=
 if (!decide (stChk x=0))=true then ([],stChk x) else
 if (!validF x s)=true then ([],1) else
 if (bif s.2.2 then true else decide (x.1=1))=true then ([],0) else
 if (bif decide (x.1=8) then endF x s s.2.1 else false)=true then ([1 - s.2.1],0) else
 if (decide (x.1=8))=true then ([s.2.1],0) else
 if (bif decide (x.1=9) then (bif endF x s 0 then true else decide (0 < (s.1.length:Int))) else false)=true then ([1],0) else
 ([0],0)
theorem ND0 {x:StT} {s:SST} (h0:(!decide (stChk x=0))=true):(needF x s)=([],stChk x):=by rw [needF,if_pos h0]
theorem ND0' {x:StT} {s:SST} (h0:(!decide (stChk x=0))=true):((needF x s).1,(needF x s).2,())=((([],stChk x):List Int × Int).1,(([],stChk x):List Int × Int).2,()):=by rw [ND0 h0]
theorem ND1 {x:StT} {s:SST} (h0:(!decide (stChk x=0))=false) (h1:(!validF x s)=true):(needF x s)=([],1):=by rw [needF,if_neg (by rw [h0];simp),if_pos h1]
theorem ND1' {x:StT} {s:SST} (h0:(!decide (stChk x=0))=false) (h1:(!validF x s)=true):((needF x s).1,(needF x s).2,())=((([],1):List Int × Int).1,(([],1):List Int × Int).2,()):=by rw [ND1 h0 h1]
theorem ND2 {x:StT} {s:SST} (h0:(!decide (stChk x=0))=false) (h1:(!validF x s)=false) (h2:(bif s.2.2 then true else decide (x.1=1))=true):(needF x s)=([],0):=by rw [needF,if_neg (by rw [h0];simp),if_neg (by rw [h1];simp),if_pos h2]
theorem ND2' {x:StT} {s:SST} (h0:(!decide (stChk x=0))=false) (h1:(!validF x s)=false) (h2:(bif s.2.2 then true else decide (x.1=1))=true):((needF x s).1,(needF x s).2,())=((([],0):List Int × Int).1,(([],0):List Int × Int).2,()):=by rw [ND2 h0 h1 h2]
theorem ND3 {x:StT} {s:SST} (h0:(!decide (stChk x=0))=false) (h1:(!validF x s)=false) (h2:(bif s.2.2 then true else decide (x.1=1))=false) (h3:(bif decide (x.1=8) then endF x s s.2.1 else false)=true):(needF x s)=([1 - s.2.1],0):=by rw [needF,if_neg (by rw [h0];simp),if_neg (by rw [h1];simp),if_neg (by rw [h2];simp),if_pos h3]
theorem ND3' {x:StT} {s:SST} (h0:(!decide (stChk x=0))=false) (h1:(!validF x s)=false) (h2:(bif s.2.2 then true else decide (x.1=1))=false) (h3:(bif decide (x.1=8) then endF x s s.2.1 else false)=true):((needF x s).1,(needF x s).2,())=((([1 - s.2.1],0):List Int × Int).1,(([1 - s.2.1],0):List Int × Int).2,()):=by rw [ND3 h0 h1 h2 h3]
theorem ND4 {x:StT} {s:SST} (h0:(!decide (stChk x=0))=false) (h1:(!validF x s)=false) (h2:(bif s.2.2 then true else decide (x.1=1))=false) (h3:(bif decide (x.1=8) then endF x s s.2.1 else false)=false) (h4:(decide (x.1=8))=true):(needF x s)=([s.2.1],0):=by rw [needF,if_neg (by rw [h0];simp),if_neg (by rw [h1];simp),if_neg (by rw [h2];simp),if_neg (by rw [h3];simp),if_pos h4]
theorem ND4' {x:StT} {s:SST} (h0:(!decide (stChk x=0))=false) (h1:(!validF x s)=false) (h2:(bif s.2.2 then true else decide (x.1=1))=false) (h3:(bif decide (x.1=8) then endF x s s.2.1 else false)=false) (h4:(decide (x.1=8))=true):((needF x s).1,(needF x s).2,())=((([s.2.1],0):List Int × Int).1,(([s.2.1],0):List Int × Int).2,()):=by rw [ND4 h0 h1 h2 h3 h4]
theorem ND5 {x:StT} {s:SST} (h0:(!decide (stChk x=0))=false) (h1:(!validF x s)=false) (h2:(bif s.2.2 then true else decide (x.1=1))=false) (h3:(bif decide (x.1=8) then endF x s s.2.1 else false)=false) (h4:(decide (x.1=8))=false) (h5:(bif decide (x.1=9) then (bif endF x s 0 then true else decide (0 < (s.1.length:Int))) else false)=true):(needF x s)=([1],0):=by rw [needF,if_neg (by rw [h0];simp),if_neg (by rw [h1];simp),if_neg (by rw [h2];simp),if_neg (by rw [h3];simp),if_neg (by rw [h4];simp),if_pos h5]
theorem ND5' {x:StT} {s:SST} (h0:(!decide (stChk x=0))=false) (h1:(!validF x s)=false) (h2:(bif s.2.2 then true else decide (x.1=1))=false) (h3:(bif decide (x.1=8) then endF x s s.2.1 else false)=false) (h4:(decide (x.1=8))=false) (h5:(bif decide (x.1=9) then (bif endF x s 0 then true else decide (0 < (s.1.length:Int))) else false)=true):((needF x s).1,(needF x s).2,())=((([1],0):List Int × Int).1,(([1],0):List Int × Int).2,()):=by rw [ND5 h0 h1 h2 h3 h4 h5]
theorem ND6 {x:StT} {s:SST} (h0:(!decide (stChk x=0))=false) (h1:(!validF x s)=false) (h2:(bif s.2.2 then true else decide (x.1=1))=false) (h3:(bif decide (x.1=8) then endF x s s.2.1 else false)=false) (h4:(decide (x.1=8))=false) (h5:(bif decide (x.1=9) then (bif endF x s 0 then true else decide (0 < (s.1.length:Int))) else false)=false):(needF x s)=([0],0):=by rw [needF,if_neg (by rw [h0];simp),if_neg (by rw [h1];simp),if_neg (by rw [h2];simp),if_neg (by rw [h3];simp),if_neg (by rw [h4];simp),if_neg (by rw [h5];simp)]
theorem ND6' {x:StT} {s:SST} (h0:(!decide (stChk x=0))=false) (h1:(!validF x s)=false) (h2:(bif s.2.2 then true else decide (x.1=1))=false) (h3:(bif decide (x.1=8) then endF x s s.2.1 else false)=false) (h4:(decide (x.1=8))=false) (h5:(bif decide (x.1=9) then (bif endF x s 0 then true else decide (0 < (s.1.length:Int))) else false)=false):((needF x s).1,(needF x s).2,())=((([0],0):List Int × Int).1,(([0],0):List Int × Int).2,()):=by rw [ND6 h0 h1 h2 h3 h4 h5]
def cxK:Ctx:=⟨tys0,[(17,([],c17)),(64,([],c64)),(65,([],c65))]⟩
theorem cxK_good:GoodCtx Tryz.prog cxK:=cx_cons good17 (cx_cons good64 (cx_cons good65 cx0_good))
@[reducible] def rIsI:List (Bool × Ty):=[(false,tIs),(false,tI)]
def c31:Ctr:=fnC [dSt,dSS] rIsI (fun _=>True) (fun y=>((needF y.1 y.2.1).1,(needF y.1 y.2.1).2,()))
set_option maxHeartbeats 2000000 in
theorem good31:GoodC Tryz.prog 31 c31:=by
 refine goodF cxK_good 3 _ _ _ _ ⟨_,Tryz.func31,rfl,rfl⟩ fun (⟨⟨k,z,⟨ek,eo,em,ev,ea⟩,l⟩,⟨hd,c,en⟩,_⟩ : StT × SST × Unit) hn=>?_
 clear hn
 have f1:(!decide (stChk (k,z,ExprT.mk ek eo em ev ea,l)=0))=false→-1000≤z∧z≤1000:=fun h=>by
  have:=chk_size (x:=(k,z,ExprT.mk ek eo em ev ea,l)) (by simpa using h)
  have h1:0≤z∧z≤200:=⟨this.1,this.2.1⟩
  omega
 have f2:(bif decide (k=8) then endF (k,z,ExprT.mk ek eo em ev ea,l) (hd,c,en) c else false)=true→(!validF (k,z,ExprT.mk ek eo em ev ea,l) (hd,c,en))=false→-9223372036854775808≤1 - c∧1 - c≤9223372036854775807:=fun h h'=>by
  have h1:k=8:=by
   by_cases h1:k=8
   ·exact h1
   ·rw [decide_eq_false h1] at h;cases h
  have h2:=valid_cnt (x:=(k,z,ExprT.mk ek eo em ev ea,l)) (s:=(hd,c,en)) (by simpa using h')
  rw [h1] at h2
  have h3:0≤c∧c≤1:=⟨h2.1,h2.2.1⟩
  omega
 have f3:decide (k=8)=true→0≤c∨k≠9:=fun h=>.inr (by rw [of_decide_eq_true h];decide)
 refine (aI (by first | kernel_rfl | rfl) (aI True.intro (aI (fun h0=>(fin_of rfl (by exact ND0' (by assumption)))) (fun h0=>(aI (f1 h0) (aI (fun h1=>(fin_of rfl (by exact ND1' (by assumption) (by assumption)))) (fun h1=>(aI (fun h2=>(fin_of rfl (by exact ND2' (by assumption) (by assumption) (by assumption)))) (fun h2=>(aI (fun h3=>(f3 h3)) (aI (fun h4=>(aI (f2 h4 h1) (fin_of rfl (by exact ND3' (by assumption) (by assumption) (by assumption) (by assumption))))) (fun h4=>(aI (fun h5=>(fin_of rfl (by exact ND4' (by assumption) (by assumption) (by assumption) (by assumption) (by assumption)))) (fun h5=>(aI (fun h6=>(.inl (Int.le_refl 0))) (fun h7=>(aI (fun h8=>(fin_of rfl (by exact ND5' (by assumption) (by assumption) (by assumption) (by assumption) (by assumption) (by assumption)))) (fun h8=>(fin_of rfl (by exact ND6' (by assumption) (by assumption) (by assumption) (by assumption) (by assumption) (by assumption)))))))))))))))))))))
end Go.Proofs.YticmijfmgmkkcaaGreat
