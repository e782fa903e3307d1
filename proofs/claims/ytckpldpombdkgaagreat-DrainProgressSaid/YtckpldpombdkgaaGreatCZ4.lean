/- Pipelines. -/
import Derived.Test.YtckpldpombdkgaaGreatCZ3
set_option linter.unusedSimpArgs false
set_option linter.unusedVariables false
set_option maxRecDepth 100000
namespace Go.Proofs.YtckpldpombdkgaaGreat
open Go.Sx
def Jy (ns:List ByteArray) (kd:Int) (e:ExprT):Int :=
 if Bl e≠0 then Bl e else if (Ee e).any (fun s=>!ns.any (isS s))=true then 5
 else if (Bb e (Bv ns [0,0])).2≠0∨(Bb e (Bv ns [0,0])).1≠kd then 15 else 0
def Ann (e:ExprT):Bool:=bif bif bif bif decide (e.kind=0) then decide (e.op=0) else false then decide (e.name=⟨#[]⟩) else false then decide (e.value=0) else false then decide ((e.args.length:Int)=0) else false
def ck1 (h:HdT) (x:StT):Bool:=bif bif bif decide (h.2.2.2.1=0) then !decide (x.2.1=0) else false then true else (bif decide (h.2.2.2.2.1=0) then !Ann x.2.2.1 else false) then true else (bif !decide (x.1=1) then decide (0 < (x.2.2.2.length:Int)) else false)
def ck2 (h:HdT) (x:StT):Bool:=bif decide (x.2.1 < h.2.2.1) then true else decide (h.2.2.2.1 < x.2.1)
def ck3 (x:StT):Bool:=decide (200 < (x.2.2.2.length:Int))
def Fo (h:HdT) (x:StT):Int :=
 if ck1 h x=true then 1 else if ck2 h x=true then 2 else if ck3 x=true then 4 else if x.2.2.2.any Ai=true then 2
 else if h.2.2.2.2.1=0 then 0 else Jy h.2.2.2.2.2.1 h.2.2.2.2.1 x.2.2.1
def An (x:StT):Int:=if Mr x.1=true then Fo (Ao x.1) x else 8
theorem Nz {x:StT} (h1:1≤x.1) (h2:x.1≤10):An x=Fo (Ao x.1) x:=by
 unfold An Mr
 rw [decide_eq_false (show ¬ x.1 < 1 by omega),decide_eq_false (show ¬ 10 < x.1 by omega)];rfl
theorem T3 {x:StT} (h:¬ (1≤x.1∧x.1≤10)):An x=8:=by
 unfold An
 rw [if_neg]
 unfold Mr
 by_cases h1:x.1 < 1
 ·rw [decide_eq_true h1];simp
 ·rw [decide_eq_true (show 10 < x.1 by omega)];cases decide (x.1 < 1) <;> simp
theorem K1 {h:HdT} {x:StT} (h1:ck1 h x=true):(Fo h x,())=(1,()):=by rw [Fo,if_pos h1]
theorem K2 {h:HdT} {x:StT} (h1:ck1 h x=false) (h2:ck2 h x=true):(Fo h x,())=(2,()):=by rw [Fo,if_neg (by rw [h1];simp),if_pos h2]
theorem K3 {h:HdT} {x:StT} (h1:ck1 h x=false) (h2:ck2 h x=false) (h3:ck3 x=true):(Fo h x,())=(4,()):=by rw [Fo,if_neg (by rw [h1];simp),if_neg (by rw [h2];simp),if_pos h3]
theorem K4 {h:HdT} {x:StT} (h1:ck1 h x=false) (h2:ck2 h x=false) (h3:ck3 x=false) (h4:x.2.2.2.any Ai=true):(Fo h x,())=(2,()):=by
 rw [Fo,if_neg (by rw [h1];simp),if_neg (by rw [h2];simp),if_neg (by rw [h3];simp),if_pos h4]
theorem K5 {h:HdT} {x:StT} (h1:ck1 h x=false) (h2:ck2 h x=false) (h3:ck3 x=false) (h4:x.2.2.2.any Ai=false) (h5:h.2.2.2.2.1=0):(Fo h x,())=(0,()):=by
 rw [Fo,if_neg (by rw [h1];simp),if_neg (by rw [h2];simp),if_neg (by rw [h3];simp),if_neg (by rw [h4];simp),if_pos h5]
theorem K6 {h:HdT} {x:StT} (h1:ck1 h x=false) (h2:ck2 h x=false) (h3:ck3 x=false) (h4:x.2.2.2.any Ai=false) (h5:h.2.2.2.2.1≠0):Fo h x=Jy h.2.2.2.2.2.1 h.2.2.2.2.1 x.2.2.1:=by
 rw [Fo,if_neg (by rw [h1];simp),if_neg (by rw [h2];simp),if_neg (by rw [h3];simp),if_neg (by rw [h4];simp),if_neg h5]
theorem orX {a b c:Int} (h:(bif !decide (a=0) then true else !decide (b=c))=true):a≠0∨b≠c:=by
 by_cases ha:a=0
 ·rw [decide_eq_true ha] at h
  exact .inr (by simpa using h)
 ·exact .inl ha
theorem orY {a b c:Int} (h:(bif !decide (a=0) then true else !decide (b=c))=false):¬ (a≠0∨b≠c):=by
 by_cases ha:a=0
 ·rw [decide_eq_true ha] at h
  have hb:b=c:=by simpa using h
  rintro (h1 | h1)
  ·exact h1 ha
  ·exact h1 hb
 ·rw [decide_eq_false ha] at h;cases h
def cxI1:Ctx:=⟨C5,[(173,([],c79)),(174,([],c80)),(175,([],c81)),(176,([],c82)),(177,([],c83)),(98,([],c41)),(127,([],c40k))]⟩
theorem Oy:Ah Tryz.prog cxI1:=Ae Zc (Ae Alx (Ae Aly (Ae Af0 (Ae Zg (Ae Ve (Ae Ny Ag))))))
def cxI0:Ctx:=⟨C5,[(98,([],c41))]⟩
theorem Lu:Ah Tryz.prog cxI0:=Ae Ve Ag
def c17:Ctr:=fnC [dSt] rI (fun _=>True) (fun y=>(An y.1,()))
set_option maxHeartbeats 8000000 in
theorem R6:GoodC Tryz.prog 85 c17:=by
 refine T2 _ _ _ _ ⟨_,Tryz.func85,rfl,rfl⟩ fun (⟨⟨k,z,e,l⟩,_⟩ : StT × Unit) _=>?_
 by_cases hk:1≤k∧k≤10
 ·have hst:An (k,z,e,l)=Fo (Ao k) (k,z,e,l):=Nz hk.1 hk.2
  show ∃ call:CallSem,A7 Tryz.prog call∧call 85 (F7 [dSt] ((k,z,e,l),())) [] 0 (G0 ⟨none,none,[],Eu rI (An (k,z,e,l),())⟩)
  rw [hst]
  clear hst
  have h:k=1∨k=2∨k=3∨k=4∨k=5∨k=6∨k=7∨k=8∨k=9∨k=10:=by omega
  clear hk
  refine ⟨_,Af Oy (Af Oy (Af Oy Bf)), ?_⟩
  rcases h with rfl | rfl | rfl | rfl | rfl | rfl | rfl | rfl | rfl | rfl
  ·refine (aF (aA (aI (fun h0=>nG h0) (fun h0=>(fun h1=>(fun h2=>(aI (fun h3=>(Aa rfl (by exact K1 (by assumption)))) (fun h3=>(aI (fun h4=>(Aa rfl (by exact K2 (by assumption) (by assumption)))) (fun h4=>(fun h5=>(aI (fun h6=>(Aa rfl (by exact K3 (by assumption) (by assumption) (by assumption)))) (fun h6=>(aI tT (aI (fun h7=>(Aa rfl (by exact K4 (by assumption) (by assumption) (by assumption) (by assumption)))) (fun h7=>(aI (fun h8=>(Aa rfl (by exact K5 (by assumption) (by assumption) (by assumption) (by assumption) rfl))) (fun h8=>False.elim (Bool.false_ne_true (Eq.symm (Eq.trans (by kernel_rfl) h8)))))))))))))))))))))
  ·refine (aF (aA (aI (fun h0=>nG h0) (fun h0=>(fun h1=>(fun h2=>(aI (fun h3=>(Aa rfl (by exact K1 (by assumption)))) (fun h3=>(aI (fun h4=>(Aa rfl (by exact K2 (by assumption) (by assumption)))) (fun h4=>(fun h5=>(aI (fun h6=>(Aa rfl (by exact K3 (by assumption) (by assumption) (by assumption)))) (fun h6=>(aI tT (aI (fun h7=>(Aa rfl (by exact K4 (by assumption) (by assumption) (by assumption) (by assumption)))) (fun h7=>(aI (fun h8=>nG h8) (fun h8=>(aF (aI tT (aI (fun h9=>(Aa rfl ?_)) (fun h9=>(aI tT (fun (h10:List ByteArray × PUnit)=>(fun h11=>(fun h12=>?_))))))))))))))))))))))))))
   ·have q:Fo (Ao 2) (2,z,e,l)=Jy nmX 1 e:=K6 (by assumption) (by assumption) (by assumption) (by assumption) (by decide)
    have hx:Bl e≠0:=by have h:=‹(!decide (Bl (ExprT.mk e.kind e.op e.name e.value e.args)=0))=true›;simp only [eta] at h;simpa using h
    simp only [eta]
    show (Fo (Ao 2) (2,z,e,l),())=(Bl e,())
    rw [q,Jy,if_pos hx]
   have q:Fo (Ao 2) (2,z,e,l)=Jy nmX 1 e:=K6 (by assumption) (by assumption) (by assumption) (by assumption) (by decide)
   have hx:¬ Bl e≠0:=by have h:=‹(!decide (Bl (ExprT.mk e.kind e.op e.name e.value e.args)=0))=false›;simp only [eta] at h;simpa using h
   have en:h10.1=Ee e:=by rw [h11];simp only [eta]
   rw [q,Jy,if_neg hx,← en]
   clear q
   refine ex4 _ (fun i:Nat=>⟨[.any,.agg   [.int .i64 e.kind,.int .i64 e.op,.str e.name,.int .i64 e.value,.sl .expr e.args],.ptr 2 0,.ptr 3 0,.any,.any,.any,.any,.any,.any,.any,.any,.any,.any,.any,.agg   [.int .i64 e.kind,.int .i64 e.op,.str e.name,.int .i64 e.value,.sl .expr e.args],.sl .str h10.1,.int .i64 (↑h10.1.length:Int),.int .i64 (i:Int)]++nA 26,[.cells   [.int .i64 2,.int .i64 z,.int .i64 e.kind,.int .i64 e.op,.str e.name,     .int .i64 e.value,.sl .expr e.args,.sl (.int .i64) l],.cells   [.int .i64 1,.int .i64 1,.int .i64 0,.int .i64 0,.int .i64 1,     .sl .str [{ data:=#[120] }],.fn (Fn.func 205) [] [],.fn (Fn.func 203) [] []],.cells   [.int .i64 1,.int .i64 1,.int .i64 0,.int .i64 0,.int .i64 1,     .sl .str [{ data:=#[120] }],.fn (Fn.func 205) [] [],.fn (Fn.func 203) [] []],.cells   [.int .i64 e.kind,.int .i64 e.op,.str e.name,.int .i64 e.value,.sl .expr e.args]],4⟩) (fun i=>i≤h10.1.length∧(h10.1.take i).any (fun s=>!List.any nmX (isS s))=false) (fun i=>h10.1.length - i) (aI (eI (0) (eI ([some 0,some 1,some 2,some 3]) (aI ?_ (aB (aI (aI (aA (by rfl)) (aI (aA (by rfl)) (aI (aA (by rfl)) (aI (aA (by rfl)) tT)))) (by rfl)))))) ?_)
   ·exact ⟨Nat.zero_le _,rfl⟩
   rintro i ⟨hi,ht⟩
   refine (aI (fun k0=>(aO (aI tT (aI (fun k1=>(Aa rfl ?_)) (fun k1=>(aO ?_)))))) (fun k0=>(aF (aE (aI tT (aI (fun k2=>(Aa rfl ?_)) (fun k2=>(Aa rfl ?_))))))))
   ·have hi':i < h10.1.length:=by simpa using k0
    have hk:(fun s=>!List.any nmX (isS s)) (h10.1.getD i (Ab .str))=true:=k1
    rw [if_pos (Nm hi' hk)]
   ·have hi':i < h10.1.length:=by simpa using k0
    have hk:(fun s=>!List.any nmX (isS s)) (h10.1.getD i (Ab .str))=false:=k1
    refine eI (i+1) (eI ([some 0,some 1,some 2,some 3]) (aI ?_ (aI ?_ (aB (aI (aI (aA (by rfl)) (aI (aA (by rfl)) (aI (aA (by rfl)) (aI (aA (by rfl)) tT)))) (by rfl))))))
    ·exact ⟨hi',Kv hi' ht hk⟩
    ·show h10.1.length - (i+1) < h10.1.length - i
     omega
   ·have hi':¬ i < h10.1.length:=by simpa using k0
    have hn:¬ (h10.1.any fun s=>!List.any nmX (isS s))=true:=by rw [G9 hi' ht];simp
    have hc:(Bb e (Bv nmX [0,0])).2≠0∨(Bb e (Bv nmX [0,0])).1≠1:=orX (by have h:=k2;simp only [eta] at h;exact h)
    rw [if_neg hn,if_pos hc]
   ·have hi':¬ i < h10.1.length:=by simpa using k0
    have hn:¬ (h10.1.any fun s=>!List.any nmX (isS s))=true:=by rw [G9 hi' ht];simp
    have hc:¬ ((Bb e (Bv nmX [0,0])).2≠0∨(Bb e (Bv nmX [0,0])).1≠1):=orY (by have h:=k2;simp only [eta] at h;exact h)
    rw [if_neg hn,if_neg hc]
  ·refine (aF (aA (aI (fun h0=>nG h0) (fun h0=>(fun h1=>(fun h2=>(aI (fun h3=>(Aa rfl (by exact K1 (by assumption)))) (fun h3=>(aI (fun h4=>(Aa rfl (by exact K2 (by assumption) (by assumption)))) (fun h4=>(fun h5=>(aI (fun h6=>(Aa rfl (by exact K3 (by assumption) (by assumption) (by assumption)))) (fun h6=>(aI tT (aI (fun h7=>(Aa rfl (by exact K4 (by assumption) (by assumption) (by assumption) (by assumption)))) (fun h7=>(aI (fun h8=>nG h8) (fun h8=>(aF (aI tT (aI (fun h9=>(Aa rfl ?_)) (fun h9=>(aI tT (fun (h10:List ByteArray × PUnit)=>(fun h11=>(fun h12=>?_))))))))))))))))))))))))))
   ·have q:Fo (Ao 3) (3,z,e,l)=Jy nmX 2 e:=K6 (by assumption) (by assumption) (by assumption) (by assumption) (by decide)
    have hx:Bl e≠0:=by have h:=‹(!decide (Bl (ExprT.mk e.kind e.op e.name e.value e.args)=0))=true›;simp only [eta] at h;simpa using h
    simp only [eta]
    show (Fo (Ao 3) (3,z,e,l),())=(Bl e,())
    rw [q,Jy,if_pos hx]
   have q:Fo (Ao 3) (3,z,e,l)=Jy nmX 2 e:=K6 (by assumption) (by assumption) (by assumption) (by assumption) (by decide)
   have hx:¬ Bl e≠0:=by have h:=‹(!decide (Bl (ExprT.mk e.kind e.op e.name e.value e.args)=0))=false›;simp only [eta] at h;simpa using h
   have en:h10.1=Ee e:=by rw [h11];simp only [eta]
   rw [q,Jy,if_neg hx,← en]
   clear q
   refine ex4 _ (fun i:Nat=>⟨[.any,.agg   [.int .i64 e.kind,.int .i64 e.op,.str e.name,.int .i64 e.value,.sl .expr e.args],.ptr 2 0,.ptr 3 0,.any,.any,.any,.any,.any,.any,.any,.any,.any,.any,.any,.agg   [.int .i64 e.kind,.int .i64 e.op,.str e.name,.int .i64 e.value,.sl .expr e.args],.sl .str h10.1,.int .i64 (↑h10.1.length:Int),.int .i64 (i:Int)]++nA 26,[.cells   [.int .i64 3,.int .i64 z,.int .i64 e.kind,.int .i64 e.op,.str e.name,     .int .i64 e.value,.sl .expr e.args,.sl (.int .i64) l],.cells   [.int .i64 1,.int .i64 1,.int .i64 0,.int .i64 0,.int .i64 2,     .sl .str [{ data:=#[120] }],.fn (Fn.func 206) [] [],.fn (Fn.func 203) [] []],.cells   [.int .i64 1,.int .i64 1,.int .i64 0,.int .i64 0,.int .i64 2,     .sl .str [{ data:=#[120] }],.fn (Fn.func 206) [] [],.fn (Fn.func 203) [] []],.cells   [.int .i64 e.kind,.int .i64 e.op,.str e.name,.int .i64 e.value,.sl .expr e.args]],4⟩) (fun i=>i≤h10.1.length∧(h10.1.take i).any (fun s=>!List.any nmX (isS s))=false) (fun i=>h10.1.length - i) (aI (eI (0) (eI ([some 0,some 1,some 2,some 3]) (aI ?_ (aB (aI (aI (aA (by rfl)) (aI (aA (by rfl)) (aI (aA (by rfl)) (aI (aA (by rfl)) tT)))) (by rfl)))))) ?_)
   ·exact ⟨Nat.zero_le _,rfl⟩
   rintro i ⟨hi,ht⟩
   refine (aI (fun k0=>(aO (aI tT (aI (fun k1=>(Aa rfl ?_)) (fun k1=>(aO ?_)))))) (fun k0=>(aF (aE (aI tT (aI (fun k2=>(Aa rfl ?_)) (fun k2=>(Aa rfl ?_))))))))
   ·have hi':i < h10.1.length:=by simpa using k0
    have hk:(fun s=>!List.any nmX (isS s)) (h10.1.getD i (Ab .str))=true:=k1
    rw [if_pos (Nm hi' hk)]
   ·have hi':i < h10.1.length:=by simpa using k0
    have hk:(fun s=>!List.any nmX (isS s)) (h10.1.getD i (Ab .str))=false:=k1
    refine eI (i+1) (eI ([some 0,some 1,some 2,some 3]) (aI ?_ (aI ?_ (aB (aI (aI (aA (by rfl)) (aI (aA (by rfl)) (aI (aA (by rfl)) (aI (aA (by rfl)) tT)))) (by rfl))))))
    ·exact ⟨hi',Kv hi' ht hk⟩
    ·show h10.1.length - (i+1) < h10.1.length - i
     omega
   ·have hi':¬ i < h10.1.length:=by simpa using k0
    have hn:¬ (h10.1.any fun s=>!List.any nmX (isS s))=true:=by rw [G9 hi' ht];simp
    have hc:(Bb e (Bv nmX [0,0])).2≠0∨(Bb e (Bv nmX [0,0])).1≠2:=orX (by have h:=k2;simp only [eta] at h;exact h)
    rw [if_neg hn,if_pos hc]
   ·have hi':¬ i < h10.1.length:=by simpa using k0
    have hn:¬ (h10.1.any fun s=>!List.any nmX (isS s))=true:=by rw [G9 hi' ht];simp
    have hc:¬ ((Bb e (Bv nmX [0,0])).2≠0∨(Bb e (Bv nmX [0,0])).1≠2):=orY (by have h:=k2;simp only [eta] at h;exact h)
    rw [if_neg hn,if_neg hc]
  ·refine (aF (aA (aI (fun h0=>nG h0) (fun h0=>(fun h1=>(fun h2=>(aI (fun h3=>(Aa rfl (by exact K1 (by assumption)))) (fun h3=>(aI (fun h4=>(Aa rfl (by exact K2 (by assumption) (by assumption)))) (fun h4=>(fun h5=>(aI (fun h6=>(Aa rfl (by exact K3 (by assumption) (by assumption) (by assumption)))) (fun h6=>(aI tT (aI (fun h7=>(Aa rfl (by exact K4 (by assumption) (by assumption) (by assumption) (by assumption)))) (fun h7=>(aI (fun h8=>(Aa rfl (by exact K5 (by assumption) (by assumption) (by assumption) (by assumption) rfl))) (fun h8=>False.elim (Bool.false_ne_true (Eq.symm (Eq.trans (by kernel_rfl) h8)))))))))))))))))))))
  ·refine (aF (aA (aI (fun h0=>nG h0) (fun h0=>(fun h1=>(fun h2=>(aI (fun h3=>(Aa rfl (by exact K1 (by assumption)))) (fun h3=>(aI (fun h4=>(Aa rfl (by exact K2 (by assumption) (by assumption)))) (fun h4=>(fun h5=>(aI (fun h6=>(Aa rfl (by exact K3 (by assumption) (by assumption) (by assumption)))) (fun h6=>(aI tT (aI (fun h7=>(Aa rfl (by exact K4 (by assumption) (by assumption) (by assumption) (by assumption)))) (fun h7=>(aI (fun h8=>(Aa rfl (by exact K5 (by assumption) (by assumption) (by assumption) (by assumption) rfl))) (fun h8=>False.elim (Bool.false_ne_true (Eq.symm (Eq.trans (by kernel_rfl) h8)))))))))))))))))))))
  ·refine (aF (aA (aI (fun h0=>nG h0) (fun h0=>(fun h1=>(fun h2=>(aI (fun h3=>(Aa rfl (by exact K1 (by assumption)))) (fun h3=>(aI (fun h4=>(Aa rfl (by exact K2 (by assumption) (by assumption)))) (fun h4=>(fun h5=>(aI (fun h6=>(Aa rfl (by exact K3 (by assumption) (by assumption) (by assumption)))) (fun h6=>(aI tT (aI (fun h7=>(Aa rfl (by exact K4 (by assumption) (by assumption) (by assumption) (by assumption)))) (fun h7=>(aI (fun h8=>(Aa rfl (by exact K5 (by assumption) (by assumption) (by assumption) (by assumption) rfl))) (fun h8=>False.elim (Bool.false_ne_true (Eq.symm (Eq.trans (by kernel_rfl) h8)))))))))))))))))))))
  ·refine (aF (aA (aI (fun h0=>nG h0) (fun h0=>(fun h1=>(fun h2=>(aI (fun h3=>(Aa rfl (by exact K1 (by assumption)))) (fun h3=>(aI (fun h4=>(Aa rfl (by exact K2 (by assumption) (by assumption)))) (fun h4=>(fun h5=>(aI (fun h6=>(Aa rfl (by exact K3 (by assumption) (by assumption) (by assumption)))) (fun h6=>(aI tT (aI (fun h7=>(Aa rfl (by exact K4 (by assumption) (by assumption) (by assumption) (by assumption)))) (fun h7=>(aI (fun h8=>nG h8) (fun h8=>(aF (aI tT (aI (fun h9=>(Aa rfl ?_)) (fun h9=>(aI tT (fun (h10:List ByteArray × PUnit)=>(fun h11=>(fun h12=>?_))))))))))))))))))))))))))
   ·have q:Fo (Ao 7) (7,z,e,l)=Jy nmX 2 e:=K6 (by assumption) (by assumption) (by assumption) (by assumption) (by decide)
    have hx:Bl e≠0:=by have h:=‹(!decide (Bl (ExprT.mk e.kind e.op e.name e.value e.args)=0))=true›;simp only [eta] at h;simpa using h
    simp only [eta]
    show (Fo (Ao 7) (7,z,e,l),())=(Bl e,())
    rw [q,Jy,if_pos hx]
   have q:Fo (Ao 7) (7,z,e,l)=Jy nmX 2 e:=K6 (by assumption) (by assumption) (by assumption) (by assumption) (by decide)
   have hx:¬ Bl e≠0:=by have h:=‹(!decide (Bl (ExprT.mk e.kind e.op e.name e.value e.args)=0))=false›;simp only [eta] at h;simpa using h
   have en:h10.1=Ee e:=by rw [h11];simp only [eta]
   rw [q,Jy,if_neg hx,← en]
   clear q
   refine ex4 _ (fun i:Nat=>⟨[.any,.agg   [.int .i64 e.kind,.int .i64 e.op,.str e.name,.int .i64 e.value,.sl .expr e.args],.ptr 2 0,.ptr 3 0,.any,.any,.any,.any,.any,.any,.any,.any,.any,.any,.any,.agg   [.int .i64 e.kind,.int .i64 e.op,.str e.name,.int .i64 e.value,.sl .expr e.args],.sl .str h10.1,.int .i64 (↑h10.1.length:Int),.int .i64 (i:Int)]++nA 26,[.cells   [.int .i64 7,.int .i64 z,.int .i64 e.kind,.int .i64 e.op,.str e.name,     .int .i64 e.value,.sl .expr e.args,.sl (.int .i64) l],.cells   [.int .i64 1,.int .i64 2,.int .i64 0,.int .i64 0,.int .i64 2,     .sl .str [{ data:=#[120] }],.fn (Fn.func 212) [] [],.fn (Fn.func 203) [] []],.cells   [.int .i64 1,.int .i64 2,.int .i64 0,.int .i64 0,.int .i64 2,     .sl .str [{ data:=#[120] }],.fn (Fn.func 212) [] [],.fn (Fn.func 203) [] []],.cells   [.int .i64 e.kind,.int .i64 e.op,.str e.name,.int .i64 e.value,.sl .expr e.args]],4⟩) (fun i=>i≤h10.1.length∧(h10.1.take i).any (fun s=>!List.any nmX (isS s))=false) (fun i=>h10.1.length - i) (aI (eI (0) (eI ([some 0,some 1,some 2,some 3]) (aI ?_ (aB (aI (aI (aA (by rfl)) (aI (aA (by rfl)) (aI (aA (by rfl)) (aI (aA (by rfl)) tT)))) (by rfl)))))) ?_)
   ·exact ⟨Nat.zero_le _,rfl⟩
   rintro i ⟨hi,ht⟩
   refine (aI (fun k0=>(aO (aI tT (aI (fun k1=>(Aa rfl ?_)) (fun k1=>(aO ?_)))))) (fun k0=>(aF (aE (aI tT (aI (fun k2=>(Aa rfl ?_)) (fun k2=>(Aa rfl ?_))))))))
   ·have hi':i < h10.1.length:=by simpa using k0
    have hk:(fun s=>!List.any nmX (isS s)) (h10.1.getD i (Ab .str))=true:=k1
    rw [if_pos (Nm hi' hk)]
   ·have hi':i < h10.1.length:=by simpa using k0
    have hk:(fun s=>!List.any nmX (isS s)) (h10.1.getD i (Ab .str))=false:=k1
    refine eI (i+1) (eI ([some 0,some 1,some 2,some 3]) (aI ?_ (aI ?_ (aB (aI (aI (aA (by rfl)) (aI (aA (by rfl)) (aI (aA (by rfl)) (aI (aA (by rfl)) tT)))) (by rfl))))))
    ·exact ⟨hi',Kv hi' ht hk⟩
    ·show h10.1.length - (i+1) < h10.1.length - i
     omega
   ·have hi':¬ i < h10.1.length:=by simpa using k0
    have hn:¬ (h10.1.any fun s=>!List.any nmX (isS s))=true:=by rw [G9 hi' ht];simp
    have hc:(Bb e (Bv nmX [0,0])).2≠0∨(Bb e (Bv nmX [0,0])).1≠2:=orX (by have h:=k2;simp only [eta] at h;exact h)
    rw [if_neg hn,if_pos hc]
   ·have hi':¬ i < h10.1.length:=by simpa using k0
    have hn:¬ (h10.1.any fun s=>!List.any nmX (isS s))=true:=by rw [G9 hi' ht];simp
    have hc:¬ ((Bb e (Bv nmX [0,0])).2≠0∨(Bb e (Bv nmX [0,0])).1≠2):=orY (by have h:=k2;simp only [eta] at h;exact h)
    rw [if_neg hn,if_neg hc]
  ·refine (aF (aA (aI (fun h0=>nG h0) (fun h0=>(fun h1=>(fun h2=>(aI (fun h3=>(Aa rfl (by exact K1 (by assumption)))) (fun h3=>(aI (fun h4=>(Aa rfl (by exact K2 (by assumption) (by assumption)))) (fun h4=>(fun h5=>(aI (fun h6=>(Aa rfl (by exact K3 (by assumption) (by assumption) (by assumption)))) (fun h6=>(aI tT (aI (fun h7=>(Aa rfl (by exact K4 (by assumption) (by assumption) (by assumption) (by assumption)))) (fun h7=>(aI (fun h8=>(Aa rfl (by exact K5 (by assumption) (by assumption) (by assumption) (by assumption) rfl))) (fun h8=>False.elim (Bool.false_ne_true (Eq.symm (Eq.trans (by kernel_rfl) h8)))))))))))))))))))))
  ·refine (aF (aA (aI (fun h0=>nG h0) (fun h0=>(fun h1=>(fun h2=>(aI (fun h3=>(Aa rfl (by exact K1 (by assumption)))) (fun h3=>(aI (fun h4=>(Aa rfl (by exact K2 (by assumption) (by assumption)))) (fun h4=>(fun h5=>(aI (fun h6=>(Aa rfl (by exact K3 (by assumption) (by assumption) (by assumption)))) (fun h6=>(aI tT (aI (fun h7=>(Aa rfl (by exact K4 (by assumption) (by assumption) (by assumption) (by assumption)))) (fun h7=>(aI (fun h8=>nG h8) (fun h8=>(aF (aI tT (aI (fun h9=>(Aa rfl ?_)) (fun h9=>(aI tT (fun (h10:List ByteArray × PUnit)=>(fun h11=>(fun h12=>?_))))))))))))))))))))))))))
   ·have q:Fo (Ao 9) (9,z,e,l)=Jy Ey 1 e:=K6 (by assumption) (by assumption) (by assumption) (by assumption) (by decide)
    have hx:Bl e≠0:=by have h:=‹(!decide (Bl (ExprT.mk e.kind e.op e.name e.value e.args)=0))=true›;simp only [eta] at h;simpa using h
    simp only [eta]
    show (Fo (Ao 9) (9,z,e,l),())=(Bl e,())
    rw [q,Jy,if_pos hx]
   have q:Fo (Ao 9) (9,z,e,l)=Jy Ey 1 e:=K6 (by assumption) (by assumption) (by assumption) (by assumption) (by decide)
   have hx:¬ Bl e≠0:=by have h:=‹(!decide (Bl (ExprT.mk e.kind e.op e.name e.value e.args)=0))=false›;simp only [eta] at h;simpa using h
   have en:h10.1=Ee e:=by rw [h11];simp only [eta]
   rw [q,Jy,if_neg hx,← en]
   clear q
   refine ex4 _ (fun i:Nat=>⟨[.any,.agg   [.int .i64 e.kind,.int .i64 e.op,.str e.name,.int .i64 e.value,.sl .expr e.args],.ptr 2 0,.ptr 3 0,.any,.any,.any,.any,.any,.any,.any,.any,.any,.any,.any,.agg   [.int .i64 e.kind,.int .i64 e.op,.str e.name,.int .i64 e.value,.sl .expr e.args],.sl .str h10.1,.int .i64 (↑h10.1.length:Int),.int .i64 (i:Int)]++nA 26,[.cells   [.int .i64 9,.int .i64 z,.int .i64 e.kind,.int .i64 e.op,.str e.name,     .int .i64 e.value,.sl .expr e.args,.sl (.int .i64) l],.cells   [.int .i64 2,.int .i64 1,.int .i64 0,.int .i64 0,.int .i64 1,     .sl .str [{ data:=#[120] },{ data:=#[121] }],.fn (Fn.func 215) [] [],.fn (Fn.func 216) [] []],.cells   [.int .i64 2,.int .i64 1,.int .i64 0,.int .i64 0,.int .i64 1,     .sl .str [{ data:=#[120] },{ data:=#[121] }],.fn (Fn.func 215) [] [],.fn (Fn.func 216) [] []],.cells   [.int .i64 e.kind,.int .i64 e.op,.str e.name,.int .i64 e.value,.sl .expr e.args]],4⟩) (fun i=>i≤h10.1.length∧(h10.1.take i).any (fun s=>!List.any Ey (isS s))=false) (fun i=>h10.1.length - i) (aI (eI (0) (eI ([some 0,some 1,some 2,some 3]) (aI ?_ (aB (aI (aI (aA (by rfl)) (aI (aA (by rfl)) (aI (aA (by rfl)) (aI (aA (by rfl)) tT)))) (by rfl)))))) ?_)
   ·exact ⟨Nat.zero_le _,rfl⟩
   rintro i ⟨hi,ht⟩
   refine (aI (fun k0=>(aO (aI tT (aI (fun k1=>(Aa rfl ?_)) (fun k1=>(aO ?_)))))) (fun k0=>(aF (aE (aI tT (aI (fun k2=>(Aa rfl ?_)) (fun k2=>(Aa rfl ?_))))))))
   ·have hi':i < h10.1.length:=by simpa using k0
    have hk:(fun s=>!List.any Ey (isS s)) (h10.1.getD i (Ab .str))=true:=k1
    rw [if_pos (Nm hi' hk)]
   ·have hi':i < h10.1.length:=by simpa using k0
    have hk:(fun s=>!List.any Ey (isS s)) (h10.1.getD i (Ab .str))=false:=k1
    refine eI (i+1) (eI ([some 0,some 1,some 2,some 3]) (aI ?_ (aI ?_ (aB (aI (aI (aA (by rfl)) (aI (aA (by rfl)) (aI (aA (by rfl)) (aI (aA (by rfl)) tT)))) (by rfl))))))
    ·exact ⟨hi',Kv hi' ht hk⟩
    ·show h10.1.length - (i+1) < h10.1.length - i
     omega
   ·have hi':¬ i < h10.1.length:=by simpa using k0
    have hn:¬ (h10.1.any fun s=>!List.any Ey (isS s))=true:=by rw [G9 hi' ht];simp
    have hc:(Bb e (Bv Ey [0,0])).2≠0∨(Bb e (Bv Ey [0,0])).1≠1:=orX (by have h:=k2;simp only [eta] at h;exact h)
    rw [if_neg hn,if_pos hc]
   ·have hi':¬ i < h10.1.length:=by simpa using k0
    have hn:¬ (h10.1.any fun s=>!List.any Ey (isS s))=true:=by rw [G9 hi' ht];simp
    have hc:¬ ((Bb e (Bv Ey [0,0])).2≠0∨(Bb e (Bv Ey [0,0])).1≠1):=orY (by have h:=k2;simp only [eta] at h;exact h)
    rw [if_neg hn,if_neg hc]
  ·refine (aF (aA (aI (fun h0=>nG h0) (fun h0=>(fun h1=>(fun h2=>(aI (fun h3=>(Aa rfl (by exact K1 (by assumption)))) (fun h3=>(aI (fun h4=>(Aa rfl (by exact K2 (by assumption) (by assumption)))) (fun h4=>(fun h5=>(aI (fun h6=>(Aa rfl (by exact K3 (by assumption) (by assumption) (by assumption)))) (fun h6=>(aI tT (aI (fun h7=>(Aa rfl (by exact K4 (by assumption) (by assumption) (by assumption) (by assumption)))) (fun h7=>(aI (fun h8=>(Aa rfl (by exact K5 (by assumption) (by assumption) (by assumption) (by assumption) rfl))) (fun h8=>False.elim (Bool.false_ne_true (Eq.symm (Eq.trans (by kernel_rfl) h8)))))))))))))))))))))
 ·have hst:An (k,z,e,l)=8:=T3 hk
  refine ⟨_,Af Lu (Af Lu (Af Lu (Af Lu Bf))), ?_⟩
  refine (aF (aF (aI (fun h0=>(aI (fun h1=>(Aa rfl ?_)) (fun h1=>False.elim (Bool.false_ne_true (Eq.symm (Eq.trans (by kernel_rfl) h1)))))) (fun h0=>(aF (aO ?_))))))
  ·show (An (k,z,e,l),())=(8,())
   rw [hst]
  ·exfalso
   have h:(bif decide (k < 1) then true else decide (10 < k))=false:=h0
   by_cases h1:k < 1
   ·rw [decide_eq_true h1] at h;cases h
   ·rw [decide_eq_true (show 10 < k by omega)] at h
    cases hd:decide (k < 1) <;> rw [hd] at h <;> cases h
@[reducible] def tSS:Ty:=.pair tIs (.pair tI .bool)
@[reducible] def SST:Type:=List Int × Int × Bool
@[reducible] def dSS:AK:=.dat true tSS
def cxJ1:Ctx:=⟨C5,[(85,([],c17)),(127,([],c40k))]⟩
theorem Lv:Ah Tryz.prog cxJ1:=Ae R6 (Ae Ny Ag)
def cxJ0:Ctx:=⟨C5,[(85,([],c17))]⟩
theorem Gj:Ah Tryz.prog cxJ0:=Ae R6 Ag
def stIn (x:StT):Int:=if An x=0 then (Ao x.1).1 else 0
def stOut (x:StT):Int:=if An x=0 then (Ao x.1).2.1 else 0
theorem Cu {x:StT} (h:An x=0):1≤x.1∧x.1≤10:=by
 by_cases hk:1≤x.1∧x.1≤10
 ·exact hk
 ·rw [T3 hk] at h;exact absurd h (by decide)
theorem Ie {k:Int} (h:1≤k∧k≤10):k=1∨k=2∨k=3∨k=4∨k=5∨k=6∨k=7∨k=8∨k=9∨k=10:=by omega
def c19:Ctr:=fnC [dSt] rI (fun _=>True) (fun y=>(stIn y.1,()))
set_option maxHeartbeats 2000000 in
theorem Zh:GoodC Tryz.prog 86 c19:=by
 refine T2 _ _ _ _ ⟨_,Tryz.func86,rfl,rfl⟩ fun (⟨⟨k,z,⟨ek,eo,em,ev,ea⟩,l⟩,_⟩ : StT × Unit) _=>?_
 by_cases hk:An (k,z,ExprT.mk ek eo em ev ea,l)=0
 ·have h:=Ie (Cu hk)
  have hf:stIn (k,z,ExprT.mk ek eo em ev ea,l)=(Ao k).1:=by rw [stIn,if_pos hk]
  refine ⟨_,Af Lv (Af Lv Bf), ?_⟩
  have h1:(!decide (An (k,z,ExprT.mk ek eo em ev ea,l)=0))=true→((stIn (k,z,ExprT.mk ek eo em ev ea,l),()):Int × Unit)=(0,()):=fun h=>by rw [hk] at h;cases h
  have h2:∀ n:Int,(Ao k).1=n→((stIn (k,z,ExprT.mk ek eo em ev ea,l),()):Int × Unit)=(n,()):=fun n h=>by rw [hf,h]
  clear hk hf
  rcases h with rfl | rfl | rfl | rfl | rfl | rfl | rfl | rfl | rfl | rfl
  ·refine (aF (aI tT (aI (fun h0=>(Aa rfl (by first | exact h1 h0 | exact h2 _ rfl))) (fun h0=>(aA (Aa rfl (by first | exact h1 h0 | exact h2 _ rfl)))))))
  ·refine (aF (aI tT (aI (fun h0=>(Aa rfl (by first | exact h1 h0 | exact h2 _ rfl))) (fun h0=>(aA (Aa rfl (by first | exact h1 h0 | exact h2 _ rfl)))))))
  ·refine (aF (aI tT (aI (fun h0=>(Aa rfl (by first | exact h1 h0 | exact h2 _ rfl))) (fun h0=>(aA (Aa rfl (by first | exact h1 h0 | exact h2 _ rfl)))))))
  ·refine (aF (aI tT (aI (fun h0=>(Aa rfl (by first | exact h1 h0 | exact h2 _ rfl))) (fun h0=>(aA (Aa rfl (by first | exact h1 h0 | exact h2 _ rfl)))))))
  ·refine (aF (aI tT (aI (fun h0=>(Aa rfl (by first | exact h1 h0 | exact h2 _ rfl))) (fun h0=>(aA (Aa rfl (by first | exact h1 h0 | exact h2 _ rfl)))))))
  ·refine (aF (aI tT (aI (fun h0=>(Aa rfl (by first | exact h1 h0 | exact h2 _ rfl))) (fun h0=>(aA (Aa rfl (by first | exact h1 h0 | exact h2 _ rfl)))))))
  ·refine (aF (aI tT (aI (fun h0=>(Aa rfl (by first | exact h1 h0 | exact h2 _ rfl))) (fun h0=>(aA (Aa rfl (by first | exact h1 h0 | exact h2 _ rfl)))))))
  ·refine (aF (aI tT (aI (fun h0=>(Aa rfl (by first | exact h1 h0 | exact h2 _ rfl))) (fun h0=>(aA (Aa rfl (by first | exact h1 h0 | exact h2 _ rfl)))))))
  ·refine (aF (aI tT (aI (fun h0=>(Aa rfl (by first | exact h1 h0 | exact h2 _ rfl))) (fun h0=>(aA (Aa rfl (by first | exact h1 h0 | exact h2 _ rfl)))))))
  ·refine (aF (aI tT (aI (fun h0=>(Aa rfl (by first | exact h1 h0 | exact h2 _ rfl))) (fun h0=>(aA (Aa rfl (by first | exact h1 h0 | exact h2 _ rfl)))))))
 ·have hf:stIn (k,z,ExprT.mk ek eo em ev ea,l)=0:=by rw [stIn,if_neg hk]
  refine ⟨_,Af Gj (Af Gj (Af Gj Bf)), ?_⟩
  have ab:(!decide (An (k,z,ExprT.mk ek eo em ev ea,l)=0))=false→False:=fun h=>hk (by simpa using h)
  refine (aF (aI tT (aI (fun h0=>(Aa rfl ?_)) (fun h0=>(aF (aI (fun h1=>(Aa rfl ?_)) (fun h1=>(aF (aO ?_)))))))))
  ·show (stIn (k,z,ExprT.mk ek eo em ev ea,l),())=(0,())
   rw [hf]
  ·exact (ab h0).elim
  ·exact (ab h0).elim
def c21:Ctr:=fnC [dSt] rI (fun _=>True) (fun y=>(stOut y.1,()))
set_option maxHeartbeats 2000000 in
theorem Zi:GoodC Tryz.prog 87 c21:=by
 refine T2 _ _ _ _ ⟨_,Tryz.func87,rfl,rfl⟩ fun (⟨⟨k,z,⟨ek,eo,em,ev,ea⟩,l⟩,_⟩ : StT × Unit) _=>?_
 by_cases hk:An (k,z,ExprT.mk ek eo em ev ea,l)=0
 ·have h:=Ie (Cu hk)
  have hf:stOut (k,z,ExprT.mk ek eo em ev ea,l)=(Ao k).2.1:=by rw [stOut,if_pos hk]
  refine ⟨_,Af Lv (Af Lv Bf), ?_⟩
  have h1:(!decide (An (k,z,ExprT.mk ek eo em ev ea,l)=0))=true→((stOut (k,z,ExprT.mk ek eo em ev ea,l),()):Int × Unit)=(0,()):=fun h=>by rw [hk] at h;cases h
  have h2:∀ n:Int,(Ao k).2.1=n→((stOut (k,z,ExprT.mk ek eo em ev ea,l),()):Int × Unit)=(n,()):=fun n h=>by rw [hf,h]
  clear hk hf
  rcases h with rfl | rfl | rfl | rfl | rfl | rfl | rfl | rfl | rfl | rfl
  ·refine (aF (aI tT (aI (fun h0=>(Aa rfl (by first | exact h1 h0 | exact h2 _ rfl))) (fun h0=>(aA (Aa rfl (by first | exact h1 h0 | exact h2 _ rfl)))))))
  ·refine (aF (aI tT (aI (fun h0=>(Aa rfl (by first | exact h1 h0 | exact h2 _ rfl))) (fun h0=>(aA (Aa rfl (by first | exact h1 h0 | exact h2 _ rfl)))))))
  ·refine (aF (aI tT (aI (fun h0=>(Aa rfl (by first | exact h1 h0 | exact h2 _ rfl))) (fun h0=>(aA (Aa rfl (by first | exact h1 h0 | exact h2 _ rfl)))))))
  ·refine (aF (aI tT (aI (fun h0=>(Aa rfl (by first | exact h1 h0 | exact h2 _ rfl))) (fun h0=>(aA (Aa rfl (by first | exact h1 h0 | exact h2 _ rfl)))))))
  ·refine (aF (aI tT (aI (fun h0=>(Aa rfl (by first | exact h1 h0 | exact h2 _ rfl))) (fun h0=>(aA (Aa rfl (by first | exact h1 h0 | exact h2 _ rfl)))))))
  ·refine (aF (aI tT (aI (fun h0=>(Aa rfl (by first | exact h1 h0 | exact h2 _ rfl))) (fun h0=>(aA (Aa rfl (by first | exact h1 h0 | exact h2 _ rfl)))))))
  ·refine (aF (aI tT (aI (fun h0=>(Aa rfl (by first | exact h1 h0 | exact h2 _ rfl))) (fun h0=>(aA (Aa rfl (by first | exact h1 h0 | exact h2 _ rfl)))))))
  ·refine (aF (aI tT (aI (fun h0=>(Aa rfl (by first | exact h1 h0 | exact h2 _ rfl))) (fun h0=>(aA (Aa rfl (by first | exact h1 h0 | exact h2 _ rfl)))))))
  ·refine (aF (aI tT (aI (fun h0=>(Aa rfl (by first | exact h1 h0 | exact h2 _ rfl))) (fun h0=>(aA (Aa rfl (by first | exact h1 h0 | exact h2 _ rfl)))))))
  ·refine (aF (aI tT (aI (fun h0=>(Aa rfl (by first | exact h1 h0 | exact h2 _ rfl))) (fun h0=>(aA (Aa rfl (by first | exact h1 h0 | exact h2 _ rfl)))))))
 ·have hf:stOut (k,z,ExprT.mk ek eo em ev ea,l)=0:=by rw [stOut,if_neg hk]
  refine ⟨_,Af Gj (Af Gj (Af Gj Bf)), ?_⟩
  have ab:(!decide (An (k,z,ExprT.mk ek eo em ev ea,l)=0))=false→False:=fun h=>hk (by simpa using h)
  refine (aF (aI tT (aI (fun h0=>(Aa rfl ?_)) (fun h0=>(aF (aI (fun h1=>(Aa rfl ?_)) (fun h1=>(aF (aO ?_)))))))))
  ·show (stOut (k,z,ExprT.mk ek eo em ev ea,l),())=(0,())
   rw [hf]
  ·exact (ab h0).elim
  ·exact (ab h0).elim
def Fp (x:StT):Int × Int:=if x.1=1 then ((x.2.2.2.length:Int),0) else if x.1=6 then (x.2.1,0) else if x.1=8 then (1,2) else if x.1=9 then (3,1) else if x.1=4 then (0,x.2.1 - 1) else (0,0)
def c89:Ctr:=fnC [dSt] rII (fun y=>-1000≤y.1.2.1∧y.1.2.1≤1000) (fun y=>((Fp y.1).1,(Fp y.1).2,()))
theorem Al2:GoodC Tryz.prog 190 c89:=by
 refine Ap Ag 3 _ _ _ _ ⟨_,Tryz.func190,rfl,rfl⟩ fun (⟨⟨k,z,⟨ek,eo,em,ev,ea⟩,l⟩,_⟩ : StT × Unit) hn=>?_
 have hz:-1000≤z∧z≤1000:=hn
 clear hn
 have b1:∀ r,(Fp (k,z,ExprT.mk ek eo em ev ea,l))=r→(((Fp (k,z,ExprT.mk ek eo em ev ea,l)).1,(Fp (k,z,ExprT.mk ek eo em ev ea,l)).2,()):Int × Int × Unit)=(r.1,r.2,()):=fun r h=>by rw [h]
 refine (aF (aI (fun h0=>(fun h1=>(Aa rfl ?_))) (fun h0=>(aI (fun h2=>(Aa rfl ?_)) (fun h2=>(aI (fun h3=>(Aa rfl ?_)) (fun h3=>(aI (fun h4=>(Aa rfl ?_)) (fun h4=>(aI (fun h5=>(aF (aO (Aa rfl ?_)))) (fun h5=>(Aa rfl ?_))))))))))))
 ·exact b1 ((l.length:Int),0) (by rw [Fp,if_pos (of_decide_eq_true h0)])
 ·exact b1 (z,0) (by rw [Fp,if_neg (of_decide_eq_false h0),if_pos (of_decide_eq_true h2)])
 ·exact b1 (1,2) (by rw [Fp,if_neg (of_decide_eq_false h0),if_neg (of_decide_eq_false h2),if_pos (of_decide_eq_true h3)])
 ·exact b1 (3,1) (by rw [Fp,if_neg (of_decide_eq_false h0),if_neg (of_decide_eq_false h2),if_neg (of_decide_eq_false h3),if_pos (of_decide_eq_true h4)])
 ·exact b1 (0,z - 1) (by rw [Fp,if_neg (of_decide_eq_false h0),if_neg (of_decide_eq_false h2),if_neg (of_decide_eq_false h3),if_neg (of_decide_eq_false h4),if_pos (of_decide_eq_true h5)])
 ·exact b1 (0,0) (by rw [Fp,if_neg (of_decide_eq_false h0),if_neg (of_decide_eq_false h2),if_neg (of_decide_eq_false h3),if_neg (of_decide_eq_false h4),if_neg (of_decide_eq_false h5)])
def F4 (x:StT) (s:SST) (i:Int):Bool:=if x.1=8 then s.1.any (isI i) else if x.1=9 then decide (Ej .i64 (So .i64 s.2.1 i) 1=1) else s.2.2
def cxJ2:Ctx:=⟨C5,[(189,([],c25))]⟩
theorem Adb:Ah Tryz.prog cxJ2:=Ae Zf Ag
def c65:Ctr:=fnC [dSt,dSS,dI] rB (fun y=>0≤y.2.2.1∨y.1.1≠9) (fun y=>(F4 y.1 y.2.1 y.2.2.1,()))
theorem Af5:GoodC Tryz.prog 150 c65:=by
 refine Ap Adb 3 _ _ _ _ ⟨_,Tryz.func150,rfl,rfl⟩ fun (⟨⟨k,z,⟨ek,eo,em,ev,ea⟩,l⟩,⟨hd,c,en⟩,i,_⟩ : StT × SST × Int × Unit) hn=>?_
 have hz:0≤i∨k≠9:=hn
 clear hn
 have b1:∀ r,(F4 (k,z,ExprT.mk ek eo em ev ea,l) (hd,c,en) i)=r→((F4 (k,z,ExprT.mk ek eo em ev ea,l) (hd,c,en) i,()):Bool × Unit)=(r,()):=fun r h=>by rw [h]
 refine (aF (aI (fun h0=>(aI tT (Aa rfl ?_))) (fun h0=>(aI (fun h1=>(aO (Aa rfl ?_))) (fun h1=>(Aa rfl ?_))))))
 ·exact b1 _ (by rw [F4,if_pos (of_decide_eq_true h0)])
 ·exact b1 _ (by rw [F4,if_neg (of_decide_eq_false h0),if_pos (of_decide_eq_true h1)])
 ·exact b1 _ (by rw [F4,if_neg (of_decide_eq_false h0),if_neg (of_decide_eq_false h1)])
def Cw (l:List Int) (i:Nat):Bool:=bif bif decide (l.getD (i:Int).toNat (Ab tI) < 0) then true else decide (1 < l.getD (i:Int).toNat (Ab tI)) then true else (bif decide (0 < (i:Int)) then decide (l.getD (i:Int).toNat (Ab tI)≤l.getD ((i:Int) - 1).toNat (Ab tI)) else false)
def vc1 (x:StT) (s:SST):Bool:=bif bif decide (s.2.1 < 0) then true else decide ((Fp x).1 < s.2.1) then true else decide ((Fp x).2 < (s.1.length:Int))
def A0 (x:StT) (s:SST):Bool :=
 if vc1 x s=true then false
 else if s.1.any Ai=true then false
 else if x.1=4 then (bif !s.2.2 then true else decide ((s.1.length:Int)=0))
 else if x.1=8 then (if (List.range s.1.length).any (Cw s.1)=true then false else (s.2.2 == decide ((s.1.length:Int)=2)))
 else if x.1=9 then (bif (s.2.2 == decide (s.2.1=3)) then (bif decide (s.2.1 < 2) then true else decide ((s.1.length:Int)=0)) else false)
 else true
theorem V1 {x:StT} {s:SST} (h:vc1 x s=true):(A0 x s,())=(false,()):=by rw [A0,if_pos h]
theorem V2 {x:StT} {s:SST} (h:vc1 x s=false) (h2:s.1.any Ai=true):(A0 x s,())=(false,()):=by rw [A0,if_neg (by rw [h];simp),if_pos h2]
theorem V3 {x:StT} {s:SST} (h:vc1 x s=false) (h2:s.1.any Ai=false) (h3:decide (x.1=4)=true):(A0 x s,())=((bif !s.2.2 then true else decide ((s.1.length:Int)=0)),()):=by
 rw [A0,if_neg (by rw [h];simp),if_neg (by rw [h2];simp),if_pos (of_decide_eq_true h3)]
theorem V4 {x:StT} {s:SST} (h:vc1 x s=false) (h2:s.1.any Ai=false) (h3:decide (x.1=4)=false) (h4:decide (x.1=8)=true):A0 x s=(if (List.range s.1.length).any (Cw s.1)=true then false else (s.2.2 == decide ((s.1.length:Int)=2))):=by
 rw [A0,if_neg (by rw [h];simp),if_neg (by rw [h2];simp),if_neg (of_decide_eq_false h3),if_pos (of_decide_eq_true h4)]
theorem V5 {x:StT} {s:SST} (h:vc1 x s=false) (h2:s.1.any Ai=false) (h3:decide (x.1=4)=false) (h4:decide (x.1=8)=false) (h5:decide (x.1=9)=true):(A0 x s,())=((bif (s.2.2 == decide (s.2.1=3)) then (bif decide (s.2.1 < 2) then true else decide ((s.1.length:Int)=0)) else false),()):=by
 rw [A0,if_neg (by rw [h];simp),if_neg (by rw [h2];simp),if_neg (of_decide_eq_false h3),if_neg (of_decide_eq_false h4),if_pos (of_decide_eq_true h5)]
theorem V6 {x:StT} {s:SST} (h:vc1 x s=false) (h2:s.1.any Ai=false) (h3:decide (x.1=4)=false) (h4:decide (x.1=8)=false) (h5:decide (x.1=9)=false):(A0 x s,())=(true,()):=by
 rw [A0,if_neg (by rw [h];simp),if_neg (by rw [h2];simp),if_neg (of_decide_eq_false h3),if_neg (of_decide_eq_false h4),if_neg (of_decide_eq_false h5)]
def cxJ3:Ctx:=⟨C5,[(190,([],c89)),(98,([],c41))]⟩
theorem Adc:Ah Tryz.prog cxJ3:=Ae Al2 (Ae Ve Ag)
def c64:Ctr:=fnC [dSt,dSS] rB (fun y=>-1000≤y.1.2.1∧y.1.2.1≤1000) (fun y=>(A0 y.1 y.2.1,()))
set_option maxHeartbeats 2000000 in
theorem Al3:GoodC Tryz.prog 149 c64:=by
 refine Ap Adc 3 _ _ _ _ ⟨_,Tryz.func149,rfl,rfl⟩ fun (⟨⟨k,z,⟨ek,eo,em,ev,ea⟩,l⟩,⟨hd,c,en⟩,_⟩ : StT × SST × Unit) hn=>?_
 have hz:-1000≤z∧z≤1000:=hn
 clear hn
 refine (aF (aO (fun v0=>(aI (fun v1=>(Aa rfl (by first | exact V1 (by assumption) | exact V2 (by assumption) (by assumption) | exact V3 (by assumption) (by assumption) (by assumption) | exact V5 (by assumption) (by assumption) (by assumption) (by assumption) (by assumption) | exact V6 (by assumption) (by assumption) (by assumption) (by assumption) (by assumption)))) (fun v1=>(aI tT (aI (fun v2=>(Aa rfl (by first | exact V1 (by assumption) | exact V2 (by assumption) (by assumption) | exact V3 (by assumption) (by assumption) (by assumption) | exact V5 (by assumption) (by assumption) (by assumption) (by assumption) (by assumption) | exact V6 (by assumption) (by assumption) (by assumption) (by assumption) (by assumption)))) (fun v2=>(aI (fun v3=>(fun v4=>(Aa rfl (by first | exact V1 (by assumption) | exact V2 (by assumption) (by assumption) | exact V3 (by assumption) (by assumption) (by assumption) | exact V5 (by assumption) (by assumption) (by assumption) (by assumption) (by assumption) | exact V6 (by assumption) (by assumption) (by assumption) (by assumption) (by assumption))))) (fun v3=>(aI (fun v5=>(fun v6=>?_)) (fun v5=>(aI (fun v7=>(fun v8=>(Aa rfl (by first | exact V1 (by assumption) | exact V2 (by assumption) (by assumption) | exact V3 (by assumption) (by assumption) (by assumption) | exact V5 (by assumption) (by assumption) (by assumption) (by assumption) (by assumption) | exact V6 (by assumption) (by assumption) (by assumption) (by assumption) (by assumption))))) (fun v7=>(Aa rfl (by first | exact V1 (by assumption) | exact V2 (by assumption) (by assumption) | exact V3 (by assumption) (by assumption) (by assumption) | exact V5 (by assumption) (by assumption) (by assumption) (by assumption) (by assumption) | exact V6 (by assumption) (by assumption) (by assumption) (by assumption) (by assumption)))))))))))))))))
 have hv:=V4 (x:=(k,z,ExprT.mk ek eo em ev ea,l)) (s:=(hd,c,en)) (by assumption) (by assumption) (by assumption) (by assumption)
 refine ex4 _ (fun i:Nat=>⟨[.any,.any,.ptr 0 0,.ptr 1 0,.any,.any,.any,.any,.any,.any,.any,.any,.any,.any,.any,.any,.any,.any,.any,.any,.any,.any,.any,.any,.any,.any,.any,.any,.any,.any,.any,.any,.any,.ptr 0 0,.int .i64 k,.bool (decide (k=4)),.bool (decide (k=4)),.any,.any,.any,.any,.any,.any,.any,.any,.any,.bool (decide (k=8)),.bool (decide (k=8)),.ptr 1 0,.sl (.int .i64) hd,.int .i64 (↑hd.length:Int),.int .i64 (i:Int)]++nA 51,[.cells   [.int .i64 k,.int .i64 z,.int .i64 (ExprT.mk ek eo em ev ea).kind,     .int .i64 (ExprT.mk ek eo em ev ea).op,.str (ExprT.mk ek eo em ev ea).name,     .int .i64 (ExprT.mk ek eo em ev ea).value,.sl .expr (ExprT.mk ek eo em ev ea).args,     .sl (.int .i64) l],.cells [.sl (.int .i64) hd,.int .i64 c,.bool en]],2⟩) (fun i=>i≤hd.length∧(List.range i).any (Cw hd)=false) (fun i=>hd.length - i) (aI (eI (0) (eI ([some 0,some 1]) (aI ?_ (aB (aI (aI (aA (by rfl)) (aI (aA (by rfl)) tT)) (by rfl)))))) ?_)
 ·simp
 rintro i ⟨hi,ht⟩
 refine (aI (fun k0=>(aO (aI (fun k1=>(by intros;(try subst_vars);(try simp only [nB] at *);(try simp only [inK,big,lim,nL] at *);omega)) (aI (fun k2=>(by intros;(try subst_vars);(try simp only [nB] at *);(try simp only [inK,big,lim,nL] at *);omega)) (aI (fun k3=>(Aa rfl ?_)) (fun k3=>(aO ?_))))))) (fun k0=>(fun k4=>(Aa rfl ?_))))
 ·have hi':i < hd.length:=by simpa using k0
  have hk:Cw hd i=true:=k3
  have hr:(List.range hd.length).any (Cw hd)=true:=Ow hi' hk
  show (A0 (k,z,ExprT.mk ek eo em ev ea,l) (hd,c,en),())=(false,())
  rw [hv,if_pos hr]
 ·have hi':i < hd.length:=by simpa using k0
  have hk:Cw hd i=false:=k3
  refine eI (i+1) (eI ([some 0,some 1]) (aI ?_ (aI ?_ (aB (aI (aI (aA (by rfl)) (aI (aA (by rfl)) tT)) (by rfl))))))
  ·exact ⟨hi',Mp ht hk⟩
  ·show hd.length - (i+1) < hd.length - i
   omega
 ·have hi':¬ i < hd.length:=by simpa using k0
  have e1:i=hd.length:=by omega
  rw [e1] at ht
  show (A0 (k,z,ExprT.mk ek eo em ev ea,l) (hd,c,en),())=(en == decide ((hd.length:Int)=2),())
  rw [hv,if_neg (by show ¬ (List.range hd.length).any (Cw hd)=true;rw [ht];simp)]
theorem A1 {x:StT} (h:An x=0):0≤x.2.1∧x.2.1≤200∧(x.1=4→1≤x.2.1):=by
 have hk:=Cu h
 rw [Nz hk.1 hk.2] at h
 unfold Fo at h
 have h2:ck2 (Ao x.1) x=false:=by
  split at h
  ·exact absurd h (by decide)
  ·split at h
   ·exact absurd h (by decide)
   ·rename_i h2;simpa using h2
 unfold ck2 at h2
 have h3:¬ x.2.1 < (Ao x.1).2.2.1∧¬ (Ao x.1).2.2.2.1 < x.2.1:=by
  by_cases h1:x.2.1 < (Ao x.1).2.2.1
  ·rw [decide_eq_true h1] at h2;cases h2
  ·refine ⟨h1,fun h4=>?_⟩
   rw [decide_eq_false h1,decide_eq_true h4] at h2;cases h2
 rcases Ie hk with h | h | h | h | h | h | h | h | h | h <;> rw [h] at h3 <;> simp [Ao,hnd] at h3 <;> omega
theorem Bi {x:StT} {s:SST} (h:A0 x s=true):0≤s.2.1∧s.2.1≤(Fp x).1∧(s.1.length:Int)≤(Fp x).2:=by
 have h1:vc1 x s=false:=by
  cases hc:vc1 x s with
  | false=>rfl
  | true=>rw [A0,if_pos hc] at h;cases h
 unfold vc1 at h1
 by_cases a:s.2.1 < 0
 ·rw [decide_eq_true a] at h1;cases h1
 ·by_cases b:(Fp x).1 < s.2.1
  ·rw [decide_eq_false a,decide_eq_true b] at h1;cases h1
  ·by_cases c:(Fp x).2 < (s.1.length:Int)
   ·rw [decide_eq_false a,decide_eq_false b,decide_eq_true c] at h1;cases h1
   ·omega
def Ar (x:StT) (s:SST):List Int × Int :=
 if (!decide (An x=0))=true then ([],An x) else
 if (!A0 x s)=true then ([],1) else
 if (bif s.2.2 then true else decide (x.1=1))=true then ([],0) else
 if (bif decide (x.1=8) then F4 x s s.2.1 else false)=true then ([1 - s.2.1],0) else
 if (decide (x.1=8))=true then ([s.2.1],0) else
 if (bif decide (x.1=9) then (bif F4 x s 0 then true else decide (0 < (s.1.length:Int))) else false)=true then ([1],0) else
 ([0],0)
theorem ND0 {x:StT} {s:SST} (h0:(!decide (An x=0))=true):(Ar x s)=([],An x):=by rw [Ar,if_pos h0]
theorem Aov {x:StT} {s:SST} (h0:(!decide (An x=0))=true):((Ar x s).1,(Ar x s).2,())=((([],An x):List Int × Int).1,(([],An x):List Int × Int).2,()):=by rw [ND0 h0]
theorem ND1 {x:StT} {s:SST} (h0:(!decide (An x=0))=false) (h1:(!A0 x s)=true):(Ar x s)=([],1):=by rw [Ar,if_neg (by rw [h0];simp),if_pos h1]
theorem Aow {x:StT} {s:SST} (h0:(!decide (An x=0))=false) (h1:(!A0 x s)=true):((Ar x s).1,(Ar x s).2,())=((([],1):List Int × Int).1,(([],1):List Int × Int).2,()):=by rw [ND1 h0 h1]
theorem ND2 {x:StT} {s:SST} (h0:(!decide (An x=0))=false) (h1:(!A0 x s)=false) (h2:(bif s.2.2 then true else decide (x.1=1))=true):(Ar x s)=([],0):=by rw [Ar,if_neg (by rw [h0];simp),if_neg (by rw [h1];simp),if_pos h2]
theorem Aox {x:StT} {s:SST} (h0:(!decide (An x=0))=false) (h1:(!A0 x s)=false) (h2:(bif s.2.2 then true else decide (x.1=1))=true):((Ar x s).1,(Ar x s).2,())=((([],0):List Int × Int).1,(([],0):List Int × Int).2,()):=by rw [ND2 h0 h1 h2]
theorem ND3 {x:StT} {s:SST} (h0:(!decide (An x=0))=false) (h1:(!A0 x s)=false) (h2:(bif s.2.2 then true else decide (x.1=1))=false) (h3:(bif decide (x.1=8) then F4 x s s.2.1 else false)=true):(Ar x s)=([1 - s.2.1],0):=by rw [Ar,if_neg (by rw [h0];simp),if_neg (by rw [h1];simp),if_neg (by rw [h2];simp),if_pos h3]
theorem Aoy {x:StT} {s:SST} (h0:(!decide (An x=0))=false) (h1:(!A0 x s)=false) (h2:(bif s.2.2 then true else decide (x.1=1))=false) (h3:(bif decide (x.1=8) then F4 x s s.2.1 else false)=true):((Ar x s).1,(Ar x s).2,())=((([1 - s.2.1],0):List Int × Int).1,(([1 - s.2.1],0):List Int × Int).2,()):=by rw [ND3 h0 h1 h2 h3]
theorem ND4 {x:StT} {s:SST} (h0:(!decide (An x=0))=false) (h1:(!A0 x s)=false) (h2:(bif s.2.2 then true else decide (x.1=1))=false) (h3:(bif decide (x.1=8) then F4 x s s.2.1 else false)=false) (h4:(decide (x.1=8))=true):(Ar x s)=([s.2.1],0):=by rw [Ar,if_neg (by rw [h0];simp),if_neg (by rw [h1];simp),if_neg (by rw [h2];simp),if_neg (by rw [h3];simp),if_pos h4]
theorem Aoz {x:StT} {s:SST} (h0:(!decide (An x=0))=false) (h1:(!A0 x s)=false) (h2:(bif s.2.2 then true else decide (x.1=1))=false) (h3:(bif decide (x.1=8) then F4 x s s.2.1 else false)=false) (h4:(decide (x.1=8))=true):((Ar x s).1,(Ar x s).2,())=((([s.2.1],0):List Int × Int).1,(([s.2.1],0):List Int × Int).2,()):=by rw [ND4 h0 h1 h2 h3 h4]
theorem ND5 {x:StT} {s:SST} (h0:(!decide (An x=0))=false) (h1:(!A0 x s)=false) (h2:(bif s.2.2 then true else decide (x.1=1))=false) (h3:(bif decide (x.1=8) then F4 x s s.2.1 else false)=false) (h4:(decide (x.1=8))=false) (h5:(bif decide (x.1=9) then (bif F4 x s 0 then true else decide (0 < (s.1.length:Int))) else false)=true):(Ar x s)=([1],0):=by rw [Ar,if_neg (by rw [h0];simp),if_neg (by rw [h1];simp),if_neg (by rw [h2];simp),if_neg (by rw [h3];simp),if_neg (by rw [h4];simp),if_pos h5]
theorem Ao0 {x:StT} {s:SST} (h0:(!decide (An x=0))=false) (h1:(!A0 x s)=false) (h2:(bif s.2.2 then true else decide (x.1=1))=false) (h3:(bif decide (x.1=8) then F4 x s s.2.1 else false)=false) (h4:(decide (x.1=8))=false) (h5:(bif decide (x.1=9) then (bif F4 x s 0 then true else decide (0 < (s.1.length:Int))) else false)=true):((Ar x s).1,(Ar x s).2,())=((([1],0):List Int × Int).1,(([1],0):List Int × Int).2,()):=by rw [ND5 h0 h1 h2 h3 h4 h5]
theorem ND6 {x:StT} {s:SST} (h0:(!decide (An x=0))=false) (h1:(!A0 x s)=false) (h2:(bif s.2.2 then true else decide (x.1=1))=false) (h3:(bif decide (x.1=8) then F4 x s s.2.1 else false)=false) (h4:(decide (x.1=8))=false) (h5:(bif decide (x.1=9) then (bif F4 x s 0 then true else decide (0 < (s.1.length:Int))) else false)=false):(Ar x s)=([0],0):=by rw [Ar,if_neg (by rw [h0];simp),if_neg (by rw [h1];simp),if_neg (by rw [h2];simp),if_neg (by rw [h3];simp),if_neg (by rw [h4];simp),if_neg (by rw [h5];simp)]
theorem Ao1 {x:StT} {s:SST} (h0:(!decide (An x=0))=false) (h1:(!A0 x s)=false) (h2:(bif s.2.2 then true else decide (x.1=1))=false) (h3:(bif decide (x.1=8) then F4 x s s.2.1 else false)=false) (h4:(decide (x.1=8))=false) (h5:(bif decide (x.1=9) then (bif F4 x s 0 then true else decide (0 < (s.1.length:Int))) else false)=false):((Ar x s).1,(Ar x s).2,())=((([0],0):List Int × Int).1,(([0],0):List Int × Int).2,()):=by rw [ND6 h0 h1 h2 h3 h4 h5]
def cxK:Ctx:=⟨C5,[(85,([],c17)),(149,([],c64)),(150,([],c65))]⟩
theorem Af6:Ah Tryz.prog cxK:=Ae R6 (Ae Al3 (Ae Af5 Ag))
@[reducible] def Zj:List (Bool × Ty):=[(false,tIs),(false,tI)]
def c31:Ctr:=fnC [dSt,dSS] Zj (fun _=>True) (fun y=>((Ar y.1 y.2.1).1,(Ar y.1 y.2.1).2,()))
set_option maxHeartbeats 2000000 in
theorem R7:GoodC Tryz.prog 97 c31:=by
 refine Ap Af6 3 _ _ _ _ ⟨_,Tryz.func97,rfl,rfl⟩ fun (⟨⟨k,z,⟨ek,eo,em,ev,ea⟩,l⟩,⟨hd,c,en⟩,_⟩ : StT × SST × Unit) hn=>?_
 clear hn
 have f1:(!decide (An (k,z,ExprT.mk ek eo em ev ea,l)=0))=false→-1000≤z∧z≤1000:=fun h=>by
  have:=A1 (x:=(k,z,ExprT.mk ek eo em ev ea,l)) (by simpa using h)
  have h1:0≤z∧z≤200:=⟨this.1,this.2.1⟩
  omega
 have f2:(bif decide (k=8) then F4 (k,z,ExprT.mk ek eo em ev ea,l) (hd,c,en) c else false)=true→(!A0 (k,z,ExprT.mk ek eo em ev ea,l) (hd,c,en))=false→-9223372036854775808≤1 - c∧1 - c≤9223372036854775807:=fun h h'=>by
  have h1:k=8:=by
   by_cases h1:k=8
   ·exact h1
   ·rw [decide_eq_false h1] at h;cases h
  have h2:=Bi (x:=(k,z,ExprT.mk ek eo em ev ea,l)) (s:=(hd,c,en)) (by simpa using h')
  rw [h1] at h2
  have h3:0≤c∧c≤1:=⟨h2.1,h2.2.1⟩
  omega
 have f3:decide (k=8)=true→0≤c∨k≠9:=fun h=>.inr (by rw [of_decide_eq_true h];decide)
 refine (aF (aI tT (aI (fun h0=>(Aa rfl (by exact Aov (by assumption)))) (fun h0=>(aI (f1 h0) (aI (fun h1=>(Aa rfl (by exact Aow (by assumption) (by assumption)))) (fun h1=>(aI (fun h2=>(Aa rfl (by exact Aox (by assumption) (by assumption) (by assumption)))) (fun h2=>(aI (fun h3=>(f3 h3)) (aI (fun h4=>(aI (f2 h4 h1) (Aa rfl (by exact Aoy (by assumption) (by assumption) (by assumption) (by assumption))))) (fun h4=>(aI (fun h5=>(Aa rfl (by exact Aoz (by assumption) (by assumption) (by assumption) (by assumption) (by assumption)))) (fun h5=>(aI (fun h6=>(.inl (Int.le_refl 0))) (fun h7=>(aI (fun h8=>(Aa rfl (by exact Ao0 (by assumption) (by assumption) (by assumption) (by assumption) (by assumption) (by assumption)))) (fun h8=>(Aa rfl (by exact Ao1 (by assumption) (by assumption) (by assumption) (by assumption) (by assumption) (by assumption)))))))))))))))))))))
end Go.Proofs.YtckpldpombdkgaaGreat
