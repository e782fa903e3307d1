/- Pipelines. -/
import Derived.Test.YtpabcdbaffjcdaaGreatJZ3
set_option linter.unusedSimpArgs false
set_option linter.unusedVariables false
set_option maxRecDepth 100000
namespace Go.Proofs.YtpabcdbaffjcdaaGreat
open Go.Sx
def Lf(ns:List ByteArray)(kd:Int)(e:ExprT):Int:=
 if Bv e≠0 then Bv e else if(Fh e).any (λs=>!ns.any (isS s))=true then 5
 else if(Bg e (B6 ns [0,0])).2≠0\/(Bg e (B6 ns [0,0])).1≠kd then 15 else 0
def As7(e:ExprT):Bool:=bif bif bif bif decide (e.kind=0)then decide (e.op=0)else false then decide (e.name=⟨#[]⟩)else false then decide (e.value=0)else false then decide ((e.args.length:Int)=0)else false
def ck1(h:HdT)(x:StT):Bool:=bif bif bif decide (h.2.2.2.1=0)then !decide (x.2.1=0)else false then true else(bif decide (h.2.2.2.2.1=0)then !As7 x.2.2.1 else false)then true else(bif !decide (x.1=1)then decide (0<(x.2.2.2.length:Int))else false)
def ck2(h:HdT)(x:StT):Bool:=bif decide (x.2.1<h.2.2.1)then true else decide (h.2.2.2.1<x.2.1)
def ck3(x:StT):Bool:=decide (200<(x.2.2.2.length:Int))
def Gb(h:HdT)(x:StT):Int:=
 if ck1 h x=true then 1 else if ck2 h x=true then 2 else if ck3 x=true then 4 else if x.2.2.2.any Aj=true then 2
 else if h.2.2.2.2.1=0 then 0 else Lf h.2.2.2.2.2.1 h.2.2.2.2.1 x.2.2.1
def Al(x:StT):Int:=if Oa x.1=true then Gb (Ap x.1) x else 8
theorem Mc{x:StT}(h1:1<=x.1)(h2:x.1<=10):Al x=Gb (Ap x.1) x:=by
 unfold Al Oa;rw[bE (show ¬x.1<1 by omega),bE (show ¬10<x.1 by omega)];rfl
theorem Wm{x:StT}(h:¬(1<=x.1/\x.1<=10)):Al x=8:=by
 unfold Al;rw[aL];unfold Oa;by_cases h1:x.1<1
 ·rw[aX h1];simp
 ·rw[aX (show 10<x.1 by omega)];cases decide (x.1<1)<;>simp
theorem K1{h:HdT}{x:StT}(h1:ck1 h x=true):(Gb h x,())=(1,()):=by rw[Gb,aP h1]
theorem K2{h:HdT}{x:StT}(h1:ck1 h x=false)(h2:ck2 h x=true):(Gb h x,())=(2,()):=by rw[Gb,aL (by rw[h1];simp),aP h2]
theorem K3{h:HdT}{x:StT}(h1:ck1 h x=false)(h2:ck2 h x=false)(h3:ck3 x=true):(Gb h x,())=(4,()):=by rw[Gb,aL (by rw[h1];simp),aL (by rw[h2];simp),aP h3]
theorem K4{h:HdT}{x:StT}(h1:ck1 h x=false)(h2:ck2 h x=false)(h3:ck3 x=false)(h4:x.2.2.2.any Aj=true):(Gb h x,())=(2,()):=by
 rw[Gb,aL (by rw[h1];simp),aL (by rw[h2];simp),aL (by rw[h3];simp),aP h4]
theorem K5{h:HdT}{x:StT}(h1:ck1 h x=false)(h2:ck2 h x=false)(h3:ck3 x=false)(h4:x.2.2.2.any Aj=false)(h5:h.2.2.2.2.1=0):(Gb h x,())=(0,()):=by
 rw[Gb,aL (by rw[h1];simp),aL (by rw[h2];simp),aL (by rw[h3];simp),aL (by rw[h4];simp),aP h5]
theorem K6{h:HdT}{x:StT}(h1:ck1 h x=false)(h2:ck2 h x=false)(h3:ck3 x=false)(h4:x.2.2.2.any Aj=false)(h5:h.2.2.2.2.1≠0):Gb h x=Lf h.2.2.2.2.2.1 h.2.2.2.2.1 x.2.2.1:=by
 rw[Gb,aL (by rw[h1];simp),aL (by rw[h2];simp),aL (by rw[h3];simp),aL (by rw[h4];simp),aL h5]
theorem orX{a b c:Int}(h:(bif !decide (a=0)then true else !decide (b=c))=true):a≠0\/b≠c:=by
 by_cases ha:a=0
 ·rw[aX ha]at h;exact .inr (by simpa using h)
 ·exact .inl ha
theorem orY{a b c:Int}(h:(bif !decide (a=0)then true else !decide (b=c))=false):¬(a≠0\/b≠c):=by
 by_cases ha:a=0
 ·rw[aX ha]at h;have hb:b=c:=by simpa using h
  rintro(h1|h1)
  ·exact h1 ha
  ·exact h1 hb
 ·rw[bE ha]at h;cases h
def cxI1:Ctx:=⟨Dk,[(87,([],c79)),(88,([],c80)),(89,([],c81)),(90,([],c82)),(91,([],c83)),(40,([],c41)),(37,([],c40k))]⟩
theorem Ql:Ai Tryz.prog cxI1:=Ae Ac3 (Ae Aq0 (Ae Aq1 (Ae Akj (Ae Ac7 (Ae Xz (Ae Pi Ah))))))
def cxI0:Ctx:=⟨Dk,[(40,([],c41))]⟩
theorem M3:Ai Tryz.prog cxI0:=Ae Xz Ah
def c17:Ctr:=fnC [dSt] rI (λ_=>True) (λy=>(Al y.1,()))
set_option maxHeartbeats 8000000 in
theorem Uf:GoodC Tryz.prog 26 c17:=by
 refine Wl _ _ _ _ ⟨_,Tryz.func26,rfl,rfl⟩ λ(⟨⟨k,z,e,l⟩,_⟩:StT×Unit) _=>?_
 by_cases hk:1<=k/\k<=10
 ·have hst:Al (k,z,e,l)=Gb (Ap k) (k,z,e,l):=Mc hk.1 hk.2;show ∃call:CallSem,Bb Tryz.prog call/\call 26 (G4 [dSt] ((k,z,e,l),())) [] 0 (H0 ⟨none,none,[],Fu rI (Al (k,z,e,l),())⟩);rw[hst];clear hst;have h:k=1\/k=2\/k=3\/k=4\/k=5\/k=6\/k=7\/k=8\/k=9\/k=10:=by omega
  clear hk;refine⟨_,Af Ql (Af Ql (Af Ql Bl)), ?_⟩;rcases h with rfl|rfl|rfl|rfl|rfl|rfl|rfl|rfl|rfl|rfl
  ·refine(aF (aA (aI (λh0=>nG h0) (λh0=>(λh1=>(λh2=>(aI (λh3=>(Aa rfl (by exact K1 ‹_›))) (λh3=>(aI (λh4=>(Aa rfl (by exact K2 ‹_› ‹_›))) (λh4=>(λh5=>(aI (λh6=>(Aa rfl (by exact K3 ‹_› ‹_› ‹_›))) (λh6=>(aI tT (aI (λh7=>(Aa rfl (by exact K4 ‹_› ‹_› ‹_› ‹_›))) (λh7=>(aI (λh8=>(Aa rfl (by exact K5 ‹_› ‹_› ‹_› ‹_› rfl))) (λh8=>False.elim (aY (Eq.symm (Eq.trans (by kernel_rfl) h8)))))))))))))))))))))
  ·refine(aF (aA (aI (λh0=>nG h0) (λh0=>(λh1=>(λh2=>(aI (λh3=>(Aa rfl (by exact K1 ‹_›))) (λh3=>(aI (λh4=>(Aa rfl (by exact K2 ‹_› ‹_›))) (λh4=>(λh5=>(aI (λh6=>(Aa rfl (by exact K3 ‹_› ‹_› ‹_›))) (λh6=>(aI tT (aI (λh7=>(Aa rfl (by exact K4 ‹_› ‹_› ‹_› ‹_›))) (λh7=>(aI (λh8=>nG h8) (λh8=>(aF (aI tT (aI (λh9=>(Aa rfl ?_)) (λh9=>(aI tT (λ(h10:List ByteArray×PUnit)=>(λh11=>(λh12=>?_))))))))))))))))))))))))))
   ·have q:Gb (Ap 2) (2,z,e,l)=Lf nmX 1 e:=K6 ‹_› ‹_› ‹_› ‹_› (by decide);have hx:Bv e≠0:=by have h:=‹(!decide (Bv (ExprT.mk e.kind e.op e.name e.value e.args)=0))=true›;simp only[eta]at h;simpa using h
    simp only[eta];show(Gb (Ap 2) (2,z,e,l),())=(Bv e,());rw[q,Lf,aP hx]
   have q:Gb (Ap 2) (2,z,e,l)=Lf nmX 1 e:=K6 ‹_› ‹_› ‹_› ‹_› (by decide);have hx:¬Bv e≠0:=by have h:=‹(!decide (Bv (ExprT.mk e.kind e.op e.name e.value e.args)=0))=false›;simp only[eta]at h;simpa using h
   have en:h10.1=Fh e:=by rw[h11];simp only[eta]
   rw[q,Lf,aL hx,<-en];clear q;refine ex4 _ (λi:Nat=>⟨[.any,.agg   [.int .i64 e.kind,.int .i64 e.op,.str e.name,.int .i64 e.value,.sl .expr e.args],.ptr 2 0,.ptr 3 0,.any,.any,.any,.any,.any,.any,.any,.any,.any,.any,.any,.agg   [.int .i64 e.kind,.int .i64 e.op,.str e.name,.int .i64 e.value,.sl .expr e.args],.sl .str h10.1,.int .i64 (↑h10.1.length:Int),.int .i64 (i:Int)]++nA 26,[.cells   [.int .i64 2,.int .i64 z,.int .i64 e.kind,.int .i64 e.op,.str e.name,     .int .i64 e.value,.sl .expr e.args,.sl (.int .i64) l],.cells   [.int .i64 1,.int .i64 1,.int .i64 0,.int .i64 0,.int .i64 1,     .sl .str [{ data:=#[120] }],.fn (Fn.func 107) [] [],.fn (Fn.func 105) [] []],.cells   [.int .i64 1,.int .i64 1,.int .i64 0,.int .i64 0,.int .i64 1,     .sl .str [{ data:=#[120] }],.fn (Fn.func 107) [] [],.fn (Fn.func 105) [] []],.cells   [.int .i64 e.kind,.int .i64 e.op,.str e.name,.int .i64 e.value,.sl .expr e.args]],4⟩) (λi=>i<=h10.1.length/\(h10.1.take i).any (λs=>!List.any nmX (isS s))=false) (λi=>h10.1.length-i) (aI (eI (0) (eI ([some 0,some 1,some 2,some 3]) (aI ?_ (aB (aI (aJ tT) (by rfl)))))) ?_)
   ·exact⟨aV _,rfl⟩
   rintro i ⟨hi,ht⟩;refine(aI (λk0=>(aO (aI tT (aI (λk1=>(Aa rfl ?_)) (λk1=>(aO ?_)))))) (λk0=>(aF (aE (aI tT (aI (λk2=>(Aa rfl ?_)) (λk2=>(Aa rfl ?_))))))))
   ·have hi':i<h10.1.length:=by simpa using k0
    have hk:(λs=>!List.any nmX (isS s)) (h10.1.getD i (Ab .str))=true:=k1;rw[aP (O7 hi' hk)]
   ·have hi':i<h10.1.length:=by simpa using k0
    have hk:(λs=>!List.any nmX (isS s)) (h10.1.getD i (Ab .str))=false:=k1;refine eI (i+1) (eI ([some 0,some 1,some 2,some 3]) (aI ?_ (aI ?_ (aB (aI (aJ tT) (by rfl))))))
    ·exact⟨hi',Mb hi' ht hk⟩
    ·show h10.1.length-(i+1)<h10.1.length-i;omega
   ·have hi':¬i<h10.1.length:=by simpa using k0
    have hn:¬(h10.1.any λs=>!List.any nmX (isS s))=true:=by rw[Id hi' ht];simp
    have hc:(Bg e (B6 nmX [0,0])).2≠0\/(Bg e (B6 nmX [0,0])).1≠1:=orX (by have h:=k2;simp only[eta]at h;exact h);rw[aL hn,aP hc]
   ·have hi':¬i<h10.1.length:=by simpa using k0
    have hn:¬(h10.1.any λs=>!List.any nmX (isS s))=true:=by rw[Id hi' ht];simp
    have hc:¬((Bg e (B6 nmX [0,0])).2≠0\/(Bg e (B6 nmX [0,0])).1≠1):=orY (by have h:=k2;simp only[eta]at h;exact h);rw[aL hn,aL hc]
  ·refine(aF (aA (aI (λh0=>nG h0) (λh0=>(λh1=>(λh2=>(aI (λh3=>(Aa rfl (by exact K1 ‹_›))) (λh3=>(aI (λh4=>(Aa rfl (by exact K2 ‹_› ‹_›))) (λh4=>(λh5=>(aI (λh6=>(Aa rfl (by exact K3 ‹_› ‹_› ‹_›))) (λh6=>(aI tT (aI (λh7=>(Aa rfl (by exact K4 ‹_› ‹_› ‹_› ‹_›))) (λh7=>(aI (λh8=>nG h8) (λh8=>(aF (aI tT (aI (λh9=>(Aa rfl ?_)) (λh9=>(aI tT (λ(h10:List ByteArray×PUnit)=>(λh11=>(λh12=>?_))))))))))))))))))))))))))
   ·have q:Gb (Ap 3) (3,z,e,l)=Lf nmX 2 e:=K6 ‹_› ‹_› ‹_› ‹_› (by decide);have hx:Bv e≠0:=by have h:=‹(!decide (Bv (ExprT.mk e.kind e.op e.name e.value e.args)=0))=true›;simp only[eta]at h;simpa using h
    simp only[eta];show(Gb (Ap 3) (3,z,e,l),())=(Bv e,());rw[q,Lf,aP hx]
   have q:Gb (Ap 3) (3,z,e,l)=Lf nmX 2 e:=K6 ‹_› ‹_› ‹_› ‹_› (by decide);have hx:¬Bv e≠0:=by have h:=‹(!decide (Bv (ExprT.mk e.kind e.op e.name e.value e.args)=0))=false›;simp only[eta]at h;simpa using h
   have en:h10.1=Fh e:=by rw[h11];simp only[eta]
   rw[q,Lf,aL hx,<-en];clear q;refine ex4 _ (λi:Nat=>⟨[.any,.agg   [.int .i64 e.kind,.int .i64 e.op,.str e.name,.int .i64 e.value,.sl .expr e.args],.ptr 2 0,.ptr 3 0,.any,.any,.any,.any,.any,.any,.any,.any,.any,.any,.any,.agg   [.int .i64 e.kind,.int .i64 e.op,.str e.name,.int .i64 e.value,.sl .expr e.args],.sl .str h10.1,.int .i64 (↑h10.1.length:Int),.int .i64 (i:Int)]++nA 26,[.cells   [.int .i64 3,.int .i64 z,.int .i64 e.kind,.int .i64 e.op,.str e.name,     .int .i64 e.value,.sl .expr e.args,.sl (.int .i64) l],.cells   [.int .i64 1,.int .i64 1,.int .i64 0,.int .i64 0,.int .i64 2,     .sl .str [{ data:=#[120] }],.fn (Fn.func 108) [] [],.fn (Fn.func 105) [] []],.cells   [.int .i64 1,.int .i64 1,.int .i64 0,.int .i64 0,.int .i64 2,     .sl .str [{ data:=#[120] }],.fn (Fn.func 108) [] [],.fn (Fn.func 105) [] []],.cells   [.int .i64 e.kind,.int .i64 e.op,.str e.name,.int .i64 e.value,.sl .expr e.args]],4⟩) (λi=>i<=h10.1.length/\(h10.1.take i).any (λs=>!List.any nmX (isS s))=false) (λi=>h10.1.length-i) (aI (eI (0) (eI ([some 0,some 1,some 2,some 3]) (aI ?_ (aB (aI (aJ tT) (by rfl)))))) ?_)
   ·exact⟨aV _,rfl⟩
   rintro i ⟨hi,ht⟩;refine(aI (λk0=>(aO (aI tT (aI (λk1=>(Aa rfl ?_)) (λk1=>(aO ?_)))))) (λk0=>(aF (aE (aI tT (aI (λk2=>(Aa rfl ?_)) (λk2=>(Aa rfl ?_))))))))
   ·have hi':i<h10.1.length:=by simpa using k0
    have hk:(λs=>!List.any nmX (isS s)) (h10.1.getD i (Ab .str))=true:=k1;rw[aP (O7 hi' hk)]
   ·have hi':i<h10.1.length:=by simpa using k0
    have hk:(λs=>!List.any nmX (isS s)) (h10.1.getD i (Ab .str))=false:=k1;refine eI (i+1) (eI ([some 0,some 1,some 2,some 3]) (aI ?_ (aI ?_ (aB (aI (aJ tT) (by rfl))))))
    ·exact⟨hi',Mb hi' ht hk⟩
    ·show h10.1.length-(i+1)<h10.1.length-i;omega
   ·have hi':¬i<h10.1.length:=by simpa using k0
    have hn:¬(h10.1.any λs=>!List.any nmX (isS s))=true:=by rw[Id hi' ht];simp
    have hc:(Bg e (B6 nmX [0,0])).2≠0\/(Bg e (B6 nmX [0,0])).1≠2:=orX (by have h:=k2;simp only[eta]at h;exact h);rw[aL hn,aP hc]
   ·have hi':¬i<h10.1.length:=by simpa using k0
    have hn:¬(h10.1.any λs=>!List.any nmX (isS s))=true:=by rw[Id hi' ht];simp
    have hc:¬((Bg e (B6 nmX [0,0])).2≠0\/(Bg e (B6 nmX [0,0])).1≠2):=orY (by have h:=k2;simp only[eta]at h;exact h);rw[aL hn,aL hc]
  ·refine(aF (aA (aI (λh0=>nG h0) (λh0=>(λh1=>(λh2=>(aI (λh3=>(Aa rfl (by exact K1 ‹_›))) (λh3=>(aI (λh4=>(Aa rfl (by exact K2 ‹_› ‹_›))) (λh4=>(λh5=>(aI (λh6=>(Aa rfl (by exact K3 ‹_› ‹_› ‹_›))) (λh6=>(aI tT (aI (λh7=>(Aa rfl (by exact K4 ‹_› ‹_› ‹_› ‹_›))) (λh7=>(aI (λh8=>(Aa rfl (by exact K5 ‹_› ‹_› ‹_› ‹_› rfl))) (λh8=>False.elim (aY (Eq.symm (Eq.trans (by kernel_rfl) h8)))))))))))))))))))))
  ·refine(aF (aA (aI (λh0=>nG h0) (λh0=>(λh1=>(λh2=>(aI (λh3=>(Aa rfl (by exact K1 ‹_›))) (λh3=>(aI (λh4=>(Aa rfl (by exact K2 ‹_› ‹_›))) (λh4=>(λh5=>(aI (λh6=>(Aa rfl (by exact K3 ‹_› ‹_› ‹_›))) (λh6=>(aI tT (aI (λh7=>(Aa rfl (by exact K4 ‹_› ‹_› ‹_› ‹_›))) (λh7=>(aI (λh8=>(Aa rfl (by exact K5 ‹_› ‹_› ‹_› ‹_› rfl))) (λh8=>False.elim (aY (Eq.symm (Eq.trans (by kernel_rfl) h8)))))))))))))))))))))
  ·refine(aF (aA (aI (λh0=>nG h0) (λh0=>(λh1=>(λh2=>(aI (λh3=>(Aa rfl (by exact K1 ‹_›))) (λh3=>(aI (λh4=>(Aa rfl (by exact K2 ‹_› ‹_›))) (λh4=>(λh5=>(aI (λh6=>(Aa rfl (by exact K3 ‹_› ‹_› ‹_›))) (λh6=>(aI tT (aI (λh7=>(Aa rfl (by exact K4 ‹_› ‹_› ‹_› ‹_›))) (λh7=>(aI (λh8=>(Aa rfl (by exact K5 ‹_› ‹_› ‹_› ‹_› rfl))) (λh8=>False.elim (aY (Eq.symm (Eq.trans (by kernel_rfl) h8)))))))))))))))))))))
  ·refine(aF (aA (aI (λh0=>nG h0) (λh0=>(λh1=>(λh2=>(aI (λh3=>(Aa rfl (by exact K1 ‹_›))) (λh3=>(aI (λh4=>(Aa rfl (by exact K2 ‹_› ‹_›))) (λh4=>(λh5=>(aI (λh6=>(Aa rfl (by exact K3 ‹_› ‹_› ‹_›))) (λh6=>(aI tT (aI (λh7=>(Aa rfl (by exact K4 ‹_› ‹_› ‹_› ‹_›))) (λh7=>(aI (λh8=>nG h8) (λh8=>(aF (aI tT (aI (λh9=>(Aa rfl ?_)) (λh9=>(aI tT (λ(h10:List ByteArray×PUnit)=>(λh11=>(λh12=>?_))))))))))))))))))))))))))
   ·have q:Gb (Ap 7) (7,z,e,l)=Lf nmX 2 e:=K6 ‹_› ‹_› ‹_› ‹_› (by decide);have hx:Bv e≠0:=by have h:=‹(!decide (Bv (ExprT.mk e.kind e.op e.name e.value e.args)=0))=true›;simp only[eta]at h;simpa using h
    simp only[eta];show(Gb (Ap 7) (7,z,e,l),())=(Bv e,());rw[q,Lf,aP hx]
   have q:Gb (Ap 7) (7,z,e,l)=Lf nmX 2 e:=K6 ‹_› ‹_› ‹_› ‹_› (by decide);have hx:¬Bv e≠0:=by have h:=‹(!decide (Bv (ExprT.mk e.kind e.op e.name e.value e.args)=0))=false›;simp only[eta]at h;simpa using h
   have en:h10.1=Fh e:=by rw[h11];simp only[eta]
   rw[q,Lf,aL hx,<-en];clear q;refine ex4 _ (λi:Nat=>⟨[.any,.agg   [.int .i64 e.kind,.int .i64 e.op,.str e.name,.int .i64 e.value,.sl .expr e.args],.ptr 2 0,.ptr 3 0,.any,.any,.any,.any,.any,.any,.any,.any,.any,.any,.any,.agg   [.int .i64 e.kind,.int .i64 e.op,.str e.name,.int .i64 e.value,.sl .expr e.args],.sl .str h10.1,.int .i64 (↑h10.1.length:Int),.int .i64 (i:Int)]++nA 26,[.cells   [.int .i64 7,.int .i64 z,.int .i64 e.kind,.int .i64 e.op,.str e.name,     .int .i64 e.value,.sl .expr e.args,.sl (.int .i64) l],.cells   [.int .i64 1,.int .i64 2,.int .i64 0,.int .i64 0,.int .i64 2,     .sl .str [{ data:=#[120] }],.fn (Fn.func 114) [] [],.fn (Fn.func 105) [] []],.cells   [.int .i64 1,.int .i64 2,.int .i64 0,.int .i64 0,.int .i64 2,     .sl .str [{ data:=#[120] }],.fn (Fn.func 114) [] [],.fn (Fn.func 105) [] []],.cells   [.int .i64 e.kind,.int .i64 e.op,.str e.name,.int .i64 e.value,.sl .expr e.args]],4⟩) (λi=>i<=h10.1.length/\(h10.1.take i).any (λs=>!List.any nmX (isS s))=false) (λi=>h10.1.length-i) (aI (eI (0) (eI ([some 0,some 1,some 2,some 3]) (aI ?_ (aB (aI (aJ tT) (by rfl)))))) ?_)
   ·exact⟨aV _,rfl⟩
   rintro i ⟨hi,ht⟩;refine(aI (λk0=>(aO (aI tT (aI (λk1=>(Aa rfl ?_)) (λk1=>(aO ?_)))))) (λk0=>(aF (aE (aI tT (aI (λk2=>(Aa rfl ?_)) (λk2=>(Aa rfl ?_))))))))
   ·have hi':i<h10.1.length:=by simpa using k0
    have hk:(λs=>!List.any nmX (isS s)) (h10.1.getD i (Ab .str))=true:=k1;rw[aP (O7 hi' hk)]
   ·have hi':i<h10.1.length:=by simpa using k0
    have hk:(λs=>!List.any nmX (isS s)) (h10.1.getD i (Ab .str))=false:=k1;refine eI (i+1) (eI ([some 0,some 1,some 2,some 3]) (aI ?_ (aI ?_ (aB (aI (aJ tT) (by rfl))))))
    ·exact⟨hi',Mb hi' ht hk⟩
    ·show h10.1.length-(i+1)<h10.1.length-i;omega
   ·have hi':¬i<h10.1.length:=by simpa using k0
    have hn:¬(h10.1.any λs=>!List.any nmX (isS s))=true:=by rw[Id hi' ht];simp
    have hc:(Bg e (B6 nmX [0,0])).2≠0\/(Bg e (B6 nmX [0,0])).1≠2:=orX (by have h:=k2;simp only[eta]at h;exact h);rw[aL hn,aP hc]
   ·have hi':¬i<h10.1.length:=by simpa using k0
    have hn:¬(h10.1.any λs=>!List.any nmX (isS s))=true:=by rw[Id hi' ht];simp
    have hc:¬((Bg e (B6 nmX [0,0])).2≠0\/(Bg e (B6 nmX [0,0])).1≠2):=orY (by have h:=k2;simp only[eta]at h;exact h);rw[aL hn,aL hc]
  ·refine(aF (aA (aI (λh0=>nG h0) (λh0=>(λh1=>(λh2=>(aI (λh3=>(Aa rfl (by exact K1 ‹_›))) (λh3=>(aI (λh4=>(Aa rfl (by exact K2 ‹_› ‹_›))) (λh4=>(λh5=>(aI (λh6=>(Aa rfl (by exact K3 ‹_› ‹_› ‹_›))) (λh6=>(aI tT (aI (λh7=>(Aa rfl (by exact K4 ‹_› ‹_› ‹_› ‹_›))) (λh7=>(aI (λh8=>(Aa rfl (by exact K5 ‹_› ‹_› ‹_› ‹_› rfl))) (λh8=>False.elim (aY (Eq.symm (Eq.trans (by kernel_rfl) h8)))))))))))))))))))))
  ·refine(aF (aA (aI (λh0=>nG h0) (λh0=>(λh1=>(λh2=>(aI (λh3=>(Aa rfl (by exact K1 ‹_›))) (λh3=>(aI (λh4=>(Aa rfl (by exact K2 ‹_› ‹_›))) (λh4=>(λh5=>(aI (λh6=>(Aa rfl (by exact K3 ‹_› ‹_› ‹_›))) (λh6=>(aI tT (aI (λh7=>(Aa rfl (by exact K4 ‹_› ‹_› ‹_› ‹_›))) (λh7=>(aI (λh8=>nG h8) (λh8=>(aF (aI tT (aI (λh9=>(Aa rfl ?_)) (λh9=>(aI tT (λ(h10:List ByteArray×PUnit)=>(λh11=>(λh12=>?_))))))))))))))))))))))))))
   ·have q:Gb (Ap 9) (9,z,e,l)=Lf D8 1 e:=K6 ‹_› ‹_› ‹_› ‹_› (by decide);have hx:Bv e≠0:=by have h:=‹(!decide (Bv (ExprT.mk e.kind e.op e.name e.value e.args)=0))=true›;simp only[eta]at h;simpa using h
    simp only[eta];show(Gb (Ap 9) (9,z,e,l),())=(Bv e,());rw[q,Lf,aP hx]
   have q:Gb (Ap 9) (9,z,e,l)=Lf D8 1 e:=K6 ‹_› ‹_› ‹_› ‹_› (by decide);have hx:¬Bv e≠0:=by have h:=‹(!decide (Bv (ExprT.mk e.kind e.op e.name e.value e.args)=0))=false›;simp only[eta]at h;simpa using h
   have en:h10.1=Fh e:=by rw[h11];simp only[eta]
   rw[q,Lf,aL hx,<-en];clear q;refine ex4 _ (λi:Nat=>⟨[.any,.agg   [.int .i64 e.kind,.int .i64 e.op,.str e.name,.int .i64 e.value,.sl .expr e.args],.ptr 2 0,.ptr 3 0,.any,.any,.any,.any,.any,.any,.any,.any,.any,.any,.any,.agg   [.int .i64 e.kind,.int .i64 e.op,.str e.name,.int .i64 e.value,.sl .expr e.args],.sl .str h10.1,.int .i64 (↑h10.1.length:Int),.int .i64 (i:Int)]++nA 26,[.cells   [.int .i64 9,.int .i64 z,.int .i64 e.kind,.int .i64 e.op,.str e.name,     .int .i64 e.value,.sl .expr e.args,.sl (.int .i64) l],.cells   [.int .i64 2,.int .i64 1,.int .i64 0,.int .i64 0,.int .i64 1,     .sl .str [{ data:=#[120] },{ data:=#[121] }],.fn (Fn.func 117) [] [],.fn (Fn.func 118) [] []],.cells   [.int .i64 2,.int .i64 1,.int .i64 0,.int .i64 0,.int .i64 1,     .sl .str [{ data:=#[120] },{ data:=#[121] }],.fn (Fn.func 117) [] [],.fn (Fn.func 118) [] []],.cells   [.int .i64 e.kind,.int .i64 e.op,.str e.name,.int .i64 e.value,.sl .expr e.args]],4⟩) (λi=>i<=h10.1.length/\(h10.1.take i).any (λs=>!List.any D8 (isS s))=false) (λi=>h10.1.length-i) (aI (eI (0) (eI ([some 0,some 1,some 2,some 3]) (aI ?_ (aB (aI (aJ tT) (by rfl)))))) ?_)
   ·exact⟨aV _,rfl⟩
   rintro i ⟨hi,ht⟩;refine(aI (λk0=>(aO (aI tT (aI (λk1=>(Aa rfl ?_)) (λk1=>(aO ?_)))))) (λk0=>(aF (aE (aI tT (aI (λk2=>(Aa rfl ?_)) (λk2=>(Aa rfl ?_))))))))
   ·have hi':i<h10.1.length:=by simpa using k0
    have hk:(λs=>!List.any D8 (isS s)) (h10.1.getD i (Ab .str))=true:=k1;rw[aP (O7 hi' hk)]
   ·have hi':i<h10.1.length:=by simpa using k0
    have hk:(λs=>!List.any D8 (isS s)) (h10.1.getD i (Ab .str))=false:=k1;refine eI (i+1) (eI ([some 0,some 1,some 2,some 3]) (aI ?_ (aI ?_ (aB (aI (aJ tT) (by rfl))))))
    ·exact⟨hi',Mb hi' ht hk⟩
    ·show h10.1.length-(i+1)<h10.1.length-i;omega
   ·have hi':¬i<h10.1.length:=by simpa using k0
    have hn:¬(h10.1.any λs=>!List.any D8 (isS s))=true:=by rw[Id hi' ht];simp
    have hc:(Bg e (B6 D8 [0,0])).2≠0\/(Bg e (B6 D8 [0,0])).1≠1:=orX (by have h:=k2;simp only[eta]at h;exact h);rw[aL hn,aP hc]
   ·have hi':¬i<h10.1.length:=by simpa using k0
    have hn:¬(h10.1.any λs=>!List.any D8 (isS s))=true:=by rw[Id hi' ht];simp
    have hc:¬((Bg e (B6 D8 [0,0])).2≠0\/(Bg e (B6 D8 [0,0])).1≠1):=orY (by have h:=k2;simp only[eta]at h;exact h);rw[aL hn,aL hc]
  ·refine(aF (aA (aI (λh0=>nG h0) (λh0=>(λh1=>(λh2=>(aI (λh3=>(Aa rfl (by exact K1 ‹_›))) (λh3=>(aI (λh4=>(Aa rfl (by exact K2 ‹_› ‹_›))) (λh4=>(λh5=>(aI (λh6=>(Aa rfl (by exact K3 ‹_› ‹_› ‹_›))) (λh6=>(aI tT (aI (λh7=>(Aa rfl (by exact K4 ‹_› ‹_› ‹_› ‹_›))) (λh7=>(aI (λh8=>(Aa rfl (by exact K5 ‹_› ‹_› ‹_› ‹_› rfl))) (λh8=>False.elim (aY (Eq.symm (Eq.trans (by kernel_rfl) h8)))))))))))))))))))))
 ·have hst:Al (k,z,e,l)=8:=Wm hk;refine⟨_,Af M3 (Af M3 (Af M3 (Af M3 Bl))), ?_⟩;refine(aF (aF (aI (λh0=>(aI (λh1=>(Aa rfl ?_)) (λh1=>False.elim (aY (Eq.symm (Eq.trans (by kernel_rfl) h1)))))) (λh0=>(aF (aO ?_))))))
  ·show(Al (k,z,e,l),())=(8,());rw[hst]
  ·exfalso;have h:(bif decide (k<1)then true else decide (10<k))=false:=h0;by_cases h1:k<1
   ·rw[aX h1]at h;cases h
   ·rw[aX (show 10<k by omega)]at h;cases hd:decide (k<1)<;>rw[hd]at h<;>cases h
@[reducible] def tSS:Ty:=.pair tIs (.pair tI .bool)
@[reducible] def SST:Type:=List Int×Int×Bool
@[reducible] def dSS:AK:=.dat true tSS
def cxJ1:Ctx:=⟨Dk,[(26,([],c17)),(37,([],c40k))]⟩
theorem M4:Ai Tryz.prog cxJ1:=Ae Uf (Ae Pi Ah)
def cxJ0:Ctx:=⟨Dk,[(26,([],c17))]⟩
theorem Hk:Ai Tryz.prog cxJ0:=Ae Uf Ah
def stIn(x:StT):Int:=if Al x=0 then(Ap x.1).1 else 0
def stOut(x:StT):Int:=if Al x=0 then(Ap x.1).2.1 else 0
theorem B1{x:StT}(h:Al x=0):1<=x.1/\x.1<=10:=by
 by_cases hk:1<=x.1/\x.1<=10
 ·exact hk
 ·rw[Wm hk]at h;exact aT h (by decide)
theorem G6{k:Int}(h:1<=k/\k<=10):k=1\/k=2\/k=3\/k=4\/k=5\/k=6\/k=7\/k=8\/k=9\/k=10:=by omega
def c19:Ctr:=fnC [dSt] rI (λ_=>True) (λy=>(stIn y.1,()))
set_option maxHeartbeats 2000000 in
theorem Ac8:GoodC Tryz.prog 14 c19:=by
 refine Wl _ _ _ _ ⟨_,Tryz.func14,rfl,rfl⟩ λ(⟨⟨k,z,⟨ek,eo,em,ev,ea⟩,l⟩,_⟩:StT×Unit) _=>?_
 by_cases hk:Al (k,z,ExprT.mk ek eo em ev ea,l)=0
 ·have h:=G6 (B1 hk);have hf:stIn (k,z,ExprT.mk ek eo em ev ea,l)=(Ap k).1:=by rw[stIn,aP hk]
  refine⟨_,Af M4 (Af M4 Bl), ?_⟩;have h1:(!decide (Al (k,z,ExprT.mk ek eo em ev ea,l)=0))=true->((stIn (k,z,ExprT.mk ek eo em ev ea,l),()):Int×Unit)=(0,()):=λh=>by rw[hk]at h;cases h
  have h2:∀n:Int,(Ap k).1=n->((stIn (k,z,ExprT.mk ek eo em ev ea,l),()):Int×Unit)=(n,()):=λn h=>by rw[hf,h]
  clear hk hf;rcases h with rfl|rfl|rfl|rfl|rfl|rfl|rfl|rfl|rfl|rfl
  ·refine(aF (aI tT (aI (λh0=>(Aa rfl (by first|exact h1 h0|exact h2 _ rfl))) (λh0=>(aA (Aa rfl (by first|exact h1 h0|exact h2 _ rfl)))))))
  ·refine(aF (aI tT (aI (λh0=>(Aa rfl (by first|exact h1 h0|exact h2 _ rfl))) (λh0=>(aA (Aa rfl (by first|exact h1 h0|exact h2 _ rfl)))))))
  ·refine(aF (aI tT (aI (λh0=>(Aa rfl (by first|exact h1 h0|exact h2 _ rfl))) (λh0=>(aA (Aa rfl (by first|exact h1 h0|exact h2 _ rfl)))))))
  ·refine(aF (aI tT (aI (λh0=>(Aa rfl (by first|exact h1 h0|exact h2 _ rfl))) (λh0=>(aA (Aa rfl (by first|exact h1 h0|exact h2 _ rfl)))))))
  ·refine(aF (aI tT (aI (λh0=>(Aa rfl (by first|exact h1 h0|exact h2 _ rfl))) (λh0=>(aA (Aa rfl (by first|exact h1 h0|exact h2 _ rfl)))))))
  ·refine(aF (aI tT (aI (λh0=>(Aa rfl (by first|exact h1 h0|exact h2 _ rfl))) (λh0=>(aA (Aa rfl (by first|exact h1 h0|exact h2 _ rfl)))))))
  ·refine(aF (aI tT (aI (λh0=>(Aa rfl (by first|exact h1 h0|exact h2 _ rfl))) (λh0=>(aA (Aa rfl (by first|exact h1 h0|exact h2 _ rfl)))))))
  ·refine(aF (aI tT (aI (λh0=>(Aa rfl (by first|exact h1 h0|exact h2 _ rfl))) (λh0=>(aA (Aa rfl (by first|exact h1 h0|exact h2 _ rfl)))))))
  ·refine(aF (aI tT (aI (λh0=>(Aa rfl (by first|exact h1 h0|exact h2 _ rfl))) (λh0=>(aA (Aa rfl (by first|exact h1 h0|exact h2 _ rfl)))))))
  ·refine(aF (aI tT (aI (λh0=>(Aa rfl (by first|exact h1 h0|exact h2 _ rfl))) (λh0=>(aA (Aa rfl (by first|exact h1 h0|exact h2 _ rfl)))))))
 ·have hf:stIn (k,z,ExprT.mk ek eo em ev ea,l)=0:=by rw[stIn,aL hk]
  refine⟨_,Af Hk (Af Hk (Af Hk Bl)), ?_⟩;have ab:(!decide (Al (k,z,ExprT.mk ek eo em ev ea,l)=0))=false->False:=λh=>hk (by simpa using h)
  refine(aF (aI tT (aI (λh0=>(Aa rfl ?_)) (λh0=>(aF (aI (λh1=>(Aa rfl ?_)) (λh1=>(aF (aO ?_)))))))))
  ·show(stIn (k,z,ExprT.mk ek eo em ev ea,l),())=(0,());rw[hf]
  ·exact(ab h0).elim
  ·exact(ab h0).elim
def c21:Ctr:=fnC [dSt] rI (λ_=>True) (λy=>(stOut y.1,()))
set_option maxHeartbeats 2000000 in
theorem Ac9:GoodC Tryz.prog 27 c21:=by
 refine Wl _ _ _ _ ⟨_,Tryz.func27,rfl,rfl⟩ λ(⟨⟨k,z,⟨ek,eo,em,ev,ea⟩,l⟩,_⟩:StT×Unit) _=>?_
 by_cases hk:Al (k,z,ExprT.mk ek eo em ev ea,l)=0
 ·have h:=G6 (B1 hk);have hf:stOut (k,z,ExprT.mk ek eo em ev ea,l)=(Ap k).2.1:=by rw[stOut,aP hk]
  refine⟨_,Af M4 (Af M4 Bl), ?_⟩;have h1:(!decide (Al (k,z,ExprT.mk ek eo em ev ea,l)=0))=true->((stOut (k,z,ExprT.mk ek eo em ev ea,l),()):Int×Unit)=(0,()):=λh=>by rw[hk]at h;cases h
  have h2:∀n:Int,(Ap k).2.1=n->((stOut (k,z,ExprT.mk ek eo em ev ea,l),()):Int×Unit)=(n,()):=λn h=>by rw[hf,h]
  clear hk hf;rcases h with rfl|rfl|rfl|rfl|rfl|rfl|rfl|rfl|rfl|rfl
  ·refine(aF (aI tT (aI (λh0=>(Aa rfl (by first|exact h1 h0|exact h2 _ rfl))) (λh0=>(aA (Aa rfl (by first|exact h1 h0|exact h2 _ rfl)))))))
  ·refine(aF (aI tT (aI (λh0=>(Aa rfl (by first|exact h1 h0|exact h2 _ rfl))) (λh0=>(aA (Aa rfl (by first|exact h1 h0|exact h2 _ rfl)))))))
  ·refine(aF (aI tT (aI (λh0=>(Aa rfl (by first|exact h1 h0|exact h2 _ rfl))) (λh0=>(aA (Aa rfl (by first|exact h1 h0|exact h2 _ rfl)))))))
  ·refine(aF (aI tT (aI (λh0=>(Aa rfl (by first|exact h1 h0|exact h2 _ rfl))) (λh0=>(aA (Aa rfl (by first|exact h1 h0|exact h2 _ rfl)))))))
  ·refine(aF (aI tT (aI (λh0=>(Aa rfl (by first|exact h1 h0|exact h2 _ rfl))) (λh0=>(aA (Aa rfl (by first|exact h1 h0|exact h2 _ rfl)))))))
  ·refine(aF (aI tT (aI (λh0=>(Aa rfl (by first|exact h1 h0|exact h2 _ rfl))) (λh0=>(aA (Aa rfl (by first|exact h1 h0|exact h2 _ rfl)))))))
  ·refine(aF (aI tT (aI (λh0=>(Aa rfl (by first|exact h1 h0|exact h2 _ rfl))) (λh0=>(aA (Aa rfl (by first|exact h1 h0|exact h2 _ rfl)))))))
  ·refine(aF (aI tT (aI (λh0=>(Aa rfl (by first|exact h1 h0|exact h2 _ rfl))) (λh0=>(aA (Aa rfl (by first|exact h1 h0|exact h2 _ rfl)))))))
  ·refine(aF (aI tT (aI (λh0=>(Aa rfl (by first|exact h1 h0|exact h2 _ rfl))) (λh0=>(aA (Aa rfl (by first|exact h1 h0|exact h2 _ rfl)))))))
  ·refine(aF (aI tT (aI (λh0=>(Aa rfl (by first|exact h1 h0|exact h2 _ rfl))) (λh0=>(aA (Aa rfl (by first|exact h1 h0|exact h2 _ rfl)))))))
 ·have hf:stOut (k,z,ExprT.mk ek eo em ev ea,l)=0:=by rw[stOut,aL hk]
  refine⟨_,Af Hk (Af Hk (Af Hk Bl)), ?_⟩;have ab:(!decide (Al (k,z,ExprT.mk ek eo em ev ea,l)=0))=false->False:=λh=>hk (by simpa using h)
  refine(aF (aI tT (aI (λh0=>(Aa rfl ?_)) (λh0=>(aF (aI (λh1=>(Aa rfl ?_)) (λh1=>(aF (aO ?_)))))))))
  ·show(stOut (k,z,ExprT.mk ek eo em ev ea,l),())=(0,());rw[hf]
  ·exact(ab h0).elim
  ·exact(ab h0).elim
def E7(x:StT):Int×Int:=if x.1=1 then((x.2.2.2.length:Int),0)else if x.1=6 then(x.2.1,0)else if x.1=8 then(1,2)else if x.1=9 then(3,1)else if x.1=4 then(0,x.2.1-1)else(0,0)
def c89:Ctr:=fnC [dSt] rII (λy=>-1000<=y.1.2.1/\y.1.2.1<=1000) (λy=>((E7 y.1).1,(E7 y.1).2,()))
theorem Aq5:GoodC Tryz.prog 210 c89:=by
 refine Au Ah 3 _ _ _ _ ⟨_,Tryz.func210,rfl,rfl⟩ λ(⟨⟨k,z,⟨ek,eo,em,ev,ea⟩,l⟩,_⟩:StT×Unit) hn=>?_
 have hz:-1000<=z/\z<=1000:=hn;clear hn;have b1:∀r,(E7 (k,z,ExprT.mk ek eo em ev ea,l))=r->(((E7 (k,z,ExprT.mk ek eo em ev ea,l)).1,(E7 (k,z,ExprT.mk ek eo em ev ea,l)).2,()):Int×Int×Unit)=(r.1,r.2,()):=λr h=>by rw[h]
 refine(aF (aI (λh0=>(λh1=>(Aa rfl ?_))) (λh0=>(aI (λh2=>(Aa rfl ?_)) (λh2=>(aI (λh3=>(Aa rfl ?_)) (λh3=>(aI (λh4=>(Aa rfl ?_)) (λh4=>(aI (λh5=>(aF (aO (Aa rfl ?_)))) (λh5=>(Aa rfl ?_))))))))))))
 ·exact b1 ((l.length:Int),0) (by rw[E7,aP (aM h0)])
 ·exact b1 (z,0) (by rw[E7,aL (aQ h0),aP (aM h2)])
 ·exact b1 (1,2) (by rw[E7,aL (aQ h0),aL (aQ h2),aP (aM h3)])
 ·exact b1 (3,1) (by rw[E7,aL (aQ h0),aL (aQ h2),aL (aQ h3),aP (aM h4)])
 ·exact b1 (0,z-1) (by rw[E7,aL (aQ h0),aL (aQ h2),aL (aQ h3),aL (aQ h4),aP (aM h5)])
 ·exact b1 (0,0) (by rw[E7,aL (aQ h0),aL (aQ h2),aL (aQ h3),aL (aQ h4),aL (aQ h5)])
def Gc(x:StT)(s:SST)(i:Int):Bool:=if x.1=8 then s.1.any (isI i)else if x.1=9 then decide (C8 .i64 (Nv .i64 s.2.1 i) 1=1)else s.2.2
def cxJ2:Ctx:=⟨Dk,[(212,([],c25))]⟩
theorem Ahq:Ai Tryz.prog cxJ2:=Ae Ac6 Ah
def c65:Ctr:=fnC [dSt,dSS,dI] rB (λy=>0<=y.2.2.1\/y.1.1≠9) (λy=>(Gc y.1 y.2.1 y.2.2.1,()))
theorem Ako:GoodC Tryz.prog 165 c65:=by
 refine Au Ahq 3 _ _ _ _ ⟨_,Tryz.func165,rfl,rfl⟩ λ(⟨⟨k,z,⟨ek,eo,em,ev,ea⟩,l⟩,⟨hd,c,en⟩,i,_⟩:StT×SST×Int×Unit) hn=>?_
 have hz:0<=i\/k≠9:=hn;clear hn;have b1:∀r,(Gc (k,z,ExprT.mk ek eo em ev ea,l) (hd,c,en) i)=r->((Gc (k,z,ExprT.mk ek eo em ev ea,l) (hd,c,en) i,()):Bool×Unit)=(r,()):=λr h=>by rw[h]
 refine(aF (aI (λh0=>(aI tT (Aa rfl ?_))) (λh0=>(aI (λh1=>(aO (Aa rfl ?_))) (λh1=>(Aa rfl ?_))))))
 ·exact b1 _ (by rw[Gc,aP (aM h0)])
 ·exact b1 _ (by rw[Gc,aL (aQ h0),aP (aM h1)])
 ·exact b1 _ (by rw[Gc,aL (aQ h0),aL (aQ h1)])
def C6(l:List Int)(i:Nat):Bool:=bif bif decide (l.getD (i:Int).toNat (Ab tI)<0)then true else decide (1<l.getD (i:Int).toNat (Ab tI))then true else(bif decide (0<(i:Int))then decide (l.getD (i:Int).toNat (Ab tI)<=l.getD ((i:Int)-1).toNat (Ab tI))else false)
def vc1(x:StT)(s:SST):Bool:=bif bif decide (s.2.1<0)then true else decide ((E7 x).1<s.2.1)then true else decide ((E7 x).2<(s.1.length:Int))
def Av(x:StT)(s:SST):Bool:=
 if vc1 x s=true then false
 else if s.1.any Aj=true then false
 else if x.1=4 then(bif !s.2.2 then true else decide ((s.1.length:Int)=0))
 else if x.1=8 then(if(List.range s.1.length).any (C6 s.1)=true then false else(s.2.2==decide ((s.1.length:Int)=2)))
 else if x.1=9 then(bif (s.2.2==decide (s.2.1=3))then(bif decide (s.2.1<2)then true else decide ((s.1.length:Int)=0))else false)
 else true
theorem V1{x:StT}{s:SST}(h:vc1 x s=true):(Av x s,())=(false,()):=by rw[Av,aP h]
theorem V2{x:StT}{s:SST}(h:vc1 x s=false)(h2:s.1.any Aj=true):(Av x s,())=(false,()):=by rw[Av,aL (by rw[h];simp),aP h2]
theorem V3{x:StT}{s:SST}(h:vc1 x s=false)(h2:s.1.any Aj=false)(h3:decide (x.1=4)=true):(Av x s,())=((bif !s.2.2 then true else decide ((s.1.length:Int)=0)),()):=by
 rw[Av,aL (by rw[h];simp),aL (by rw[h2];simp),aP (aM h3)]
theorem V4{x:StT}{s:SST}(h:vc1 x s=false)(h2:s.1.any Aj=false)(h3:decide (x.1=4)=false)(h4:decide (x.1=8)=true):Av x s=(if(List.range s.1.length).any (C6 s.1)=true then false else(s.2.2==decide ((s.1.length:Int)=2))):=by
 rw[Av,aL (by rw[h];simp),aL (by rw[h2];simp),aL (aQ h3),aP (aM h4)]
theorem V5{x:StT}{s:SST}(h:vc1 x s=false)(h2:s.1.any Aj=false)(h3:decide (x.1=4)=false)(h4:decide (x.1=8)=false)(h5:decide (x.1=9)=true):(Av x s,())=((bif (s.2.2==decide (s.2.1=3))then(bif decide (s.2.1<2)then true else decide ((s.1.length:Int)=0))else false),()):=by
 rw[Av,aL (by rw[h];simp),aL (by rw[h2];simp),aL (aQ h3),aL (aQ h4),aP (aM h5)]
theorem V6{x:StT}{s:SST}(h:vc1 x s=false)(h2:s.1.any Aj=false)(h3:decide (x.1=4)=false)(h4:decide (x.1=8)=false)(h5:decide (x.1=9)=false):(Av x s,())=(true,()):=by
 rw[Av,aL (by rw[h];simp),aL (by rw[h2];simp),aL (aQ h3),aL (aQ h4),aL (aQ h5)]
def cxJ3:Ctx:=⟨Dk,[(210,([],c89)),(40,([],c41))]⟩
theorem Ahr:Ai Tryz.prog cxJ3:=Ae Aq5 (Ae Xz Ah)
def c64:Ctr:=fnC [dSt,dSS] rB (λy=>-1000<=y.1.2.1/\y.1.2.1<=1000) (λy=>(Av y.1 y.2.1,()))
set_option maxHeartbeats 2000000 in
theorem Aq6:GoodC Tryz.prog 164 c64:=by
 refine Au Ahr 3 _ _ _ _ ⟨_,Tryz.func164,rfl,rfl⟩ λ(⟨⟨k,z,⟨ek,eo,em,ev,ea⟩,l⟩,⟨hd,c,en⟩,_⟩:StT×SST×Unit) hn=>?_
 have hz:-1000<=z/\z<=1000:=hn;clear hn;refine(aF (aO (λv0=>(aI (λv1=>(Aa rfl (by first|exact V1 ‹_› |exact V2 ‹_› ‹_› |exact V3 ‹_› ‹_› ‹_› |exact V5 ‹_› ‹_› ‹_› ‹_› ‹_› |exact V6 ‹_› ‹_› ‹_› ‹_› ‹_›))) (λv1=>(aI tT (aI (λv2=>(Aa rfl (by first|exact V1 ‹_› |exact V2 ‹_› ‹_› |exact V3 ‹_› ‹_› ‹_› |exact V5 ‹_› ‹_› ‹_› ‹_› ‹_› |exact V6 ‹_› ‹_› ‹_› ‹_› ‹_›))) (λv2=>(aI (λv3=>(λv4=>(Aa rfl (by first|exact V1 ‹_› |exact V2 ‹_› ‹_› |exact V3 ‹_› ‹_› ‹_› |exact V5 ‹_› ‹_› ‹_› ‹_› ‹_› |exact V6 ‹_› ‹_› ‹_› ‹_› ‹_›)))) (λv3=>(aI (λv5=>(λv6=>?_)) (λv5=>(aI (λv7=>(λv8=>(Aa rfl (by first|exact V1 ‹_› |exact V2 ‹_› ‹_› |exact V3 ‹_› ‹_› ‹_› |exact V5 ‹_› ‹_› ‹_› ‹_› ‹_› |exact V6 ‹_› ‹_› ‹_› ‹_› ‹_›)))) (λv7=>(Aa rfl (by first|exact V1 ‹_› |exact V2 ‹_› ‹_› |exact V3 ‹_› ‹_› ‹_› |exact V5 ‹_› ‹_› ‹_› ‹_› ‹_› |exact V6 ‹_› ‹_› ‹_› ‹_› ‹_›))))))))))))))));have hv:=V4 (x:=(k,z,ExprT.mk ek eo em ev ea,l)) (s:=(hd,c,en)) ‹_› ‹_› ‹_› ‹_›;refine ex4 _ (λi:Nat=>⟨[.any,.any,.ptr 0 0,.ptr 1 0,.any,.any,.any,.any,.any,.any,.any,.any,.any,.any,.any,.any,.any,.any,.any,.any,.any,.any,.any,.any,.any,.any,.any,.any,.any,.any,.any,.any,.any,.ptr 0 0,.int .i64 k,.bool (decide (k=4)),.bool (decide (k=4)),.any,.any,.any,.any,.any,.any,.any,.any,.any,.bool (decide (k=8)),.bool (decide (k=8)),.ptr 1 0,.sl (.int .i64) hd,.int .i64 (↑hd.length:Int),.int .i64 (i:Int)]++nA 51,[.cells   [.int .i64 k,.int .i64 z,.int .i64 (ExprT.mk ek eo em ev ea).kind,     .int .i64 (ExprT.mk ek eo em ev ea).op,.str (ExprT.mk ek eo em ev ea).name,     .int .i64 (ExprT.mk ek eo em ev ea).value,.sl .expr (ExprT.mk ek eo em ev ea).args,     .sl (.int .i64) l],.cells [.sl (.int .i64) hd,.int .i64 c,.bool en]],2⟩) (λi=>i<=hd.length/\(List.range i).any (C6 hd)=false) (λi=>hd.length-i) (aI (eI (0) (eI ([some 0,some 1]) (aI ?_ (aB (aI (aH tT) (by rfl)))))) ?_)
 ·simp
 rintro i ⟨hi,ht⟩;refine(aI (λk0=>(aO (aI (λk1=>(by intros;(try subst_vars);(try simp only[nB]at *);(try simp only[inK,big,lim,nL]at *);omega)) (aI (λk2=>(by intros;(try subst_vars);(try simp only[nB]at *);(try simp only[inK,big,lim,nL]at *);omega)) (aI (λk3=>(Aa rfl ?_)) (λk3=>(aO ?_))))))) (λk0=>(λk4=>(Aa rfl ?_))))
 ·have hi':i<hd.length:=by simpa using k0
  have hk:C6 hd i=true:=k3;have hr:(List.range hd.length).any (C6 hd)=true:=Qj hi' hk;show(Av (k,z,ExprT.mk ek eo em ev ea,l) (hd,c,en),())=(false,());rw[hv,aP hr]
 ·have hi':i<hd.length:=by simpa using k0
  have hk:C6 hd i=false:=k3;refine eI (i+1) (eI ([some 0,some 1]) (aI ?_ (aI ?_ (aB (aI (aH tT) (by rfl))))))
  ·exact⟨hi',N8 ht hk⟩
  ·show hd.length-(i+1)<hd.length-i;omega
 ·have hi':¬i<hd.length:=by simpa using k0
  have e1:i=hd.length:=by omega
  rw[e1]at ht;show(Av (k,z,ExprT.mk ek eo em ev ea,l) (hd,c,en),())=(en==decide ((hd.length:Int)=2),());rw[hv,aL (by show ¬(List.range hd.length).any (C6 hd)=true;rw[ht];simp)]
theorem Ax{x:StT}(h:Al x=0):0<=x.2.1/\x.2.1<=200/\(x.1=4->1<=x.2.1):=by
 have hk:=B1 h;rw[Mc hk.1 hk.2]at h;unfold Gb at h;have h2:ck2 (Ap x.1) x=false:=by
  split at h
  ·exact aT h (by decide)
  ·split at h
   ·exact aT h (by decide)
   ·rename_i h2;simpa using h2
 unfold ck2 at h2;have h3:¬x.2.1<(Ap x.1).2.2.1/\¬(Ap x.1).2.2.2.1<x.2.1:=by
  by_cases h1:x.2.1<(Ap x.1).2.2.1
  ·rw[aX h1]at h2;cases h2
  ·refine⟨h1,λh4=>?_⟩;rw[bE h1,aX h4]at h2;cases h2
 rcases G6 hk with h|h|h|h|h|h|h|h|h|h<;>rw[h]at h3<;>simp[Ap,hnd]at h3<;>omega
theorem Br{x:StT}{s:SST}(h:Av x s=true):0<=s.2.1/\s.2.1<=(E7 x).1/\(s.1.length:Int)<=(E7 x).2:=by
 have h1:vc1 x s=false:=by
  cases hc:vc1 x s with
  |false=>rfl
  |true=>rw[Av,aP hc]at h;cases h
 unfold vc1 at h1;by_cases a:s.2.1<0
 ·rw[aX a]at h1;cases h1
 ·by_cases b:(E7 x).1<s.2.1
  ·rw[bE a,aX b]at h1;cases h1
  ·by_cases c:(E7 x).2<(s.1.length:Int)
   ·rw[bE a,bE b,aX c]at h1;cases h1
   ·omega
def Am(x:StT)(s:SST):List Int×Int:=
 if(!decide (Al x=0))=true then([],Al x)else
 if(!Av x s)=true then([],1)else
 if(bif s.2.2 then true else decide (x.1=1))=true then([],0)else
 if(bif decide (x.1=8)then Gc x s s.2.1 else false)=true then([1-s.2.1],0)else
 if(decide (x.1=8))=true then([s.2.1],0)else
 if(bif decide (x.1=9)then(bif Gc x s 0 then true else decide (0<(s.1.length:Int)))else false)=true then([1],0)else
 ([0],0)
theorem ND0{x:StT}{s:SST}(h0:(!decide (Al x=0))=true):(Am x s)=([],Al x):=by rw[Am,aP h0]
theorem Auf{x:StT}{s:SST}(h0:(!decide (Al x=0))=true):((Am x s).1,(Am x s).2,())=((([],Al x):List Int×Int).1,(([],Al x):List Int×Int).2,()):=by rw[ND0 h0]
theorem ND1{x:StT}{s:SST}(h0:(!decide (Al x=0))=false)(h1:(!Av x s)=true):(Am x s)=([],1):=by rw[Am,aL (by rw[h0];simp),aP h1]
theorem Aug{x:StT}{s:SST}(h0:(!decide (Al x=0))=false)(h1:(!Av x s)=true):((Am x s).1,(Am x s).2,())=((([],1):List Int×Int).1,(([],1):List Int×Int).2,()):=by rw[ND1 h0 h1]
theorem ND2{x:StT}{s:SST}(h0:(!decide (Al x=0))=false)(h1:(!Av x s)=false)(h2:(bif s.2.2 then true else decide (x.1=1))=true):(Am x s)=([],0):=by rw[Am,aL (by rw[h0];simp),aL (by rw[h1];simp),aP h2]
theorem Auh{x:StT}{s:SST}(h0:(!decide (Al x=0))=false)(h1:(!Av x s)=false)(h2:(bif s.2.2 then true else decide (x.1=1))=true):((Am x s).1,(Am x s).2,())=((([],0):List Int×Int).1,(([],0):List Int×Int).2,()):=by rw[ND2 h0 h1 h2]
theorem ND3{x:StT}{s:SST}(h0:(!decide (Al x=0))=false)(h1:(!Av x s)=false)(h2:(bif s.2.2 then true else decide (x.1=1))=false)(h3:(bif decide (x.1=8)then Gc x s s.2.1 else false)=true):(Am x s)=([1-s.2.1],0):=by rw[Am,aL (by rw[h0];simp),aL (by rw[h1];simp),aL (by rw[h2];simp),aP h3]
theorem Aui{x:StT}{s:SST}(h0:(!decide (Al x=0))=false)(h1:(!Av x s)=false)(h2:(bif s.2.2 then true else decide (x.1=1))=false)(h3:(bif decide (x.1=8)then Gc x s s.2.1 else false)=true):((Am x s).1,(Am x s).2,())=((([1-s.2.1],0):List Int×Int).1,(([1-s.2.1],0):List Int×Int).2,()):=by rw[ND3 h0 h1 h2 h3]
theorem ND4{x:StT}{s:SST}(h0:(!decide (Al x=0))=false)(h1:(!Av x s)=false)(h2:(bif s.2.2 then true else decide (x.1=1))=false)(h3:(bif decide (x.1=8)then Gc x s s.2.1 else false)=false)(h4:(decide (x.1=8))=true):(Am x s)=([s.2.1],0):=by rw[Am,aL (by rw[h0];simp),aL (by rw[h1];simp),aL (by rw[h2];simp),aL (by rw[h3];simp),aP h4]
theorem Auj{x:StT}{s:SST}(h0:(!decide (Al x=0))=false)(h1:(!Av x s)=false)(h2:(bif s.2.2 then true else decide (x.1=1))=false)(h3:(bif decide (x.1=8)then Gc x s s.2.1 else false)=false)(h4:(decide (x.1=8))=true):((Am x s).1,(Am x s).2,())=((([s.2.1],0):List Int×Int).1,(([s.2.1],0):List Int×Int).2,()):=by rw[ND4 h0 h1 h2 h3 h4]
theorem ND5{x:StT}{s:SST}(h0:(!decide (Al x=0))=false)(h1:(!Av x s)=false)(h2:(bif s.2.2 then true else decide (x.1=1))=false)(h3:(bif decide (x.1=8)then Gc x s s.2.1 else false)=false)(h4:(decide (x.1=8))=false)(h5:(bif decide (x.1=9)then(bif Gc x s 0 then true else decide (0<(s.1.length:Int)))else false)=true):(Am x s)=([1],0):=by rw[Am,aL (by rw[h0];simp),aL (by rw[h1];simp),aL (by rw[h2];simp),aL (by rw[h3];simp),aL (by rw[h4];simp),aP h5]
theorem Auk{x:StT}{s:SST}(h0:(!decide (Al x=0))=false)(h1:(!Av x s)=false)(h2:(bif s.2.2 then true else decide (x.1=1))=false)(h3:(bif decide (x.1=8)then Gc x s s.2.1 else false)=false)(h4:(decide (x.1=8))=false)(h5:(bif decide (x.1=9)then(bif Gc x s 0 then true else decide (0<(s.1.length:Int)))else false)=true):((Am x s).1,(Am x s).2,())=((([1],0):List Int×Int).1,(([1],0):List Int×Int).2,()):=by rw[ND5 h0 h1 h2 h3 h4 h5]
theorem ND6{x:StT}{s:SST}(h0:(!decide (Al x=0))=false)(h1:(!Av x s)=false)(h2:(bif s.2.2 then true else decide (x.1=1))=false)(h3:(bif decide (x.1=8)then Gc x s s.2.1 else false)=false)(h4:(decide (x.1=8))=false)(h5:(bif decide (x.1=9)then(bif Gc x s 0 then true else decide (0<(s.1.length:Int)))else false)=false):(Am x s)=([0],0):=by rw[Am,aL (by rw[h0];simp),aL (by rw[h1];simp),aL (by rw[h2];simp),aL (by rw[h3];simp),aL (by rw[h4];simp),aL (by rw[h5];simp)]
theorem Aul{x:StT}{s:SST}(h0:(!decide (Al x=0))=false)(h1:(!Av x s)=false)(h2:(bif s.2.2 then true else decide (x.1=1))=false)(h3:(bif decide (x.1=8)then Gc x s s.2.1 else false)=false)(h4:(decide (x.1=8))=false)(h5:(bif decide (x.1=9)then(bif Gc x s 0 then true else decide (0<(s.1.length:Int)))else false)=false):((Am x s).1,(Am x s).2,())=((([0],0):List Int×Int).1,(([0],0):List Int×Int).2,()):=by rw[ND6 h0 h1 h2 h3 h4 h5]
def cxK:Ctx:=⟨Dk,[(26,([],c17)),(164,([],c64)),(165,([],c65))]⟩
theorem Akp:Ai Tryz.prog cxK:=Ae Uf (Ae Aq6 (Ae Ako Ah))
@[reducible] def Ada:List (Bool×Ty):=[(false,tIs),(false,tI)]
def c31:Ctr:=fnC [dSt,dSS] Ada (λ_=>True) (λy=>((Am y.1 y.2.1).1,(Am y.1 y.2.1).2,()))
set_option maxHeartbeats 2000000 in
theorem Ug:GoodC Tryz.prog 147 c31:=by
 refine Au Akp 3 _ _ _ _ ⟨_,Tryz.func147,rfl,rfl⟩ λ(⟨⟨k,z,⟨ek,eo,em,ev,ea⟩,l⟩,⟨hd,c,en⟩,_⟩:StT×SST×Unit) hn=>?_
 clear hn;have f1:(!decide (Al (k,z,ExprT.mk ek eo em ev ea,l)=0))=false->-1000<=z/\z<=1000:=λh=>by
  have:=Ax (x:=(k,z,ExprT.mk ek eo em ev ea,l)) (by simpa using h);have h1:0<=z/\z<=200:=⟨this.1,this.2.1⟩;omega
 have f2:(bif decide (k=8)then Gc (k,z,ExprT.mk ek eo em ev ea,l) (hd,c,en) c else false)=true->(!Av (k,z,ExprT.mk ek eo em ev ea,l) (hd,c,en))=false->-9223372036854775808<=1-c/\1-c<=9223372036854775807:=λh h'=>by
  have h1:k=8:=by
   by_cases h1:k=8
   ·exact h1
   ·rw[bE h1]at h;cases h
  have h2:=Br (x:=(k,z,ExprT.mk ek eo em ev ea,l)) (s:=(hd,c,en)) (by simpa using h');rw[h1]at h2;have h3:0<=c/\c<=1:=⟨h2.1,h2.2.1⟩;omega
 have f3:decide (k=8)=true->0<=c\/k≠9:=λh=>.inr (by rw[aM h];decide)
 refine(aF (aI tT (aI (λh0=>(Aa rfl (by exact Auf ‹_›))) (λh0=>(aI (f1 h0) (aI (λh1=>(Aa rfl (by exact Aug ‹_› ‹_›))) (λh1=>(aI (λh2=>(Aa rfl (by exact Auh ‹_› ‹_› ‹_›))) (λh2=>(aI (λh3=>(f3 h3)) (aI (λh4=>(aI (f2 h4 h1) (Aa rfl (by exact Aui ‹_› ‹_› ‹_› ‹_›)))) (λh4=>(aI (λh5=>(Aa rfl (by exact Auj ‹_› ‹_› ‹_› ‹_› ‹_›))) (λh5=>(aI (λh6=>(.inl (cO 0))) (λh7=>(aI (λh8=>(Aa rfl (by exact Auk ‹_› ‹_› ‹_› ‹_› ‹_› ‹_›))) (λh8=>(Aa rfl (by exact Aul ‹_› ‹_› ‹_› ‹_› ‹_› ‹_›))))))))))))))))))))
end Go.Proofs.YtpabcdbaffjcdaaGreat
