/- Pipelines. -/
import Derived.Test.YtpabcdbaffjcdaaGreatJZ2
set_option linter.unusedSimpArgs false
set_option linter.unusedVariables false
set_option maxRecDepth 100000
namespace Go.Proofs.YtpabcdbaffjcdaaGreat
open Go.Sx
@[reducible] def EdgT:Type:=Int×Int
@[reducible] def tE:Ty:=.pair tI tI
@[reducible] def dE:AK:=.dat true tE
def Aid:List (TypeId×Ty):=(70,tE)::Dk
def cxE0:Ctx:=⟨Aid,[]⟩
theorem En:Ai Tryz.prog cxE0:=λ_ _ _ h=>by simp[cxE0,G3]at h
def Aoq(a b:Int):Int:=if a<b then -1 else if a>b then 1 else 0
def cCmp:Ctr:=fnC [dI,dI] rI (λ_=>True) (λy=>(Aoq y.1 y.2.1,()))
theorem Avg:GoodC Tryz.prog 34 cCmp:=by
 refine Au En 3 _ _ _ _ ⟨_,Tryz.func34,rfl,rfl⟩ λ(⟨a,b,_⟩:Int×Int×Unit) _=>?_
 refine(aF (aF (aF (aI (λh0=>(aI (λh1=>(Aa rfl ?_)) (λh1=>(Aa rfl ?_)))) (λh0=>(aI (λh2=>(Aa rfl ?_)) (λh2=>(aI (λh3=>(Aa rfl ?_)) (λh3=>(aI (λh4=>(Aa rfl ?_)) (λh4=>(Aa rfl ?_))))))))))))
 ·simp at h0
 ·simp at h0
 ·simp at h2
 ·exact bI (λb=>(b,())) (aP (aM h3))
 ·exact bI (λb=>(b,())) ((aL (aQ h3)).trans (aP (aM h4)))
 ·exact bI (λb=>(b,())) ((aL (aQ h3)).trans (aL (aQ h4)))
def I8:List Int->Int
 |[]=>0
 |a::l=>if a≠0 then a else I8 l
theorem Aor{l:List Int}{i:Nat}(h:i<l.length):I8 (l.drop i)=if l.getD i 0≠0 then l.getD i 0 else I8 (l.drop (i+1)):=by
 rw[cG h,I8];simp[aZ,aR h]
def cOr:Ctr:=fnC [dIs] rI (λ_=>True) (λy=>(I8 y.1,()))
theorem gOr:GoodC Tryz.prog 33 cOr:=by
 refine Au En 3 _ _ _ _ ⟨_,Tryz.func33,rfl,rfl⟩ λ(⟨l,_⟩:List Int×Unit) _=>?_
 refine(aF (λh0=>?_));refine ex4 _ (λi:Nat=>⟨[.sl (.int .i64) l,.any,.any,.int .i64 0,.any,.any,.sl (.int .i64) l,.int .i64 (↑l.length:Int),.int .i64 (i:Int),.any,.any,.any,.any,.any,.any,.any,.any,.any],[],0⟩) (λi=>i<=l.length/\I8 l=I8 (l.drop i)) (λi=>l.length-i) (aI (eI (0) (eI ([]) (aI ?_ (aB (aI tT (by rfl)))))) ?_)
 ·exact⟨aV _,rfl⟩
 rintro i ⟨hi,hd⟩;replace hi:i<=l.length:=hi;replace hd:I8 l=I8 (l.drop i):=hd;have hs:decide ((i:Int)<(l.length:Int))=true->I8 l=if l.getD (i:Int).toNat (Ab (.int .i64))≠0 then l.getD (i:Int).toNat (Ab (.int .i64))else I8 (l.drop (i+1)):=λh=>hd.trans (Aor (by have:=aM h;omega))
 refine(aI (λk0=>(aO (aI (λk1=>(Aa rfl ?_)) (λk1=>(aO ?_))))) (λk0=>(Aa rfl ?_)))
 ·exact bI (λb=>(b,())) ((hs k0).trans (aP (aQ (by simpa using k1))))
 ·have hs':=(hs k0).trans (aL (λh=>h (aM (by simpa using k1))));have hi':i<l.length:=by have:=aM k0;omega
  clear k0 k1;refine eI (i+1) (eI ([]) (aI ?_ (aI ?_ (aB (aI tT (by rfl))))))
  ·exact⟨hi',hs'⟩
  ·show l.length-(i+1)<l.length-i;omega
 ·have hi':i=l.length:=by have:=aQ k0;omega
  rw[hd,hi',gN];rfl
def Ry(a b:EdgT):Int:=I8 [Aoq a.1 b.1,Aoq a.2 b.2]
def cxE1:Ctx:=⟨Aid,[(34,([],cCmp)),(33,([],cOr))]⟩
theorem Aie:Ai Tryz.prog cxE1:=Ae Avg (Ae gOr En)
def cOrd1:Ctr:=fnC [dE,dE] rI (λ_=>True) (λy=>(Ry y.1 y.2.1,()))
theorem Ats:GoodC Tryz.prog 32 cOrd1:=by
 refine Au Aie 3 _ _ _ _ ⟨_,Tryz.func32,rfl,rfl⟩ λ(⟨⟨a1,a2⟩,⟨b1,b2⟩,_⟩:EdgT×EdgT×Unit) _=>?_
 refine(aF (aF (aI tT (aI tT (aI tT (Aa rfl ?_))))));rfl
def Ko:Nat->List EdgT->List EdgT
 |0,d=>d
 |j+1,d=>if Ry (d.getD (j+1) (0,0)) (d.getD j (0,0))<0 then Ko j ((d.set (j+1) (d.getD j (0,0))).set j (d.getD (j+1) (0,0)))else d
def Rz:Nat->Nat->List EdgT->List EdgT
 |0,_,d=>d
 |k+1,i,d=>Rz k (i+1) (Ko i d)
def Bt(d:List EdgT):List EdgT:=Rz (d.length-1) 1 d
def cLen:Ctr:=fnC [.dat false (.int .u64)] rI (λy=>0<=y.1/\y.1<=12) (λy=>(if y.1=0 then 0 else if y.1<2 then 1 else if y.1<4 then 2 else if y.1<8 then 3 else if y.1<16 then 4 else 5,()))
theorem Avh:GoodC Tryz.prog 63 cLen:=by
 refine Au En 3 _ _ _ _ ⟨_,Tryz.func63,rfl,rfl⟩ λ(⟨n,()⟩:Int×Unit) hn=>?_
 replace hn:0<=n/\n<=12:=hn;refine(aF (aI (λh0=>nG h0) (λh0=>(aF (aI (λ(h1:decide ((4294967296:Int)<=n)=true)=>aT (aM h1) (by omega)) (λh1=>(aI (λ(h2:decide ((65536:Int)<=n)=true)=>aT (aM h2) (by omega)) (λh2=>(aI (λ(h3:decide ((256:Int)<=n)=true)=>aT (aM h3) (by omega)) (λh3=>(aO (aI ?_ (aI ?_ (aI ?_ (Aa rfl ?_)))))))))))))))
 all_goals first|(exact aT (aM h1) (by omega))|(exact aT (aM h2) (by omega))|(exact aT (aM h3) (by omega))|skip
 all_goals
  clear h1 h2 h3;have h:n=0\/n=1\/n=2\/n=3\/n=4\/n=5\/n=6\/n=7\/n=8\/n=9\/n=10\/n=11\/n=12:=by omega
  clear hn;rcases h with rfl|rfl|rfl|rfl|rfl|rfl|rfl|rfl|rfl|rfl|rfl|rfl|rfl
 all_goals (try dsimp only);first|rfl|decide +kernel|(constructor<;>decide +kernel)
def cxE2:Ctx:=⟨Aid,[(63,([],cLen)),(32,([],cOrd1))]⟩
theorem M9:Ai Tryz.prog cxE2:=Ae Avh (Ae Ats En)
theorem Arx{z:Int}{a b:EdgT}(h:(bif decide (0<z)then decide (Ry a b<0)else false)=true):0<z/\Ry a b<0:=by
 by_cases h1:0<z
 ·rw[aX h1]at h;exact⟨h1,aM h⟩
 ·rw[bE h1]at h;cases h
theorem Ary{z:Int}{a b:EdgT}(h:(bif decide (0<z)then decide (Ry a b<0)else false)=false)(h1:0<z):¬Ry a b<0:=by
 rw[aX h1]at h;exact aQ h
theorem Amc(d:List EdgT)(h:d.length<=12):Nl cxE2 Tryz.prog 4 31 [.own 0,.fn (.func 32) [] []] [.rows tE d] 1 (λx T' n'=>∃σ,J1 1 σ [noW x] T' n' ⟨[.tup []],[.rows tE (Bt d)],1⟩):=by
 refine(aF (λh0=>(aO (aI ?_ (aF ?_)))))
 ·exact⟨eB _,by show(d.length:Int)<=12;omega⟩
 refine ex4 _ (λu:Nat=>⟨[.own 0,.int .i64 0,.int .i64 (↑d.length:Int),.any,.fn (Fn.func 32) [] [],.any,.any,.any,.any,.any,.bool true,.bool true]++nA 136,[.rows tE d],1⟩) (λu=>True) (λu=>0) (aI (eI (0) (eI ([some 0]) (aI ?_ (aB (aI (aA tT) (by rfl)))))) ?_)
 ·trivial
 rintro u hu0;refine(aO (aI (λk0=>(aF (aO ?_))) (λ(k0:decide ((↑d.length:Int)-(0:Int)<=(12:Int))=false)=>aT (by omega) (aQ k0))));clear h0 k0;refine ex4 _ (λp:Nat×List EdgT=>⟨[.own 0,.int .i64 0,.int .i64 (↑d.length:Int),.fn (Fn.func 32) [] [],.any,.any,.any,.any,.int .i64 (p.1:Int),.any,.int .i64 0]++nA 42,[.rows tE p.2],1⟩) (λp=>1<=p.1/\p.2.length=d.length/\Rz (d.length-p.1) p.1 p.2=Bt d) (λp=>d.length-p.1) (aI (eI ((1,d)) (eI ([some 0]) (aI ?_ (aB (aI (aA tT) (by rfl)))))) ?_)
 ·exact⟨bA _,rfl,rfl⟩
 rintro⟨i,e⟩ ⟨h1,he,hs⟩;replace h1:1<=i:=h1;replace he:e.length=d.length:=he;replace hs:Rz (d.length-i) i e=Bt d:=hs;refine(aI (λm0=>?_) (λm0=>?_))
 ·have hi:i<d.length:=by have:=aM m0;omega
  clear m0;refine ex4 _ (λq:Int×Nat×List EdgT=>⟨[.own 0,.int .i64 0,.int .i64 (↑d.length:Int),.fn (Fn.func 32) [] [],.any,.any,.any,.any,.int .i64 (↑i:Int),.int .i64 q.1,.int .i64 0,.any,.int .i64 (↑i:Int),.int .i64 (↑d.length:Int),.bool (decide ((↑i:Int)<(↑d.length:Int)))]++nA 38,[.rows tE q.2.2],1⟩) (λq=>q.1=(q.2.1:Int)/\q.2.1<=i/\q.2.2.length=d.length/\Ko q.2.1 q.2.2=Ko i e) (λq=>q.2.1) (aI (eI (((i:Int),i,e)) (eI ([some 0]) (aI ?_ (aB (aI (aA tT) (by rfl)))))) ?_)
  ·exact⟨rfl,bA _,he,rfl⟩
  rintro⟨z,j,f⟩ ⟨hz,hj,hf,hq⟩;replace hz:z=(j:Int):=hz;replace hj:j<=i:=hj;replace hf:f.length=d.length:=hf;replace hq:Ko j f=Ko i e:=hq;have hb:(bif decide (0<z)then decide (Ry (f.getD z.toNat (Ab tE)) (f.getD (z-1).toNat (Ab tE))<0)else false)=true->∃k,j=k+1/\z-1=(k:Int)/\k+1<=i/\Ko k ((f.set z.toNat (f.getD (z-1).toNat (Ab tE))).set (z-1).toNat (f.getD z.toNat (Ab tE)))=Ko i e:=λh=>by
   obtain⟨h3,h4⟩:=Arx h;obtain⟨k,rfl⟩:∃k,j=k+1:=⟨j-1,by omega⟩;have e1:z.toNat=k+1:=by omega
   have e2:(z-1).toNat=k:=by omega
   rw[e1,e2]at h4 ⊢;exact⟨k,rfl,by omega,hj,by rw[<-hq,Ko,aP h4]⟩
  have hc:(bif decide (0<z)then decide (Ry (f.getD z.toNat (Ab tE)) (f.getD (z-1).toNat (Ab tE))<0)else false)=false->Ko i e=f:=λh=>by
   rw[<-hq];cases j with
   |zero=>rfl
   |succ k=>
    have e1:z.toNat=k+1:=by omega
    have e2:(z-1).toNat=k:=by omega
    have h4:=Ary h (by omega);rw[e1,e2]at h4;rw[Ko,aL h4]
  have hi1:Rz (d.length-i) i e=Rz (d.length-(i+1)) (i+1) (Ko i e):=by
   rw[show d.length-i=(d.length-(i+1))+1 by omega,Rz]
  refine(aF (aI (λn0=>(by intros;(try subst_vars);(try simp only[nB]at *);(try simp only[inK,big,lim,nL]at *);omega)) (aI (λn1=>(by intros;(try subst_vars);(try simp only[nB]at *);(try simp only[inK,big,lim,nL]at *);omega)) (aI (λn2=>(by intros;(try subst_vars);(try simp only[nB]at *);(try simp only[inK,big,lim,nL]at *);omega)) (aI (λn3=>tT) (aI (λn4=>(aF (aO (aO (aO (aO (aO (aI ?_ (aO ?_))))))))) (λn4=>(aO ?_))))))))
  ·obtain⟨k,k1,k2,k3,k4⟩:=hb n4;have hl:(f.set z.toNat (f.getD (z-1).toNat (Ab tE))).length=d.length:=by rw[cE];exact hf
   exact⟨by show 0<=z-1;omega,by show z-1<((f.set z.toNat (f.getD (z-1).toNat (Ab tE))).length:Int);omega⟩
  ·obtain⟨k,k1,k2,k3,k4⟩:=hb n4;clear n4;refine eI ((z-1,k,(f.set z.toNat (f.getD (z-1).toNat (Ab tE))).set (z-1).toNat (f.getD z.toNat (Ab tE)))) (eI ([some 0]) (aI ?_ (aI ?_ (aB (aI (aA tT) (by rfl))))))
   ·exact⟨k2,by show k<=i;omega,by rw[cE,cE];exact hf,k4⟩
   ·show k<j;omega
  ·have hc:=hc n4;clear n4;refine eI ((i+1,f)) (eI ([some 0]) (aI ?_ (aI ?_ (aB (aI (aA tT) (by rfl))))))
   ·exact⟨by show 1<=i+1;omega,hf,by rw[<-hs,hi1,hc]⟩
   ·show d.length-(i+1)<d.length-i;omega
 ·have:d.length-i=0:=by have:¬(i:Int)<d.length:=aQ m0;omega
  rw[<-hs,this,Rz];exact⟨[some 0],by rfl,by rfl,⟨by rfl,trivial⟩,by rfl⟩
theorem Avi{b:Bool}(h:(!b)=true):b=false:=by cases b<;>trivial
theorem Avj{b:Bool}(h:(!b)=false):b=true:=by cases b<;>trivial
theorem orT{a b:Prop}[Decidable a][Decidable b](h:(bif decide a then true else decide b)=true):a\/b:=by
 by_cases h1:a
 ·exact .inl h1
 ·rw[bE h1]at h;exact .inr (aM h)
def Wz(n:Int)(l:List EdgT):Prop:=(0<=n/\n<=16/\l.length<=16)/\(∀k:Nat,k<l.length->(0<=(l.getD k (0,0)).1/\(l.getD k (0,0)).1<n)/\0<=(l.getD k (0,0)).2/\(l.getD k (0,0)).2<n)/\
 ∀k:Nat,k+1<l.length->(l.getD k (0,0)).1<(l.getD (k+1) (0,0)).1\/(l.getD k (0,0)).1=(l.getD (k+1) (0,0)).1/\(l.getD k (0,0)).2<(l.getD (k+1) (0,0)).2
def W0(a b:EdgT):Int:=if a.1≠b.1 then a.1-b.1 else a.2-b.2
def cLess:Ctr:=fnC [dE,dE] rI (λy=>(0<=y.1.1/\y.1.1<=16)/\(0<=y.1.2/\y.1.2<=16)/\(0<=y.2.1.1/\y.2.1.1<=16)/\0<=y.2.1.2/\y.2.1.2<=16) (λy=>(W0 y.1 y.2.1,()))
theorem Att:GoodC Tryz.prog 143 cLess:=by
 refine Au En 3 _ _ _ _ ⟨_,Tryz.func143,rfl,rfl⟩ λ(⟨⟨a1,a2⟩,⟨b1,b2⟩,_⟩:EdgT×EdgT×Unit) hn=>?_
 replace hn:(0<=a1/\a1<=16)/\(0<=a2/\a2<=16)/\(0<=b1/\b1<=16)/\0<=b2/\b2<=16:=hn;refine(aF (aI (λh0=>(aO (Aa rfl ?_))) (λh0=>(aO (Aa rfl ?_)))))
 ·have h:W0 (a1,a2) (b1,b2)=a1-b1:=aP (aQ (Avi h0));exact bI (λb=>(b,())) h
 ·have h:W0 (a1,a2) (b1,b2)=a2-b2:=aL (λh=>h (aM (Avj h0)));exact bI (λb=>(b,())) h
def cxE3:Ctx:=⟨Aid,[(143,([],cLess))]⟩
theorem Aif:Ai Tryz.prog cxE3:=Ae Att En
def cDgC:Ctr:=fnC [dI,.dat false (.sl tE)] rI (λy=>Wz y.1 y.2.1) (λ_=>(0,()))
theorem Avk:GoodC Tryz.prog 102 cDgC:=by
 refine Au Aif 3 _ _ _ _ ⟨_,Tryz.func102,rfl,rfl⟩ λ(⟨n,l,_⟩:Int×List EdgT×Unit) hg=>?_
 replace hg:Wz n l:=hg;have hb:=hg.1;refine(aF (aI (λh0=>(Aa rfl ?_)) (λh0=>(λh1=>(aI (λ(h2:decide ((2000:Int)<(↑l.length:Int))=true)=>aT (aM h2) (by omega)) (λh2=>(λh3=>?_)))))))
 ·have:=orT h0;omega
 clear h0;refine ex4 _ (λi:Nat=>⟨[.int .i64 n,.sl tE l,.any,.any,.any,.any,.any,.any,.any,.any,.any,.any,.any,.any,.any,.any,.sl tE l,.int .i64 (↑l.length:Int),.int .i64 (i:Int)]++nA 37,[],0⟩) (λi=>i<=l.length) (λi=>l.length-i) (aI (eI (0) (eI ([]) (aI ?_ (aB (aI tT (by rfl)))))) ?_)
 ·exact aV _
 rintro i hi;replace hi:i<=l.length:=hi;have hr:decide ((i:Int)<(l.length:Int))=true->i<l.length/\(0<=(l.getD (i:Int).toNat (Ab tE)).1/\(l.getD (i:Int).toNat (Ab tE)).1<n)/\0<=(l.getD (i:Int).toNat (Ab tE)).2/\(l.getD (i:Int).toNat (Ab tE)).2<n:=λh=>by
  have hi':i<l.length:=by have:=aM h;omega
  exact⟨hi',hg.2.1 i hi'⟩
 have hp:decide ((i:Int)<(l.length:Int))=true->0<(i:Int)->((0<=(l.getD ((i:Int)-1).toNat (Ab tE)).1/\(l.getD ((i:Int)-1).toNat (Ab tE)).1<=16)/\(0<=(l.getD ((i:Int)-1).toNat (Ab tE)).2/\(l.getD ((i:Int)-1).toNat (Ab tE)).2<=16)/\(0<=(l.getD (i:Int).toNat (Ab tE)).1/\(l.getD (i:Int).toNat (Ab tE)).1<=16)/\0<=(l.getD (i:Int).toNat (Ab tE)).2/\(l.getD (i:Int).toNat (Ab tE)).2<=16)/\
  W0 (l.getD ((i:Int)-1).toNat (Ab tE)) (l.getD (i:Int).toNat (Ab tE))<0:=λh h1=>by
  obtain⟨hi',hx⟩:=hr h;obtain⟨j,rfl⟩:∃j,i=j+1:=⟨i-1,by omega⟩;have e1:(((j+1:Nat):Int)-1).toNat=j:=by omega
  rw[e1];have hy:=hg.2.1 j (by omega);have ho:(l.getD j (Ab tE)).1<(l.getD ((j+1:Nat):Int).toNat (Ab tE)).1\/(l.getD j (Ab tE)).1=(l.getD ((j+1:Nat):Int).toNat (Ab tE)).1/\(l.getD j (Ab tE)).2<(l.getD ((j+1:Nat):Int).toNat (Ab tE)).2:=hg.2.2 j hi';replace hy:(0<=(l.getD j (Ab tE)).1/\(l.getD j (Ab tE)).1<n)/\0<=(l.getD j (Ab tE)).2/\(l.getD j (Ab tE)).2<n:=hy;refine⟨by omega, ?_⟩;unfold W0;split<;>omega
 refine(aI (λk0=>(aO (aI (λk1=>(Aa rfl ?_)) (λk1=>(aF (aI (λk2=>(by intros;(try subst_vars);(try simp only[nB]at *);(try simp only[inK,big,lim,nL]at *);omega)) (aI (λk3=>(by intros;(try subst_vars);(try simp only[nB]at *);(try simp only[inK,big,lim,nL]at *);omega)) (aI (λk4=>?_) (aI (λk5=>(Aa rfl ?_)) (λk5=>(aO ?_))))))))))) (λk0=>(Aa rfl ?_)))
 ·obtain⟨-,q1,q2⟩:=hr k0;rw[bE (fK.2 q1.1),bE (Int.not_le.2 q1.2),bE (fK.2 q2.1),bE (Int.not_le.2 q2.2)]at k1;cases k1
 ·exact(hp k0 (aM k4)).1
 ·by_cases hi0:0<(i:Int)
  ·have:=(hp k0 hi0).2;rw[aX hi0]at k5;have k5:0<=W0 (l.getD ((i:Int)-1).toNat (Ab tE)) (l.getD (i:Int).toNat (Ab tE)):=aM k5;omega
  ·rw[bE hi0]at k5;cases k5
 ·have hi':=(hr k0).1;clear k0 k1 k5;refine eI (i+1) (eI ([]) (aI ?_ (aI ?_ (aB (aI tT (by rfl))))))
  ·exact hi'
  ·show l.length-(i+1)<l.length-i;omega
 rfl
def Cb:List Int->Int->Nat->Int
 |[],_,_=>-1
 |a::l,v,k=>if v=a then k else Cb l v (k+1)
def cIndex:Ctr:=fnC [dIs,dI] rI (λ_=>True) (λy=>(Cb y.1 y.2.1 0,()))
theorem Amd{l:List Int}{i:Nat}(v:Int)(h:i<l.length):Cb (l.drop i) v i=if v=l.getD i 0 then(i:Int)else Cb (l.drop (i+1)) v (i+1):=by
 rw[cG h,Cb];simp[aZ,aR h]
theorem Arz:GoodC Tryz.prog 66 cIndex:=by
 refine Au En 3 _ _ _ _ ⟨_,Tryz.func66,rfl,rfl⟩ λ(⟨l,v,_⟩:List Int×Int×Unit) _=>?_
 refine(aF (λh0=>?_));refine ex4 _ (λi:Nat=>⟨[.sl (.int .i64) l,.int .i64 v,.any,.any,.any,.any,.sl (.int .i64) l,.int .i64 (↑l.length:Int),.int .i64 (i:Int),.any,.any,.any,.any,.any,.any,.any,.any,.any,.any],[],0⟩) (λi=>i<=l.length/\Cb l v 0=Cb (l.drop i) v i) (λi=>l.length-i) (aI (eI (0) (eI ([]) (aI ?_ (aB (aI tT (by rfl)))))) ?_)
 ·exact⟨aV _,rfl⟩
 rintro i ⟨hi,hd⟩;replace hi:i<=l.length:=hi;replace hd:Cb l v 0=Cb (l.drop i) v i:=hd;have hs:decide ((i:Int)<(l.length:Int))=true->Cb l v 0=if v=l.getD (i:Int).toNat (Ab (.int .i64))then(i:Int)else Cb (l.drop (i+1)) v (i+1):=λh=>hd.trans (Amd v (by have:=aM h;omega))
 refine(aI (λk0=>(aO (aI (λk1=>(Aa rfl ?_)) (λk1=>(aO ?_))))) (λk0=>(Aa rfl ?_)))
 ·exact bI (λb=>(b,())) ((hs k0).trans (aP (aM k1)))
 ·have hs':=(hs k0).trans (aL (aQ k1));have hi':i<l.length:=by have:=aM k0;omega
  clear k0 k1;refine eI (i+1) (eI ([]) (aI ?_ (aI ?_ (aB (aI tT (by rfl))))))
  ·exact⟨hi',hs'⟩
  ·show l.length-(i+1)<l.length-i;omega
 ·have hi':i=l.length:=by have:=aQ k0;omega
  rw[hd,hi',gN];rfl
def Bw(l:List EdgT)(u:Nat):List Int:=(l.filter λe=>e.1==(u:Int)).map Prod.snd
def Ln(o:List Int)(v:Int):List Int:=o.set v.toNat (o.getD v.toNat 0-1)
def Ni(o:List Int)(e:EdgT):List Int:=o.set e.2.toNat (o.getD e.2.toNat 0+1)
def Nj(l:List EdgT):Nat->List Int->List Int->List Int×Int
 |0,_,out=>(out,0)
 |k+1,o,out=>if Cb o 0 0<0 then([],21)else Nj l k ((Bw l (Cb o 0 0).toNat).foldl Ln (o.set (Cb o 0 0).toNat (-1))) (out++[Cb o 0 0])
def W3(n:Nat)(l:List EdgT):List Int×Int:=Nj l n (l.foldl Ni (List.replicate n 0)) []
def Avl:List (TypeId×Ty):=(3000026,tI)::Aid
end Go.Proofs.YtpabcdbaffjcdaaGreat
