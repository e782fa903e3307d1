/- Pipelines. -/
import Derived.Test.YtpabcdbaffjcdaaGreatJP
set_option linter.unusedSimpArgs false
set_option linter.unusedVariables false
set_option maxRecDepth 100000
namespace Go.Proofs.YtpabcdbaffjcdaaGreat
open Go.Sx
@[reducible] def A6:Ty:=.pair tI (.pair tI (.pair tI (.pair tI tI)))
@[reducible] def tPl:Ty:=.pair (.sl tSt) (.sl A6)
@[reducible] def dPl:AK:=.dat true tPl
@[reducible] def Avv:AK:=.dat true A6
def cWi:Ctr:=fnC [dI,dI,dI] rB (λ_=>True) (λy=>(inR y.1 y.2.1 y.2.2.1,()))
theorem gWi:GoodC Tryz.prog 25 cWi:=by
 refine Au Ah 3 _ _ _ _ ⟨_,Tryz.func25,rfl,rfl⟩ λ⟨n,lo,hi,_⟩ _=>?_
 refine(aF (Aa rfl (by simp[inR])))
theorem Abf(i n:Int)(y:PipeT):Up i n y=(bif decide (y.1=i)then decide (y.2.1=n)else false):=by unfold Up;cases decide (y.1=i)<;>rfl
theorem Afw(i n:Int)(y:PipeT):inB i n y=(bif decide (y.2.2.1=i)then decide (y.2.2.2.1=n)else false):=by unfold inB;cases decide (y.2.2.1=i)<;>rfl
def cOut:Ctr:=fnC [dPl,dI,dI] rI (λ_=>True) (λy=>(pOut y.1 y.2.1 y.2.2.1,()))
theorem Aom:GoodC Tryz.prog 17 cOut:=by
 refine Au Ah 5 _ _ _ _ ⟨_,Tryz.func17,rfl,rfl⟩ λ(⟨⟨st,ps⟩,i,n,_⟩:PlT×Int×Int×Unit) _=>?_
 refine(aF (aF (aF (λh0=>?_))));refine ex4 _ (λj:Nat=>⟨[.sl A6 ps,.fn (Fn.func 47) [] [.ptr 1 0,.ptr 2 0],.any,.any,.int .i64 0,.any,.sl A6 ps,.int .i64 (↑ps.length:Int),.int .i64 (j:Int),.any,.any,.any,.any,.any,.any,.any,.any,.any,.any],[.cells [.sl tSt st,.sl A6 ps],.cells [.int .i64 i],.cells [.int .i64 n]],3⟩) (λj=>j<=ps.length/\Ao (Up i n) ps 0=Ao (Up i n) (ps.drop j) j) (λj=>ps.length-j) (aI (eI (0) (eI ([some 0,some 1,some 2]) (aI ?_ (aB (aI (aH (aG tT)) (by rfl)))))) ?_)
 ·exact⟨aV _,rfl⟩
 rintro j ⟨hj,ht⟩;refine(aI (λk0=>(aO (aF (aI (λk1=>(Aa rfl ?_)) (λk1=>(aO ?_)))))) (λk0=>(Aa rfl ?_)))
 ·show(Ao (Up i n) ps 0,())=_;rw[ht,A2 (Up i n) Ag ps j (by simpa using k0),aP (by rw[Abf];exact k1)]
 ·refine eI (j+1) (eI ([some 0,some 1,some 2]) (aI ?_ (aI ?_ (aB (aI (aH (aG tT)) (by rfl))))))
  ·have hj':j<ps.length:=by simpa using k0
   refine⟨hj', ?_⟩;rw[ht,A2 (Up i n) Ag ps j hj',aL (by rw[Abf];exactλh=>aY (k1.symm.trans h))]
  ·have hj':j<ps.length:=by simpa using k0
   show ps.length-(j+1)<ps.length-j;omega
 ·show(Ao (Up i n) ps 0,())=_;have hj':¬j<ps.length:=by simpa using k0
  rw[ht,bK (by omega)];rfl
def cIn:Ctr:=fnC [dPl,dI,dI] rI (λ_=>True) (λy=>(pIn y.1 y.2.1 y.2.2.1,()))
theorem gIn:GoodC Tryz.prog 15 cIn:=by
 refine Au Ah 5 _ _ _ _ ⟨_,Tryz.func15,rfl,rfl⟩ λ(⟨⟨st,ps⟩,i,n,_⟩:PlT×Int×Int×Unit) _=>?_
 refine(aF (aF (aF (λh0=>?_))));refine ex4 _ (λj:Nat=>⟨[.sl A6 ps,.fn (Fn.func 39) [] [.ptr 1 0,.ptr 2 0],.any,.any,.int .i64 0,.any,.sl A6 ps,.int .i64 (↑ps.length:Int),.int .i64 (j:Int),.any,.any,.any,.any,.any,.any,.any,.any,.any,.any],[.cells [.sl tSt st,.sl A6 ps],.cells [.int .i64 i],.cells [.int .i64 n]],3⟩) (λj=>j<=ps.length/\Ao (inB i n) ps 0=Ao (inB i n) (ps.drop j) j) (λj=>ps.length-j) (aI (eI (0) (eI ([some 0,some 1,some 2]) (aI ?_ (aB (aI (aH (aG tT)) (by rfl)))))) ?_)
 ·exact⟨aV _,rfl⟩
 rintro j ⟨hj,ht⟩;refine(aI (λk0=>(aO (aF (aI (λk1=>(Aa rfl ?_)) (λk1=>(aO ?_)))))) (λk0=>(Aa rfl ?_)))
 ·show(Ao (inB i n) ps 0,())=_;rw[ht,A2 (inB i n) Ag ps j (by simpa using k0),aP (by rw[Afw];exact k1)]
 ·refine eI (j+1) (eI ([some 0,some 1,some 2]) (aI ?_ (aI ?_ (aB (aI (aH (aG tT)) (by rfl))))))
  ·have hj':j<ps.length:=by simpa using k0
   refine⟨hj', ?_⟩;rw[ht,A2 (inB i n) Ag ps j hj',aL (by rw[Afw];exactλh=>aY (k1.symm.trans h))]
  ·have hj':j<ps.length:=by simpa using k0
   show ps.length-(j+1)<ps.length-j;omega
 ·show(Ao (inB i n) ps 0,())=_;have hj':¬j<ps.length:=by simpa using k0
  rw[ht,bK (by omega)];rfl
theorem Pr(s:StT):0<=stIn s/\stIn s<=2/\0<=stOut s/\stOut s<=2:=by
 have h:∀k:Int,0<=(Ap k).1/\(Ap k).1<=2/\0<=(Ap k).2.1/\(Ap k).2.1<=2:=λk=>by
  unfold Ap
  repeat' split
  all_goals decide
 unfold stIn stOut;have:=h s.1;split<;>omega
theorem Aum(s:StT):-9223372036854775808<=stOut s-1/\stOut s-1<=9223372036854775807:=by have:=Pr s;omega
theorem inN(s:StT):-9223372036854775808<=stIn s-1/\stIn s-1<=9223372036854775807:=by have:=Pr s;omega
theorem Jx{a b:Bool}(h:(bif a then true else b)=false):a=false/\b=false:=by cases a<;>cases b<;>simp_all
theorem Yk{a b:Bool}(h:(bif a then b else false)=true):a=true/\b=true:=by cases a<;>cases b<;>simp_all
theorem B5{a:Bool}(h:(!a)=false):a=true:=by cases a<;>simp_all
theorem Aun(a b c d e:Bool):(bif bif bif bif !a then true else !b then true else !c then true else !d then true else !e)=(!a||(!b||(!c||(!d || !e)))):=by cases a<;>cases b<;>cases c<;>cases d<;>cases e<;>rfl
theorem Afx{n:Int}{st:List StT}(h:inR n 0 (st.length-1)=true):0<=n/\n<st.length:=by have:=Lk.1 h;omega
theorem Al1{p q:Prop}[Decidable p][Decidable q](h:(bif decide p then true else decide q)=true):p\/q:=by
 by_cases hp:p
 ·exact .inl hp
 ·rw[bE hp]at h;exact .inr (aM h)
theorem Yl{p q:Prop}[Decidable p][Decidable q](h:(bif decide p then true else decide q)=false):¬(p\/q):=by
 have:=Jx h
 exactλh=>h.elim (aQ this.1) (aQ this.2)
theorem Aon{p q:Prop}[Decidable p][Decidable q](h:(bif decide p then decide q else false)=true):p/\q:=by
 have:=Yk h;exact⟨aM this.1,aM this.2⟩
theorem Al2{p q:Prop}[Decidable p][Decidable q](h:(bif decide p then decide q else false)=false):¬(p/\q):=by
 rintro⟨a,b⟩;rw[aX a,aX b]at h;cases h
def Al3:List (TypeId×Ty):=(46,A6)::(33,tSt)::Dk
def cxqB:Ctx:=⟨Al3,[(25,([],cWi)),(17,([],cOut)),(15,([],cIn)),(14,([],c19)),(27,([],c21))]⟩
theorem Ws:Ai Tryz.prog cxqB:=Dl (Ae gWi (Ae Aom (Ae gIn (Ae Ac8 (Ae Ac9 Ah)))))
def cChkP:Ctr:=fnC [dPl,dI] rI (λy=>0<=y.2.1/\y.2.1<y.1.2.length) (λy=>(H7 y.1 y.2.1 (y.1.2.getD y.2.1.toNat Ag),()))
set_option maxHeartbeats 8000000 in
theorem Atb:GoodC Tryz.prog 28 cChkP:=by
 refine Au Ws 3 _ _ _ _ ⟨_,Tryz.func28,rfl,rfl⟩ λ(⟨⟨st,ps⟩,k,_⟩:PlT×Int×Unit) hk=>?_
 refine(aF (aI (by omega) (λh0=>(aO (aF (aI tT (aI (λh1=>tT) (aI (λh2=>?_) (aI (λh3=>tT) (aI (λh4=>?_) (aI (λh5=>tT) (aI (λh6=>?_) (aI (λh7=>tT) (aI (λh8=>?_) (aI (λh9=>tT) (aI (λh10=>tT) (aI (λh11=>(Aa rfl ?_)) (λh11=>(aI tT (aI (λh12=>tT) (aI (λh13=>(Aa rfl ?_)) (λh13=>(aI ?_ (aI (λh14=>(Aa rfl ?_)) (λh14=>(Aa rfl ?_))))))))))))))))))))))))))
 all_goals generalize hy:ps.getD k.toNat (Ab A6)=y at *
 ·exact Afx (B5 (Jx h2).1)
 ·exact Aum _
 ·exact Afx (B5 (Jx (Jx h6).1).2)
 ·exact inN _
 all_goals simp only[eta]at h11
 all_goals rw[Aun]at h11
 all_goals try rw[show ps.getD k.toNat Ag=y from hy]
 all_goals try unfold H7
 ·rw[aP (show Hr (st,ps) y=true from h11)]
 ·rw[aL (λh=>aY (Eq.trans (Eq.symm (show Hr (st,ps) y=false from h11)) h)),aP (Al1 h13)]
 ·simp only[bJ]at h11;exact Afx (B5 h11.1)
 ·rw[aL (λh=>aY (Eq.trans (Eq.symm (show Hr (st,ps) y=false from h11)) h)),aL (Yl h13),aP (show(sg (st,ps) y.1).1=5/\y.2.2.2.2<(sg (st,ps) y.1).2.1 from Aon h14)]
 ·rw[aL (λh=>aY (Eq.trans (Eq.symm (show Hr (st,ps) y=false from h11)) h)),aL (Yl h13),aL (show ¬((sg (st,ps) y.1).1=5/\y.2.2.2.2<(sg (st,ps) y.1).2.1)from Al2 h14)]
def inS(x:PlT):Prop:=∀k:Nat,k<x.2.length->0<=(x.2.getD k Ag).1/\(x.2.getD k Ag).1<x.1.length/\0<=(x.2.getD k Ag).2.2.1/\(x.2.getD k Ag).2.2.1<x.1.length
theorem Al4{n i:Nat}(h:i<n):(ints i++List.replicate (n-i) (0:Int)).set i i=ints (i+1)++List.replicate (n-(i+1)) 0:=by
 rw[List.set_append,aL (by simp[ints]),show n-i=(n-(i+1))+1 by omega,List.replicate_succ];simp[ints,dL]
theorem Wt{ps:List PipeT}{g:List Int}{j:Nat}(h:j<ps.length):Gy (ps.drop j) g=if g.getD (ps.getD j Ag).1.toNat 0=g.getD (ps.getD j Ag).2.2.1.toNat 0 then true else Gy (ps.drop (j+1)) (Jd (ps.getD j Ag) g):=by
 rw[cG h,Gy];simp[aZ,aR h]
theorem Ps{y:PipeT}{g q:List Int}{k:Nat}(h:k<g.length)(hq:q=(Jd y g).take k++g.drop k):q.length=g.length/\q.getD k 0=g.getD k 0/\
 (g.getD k 0=g.getD y.2.2.1.toNat 0->q.set k (g.getD y.1.toNat 0)=(Jd y g).take (k+1)++g.drop (k+1))/\(g.getD k 0≠g.getD y.2.2.1.toNat 0->q=(Jd y g).take (k+1)++g.drop (k+1)):=by
 have hl:(Jd y g).length=g.length:=by simp[Jd]
 have e1:(Jd y g).take (k+1)=(Jd y g).take k++[if g[k]=g.getD y.2.2.1.toNat 0 then g.getD y.1.toNat 0 else g[k]]:=by
  rw[bS (by omega)];simp[Jd]
 have e2:g.drop k=g[k]::g.drop (k+1):=cG h;have e3:g.getD k 0=g[k]:=by simp[aZ,aR h]
 have e4:((Jd y g).take k).length=k:=by rw[bP];omega
 subst hq;refine⟨by simp;omega, ?_,λhb=>?_,λhb=>?_⟩
 ·rw[aZ,eA,aL (by omega),e4,fO,e2,e3];rfl
 ·rw[e1,e2,aP (by rw[<-e3];exact hb),List.set_append,aL (by omega),e4,fO,dR];rfl
 ·rw[e1,e2,aL (by rw[<-e3];exact hb),dR];rfl
def cCirc:Ctr:=fnC [dPl] rB (λy=>y.1.1.length<=1000/\inS y.1) (λy=>(Gy y.1.2 (ints y.1.1.length),()))
theorem Atc:GoodC Tryz.prog 29 cCirc:=by
 refine Au Ws 3 _ _ _ _ ⟨_,Tryz.func29,rfl,rfl⟩ λ(⟨⟨st,ps⟩,_⟩:PlT×Unit) hk=>?_
 replace hk:st.length<=1000/\inS (st,ps):=hk;have hlen:=hk.1;refine(aF (λh0=>(aO (λh1=>?_))));refine ex4 _ (λi:Nat=>⟨[.any,.ptr 0 0,.any,.own 1,.any,.any,.any,.any,.any,.any,.any,.any,.any,.any,.any,.own 1,.int .i64 ((List.replicate st.length (0:Int)).length:Int),.int .i64 (i:Int)]++nA 43,[.cells [.sl tSt st,.sl A6 ps],.rows tI (ints i++List.replicate (st.length-i) 0)],2⟩) (λi=>i<=st.length) (λi=>st.length-i) (aI (eI (0) (eI ([some 0,some 1]) (aI ?_ (aB (aI (aG (aA tT)) (by rfl)))))) ?_)
 ·exact aV _
 rintro i hi;have hL:∀i≤st.length,(ints i++List.replicate (st.length-i) 0).length=st.length:=λi hi=>by simp[ints];omega
 refine(aI (λk0=>(aI ?_ (aO ?_))) (λk0=>(λk1=>?_)))
 ·have hi':i<st.length:=by simpa using k0
  rw[hL i hi];omega
 ·refine eI (i+1) (eI ([some 0,some 1]) (aI ?_ (aI ?_ (aB (aI (aG (aI ?_ tT)) (by rfl))))))
  ·have hi':i<st.length:=by simpa using k0
   exact hi'
  ·have hi':i<st.length:=by simpa using k0
   show st.length-(i+1)<st.length-i;omega
  ·have hi':i<st.length:=by simpa using k0
   exact bI (Ob.rows tI) (Al4 hi')
 have hi':i=st.length:=by have:¬i<st.length:=(by simpa using k0);omega
 subst hi';refine ex4 _ (λp:Nat×List Int=>⟨[.any,.ptr 0 0,.any,.own 1,.any,.any,.any,.any,.any,.any,.any,.any,.any,.any,.any,.any,.any,.any,.any,.any,.any,.any,.any,.any,.any,.ptr 0 1,.sl A6 ps,.int .i64 (↑ps.length:Int),.int .i64 (p.1:Int)]++nA 32,[.cells [.sl tSt st,.sl A6 ps],.rows tI p.2],2⟩) (λp=>p.1<=ps.length/\p.2.length=st.length/\Gy (ps.drop p.1) p.2=Gy ps (ints st.length)) (λp=>ps.length-p.1) (aI (eI ((0,ints st.length++List.replicate (st.length-st.length) 0)) (eI ([some 0,some 1]) (aI ?_ (aB (aI (aG (aA tT)) (by rfl)))))) ?_)
 ·refine⟨aV _,hL _ (bA _), ?_⟩;rw[fO];show Gy ps (ints st.length++[])=_;rw[cC]
 rintro⟨j,g⟩ ⟨hj,hg,hc⟩;replace hj:j<=ps.length:=hj;replace hg:g.length=st.length:=hg;replace hc:Gy (ps.drop j) g=Gy ps (ints st.length):=hc;have hy0:∀j:Nat,j<ps.length->0<=(ps.getD (j:Int).toNat (Ab A6)).1/\(ps.getD (j:Int).toNat (Ab A6)).1<g.length/\0<=(ps.getD (j:Int).toNat (Ab A6)).2.2.1/\(ps.getD (j:Int).toNat (Ab A6)).2.2.1<g.length:=λj h=>by
  have:=hk.2 j h;rw[hg];exact this
 refine(aI (λm0=>(aO (aF (aI ?_ (aI ?_ (aI (λm1=>(Aa rfl ?_)) (λm1=>(λm2=>?_)))))))) (λm0=>(Aa rfl ?_)))
 ·have:=hy0 j (by simpa using m0);exact⟨this.1,this.2.1⟩
 ·have:=hy0 j (by simpa using m0);exact⟨this.2.2.1,this.2.2.2⟩
 ·have hj':j<ps.length:=by simpa using m0
  exact bI (λb=>(b,())) (hc.symm.trans ((Wt hj').trans (aP (aM m1))))
 ·have hj':j<ps.length:=by simpa using m0
  have hcd:Gy (ps.drop j) g=Gy (ps.drop (j+1)) (Jd (ps.getD (j:Int).toNat (Ab A6)) g):=(Wt hj').trans (aL (aQ m1));clear m0 m1;generalize ps.getD (j:Int).toNat (Ab A6)=y at *;refine ex4 _ (λq:Nat×List Int=>⟨[.any,.ptr 0 0,.any,.own 1,.any,.any,.ptr 2 0,.int .i64 (g.getD y.1.toNat (Ab tI)),.int .i64 (g.getD y.2.2.1.toNat (Ab tI)),.any,.any,.any,.any,.any,.any,.any,.any,.any,.any,.any,.any,.any,.any,.any,.any,.ptr 0 1,.sl A6 ps,.int .i64 (↑ps.length:Int),.int .i64 (↑j:Int),.bool (decide ((↑j:Int)<(↑ps.length:Int))),.eptr   [PV.int .i64 y.1,PV.int .i64 y.2.1,PV.int .i64 y.2.2.1,PV.int .i64 y.2.2.2.1,     PV.int .i64 y.2.2.2.2],.agg   [.int .i64 y.1,.int .i64 y.2.1,.int .i64 y.2.2.1,.int .i64 y.2.2.2.1,     .int .i64 y.2.2.2.2],.own 1,.ptr 2 0,.int .i64 y.1,.rptr 1 tI.size y.1.toNat 0,.int .i64 (g.getD y.1.toNat (Ab tI)),.own 1,.ptr 2 2,.int .i64 y.2.2.1,.rptr 1 tI.size y.2.2.1.toNat 0,.int .i64 (g.getD y.2.2.1.toNat (Ab tI)),.int .i64 (g.getD y.1.toNat (Ab tI)),.int .i64 (g.getD y.2.2.1.toNat (Ab tI)),.bool (decide (g.getD y.1.toNat (Ab tI)=g.getD y.2.2.1.toNat (Ab tI))),.own 1,.int .i64 (↑g.length:Int),.int .i64 (q.1:Int)]++nA 13,[.cells [.sl tSt st,.sl A6 ps],.rows tI q.2,.cells   [.int .i64 y.1,.int .i64 y.2.1,.int .i64 y.2.2.1,.int .i64 y.2.2.2.1,     .int .i64 y.2.2.2.2]],3⟩) (λq=>q.1<=g.length/\q.2=(Jd y g).take q.1++g.drop q.1) (λq=>g.length-q.1) (aI (eI ((0,g)) (eI ([some 0,some 1,some 2]) (aI ?_ (aB (aI (aG (aA (aG tT))) (by rfl)))))) ?_)
  ·exact⟨aV _,rfl⟩
  rintro⟨l,q⟩ ⟨hl,hq⟩;replace hl:l<=g.length:=hl;replace hq:q=(Jd y g).take l++g.drop l:=hq;have hql:q.length=g.length:=by
   rw[hq,bD,bP,cI,show(Jd y g).length=g.length by simp[Jd]];omega
  have hl':decide ((l:Int)<(g.length:Int))=true->l<g.length:=λh=>by have:=aM h;omega
  refine(aI (λn0=>(aO (aI (λn1=>(aO (aO ?_))) (λn1=>(aO ?_))))) (λn0=>(aO ?_)))
  ·refine eI ((l+1,q.set l (g.getD y.1.toNat 0))) (eI ([some 0,some 1,some 2]) (aI ?_ (aI ?_ (aB (aI (aG (aA (aG tT))) (by rfl))))))
   ·exact⟨hl' n0,(Ps (hl' n0) hq).2.2.1 (((Ps (hl' n0) hq).2.1).symm.trans (aM n1))⟩
   ·have:=hl' n0;show g.length-(l+1)<g.length-l;omega
  ·refine eI ((l+1,q)) (eI ([some 0,some 1,some 2]) (aI ?_ (aI ?_ (aB (aI (aG (aA (aG tT))) (by rfl))))))
   ·exact⟨hl' n0,(Ps (hl' n0) hq).2.2.2 (λh=>aQ n1 (((Ps (hl' n0) hq).2.1).trans h))⟩
   ·have:=hl' n0;show g.length-(l+1)<g.length-l;omega
  ·have hl2:l=g.length:=by have:¬(l:Int)<(g.length:Int):=aQ n0;omega
   have hq2:q=Jd y g:=by
    rw[hq,hl2,gN,cC,bL (by simp[Jd])]
   refine eI ((j+1,q)) (eI ([some 0,some 1]) (aI ?_ (aI ?_ (aB (aI (aG (aA tT)) (by rfl))))))
   ·refine⟨hj',hql.trans hg, ?_⟩;show Gy (ps.drop (j+1)) q=_;rw[hq2,<-hcd];exact hc
   ·show ps.length-(j+1)<ps.length-j;omega
 ·have hj':¬j<ps.length:=by simpa using m0
  rw[<-hc,bK (by omega)];rfl
def cxqD:Ctx:=⟨Al3,[(25,([],cWi)),(28,([],cChkP)),(29,([],cCirc)),(26,([],c17)),(14,([],c19)),(27,([],c21))]⟩
theorem Ah2:Ai Tryz.prog cxqD:=Dl (Ae gWi (Ae Atb (Ae Atc (Ae Uf (Ae Ac8 (Ae Ac9 Ah))))))
theorem Wu{st:List StT}{i:Nat}(h:i<st.length):Es (st.take (i+1))=Es (st.take i)+(stIn (st.getD i zStg)+stOut (st.getD i zStg)):=by
 unfold Es;rw[bS h,dO];simp[aZ,aR h]
theorem Afy(st:List StT):∀i:Nat,i<=st.length->0<=Es (st.take i)/\Es (st.take i)<=4*i
 |0,_=>by simp[Es]
 |i+1,h=>by
  have:=Afy st i (by omega);rw[Wu (by omega)];have:=Pr (st.getD i zStg);omega
theorem Abg{α:Type}(f:α->Int)(d:α){l:List α}{i:Nat}(h:i<l.length):B9 ((l.drop i).map f)=if f (l.getD i d)≠0 then f (l.getD i d)else B9 ((l.drop (i+1)).map f):=by
 rw[cG h,eD,B9];simp[aZ,aR h]
theorem Arm{x:PlT}(h:B9 ((List.range x.2.length).map (λk:Nat=>H7 x k (x.2.getD k Ag)))=0):inS x:=λk hk=>by
 have h:=Yi _ h _ (cU.2 ⟨k,cZ.2 hk,rfl⟩);unfold H7 at h;split at h
 ·cases h
 ·rename_i h1;simp only[Hr,bY,bM,not_or,fC,Lk]at h1;omega
def cPChk:Ctr:=fnC [dPl] rI (λ_=>True) (λy=>(Fa y.1,()))
set_option maxHeartbeats 8000000 in
theorem Afz:GoodC Tryz.prog 11 cPChk:=by
 refine Au Ah2 3 _ _ _ _ ⟨_,Tryz.func11,rfl,rfl⟩ λ(⟨⟨st,ps⟩,_⟩:PlT×Unit) _=>?_
 refine(aF (λh0=>(aI tT (aI (λh1=>(Aa rfl ?_)) (λh1=>(λh2=>?_))))))
 ·have h1':¬(1<=st.length/\st.length<=16):=λh=>by
   have h2:inR (st.length:Int) 1 16=true:=Lk.2 (by omega);have h1:(!inR (st.length:Int) 1 16)=true:=h1;rw[h2]at h1;cases h1
  show(Fa (st,ps),())=_;unfold Fa;rw[aP h1']
 have h1b:1<=(st.length:Int)/\(st.length:Int)<=16:=Lk.1 (B5 h1);have hn:1<=st.length/\st.length<=16:=by omega
 have p1:Fa (st,ps)=if B9 (st.map Al)≠0 then B9 (st.map Al)else if 32<ps.length then 4
  else if B9 ((List.range ps.length).map (λk:Nat=>H7 (st,ps) k (ps.getD k Ag)))≠0 then B9 ((List.range ps.length).map (λk:Nat=>H7 (st,ps) k (ps.getD k Ag)))
  else if Es st≠2*ps.length then 10 else if Gy ps (ints st.length)=true then 21 else 0:=by
  show(if ¬(1<=st.length/\st.length<=16)then _ else _)=_;rw[aL (λh=>h hn)]
 clear h1;refine ex4 _ (λp:Nat×Int=>⟨[.any,.ptr 0 0,.any,.int .i64 p.2,.any,.any,.any,.any,.any,.any,.any,.any,.any,.any,.ptr 0 0,.sl tSt st,.int .i64 (↑st.length:Int),.int .i64 (p.1:Int)]++nA 41,[.cells [.sl tSt st,.sl A6 ps]],1⟩) (λp=>p.1<=st.length/\p.2=Es (st.take p.1)/\B9 (st.map Al)=B9 ((st.drop p.1).map Al)) (λp=>st.length-p.1) (aI (eI ((0,0)) (eI ([some 0]) (aI ?_ (aB (aI (aG tT) (by rfl)))))) ?_)
 ·exact⟨aV _,rfl,rfl⟩
 rintro⟨i,n⟩ ⟨hi,hnn,he⟩;replace hi:i<=st.length:=hi;replace hnn:n=Es (st.take i):=hnn;replace he:B9 (st.map Al)=B9 ((st.drop i).map Al):=he;have hb:=Afy st i hi;have hd:i<st.length->B9 (st.map Al)=if Al (st.getD (i:Int).toNat (Ab tSt))≠0 then Al (st.getD (i:Int).toNat (Ab tSt))else B9 ((st.drop (i+1)).map Al):=λh=>he.trans (Abg Al zStg h)
 have hen:i<st.length->Es (st.take (i+1))=Es (st.take i)+(stIn (st.getD (i:Int).toNat (Ab tSt))+stOut (st.getD (i:Int).toNat (Ab tSt))):=λh=>Wu h
 have hlt:decide ((i:Int)<(st.length:Int))=true->i<st.length:=λh=>by have:=aM h;omega
 refine(aI (λk0=>(aO (aI tT (aI (λk1=>(Aa rfl ?_)) (λk1=>(aF (aI tT (aI tT (aI ?_ (aI ?_ (aO ?_))))))))))) (λk0=>(λk2=>(aI (λk3=>(Aa rfl ?_)) (λk3=>(λk4=>?_))))))
 ·simp only[eta]at k1 ⊢;have hne:Al (st.getD (i:Int).toNat (Ab tSt))≠0:=λh=>by
   have k1:(!decide (Al (st.getD (i:Int).toNat (Ab tSt))=0))=true:=k1;rw[h]at k1;cases k1
  have e:=(hd (hlt k0)).trans (aP hne);exact bI (λn=>(n,())) (p1.trans ((aP (by rw[e];exact hne)).trans e))
 ·have:=Pr (st.getD (i:Int).toNat (Ab tSt));simp only[eta];show -9223372036854775808<=stIn (st.getD (i:Int).toNat (Ab tSt))+stOut (st.getD (i:Int).toNat (Ab tSt))/\stIn (st.getD (i:Int).toNat (Ab tSt))+stOut (st.getD (i:Int).toNat (Ab tSt))<=9223372036854775807;omega
 ·have:=Pr (st.getD (i:Int).toNat (Ab tSt));simp only[eta];show -9223372036854775808<=n+(stIn (st.getD (i:Int).toNat (Ab tSt))+stOut (st.getD (i:Int).toNat (Ab tSt)))/\n+(stIn (st.getD (i:Int).toNat (Ab tSt))+stOut (st.getD (i:Int).toNat (Ab tSt)))<=9223372036854775807;omega
 ·simp only[eta]at k1;refine eI ((i+1,_)) (eI ([some 0]) (aI ?_ (aI ?_ (aB (aI (aG tT) (by rfl))))))
  ·have hz:¬Al (st.getD (i:Int).toNat (Ab tSt))≠0:=λh=>by
    have k1:(!decide (Al (st.getD (i:Int).toNat (Ab tSt))=0))=false:=k1;rw[bE h]at k1;cases k1
   refine⟨hlt k0, ?_,(hd (hlt k0)).trans (aL hz)⟩;simp only[eta];show n+(stIn (st.getD (i:Int).toNat (Ab tSt))+stOut (st.getD (i:Int).toNat (Ab tSt)))=Es (st.take (i+1));rw[hnn];exact(hen (hlt k0)).symm
  ·have:=hlt k0;show st.length-(i+1)<st.length-i;omega
 all_goals
  have hi2:i=st.length:=by
   have:¬(i:Int)<(st.length:Int):=aQ k0;omega
  have hz:B9 (st.map Al)=0:=by rw[he,hi2,gN];rfl
  have hn2:n=Es st:=by rw[hnn,hi2,dD]
  rw[aL (by rw[hz];simp)]at p1;clear hd hen hlt he hnn hb k0;subst hn2
 ·exact bI (λn=>(n,())) (p1.trans (aP (by have:=aM k3;omega)))
 rw[aL (by have:=aQ k3;omega)]at p1;have hp32:ps.length<=32:=by have:=aQ k3;omega
 refine ex4 _ (λj:Nat=>⟨[.any,.ptr 0 0,.any,.int .i64 (Es st),.any,.any,.any,.any,.any,.any,.any,.any,.any,.any,.any,.any,.any,.any,.any,.any,.any,.any,.any,.any,.any,.any,.any,.any,.any,.any,.any,.any,.any,.any,.any,.any,.any,.any,.ptr 0 1,.sl A6 ps,.int .i64 (↑ps.length:Int),.int .i64 (j:Int)]++nA 17,[.cells [.sl tSt st,.sl A6 ps]],1⟩) (λj=>j<=ps.length/\B9 ((List.range ps.length).map (λk:Nat=>H7 (st,ps) k (ps.getD k Ag)))=B9 (((List.range ps.length).drop j).map (λk:Nat=>H7 (st,ps) k (ps.getD k Ag)))) (λj=>ps.length-j) (aI (eI (0) (eI ([some 0]) (aI ?_ (aB (aI (aG tT) (by rfl)))))) ?_)
 ·exact⟨aV _,rfl⟩
 rintro j ⟨hj,he⟩;have hd:j<ps.length->B9 ((List.range ps.length).map (λk:Nat=>H7 (st,ps) k (ps.getD k Ag)))=if H7 (st,ps) j (ps.getD j Ag)≠0 then H7 (st,ps) j (ps.getD j Ag)else B9 (((List.range ps.length).drop (j+1)).map (λk:Nat=>H7 (st,ps) k (ps.getD k Ag))):=λh=>by
  rw[he,Abg (λk:Nat=>H7 (st,ps) k (ps.getD k Ag)) 0 (by rw[dU];exact h),show(List.range ps.length).getD j 0=j by simp[aZ,h]]
 have hlt:decide ((j:Int)<(ps.length:Int))=true->j<ps.length:=λh=>by have:=aM h;omega
 refine(aI (λm0=>(aI ?_ (aI (λm1=>(Aa rfl ?_)) (λm1=>(aO ?_))))) (λm0=>(λm2=>(aO (aI (λm3=>(Aa rfl ?_)) (λm3=>(aI ?_ (aI (λm4=>(Aa rfl ?_)) (λm4=>(Aa rfl ?_))))))))))
 ·have:=hlt m0;exact⟨eB j,show(j:Int)<(ps.length:Int) by omega⟩
 ·have hne:H7 (st,ps) j (ps.getD j Ag)≠0:=λh=>by
   have m1:(!decide (H7 (st,ps) j (ps.getD j Ag)=0))=true:=m1;rw[h]at m1;cases m1
  have e:=(hd (hlt m0)).trans (aP hne);exact bI (λn=>(n,())) (p1.trans ((aP (by rw[e];exact hne)).trans e))
 ·refine eI (j+1) (eI ([some 0]) (aI ?_ (aI ?_ (aB (aI (aG tT) (by rfl))))))
  ·have hz:¬H7 (st,ps) j (ps.getD j Ag)≠0:=λh=>by
    have m1:(!decide (H7 (st,ps) j (ps.getD j Ag)=0))=false:=m1;rw[bE h]at m1;cases m1
   exact⟨hlt m0,(hd (hlt m0)).trans (aL hz)⟩
  ·have:=hlt m0;show ps.length-(j+1)<ps.length-j;omega
 all_goals
  have hj2:j=ps.length:=by
   have:¬(j:Int)<(ps.length:Int):=aQ m0;omega
  have hz:B9 ((List.range ps.length).map (λk:Nat=>H7 (st,ps) k (ps.getD k Ag)))=0:=by rw[he,hj2,bK (by simp)];rfl
  rw[aL (by rw[hz];simp)]at p1
 ·exact bI (λn=>(n,())) (p1.trans (aP (λh=>by
   have m3:(!decide (Es st=2*(ps.length:Int)))=true:=m3;rw[aX h]at m3;cases m3)))
 all_goals
  have he3:¬Es st≠2*(ps.length:Int):=λh=>by
   have m3:(!decide (Es st=2*(ps.length:Int)))=false:=m3;rw[bE h]at m3;cases m3
  rw[aL he3]at p1
 ·exact⟨show st.length<=1000 by omega,Arm hz⟩
 ·exact bI (λn=>(n,())) (p1.trans (aP m4))
 ·exact bI (λn=>(n,())) (p1.trans (aL (λh=>aY (m4.symm.trans h))))
@[reducible] def Dn:Ty:=.pair tI (.pair tI (.pair tI (.pair tI (.pair tIs .bool))))
@[reducible] def Uw:AK:=.dat true Dn
@[reducible] def Af0:List (Bool×Ty):=[(true,Dn),(false,tI)]
def cInR:Ctr:=fnC [dI,dI,dI] rB (λ_=>True) (λy=>(inR y.1 y.2.1 y.2.2.1,()))
theorem Auo:GoodC Tryz.prog 75 cInR:=by
 refine Au Ah 3 _ _ _ _ ⟨_,Tryz.func75,rfl,rfl⟩ λ⟨n,lo,hi,_⟩ _=>?_
 refine(aF (Aa rfl (by simp[inR])))
def cxf1:Ctx:=⟨Dk,[(75,([],cInR))]⟩
theorem Qr:Ai Tryz.prog cxf1:=Ae Auo Ah
def cBad:Ctr:=fnC [dI] rB (λ_=>True) (λy=>(A0 y.1,()))
theorem Aup:GoodC Tryz.prog 146 cBad:=by
 refine Au Qr 3 _ _ _ _ ⟨_,Tryz.func146,rfl,rfl⟩ λ⟨n,_⟩ _=>?_
 refine(aF (aI tT (Aa rfl (by rfl))))
def cxf2:Ctx:=⟨Dk,[(146,([],cBad)),(75,([],cInR))]⟩
theorem Qs:Ai Tryz.prog cxf2:=Ae Aup Qr
def cIdx:Ctr:=fnC [dIs,.fn 146 [] []] rI (λ_=>True) (λy=>(Ao A0 y.1 0,()))
theorem Auq:GoodC Tryz.prog 70 cIdx:=by
 refine Au Qs 3 _ _ _ _ ⟨_,Tryz.func70,rfl,rfl⟩ λ⟨xs,_,_⟩ _=>?_
 refine(aF (λh0=>?_));refine ex4 _ (λi:Nat=>⟨[.sl (.int .i64) xs,.fn (Fn.func 146) [] [],.any,.any,.any,.any,.sl (.int .i64) xs,.int .i64 (↑(List.length xs):Int),.int .i64 (i:Int),.any,.any,.any,.any,.any,.any,.any,.any,.any,.any],[],0⟩) (λi=>i<=xs.length/\Ao A0 xs 0=Ao A0 (xs.drop i) i) (λi=>xs.length-i) (aI (eI (0) (eI ([]) (aI ?_ (aB (aI tT (by rfl)))))) ?_)
 ·exact⟨aV _,rfl⟩
 rintro i ⟨hi,ht⟩;refine(aI (λk0=>(aO (aI tT (aI (λk1=>(Aa rfl (by(try simp only[bW,bQ,bY,bJ,aS,bM,bU,bO,bF]at *);rw[ht];first|(rw[A2 A0 0 xs i (by omega)];simp_all;done)|(rw[bK (by omega)];rfl)))) (λk1=>(aO ?_)))))) (λk0=>(Aa rfl (by(try simp only[bW,bQ,bY,bJ,aS,bM,bU,bO,bF]at *);rw[ht];first|(rw[A2 A0 0 xs i (by omega)];simp_all;done)|(rw[bK (by omega)];rfl)))));refine eI (i+1) (eI ([]) (aI ?_ (aI ?_ (aB (aI tT (by rfl))))))
 ·have hi':i<xs.length:=by simp only[bW,bQ,bY,bJ,aS,bM,bU,bO,bF]at *;omega
  refine⟨hi', ?_⟩;rw[ht,A2 A0 0 xs i hi']
  simp_all
 ·simp only[bW,bQ,bY,bJ,aS,bM,bU,bO,bF]at *;omega
def cxf3:Ctx:=⟨Dk,[(70,([],cIdx)),(146,([],cBad)),(75,([],cInR))]⟩
theorem Ah3:Ai Tryz.prog cxf3:=Ae Auq Qs
def cAny:Ctr:=fnC [dIs,.fn 146 [] []] rB (λ_=>True) (λy=>(y.1.any A0,()))
theorem Aur:GoodC Tryz.prog 40 cAny:=by
 refine Au Ah3 3 _ _ _ _ ⟨_,Tryz.func40,rfl,rfl⟩ λ⟨xs,_,_⟩ _=>?_
 refine(aF (aI tT (Aa rfl (by simp only;rw[Ec A0 _ 0 (by omega)]))))
def cxf4:Ctx:=⟨Dk,[(40,([],cAny)),(146,([],cBad)),(75,([],cInR))]⟩
theorem Ah4:Ai Tryz.prog cxf4:=Ae Aur Qs
def cFChk:Ctr:=fnC [Uw] rI (λ_=>True) (λy=>(A8 y.1,()))
theorem Apr:GoodC Tryz.prog 121 cFChk:=by
 refine Au Ah4 3 _ _ _ _ ⟨_,Tryz.func121,rfl,rfl⟩ λ⟨⟨cap,gr,se,ta,xs,cl⟩,_⟩ _=>?_
 refine(aF (aI tT (aI (λh0=>(Aa rfl ?_)) (λh0=>(aI (λh1=>(by intros;(try subst_vars);(try simp only[nB]at *);(try simp only[inK,big,lim,nL]at *);omega)) (λh2=>(aI (λh3=>(by intros;(try subst_vars);(try simp only[nB]at *);(try simp only[inK,big,lim,nL]at *);omega)) (aI (λh4=>(Aa rfl ?_)) (λh4=>(aI tT (aI (λh5=>(Aa rfl ?_)) (λh5=>(Aa rfl ?_)))))))))))))
 all_goals unfold A8
 all_goals dsimp only
 ·rw[aP h0]
 ·simp only[bW,bQ,bY,bJ,aS,bM,bU,bO,bF]at h4;rw[aL (by simpa using h0),aP (by omega)]
 ·simp only[bW,bQ,bY,bJ,aS,bM,bU,bO,bF]at h4;rw[aL (by simpa using h0),aL (by omega),aP h5]
 ·simp only[bW,bQ,bY,bJ,aS,bM,bU,bO,bF]at h4;rw[aL (by simpa using h0),aL (by omega),aL (λh=>aY (h5.symm.trans h))]
def cFNew:Ctr:=fnC [dI] Af0 (λ_=>True) (λy=>((Vd y.1).1,(Vd y.1).2,()))
def cxf5:Ctx:=⟨Dk,[(121,([],cFChk)),(75,([],cInR))]⟩
theorem M8:Ai Tryz.prog cxf5:=Ae Apr Qr
theorem Atd:GoodC Tryz.prog 49 cFNew:=by
 refine Au M8 3 _ _ _ _ ⟨_,Tryz.func49,rfl,rfl⟩ λ⟨n,_⟩ _=>?_
 refine(aF (aI tT (aI (λh0=>(Aa rfl (by simp_all [Vd]))) (λh0=>(Aa rfl (by simp_all [Vd]))))))
def cCl:Ctr:=fnO [dIs] tI (λy=>y.1.length<=1000000) (λy=>y.1)
theorem gCl:GoodC Tryz.prog 56 cCl:=by
 refine goodO M8 3 _ _ _ _ ⟨_,Tryz.func56,rfl,rfl⟩ λ⟨xs,_⟩ hlen=>?_
 simp only at hlen;refine(aF (λh0=>(λh1=>(aI (λh2=>(Kb (by simp_all))) (λh2=>(aO (M0 rfl (by simp_all))))))))
def cxf6:Ctx:=⟨Dk,[(56,([],cCl)),(121,([],cFChk)),(75,([],cInR))]⟩
theorem Iq:Ai Tryz.prog cxf6:=Ae gCl M8
def cFReq:Ctr:=fnC [Uw,dI] Af0 (λ_=>True) (λy=>((Jc y.1 y.2.1).1,(Jc y.1 y.2.1).2,()))
theorem Aps:GoodC Tryz.prog 50 cFReq:=by
 refine Au Iq 4 _ _ _ _ ⟨_,Tryz.func50,rfl,rfl⟩ λ⟨⟨cap,gr,se,ta,xs,cl⟩,n,_⟩ _=>?_
 have hb:=@Fl (cap,gr,se,ta,xs,cl);refine(aF (aF (aI tT (aI (λh0=>(Aa rfl (by(try subst_vars);(try simp only[bW,bQ,bY,bJ,aS,bM,bU,bO,bF]at *);first|(simp only[Jc, *,if_true,if_false,ne_eq,not_true,dJ,cH];done)|grind [Jc]))) (λh0=>(aF (aI (λh1=>(Aa rfl (by(try subst_vars);(try simp only[bW,bQ,bY,bJ,aS,bM,bU,bO,bF]at *);first|(simp only[Jc, *,if_true,if_false,ne_eq,not_true,dJ,cH];done)|grind [Jc]))) (λh1=>(aI (λh2=>(Aa rfl (by(try subst_vars);(try simp only[bW,bQ,bY,bJ,aS,bM,bU,bO,bF]at *);first|(simp only[Jc, *,if_true,if_false,ne_eq,not_true,dJ,cH];done)|grind [Jc]))) (λh2=>(aI ?_ (aI ?_ (aI (λh3=>(Aa rfl (by(try subst_vars);(try simp only[bW,bQ,bY,bJ,aS,bM,bU,bO,bF]at *);first|(simp only[Jc, *,if_true,if_false,ne_eq,not_true,dJ,cH];done)|grind [Jc]))) (λh3=>(aI ?_ (aI (λh4=>(Aa rfl (by(try subst_vars);(try simp only[bW,bQ,bY,bJ,aS,bM,bU,bO,bF]at *);first|(simp only[Jc, *,if_true,if_false,ne_eq,not_true,dJ,cH];done)|grind [Jc]))) (λh4=>(aI ?_ (Aa rfl (by(try subst_vars);(try simp only[bW,bQ,bY,bJ,aS,bM,bU,bO,bF]at *);first|(simp only[Jc, *,if_true,if_false,ne_eq,not_true,dJ,cH];done)|grind [Jc]))))))))))))))))))))
 any_goals (intros;(try subst_vars);(try simp only[nB]at *);(try simp only[inK,big,lim,nL]at *);omega)
def cFSend:Ctr:=fnC [Uw,dI] Af0 (λ_=>True) (λy=>((E9 y.1 y.2.1).1,(E9 y.1 y.2.1).2,()))
theorem Arn:GoodC Tryz.prog 153 cFSend:=by
 refine Au Iq 4 _ _ _ _ ⟨_,Tryz.func153,rfl,rfl⟩ λ⟨⟨cap,gr,se,ta,xs,cl⟩,n,_⟩ _=>?_
 have hb:=@Fl (cap,gr,se,ta,xs,cl);refine(aF (aF (aI tT (aI (λh0=>(Aa rfl (by(try subst_vars);(try simp only[bW,bQ,bY,bJ,aS,bM,bU,bO,bF]at *);first|(simp only[E9,A0, *,if_true,if_false,ne_eq,not_true,dJ,cH];done)|grind [E9,A0]))) (λh0=>(aF (aI tT (aI (λh1=>(Aa rfl (by(try subst_vars);(try simp only[bW,bQ,bY,bJ,aS,bM,bU,bO,bF]at *);first|(simp only[E9,A0, *,if_true,if_false,ne_eq,not_true,dJ,cH];done)|grind [E9,A0]))) (λh1=>(aI (λh2=>(Aa rfl (by(try subst_vars);(try simp only[bW,bQ,bY,bJ,aS,bM,bU,bO,bF]at *);first|(simp only[E9,A0, *,if_true,if_false,ne_eq,not_true,dJ,cH];done)|grind [E9,A0]))) (λh2=>(aI (λh3=>(Aa rfl (by(try subst_vars);(try simp only[bW,bQ,bY,bJ,aS,bM,bU,bO,bF]at *);first|(simp only[E9,A0, *,if_true,if_false,ne_eq,not_true,dJ,cH];done)|grind [E9,A0]))) (λh3=>(aF (aI ?_ (aI ?_ (aI ?_ (Aa rfl (by(try subst_vars);(try simp only[bW,bQ,bY,bJ,aS,bM,bU,bO,bF]at *);first|(simp only[E9,A0, *,if_true,if_false,ne_eq,not_true,dJ,cH];done)|grind [E9,A0])))))))))))))))))))
 any_goals (intros;(try subst_vars);(try simp only[nB]at *);(try simp only[inK,big,lim,nL]at *);omega)
def cFTake:Ctr:=fnC [Uw] [(true,Dn),(false,tI),(false,tI)] (λ_=>True) (λy=>((Er y.1).1,(Er y.1).2.1,(Er y.1).2.2,()))
theorem Aro:GoodC Tryz.prog 152 cFTake:=by
 refine Au Iq 4 _ _ _ _ ⟨_,Tryz.func152,rfl,rfl⟩ λ⟨⟨cap,gr,se,ta,xs,cl⟩,_⟩ _=>?_
 have hb:=@Fl (cap,gr,se,ta,xs,cl);refine(aF (aI tT (aI (λh0=>(Aa rfl (by(try subst_vars);(try simp only[bW,bQ,bY,bJ,aS,bM,bU,bO,bF]at *);first|(simp only[Er, *,if_true,if_false,ne_eq,not_true,dJ,cH];done)|grind [Er]))) (λh0=>(λh1=>(aI (λh2=>(aI (λh3=>(Aa rfl (by(try subst_vars);(try simp only[bW,bQ,bY,bJ,aS,bM,bU,bO,bF]at *);first|(simp only[Er, *,if_true,if_false,ne_eq,not_true,dJ,cH];done)|grind [Er]))) (λh3=>(Aa rfl (by(try subst_vars);(try simp only[bW,bQ,bY,bJ,aS,bM,bU,bO,bF]at *);first|(simp only[Er, *,if_true,if_false,ne_eq,not_true,dJ,cH];done)|grind [Er]))))) (λh2=>(aI ?_ (λh4=>(aI ?_ (aI ?_ (aI ?_ (aI ?_ (Aa rfl (by(try subst_vars);(try simp only[bW,bQ,bY,bJ,aS,bM,bU,bO,bF]at *);first|(simp only[Er, *,if_true,if_false,ne_eq,not_true,dJ,cH];done)|grind [Er])))))))))))))))
 any_goals (intros;(try subst_vars);(try simp only[nB]at *);(try simp only[inK,big,lim,nL]at *);omega)
def cFClose:Ctr:=fnC [Uw] Af0 (λ_=>True) (λy=>((Ee y.1).1,(Ee y.1).2,()))
theorem Aoo:GoodC Tryz.prog 154 cFClose:=by
 refine Au Iq 4 _ _ _ _ ⟨_,Tryz.func154,rfl,rfl⟩ λ⟨⟨cap,gr,se,ta,xs,cl⟩,_⟩ _=>?_
 refine(aF (aF (aI tT (aI (λh0=>(Aa rfl (by(try subst_vars);(try simp only[bW,bQ,bY,bJ,aS,bM,bU,bO,bF]at *);first|(simp only[Ee, *,if_true,if_false,ne_eq,not_true,dJ,cH];done)|grind [Ee]))) (λh0=>(aF (aI (λh1=>(Aa rfl (by(try subst_vars);(try simp only[bW,bQ,bY,bJ,aS,bM,bU,bO,bF]at *);first|(simp only[Ee, *,if_true,if_false,ne_eq,not_true,dJ,cH];done)|grind [Ee]))) (λh1=>(Aa rfl (by(try subst_vars);(try simp only[bW,bQ,bY,bJ,aS,bM,bU,bO,bF]at *);first|(simp only[Ee, *,if_true,if_false,ne_eq,not_true,dJ,cH];done)|grind [Ee]))))))))))
def cFEnd:Ctr:=fnC [Uw] rB (λ_=>True) (λy=>(Cr y.1,()))
theorem Apt:GoodC Tryz.prog 167 cFEnd:=by
 refine Au Iq 4 _ _ _ _ ⟨_,Tryz.func167,rfl,rfl⟩ λ⟨⟨cap,gr,se,ta,xs,cl⟩,_⟩ _=>?_
 refine(aF (aI tT (λh0=>(Aa rfl (by(try subst_vars);(try simp only[bW,bQ,bY,bJ,aS,bM,bU,bO,bF]at *);first|(simp only[Cr, *,if_true,if_false,ne_eq,not_true,dJ,cH];done)|grind [Cr])))))
def cFRoom:Ctr:=fnC [Uw] rI (λ_=>True) (λy=>(Jl y.1,()))
theorem Arp:GoodC Tryz.prog 170 cFRoom:=by
 refine Au Iq 4 _ _ _ _ ⟨_,Tryz.func170,rfl,rfl⟩ λ⟨⟨cap,gr,se,ta,xs,cl⟩,_⟩ _=>?_
 have hb:=@Fl (cap,gr,se,ta,xs,cl);refine(aF (aI tT (aI (λh0=>(Aa rfl (by(try subst_vars);(try simp only[bW,bQ,bY,bJ,aS,bM,bU,bO,bF]at *);first|(simp only[Jl, *,if_true,if_false,ne_eq,not_true,dJ,cH];done)|grind [Jl]))) (λh0=>(aO (Aa rfl (by(try subst_vars);(try simp only[bW,bQ,bY,bJ,aS,bM,bU,bO,bF]at *);first|(simp only[Jl, *,if_true,if_false,ne_eq,not_true,dJ,cH];done)|grind [Jl])))))))
@[reducible] def Aus:AK:=.dat false (.sl tSt)
@[reducible] def rIs:List (Bool×Ty):=[(false,tIs)]
theorem Abh{α:Type}(p:α->Bool)(d:α){l:List α}{i:Nat}(h:i<l.length):(l.take (i+1)).countP p=(l.take i).countP p+if p (l.getD i d)=true then 1 else 0:=by
 rw[bS h,List.countP_append];simp[aZ,aR h,dY]
def cSinks:Ctr:=fnC [Aus] rI (λ_=>True) (λy=>(Bm y.1,()))
theorem Adr:GoodC Tryz.prog 48 cSinks:=by
 refine Au Ah 3 _ _ _ _ ⟨_,Tryz.func48,rfl,rfl⟩ λ(⟨st,_⟩:List StT×Unit) _=>?_
 refine(aF (λh0=>?_));refine ex4 _ (λp:Nat×Int=>⟨[.sl tSt st,.any,.any,.int .i64 p.2,.any,.any,.sl tSt st,.int .i64 (↑st.length:Int),.int .i64 (p.1:Int),.any,.any,.any,.any,.any,.any,.any,.any,.any,.any],[],0⟩) (λp=>p.1<=st.length/\p.2=((st.take p.1).countP isSink:Nat)) (λp=>st.length-p.1) (aI (eI ((0,0)) (eI ([]) (aI ?_ (aB (aI tT (by rfl)))))) ?_)
 ·exact⟨aV _,rfl⟩
 rintro⟨i,n⟩ ⟨hi,hn⟩;replace hi:i<=st.length:=hi;replace hn:n=((st.take i).countP isSink:Nat):=hn;have hle:(st.take i).countP isSink<=i:=cP eT (by rw[bP];omega);have hlt:decide ((i:Int)<(st.length:Int))=true->i<st.length:=λh=>by have:=aM h;omega
 have hs:i<st.length->(st.take (i+1)).countP isSink=(st.take i).countP isSink+if decide ((st.getD (i:Int).toNat (Ab tSt)).1=10)=true then 1 else 0:=λh=>Abh isSink zStg h
 refine(aI (λk0=>(aO (aI (λk1=>(aO (aO ?_))) (λk1=>(aO ?_))))) (λk0=>(Aa rfl ?_)))
 ·have h1:=(hs (hlt k0)).trans (bI _ (aP k1));refine eI ((i+1,n+1)) (eI ([]) (aI ?_ (aI ?_ (aB (aI tT (by rfl))))))
  ·exact⟨hlt k0,by show n+1=(((st.take (i+1)).countP isSink:Nat):Int);omega⟩
  ·have:=hlt k0;show st.length-(i+1)<st.length-i;omega
 ·have h1:=(hs (hlt k0)).trans (bI _ (aL (λh=>aY (k1.symm.trans h))));refine eI ((i+1,n)) (eI ([]) (aI ?_ (aI ?_ (aB (aI tT (by rfl))))))
  ·exact⟨hlt k0,by show n=(((st.take (i+1)).countP isSink:Nat):Int);omega⟩
  ·have:=hlt k0;show st.length-(i+1)<st.length-i;omega
 ·have hi2:i=st.length:=by have:¬(i:Int)<(st.length:Int):=aQ k0;omega
  rw[hn,hi2,dD];rfl
def cNoted:Ctr:=fnC [dSt,dSS] rIs (λy=>y.1.1=9->0<=y.2.1.2.1/\y.2.1.2.1<=3) (λy=>(Bu y.1 y.2.1,()))
theorem Arq:GoodC Tryz.prog 166 cNoted:=by
 refine Au Ah 3 _ _ _ _ ⟨_,Tryz.func166,rfl,rfl⟩ λ(⟨⟨k,z,⟨ek,eo,em,ev,ea⟩,l⟩,⟨hd,c,en⟩,_⟩:StT×SST×Unit) hc=>?_
 refine(aF (aI (λh0=>(Aa rfl ?_)) (λh0=>(aI (λh1=>(aI ?_ (Aa rfl ?_))) (λh1=>(aI (λh2=>(Aa rfl ?_)) (λh2=>(Aa rfl ?_))))))))
 all_goals try unfold Bu
 ·rw[aP (aM h0)]
 ·have:=hc (aM h1);exact⟨this.1,show c<4 by have:c<=3:=this.2;omega⟩
 ·rw[aL (aQ h0),aP (aM h1)]
 ·have h3:k≠1/\en=true:=by
   have h2:(bif !decide (k=1)then en else false)=true:=h2;by_cases hk:k=1
   ·rw[aX hk]at h2;cases h2
   ·rw[bE hk]at h2;exact⟨hk,h2⟩
  rw[aL (aQ h0),aL (aQ h1),aP h3]
 ·have h3:¬(k≠1/\en=true):=λh=>by
   have h2:(bif !decide (k=1)then en else false)=false:=h2;rw[bE h.1,h.2]at h2;cases h2
  rw[aL (aQ h0),aL (aQ h1),aL h3]
def cxqE:Ctx:=⟨Al3,[(25,([],cWi))]⟩
theorem Ah5:Ai Tryz.prog cxqE:=Dl (Ae gWi Ah)
def cVal1:Ctr:=fnC [dI] rB (λ_=>True) (λy=>(A0 y.1,()))
theorem Ate:GoodC Tryz.prog 148 cVal1:=by
 refine Au Ah5 3 _ _ _ _ ⟨_,Tryz.func148,rfl,rfl⟩ λ⟨n,_⟩ _=>?_
 refine(aF (aI tT (Aa rfl (by rfl))))
def cxqE2:Ctx:=⟨Dk,[(148,([],cVal1))]⟩
theorem Ux:Ai Tryz.prog cxqE2:=Ae Ate Ah
def cIdxV:Ctr:=fnC [dIs,.fn 148 [] []] rI (λ_=>True) (λy=>(Ao A0 y.1 0,()))
theorem Atf:GoodC Tryz.prog 70 cIdxV:=by
 refine Au Ux 3 _ _ _ _ ⟨_,Tryz.func70,rfl,rfl⟩ λ⟨xs,_,_⟩ _=>?_
 refine(aF (λh0=>?_));refine ex4 _ (λi:Nat=>⟨[.sl (.int .i64) xs,.fn (Fn.func 148) [] [],.any,.any,.any,.any,.sl (.int .i64) xs,.int .i64 (↑(List.length xs):Int),.int .i64 (i:Int),.any,.any,.any,.any,.any,.any,.any,.any,.any,.any],[],0⟩) (λi=>i<=xs.length/\Ao A0 xs 0=Ao A0 (xs.drop i) i) (λi=>xs.length-i) (aI (eI (0) (eI ([]) (aI ?_ (aB (aI tT (by rfl)))))) ?_)
 ·exact⟨aV _,rfl⟩
 rintro i ⟨hi,ht⟩;refine(aI (λk0=>(aO (aI tT (aI (λk1=>(Aa rfl (by(try simp only[bW,bQ,bY,bJ,aS,bM,bU,bO,bF]at *);rw[ht];first|(rw[A2 A0 0 xs i (by omega)];simp_all;done)|(rw[bK (by omega)];rfl)))) (λk1=>(aO ?_)))))) (λk0=>(Aa rfl (by(try simp only[bW,bQ,bY,bJ,aS,bM,bU,bO,bF]at *);rw[ht];first|(rw[A2 A0 0 xs i (by omega)];simp_all;done)|(rw[bK (by omega)];rfl)))));refine eI (i+1) (eI ([]) (aI ?_ (aI ?_ (aB (aI tT (by rfl))))))
 ·have hi':i<xs.length:=by simp only[bW,bQ,bY,bJ,aS,bM,bU,bO,bF]at *;omega
  refine⟨hi', ?_⟩;rw[ht,A2 A0 0 xs i hi']
  simp_all
 ·simp only[bW,bQ,bY,bJ,aS,bM,bU,bO,bF]at *;omega
def cxqE3:Ctx:=⟨Dk,[(70,([],cIdxV)),(148,([],cVal1))]⟩
theorem Ads:Ai Tryz.prog cxqE3:=Ae Atf Ux
def cAnyV:Ctr:=fnC [dIs,.fn 148 [] []] rB (λ_=>True) (λy=>(y.1.any A0,()))
theorem Atg:GoodC Tryz.prog 40 cAnyV:=by
 refine Au Ads 3 _ _ _ _ ⟨_,Tryz.func40,rfl,rfl⟩ λ⟨xs,_,_⟩ _=>?_
 refine(aF (aI tT (Aa rfl (by simp only;rw[Ec A0 _ 0 (by omega)]))))
@[reducible] def tFs:Ty:=.pair (.sl tSS) (.pair (.sl Dn) (.pair Va .bool))
@[reducible] def dFs:AK:=.dat true tFs
theorem Af1{y:StT}{t:SST}(h:(Am y t).2=0)(h9:y.1=9):0<=t.2.1/\t.2.1<=3:=by
 obtain⟨⟨a1,a2,a3⟩,a4,a5⟩:=As.1 (B0.1 h).2;have hb2:E7 y=(3,1):=by unfold E7;rw[aL (by omega),aL (by omega),aL (by omega),aP h9]
 rw[hb2]at a2;exact⟨a1,a2⟩
theorem Al5{y:StT}{t:SST}(h:(Am y t).2=0){n:Int}(hn:n∈Bu y t):0<=n/\n<stIn y:=by
 obtain⟨c0,hv⟩:=B0.1 h;obtain⟨⟨a1,a2,a3⟩,a4,a5⟩:=As.1 hv;rw[Nt c0];have hkk:=G6 (B1 c0);unfold Bu at hn;by_cases h8:y.1=8
 ·rw[aP h8]at hn;unfold vk at a5;rw[aL (by omega),aP h8]at a5;split at a5
  ·cases a5
  ·rename_i hb;have hb:(List.range t.1.length).any (C6 t.1)=false:=by simpa using hb
   have hb2:E7 y=(1,2):=by unfold E7;rw[aL (by omega),aL (by omega),aP h8]
   rw[hb2]at a3;have k2:(Ap y.1).1=2:=by rw[h8];rfl
   rw[k2];rcases Adl a3 hb with h|h|h|h<;>rw[h]at hn<;>simp at hn<;>omega
 ·rw[aL h8]at hn;by_cases h9:y.1=9
  ·rw[aP h9]at hn;have k2:(Ap y.1).1=2:=by rw[h9];rfl
   rw[k2];obtain⟨c1,c3⟩:=Af1 h h9;have hc:t.2.1=0\/t.2.1=1\/t.2.1=2\/t.2.1=3:=by omega
   rcases hc with hc|hc|hc|hc<;>rw[hc]at hn<;>simp at hn<;>omega
  ·rw[aL h9]at hn;split at hn
   ·rename_i hk;rw[bT.1 hn];refine⟨cO 0, ?_⟩;have:=hk.1;rcases hkk with h|h|h|h|h|h|h|h|h|h<;>first|contradiction|(rw[h];decide)
   ·simp at hn
def okS(x:PlT)(s:FsT):Prop:=WF x/\s.1.length=x.1.length/\s.2.1.length=x.2.length/\∀i:Nat,i<x.1.length->(Am (sg x (i:Int)) (Ay s (i:Int))).2=0
def Qt:List (TypeId×Ty):=(100,Dn)::(92,tSS)::Al3
def cxqF:Ctx:=⟨Qt,[(121,([],cFChk)),(167,([],cFEnd)),(15,([],cIn)),(166,([],cNoted))]⟩
theorem Ah6:Ai Tryz.prog cxqF:=Dl (Ae Apr (Ae Apt (Ae gIn (Ae Arq Ah))))
theorem Sl{p:Nat->Bool}{n k:Nat}(hk:k<n)(h:p k=true):(List.range n).any p=true:=fH.2 ⟨k,cZ.2 hk,h⟩
theorem Sm{p:Nat->Bool}{k:Nat}(h:(List.range k).any p=false)(h2:p k=false):(List.range (k+1)).any p=false:=by
 rw[dL,eR,h];simp[h2]
theorem Apu(a b x y d:Bool):(bif bif bif !a then true else !b then true else !(x==y)then true else bif !x then !d else false)=(!a||(!b||(!decide (x=y)||(!x && !d)))):=by cases a<;>cases b<;>cases x<;>cases y<;>cases d<;>rfl
def cBuff:Ctr:=fnC [dPl,dFs] rB (λy=>okS y.1 y.2.1) (λy=>(Pj y.1 y.2.1,()))
set_option maxHeartbeats 8000000 in
theorem Ath:GoodC Tryz.prog 149 cBuff:=by
 refine Au Ah6 3 _ _ _ _ ⟨_,Tryz.func149,rfl,rfl⟩ λ(⟨⟨st,ps⟩,⟨ss,cs,os,dr⟩,_⟩:PlT×FsT×Unit) hk=>?_
 replace hk:okS (st,ps) (ss,cs,os,dr):=hk;refine(aF (λh0=>?_));refine ex4 _ (λk:Nat=>⟨[.any,.any,.ptr 0 0,.ptr 1 0,.any,.any,.any,.any,.any,.any,.any,.any,.ptr 1 1,.sl Dn cs,.int .i64 (↑cs.length:Int),.int .i64 (k:Int)]++nA 79,[.cells [.sl tSt st,.sl A6 ps],.cells [.sl tSS ss,.sl Dn cs,.sl (.sl (.int .i64)) os,.bool dr]],2⟩) (λk=>k<=cs.length/\(List.range k).any (λk=>Uq (ss,cs,os,dr) (ps.getD k Ag) (cs.getD k zCred))=false) (λk=>cs.length-k) (aI (eI (0) (eI ([some 0,some 1]) (aI ?_ (aB (aI (aH tT) (by rfl)))))) ?_)
 ·exact⟨aV _,rfl⟩
 rintro k ⟨hkl,hc⟩;have hlt:decide ((k:Int)<(cs.length:Int))=true->k<cs.length:=λh=>by have:=aM h;omega
 have hl2:cs.length=ps.length:=hk.2.2.1;have hl1:ss.length=st.length:=hk.2.1;have hp:k<cs.length->0<=(ps.getD (k:Int).toNat (Ab A6)).1/\(ps.getD (k:Int).toNat (Ab A6)).1<ss.length:=λh=>by
  have:=hk.1.pipe (k:=k) (show k<ps.length by omega);have h1:=this.f0;have h2:=this.fn;refine⟨h1, ?_⟩;rw[hl1];exact h2
 have hF:k<cs.length->Uq (ss,cs,os,dr) (ps.getD (k:Int).toNat (Ab A6)) (cs.getD (k:Int).toNat (Ab Dn))=true->Pj (st,ps) (ss,cs,os,dr)=false:=λh1 h2=>by
  unfold Pj;exact aP (Sl h1 h2)
 refine(aI (λk0=>(aO (aO (aF (aI tT (aI (λk1=>(by intros;(try subst_vars);(try simp only[nB]at *);(try simp only[inK,big,lim,nL]at *);omega)) (aI (λk2=>?_) (aI (λk3=>(Aa rfl ?_)) (λk3=>(aO ?_)))))))))) (λk0=>(λk4=>?_)))
 ·have kc:=Jx (Jx k2.1).1;have hz:A8 (cs.getD (k:Int).toNat (Ab Dn))=0:=aM (B5 kc.1);have:=Fl hz;show -9223372036854775808<=(cs.getD (k:Int).toNat (Ab Dn)).2.2.2.1+(cs.getD (k:Int).toNat (Ab Dn)).1/\(cs.getD (k:Int).toNat (Ab Dn)).2.2.2.1+(cs.getD (k:Int).toNat (Ab Dn)).1<=9223372036854775807;omega
 ·rw[Apu]at k3;exact bI (λb=>(b,())) (hF (hlt k0) k3)
 ·rw[Apu]at k3;refine eI (k+1) (eI ([some 0,some 1]) (aI ?_ (aI ?_ (aB (aI (aH tT) (by rfl))))))
  ·exact⟨hlt k0,Sm hc k3⟩
  ·have:=hlt k0;show cs.length-(k+1)<cs.length-k;omega
 have hk2:k=cs.length:=by
  have:¬(k:Int)<(cs.length:Int):=aQ k0;omega
 subst hk2;clear hlt hp hF k0;have p1:Pj (st,ps) (ss,cs,os,dr)=!(List.range ss.length).any (λi=>(Bu (sg (st,ps) i) (ss.getD i ([],0,false))).any (λn=>!Cr (Co (ss,cs,os,dr) (pIn (st,ps) i n)))):=by
  unfold Pj;exact aL (λh=>aY (hc.symm.trans h))
 refine ex4 _ (λi:Nat=>⟨[.any,.any,.ptr 0 0,.ptr 1 0,.any,.any,.any,.any,.any,.any,.any,.any,.any,.any,.any,.any,.any,.any,.any,.any,.any,.any,.any,.any,.any,.any,.any,.any,.any,.any,.any,.any,.any,.any,.any,.any,.any,.any,.any,.any,.any,.any,.any,.any,.any,.any,.any,.any,.any,.any,.any,.any,.any,.any,.any,.any,.any,.any,.any,.any,.any,.any,.any,.ptr 1 0,.sl tSS ss,.int .i64 (↑ss.length:Int),.int .i64 (i:Int)]++nA 28,[.cells [.sl tSt st,.sl A6 ps],.cells [.sl tSS ss,.sl Dn cs,.sl (.sl (.int .i64)) os,.bool dr]],2⟩) (λi=>i<=ss.length/\(List.range i).any (λi=>(Bu (sg (st,ps) i) (ss.getD i ([],0,false))).any (λn=>!Cr (Co (ss,cs,os,dr) (pIn (st,ps) i n))))=false) (λi=>ss.length-i) (aI (eI (0) (eI ([some 0,some 1]) (aI ?_ (aB (aI (aH tT) (by rfl)))))) ?_)
 ·exact⟨aV _,rfl⟩
 rintro i ⟨hi,hc2⟩;have hlt:decide ((i:Int)<(ss.length:Int))=true->i<ss.length:=λh=>by have:=aM h;omega
 have hnd:i<ss.length->(Am (st.getD (i:Int).toNat (Ab tSt)) (ss.getD (i:Int).toNat (Ab tSS))).2=0:=λh=>hk.2.2.2 i (show i<st.length by omega)
 have hi0:(0:Int)<=(i:Int):=eB i;refine(aI (λm0=>(aO (aF (aO (aI (λm1=>?_) (λm2=>?_)))))) (λm0=>(Aa rfl ?_)))
 ·exact Af1 (hnd (hlt m0)) m1
 ·have hin:∀n∈Bu (st.getD (i:Int).toNat (Ab tSt)) (ss.getD (i:Int).toNat (Ab tSS)),0<=pIn (st,ps) i n/\pIn (st,ps) i n<cs.length:=λn hn=>by
   have h1:=Al5 (hnd (hlt m0)) hn;obtain⟨k,k1,k2,_⟩:=hk.1.ins hi0 (show(i:Int)<st.length by have:=hlt m0;omega) h1.1 h1.2;rw[k2];have k1:k<ps.length:=k1;omega
  have hF:(Bu (st.getD (i:Int).toNat (Ab tSt)) (ss.getD (i:Int).toNat (Ab tSS))).any (λn=>!Cr (Co (ss,cs,os,dr) (pIn (st,ps) i n)))=true->Pj (st,ps) (ss,cs,os,dr)=false:=λh2=>by
   rw[p1];exact bI (λb=>!b) (Sl (k:=i) (hlt m0) h2)
  have hT:(Bu (st.getD (i:Int).toNat (Ab tSt)) (ss.getD (i:Int).toNat (Ab tSS))).any (λn=>!Cr (Co (ss,cs,os,dr) (pIn (st,ps) i n)))=false->(List.range (i+1)).any (λi=>(Bu (sg (st,ps) i) (ss.getD i ([],0,false))).any (λn=>!Cr (Co (ss,cs,os,dr) (pIn (st,ps) i n))))=false:=λh2=>Sm hc2 h2
  have en:Bu ((st.getD (i:Int).toNat (Ab tSt)).1,(st.getD (i:Int).toNat (Ab tSt)).2.1,ExprT.mk (ExprT.kind (st.getD (i:Int).toNat (Ab tSt)).2.2.1) (ExprT.op (st.getD (i:Int).toNat (Ab tSt)).2.2.1) (ExprT.name (st.getD (i:Int).toNat (Ab tSt)).2.2.1) (ExprT.value (st.getD (i:Int).toNat (Ab tSt)).2.2.1) (ExprT.args (st.getD (i:Int).toNat (Ab tSt)).2.2.1),(st.getD (i:Int).toNat (Ab tSt)).2.2.2) ((ss.getD (i:Int).toNat (Ab tSS)).1,(ss.getD (i:Int).toNat (Ab tSS)).2.1,(ss.getD (i:Int).toNat (Ab tSS)).2.2)=Bu (st.getD (i:Int).toNat (Ab tSt)) (ss.getD (i:Int).toNat (Ab tSS)):=by rw[eta]
  obtain⟨nl,hnl⟩:∃nl,Bu (st.getD (i:Int).toNat (Ab tSt)) (ss.getD (i:Int).toNat (Ab tSS))=nl:=⟨_,rfl⟩;rw[hnl]at hin hF hT en;refine ex4 _ (λj:Nat=>⟨[.any,.any,.ptr 0 0,.ptr 1 0,.any,.any,.any,.any,.int .i64 (↑i:Int),.ptr 2 0,.any,.any,.any,.any,.any,.any,.any,.any,.any,.any,.any,.any,.any,.any,.any,.any,.any,.any,.any,.any,.any,.any,.any,.any,.any,.any,.any,.any,.any,.any,.any,.any,.any,.any,.any,.any,.any,.any,.any,.any,.any,.any,.any,.any,.any,.any,.any,.any,.any,.any,.any,.any,.any,.ptr 1 0,.sl tSS ss,.int .i64 (↑ss.length:Int),.int .i64 (↑i:Int),.bool (decide ((↑i:Int)<(↑ss.length:Int))),.int .i64 (↑i:Int),.eptr   [PV.sl (.int .i64) (ss.getD (↑i:Int).toNat (Ab tSS)).1,     PV.int .i64 (ss.getD (↑i:Int).toNat (Ab tSS)).2.1,PV.bool (ss.getD (↑i:Int).toNat (Ab tSS)).2.2],.agg   [.sl (.int .i64) (ss.getD (↑i:Int).toNat (Ab tSS)).1,     .int .i64 (ss.getD (↑i:Int).toNat (Ab tSS)).2.1,.bool (ss.getD (↑i:Int).toNat (Ab tSS)).2.2],.ptr 0 0,.sl tSt st,.int .i64 (↑i:Int),.eptr   [PV.int .i64 (st.getD (↑i:Int).toNat (Ab tSt)).1,     PV.int .i64 (st.getD (↑i:Int).toNat (Ab tSt)).2.1,     PV.int .i64 (ExprT.kind (st.getD (↑i:Int).toNat (Ab tSt)).2.2.1),     PV.int .i64 (ExprT.op (st.getD (↑i:Int).toNat (Ab tSt)).2.2.1),     PV.str (ExprT.name (st.getD (↑i:Int).toNat (Ab tSt)).2.2.1),     PV.int .i64 (ExprT.value (st.getD (↑i:Int).toNat (Ab tSt)).2.2.1),     PV.sl .expr (ExprT.args (st.getD (↑i:Int).toNat (Ab tSt)).2.2.1),     PV.sl (.int .i64) (st.getD (↑i:Int).toNat (Ab tSt)).2.2.2],.agg   [.int .i64 (st.getD (↑i:Int).toNat (Ab tSt)).1,     .int .i64 (st.getD (↑i:Int).toNat (Ab tSt)).2.1,     .int .i64 (ExprT.kind (st.getD (↑i:Int).toNat (Ab tSt)).2.2.1),     .int .i64 (ExprT.op (st.getD (↑i:Int).toNat (Ab tSt)).2.2.1),     .str (ExprT.name (st.getD (↑i:Int).toNat (Ab tSt)).2.2.1),     .int .i64 (ExprT.value (st.getD (↑i:Int).toNat (Ab tSt)).2.2.1),     .sl .expr (ExprT.args (st.getD (↑i:Int).toNat (Ab tSt)).2.2.1),     .sl (.int .i64) (st.getD (↑i:Int).toNat (Ab tSt)).2.2.2],.agg   [.sl (.int .i64) (ss.getD (↑i:Int).toNat (Ab tSS)).1,     .int .i64 (ss.getD (↑i:Int).toNat (Ab tSS)).2.1,.bool (ss.getD (↑i:Int).toNat (Ab tSS)).2.2],.sl (.int .i64)   (Bu     ((st.getD (↑i:Int).toNat (Ab tSt)).1,(st.getD (↑i:Int).toNat (Ab tSt)).2.1,       ExprT.mk (ExprT.kind (st.getD (↑i:Int).toNat (Ab tSt)).2.2.1)         (ExprT.op (st.getD (↑i:Int).toNat (Ab tSt)).2.2.1) (ExprT.name (st.getD (↑i:Int).toNat (Ab tSt)).2.2.1)         (ExprT.value (st.getD (↑i:Int).toNat (Ab tSt)).2.2.1)         (ExprT.args (st.getD (↑i:Int).toNat (Ab tSt)).2.2.1),       (st.getD (↑i:Int).toNat (Ab tSt)).2.2.2)     ((ss.getD (↑i:Int).toNat (Ab tSS)).1,(ss.getD (↑i:Int).toNat (Ab tSS)).2.1,       (ss.getD (↑i:Int).toNat (Ab tSS)).2.2)),.int .i64   (↑(Bu           ((st.getD (↑i:Int).toNat (Ab tSt)).1,(st.getD (↑i:Int).toNat (Ab tSt)).2.1,             ExprT.mk (ExprT.kind (st.getD (↑i:Int).toNat (Ab tSt)).2.2.1)               (ExprT.op (st.getD (↑i:Int).toNat (Ab tSt)).2.2.1)               (ExprT.name (st.getD (↑i:Int).toNat (Ab tSt)).2.2.1)               (ExprT.value (st.getD (↑i:Int).toNat (Ab tSt)).2.2.1)               (ExprT.args (st.getD (↑i:Int).toNat (Ab tSt)).2.2.1),             (st.getD (↑i:Int).toNat (Ab tSt)).2.2.2)           ((ss.getD (↑i:Int).toNat (Ab tSS)).1,(ss.getD (↑i:Int).toNat (Ab tSS)).2.1,             (ss.getD (↑i:Int).toNat (Ab tSS)).2.2)).length :     Int),.int .i64 (j:Int)]++nA 15,[.cells [.sl tSt st,.sl A6 ps],.cells [.sl tSS ss,.sl Dn cs,.sl (.sl (.int .i64)) os,.bool dr],.cells   [.sl (.int .i64) (ss.getD (↑i:Int).toNat (Ab tSS)).1,     .int .i64 (ss.getD (↑i:Int).toNat (Ab tSS)).2.1,.bool (ss.getD (↑i:Int).toNat (Ab tSS)).2.2]],3⟩) (λj=>j<=nl.length/\(nl.take j).any (λn=>!Cr (Co (ss,cs,os,dr) (pIn (st,ps) i n)))=false) (λj=>nl.length-j) (aI (eI (0) (eI ([some 0,some 1,some 2]) (aI ?_ (aB (aI (aH (aG tT)) (by rfl)))))) ?_)
  ·exact⟨aV _,rfl⟩
  rintro j ⟨hj,hc3⟩;have hlt2:decide ((j:Int)<(nl.length:Int))=true->j<nl.length:=λh=>by have:=aM h;omega
  have hmem:j<nl.length->nl.getD j 0∈nl:=λh=>by rw[A1 h];exact cJ h
  refine(aI (λn0=>(aO (aF (aI tT (aI ?_ (aI tT (aI (λn1=>(Aa rfl ?_)) (λn1=>(aO ?_))))))))) (λn0=>(aO ?_)))
  ·have hj1:j<nl.length:=by rw[<-en];exact Int.ofNat_lt.1 (aM n0)
   have h:=hin _ (hmem hj1);rw[<-en]at h;exact h
  ·have hj1:j<nl.length:=by rw[<-en];exact Int.ofNat_lt.1 (aM n0)
   have h1:(!Cr (Co (ss,cs,os,dr) (pIn (st,ps) i (nl.getD j 0))))=true:=by rw[<-en];exact n1
   exact bI (λb=>(b,())) (hF (fH.2 ⟨_,hmem hj1,h1⟩))
  ·have hj1:j<nl.length:=by rw[<-en];exact Int.ofNat_lt.1 (aM n0)
   have h1:(!Cr (Co (ss,cs,os,dr) (pIn (st,ps) i (nl.getD j 0))))=false:=by rw[<-en];exact n1
   clear n0 n1;refine eI (j+1) (eI ([some 0,some 1,some 2]) (aI ?_ (aI ?_ (aB (aI (aH (aG tT)) (by rfl))))))
   ·refine⟨hj1, ?_⟩;rw[bS hj1,eR,hc3,fW,eV,gT,gM,<-A1 (d:=0) hj1];exact h1
   ·show nl.length-(j+1)<nl.length-j;omega
  ·have hj1:¬j<nl.length:=by rw[<-en];exactλh=>aQ n0 (Int.ofNat_lt.2 h)
   clear n0;refine eI (i+1) (eI ([some 0,some 1]) (aI ?_ (aI ?_ (aB (aI (aH tT) (by rfl))))))
   ·refine⟨hlt m0,hT ?_⟩
    rwa [bL (by omega)]at hc3
   ·have:=hlt m0;show ss.length-(i+1)<ss.length-i;omega
 ·have hi2:i=ss.length:=by
   have:¬(i:Int)<(ss.length:Int):=aQ m0;omega
  subst hi2;rw[p1,hc2];rfl
def cxqG:Ctx:=⟨Qt,[(48,([],cSinks)),(147,([],c31)),(40,([],cAnyV)),(149,([],cBuff))]⟩
theorem Ah7:Ai Tryz.prog cxqG:=Dl (Ae Adr (Ae Ug (Ae Atg (Ae Ath Ah))))
theorem Al6(l:List Int):(bif decide (200<(l.length:Int))then true else l.any A0)=I7 l:=by unfold I7;cases decide (200<(l.length:Int))<;>rfl
def cValid:Ctr:=fnC [dPl,dFs] rB (λy=>WF y.1) (λy=>(Lj y.1 y.2.1,()))
set_option maxHeartbeats 8000000 in
theorem Arr:GoodC Tryz.prog 122 cValid:=by
 refine Au Ah7 3 _ _ _ _ ⟨_,Tryz.func122,rfl,rfl⟩ λ(⟨⟨st,ps⟩,⟨ss,cs,os,dr⟩,_⟩:PlT×FsT×Unit) hk=>?_
 replace hk:WF (st,ps):=hk;refine(aF (aF (aI (λh0 h1 h2 h3 h4=>tT) (λh5=>(λh6=>(λh7=>(λh8=>(λh9=>(aI (λh10=>(Aa rfl ?_)) (λh10=>(λh11=>?_)))))))))))
 ·have h:ss.length≠st.length\/cs.length≠ps.length\/(os.length:Int)≠Bm st:=by
   have h10:(bif bif !decide ((ss.length:Int)=st.length)then true else !decide ((cs.length:Int)=ps.length)then true else !decide ((os.length:Int)=Bm st))=true:=h10;apply Classical.byContradiction;intro hn;rw[aX (show(ss.length:Int)=st.length by omega),aX (show(cs.length:Int)=ps.length by omega),aX (show(os.length:Int)=Bm st by omega)]at h10;cases h10
  exact bI (λb=>(b,())) (aP h)
 have hL:ss.length=st.length/\cs.length=ps.length/\(os.length:Int)=Bm st:=by
  have a:=Jx h10;have b:=Jx a.1;have b1:(ss.length:Int)=st.length:=aM (B5 b.1);have b2:(cs.length:Int)=ps.length:=aM (B5 b.2);have b3:(os.length:Int)=Bm st:=aM (B5 a.2);exact⟨by omega,by omega,b3⟩
 have p1:Lj (st,ps) (ss,cs,os,dr)=if(List.range ss.length).any (λi=>!decide ((Am (sg (st,ps) i) (ss.getD i ([],0,false))).2=0))=true then false
  else if os.any I7=true then false else Pj (st,ps) (ss,cs,os,dr):=aL (show ¬(ss.length≠st.length\/cs.length≠ps.length\/(os.length:Int)≠Bm st) by omega)
 clear h5 h6 h7 h10;refine ex4 _ (λi:Nat=>⟨[.any,.any,.ptr 0 0,.ptr 1 0,.any,.any,.any,.any,.any,.any,.any,.any,.any,.any,.any,.any,.any,.any,.any,.any,.any,.any,.any,.any,.any,.any,.any,.any,.any,.any,.any,.any,.any,.any,.any,.any,.ptr 1 0,.sl tSS ss,.int .i64 (↑ss.length:Int),.int .i64 (i:Int)]++nA 35,[.cells [.sl tSt st,.sl A6 ps],.cells [.sl tSS ss,.sl Dn cs,.sl (.sl (.int .i64)) os,.bool dr]],2⟩) (λi=>i<=ss.length/\(List.range i).any (λi=>!decide ((Am (sg (st,ps) i) (ss.getD i ([],0,false))).2=0))=false) (λi=>ss.length-i) (aI (eI (0) (eI ([some 0,some 1]) (aI ?_ (aB (aI (aH tT) (by rfl)))))) ?_)
 ·exact⟨aV _,rfl⟩
 rintro i ⟨hi,hc⟩;have hlt:decide ((i:Int)<(ss.length:Int))=true->i<ss.length:=λh=>by have:=aM h;omega
 have hF:i<ss.length->(!decide ((Am (st.getD (i:Int).toNat (Ab tSt)) (ss.getD (i:Int).toNat (Ab tSS))).2=0))=true->Lj (st,ps) (ss,cs,os,dr)=false:=λh1 h2=>p1.trans (aP (Sl h1 h2))
 have hT:i<ss.length->(!decide ((Am (st.getD (i:Int).toNat (Ab tSt)) (ss.getD (i:Int).toNat (Ab tSS))).2=0))=false->(List.range (i+1)).any (λi=>!decide ((Am (sg (st,ps) i) (ss.getD i ([],0,false))).2=0))=false:=λh1 h2=>Sm hc h2
 refine(aI (λk0=>(aO (aF (aO (aI tT (aI (λk1=>(Aa rfl ?_)) (λk1=>(aO ?_)))))))) (λk0=>(λk2=>?_)))
 ·simp only[eta]at k1;exact bI (λb=>(b,())) (hF (hlt k0) k1)
 ·simp only[eta]at k1;have hi1:=hlt k0;have h2:=hT hi1 k1;clear k0 k1;refine eI (i+1) (eI ([some 0,some 1]) (aI ?_ (aI ?_ (aB (aI (aH tT) (by rfl))))))
  ·exact⟨hi1,h2⟩
  ·show ss.length-(i+1)<ss.length-i;omega
 have hi2:i=ss.length:=by
  have:¬(i:Int)<(ss.length:Int):=aQ k0;omega
 subst hi2;rw[aL (λh=>aY (hc.symm.trans h))]at p1;clear hlt hF hT k0;refine ex4 _ (λj:Nat=>⟨[.any,.any,.ptr 0 0,.ptr 1 0,.any,.any,.any,.any,.any,.any,.any,.any,.any,.any,.any,.any,.any,.any,.any,.any,.any,.any,.any,.any,.any,.any,.any,.any,.any,.any,.any,.any,.any,.any,.any,.any,.any,.any,.any,.any,.any,.any,.any,.any,.any,.any,.any,.any,.any,.any,.any,.any,.any,.any,.any,.any,.any,.ptr 1 2,.sl (.sl (.int .i64)) os,.int .i64 (↑os.length:Int),.int .i64 (j:Int)]++nA 14,[.cells [.sl tSt st,.sl A6 ps],.cells [.sl tSS ss,.sl Dn cs,.sl (.sl (.int .i64)) os,.bool dr]],2⟩) (λj=>j<=os.length/\(os.take j).any I7=false) (λj=>os.length-j) (aI (eI (0) (eI ([some 0,some 1]) (aI ?_ (aB (aI (aH tT) (by rfl)))))) ?_)
 ·exact⟨aV _,rfl⟩
 rintro j ⟨hj,hc2⟩;have hlt:decide ((j:Int)<(os.length:Int))=true->j<os.length:=λh=>by have:=aM h;omega
 have hF:j<os.length->I7 (os.getD (j:Int).toNat (Ab tIs))=true->Lj (st,ps) (ss,cs,os,dr)=false:=λh1 h2=>p1.trans (aP (fH.2 ⟨os.getD j [],by rw[A1 h1];exact cJ h1,h2⟩))
 have hT:j<os.length->I7 (os.getD (j:Int).toNat (Ab tIs))=false->(os.take (j+1)).any I7=false:=λh1 h2=>by
  rw[bS h1,eR,hc2,fW,eV,gT,gM,<-A1 (d:=[]) h1];exact h2
 refine(aI (λm0=>(aO (λm1=>(aI (λm2=>tT) (aI (λm3=>(Aa rfl ?_)) (λm3=>(aO ?_))))))) (λm0=>(aI ?_ (Aa rfl ?_))))
 ·rw[Al6]at m3;exact bI (λb=>(b,())) (hF (hlt m0) m3)
 ·rw[Al6]at m3;have hj1:=hlt m0;have h2:=hT hj1 m3;clear m0 m1 m3;refine eI (j+1) (eI ([some 0,some 1]) (aI ?_ (aI ?_ (aB (aI (aH tT) (by rfl))))))
  ·exact⟨hj1,h2⟩
  ·show os.length-(j+1)<os.length-j;omega
 ·refine⟨hk,hL.1,hL.2.1,λi hi=>?_⟩;have h:=dA.1 hc i (cZ.2 (show i<ss.length by have:i<st.length:=hi;omega));have h2:(!decide ((Am (sg (st,ps) (i:Int)) (Ay (ss,cs,os,dr) (i:Int))).2=0))=false:=by
   cases hb:(!decide ((Am (sg (st,ps) (i:Int)) (Ay (ss,cs,os,dr) (i:Int))).2=0))
   ·rfl
   ·exact aT hb h
  exact aM (B5 h2)
 ·have hj1:¬(j:Int)<(os.length:Int):=aQ m0;rw[bL (by omega)]at hc2;exact bI (λb=>(b,())) (p1.trans (aL (λh=>aY (hc2.symm.trans h))))
def cxqG2:Ctx:=⟨Qt,[(11,([],cPChk)),(122,([],cValid))]⟩
theorem Adt:Ai Tryz.prog cxqG2:=Dl (Ae Afz (Ae Arr Ah))
def cVal:Ctr:=fnC [dPl,dFs] rI (λ_=>True) (λy=>(Df y.1 y.2.1,()))
theorem Ars:GoodC Tryz.prog 78 cVal:=by
 refine Au Adt 3 _ _ _ _ ⟨_,Tryz.func78,rfl,rfl⟩ λ(⟨⟨st,ps⟩,⟨ss,cs,os,dr⟩,_⟩:PlT×FsT×Unit) _=>?_
 refine(aF (aI tT (aI (λh0=>?_) (aI (λh1=>(Aa rfl ?_)) (λh1=>(Aa rfl ?_))))))
 ·exact Cz.1 (aM (B5 h0))
 ·unfold Df;rw[aP];have h1:(bif !decide (Fa (st,ps)=0)then true else !Lj (st,ps) (ss,cs,os,dr))=true:=h1;by_cases hp:Fa (st,ps)=0
  ·rw[aX hp]at h1;right;cases hv:Lj (st,ps) (ss,cs,os,dr)
   ·rfl
   ·rw[hv]at h1;cases h1
  ·exact .inl hp
 ·unfold Df;have h2:=Jx h1;rw[aL];rintro(h|h)
  ·exact h (aM (B5 h2.1))
  ·exact aY (h.symm.trans (B5 h2.2))
def cxqG3:Ctx:=⟨Qt,[(78,([],cVal))]⟩
theorem Adu:Ai Tryz.prog cxqG3:=Dl (Ae Ars Ah)
def cDVal:Ctr:=fnC [dPl,dFs] rB (λ_=>True) (λy=>(decide (Df y.1 y.2.1=0),()))
theorem Apv:GoodC Tryz.prog 51 cDVal:=by
 refine Au Adu 3 _ _ _ _ ⟨_,Tryz.func51,rfl,rfl⟩ λ(⟨⟨st,ps⟩,⟨ss,cs,os,dr⟩,_⟩:PlT×FsT×Unit) _=>?_
 refine(aF (aI tT (Aa rfl (by rfl))))
end Go.Proofs.YtpabcdbaffjcdaaGreat
