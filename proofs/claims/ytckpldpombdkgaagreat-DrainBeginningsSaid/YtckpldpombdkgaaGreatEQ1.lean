/- Pipelines. -/
import Derived.Test.YtckpldpombdkgaaGreatEP
set_option linter.unusedSimpArgs false
set_option linter.unusedVariables false
set_option maxRecDepth 100000
namespace Go.Proofs.YtckpldpombdkgaaGreat
open Go.Sx
@[reducible] def A7:Ty:=.pair tI (.pair tI (.pair tI (.pair tI tI)))
@[reducible] def tPl:Ty:=.pair (.sl tSt) (.sl A7)
@[reducible] def dPl:AK:=.dat true tPl
@[reducible] def Av4:AK:=.dat true A7
def cWi:Ctr:=fnC [dI,dI,dI] rB (λ_=>True) (λy=>(inR y.1 y.2.1 y.2.2.1,()))
theorem gWi:GoodC Tryz.prog 84 cWi:=by
 refine As Ah 3 _ _ _ _ ⟨_,Tryz.func84,rfl,rfl⟩ λ⟨n,lo,hi,_⟩ _=>?_
 refine(aF (Aa rfl (by simp[inR])))
theorem Abm(i n:Int)(y:PipeT):U0 i n y=(bif decide (y.1=i)then decide (y.2.1=n)else false):=by unfold U0;cases decide (y.1=i)<;>rfl
theorem Af2(i n:Int)(y:PipeT):inB i n y=(bif decide (y.2.2.1=i)then decide (y.2.2.2.1=n)else false):=by unfold inB;cases decide (y.2.2.1=i)<;>rfl
def cOut:Ctr:=fnC [dPl,dI,dI] rI (λ_=>True) (λy=>(B8 y.1 y.2.1 y.2.2.1,()))
theorem Aoq:GoodC Tryz.prog 94 cOut:=by
 refine As Ah 5 _ _ _ _ ⟨_,Tryz.func94,rfl,rfl⟩ λ(⟨⟨st,ps⟩,i,n,_⟩:PlT×Int×Int×Unit) _=>?_
 refine(aF (aF (aF (λh0=>?_))));refine ex4 _ (λj:Nat=>⟨[.sl A7 ps,.fn (Fn.func 144) [] [.ptr 1 0,.ptr 2 0],.any,.any,.int .i64 0,.any,.sl A7 ps,.int .i64 (↑ps.length:Int),.int .i64 (j:Int),.any,.any,.any,.any,.any,.any,.any,.any,.any,.any],[.cells [.sl tSt st,.sl A7 ps],.cells [.int .i64 i],.cells [.int .i64 n]],3⟩) (λj=>j<=ps.length/\Am (U0 i n) ps 0=Am (U0 i n) (ps.drop j) j) (λj=>ps.length-j) (aI (eI (0) (eI ([some 0,some 1,some 2]) (aI ?_ (aB (aI (aH (aG tT)) (by rfl)))))) ?_)
 ·exact⟨aV _,rfl⟩
 rintro j ⟨hj,ht⟩;refine(aI (λk0=>(aO (aF (aI (λk1=>(Aa rfl ?_)) (λk1=>(aO ?_)))))) (λk0=>(Aa rfl ?_)))
 ·show(Am (U0 i n) ps 0,())=_;rw[ht,A0 (U0 i n) Ai ps j (by simpa using k0),aN (by rw[Abm];exact k1)]
 ·refine eI (j+1) (eI ([some 0,some 1,some 2]) (aI ?_ (aI ?_ (aB (aI (aH (aG tT)) (by rfl))))))
  ·have hj':j<ps.length:=by simpa using k0
   refine⟨hj', ?_⟩;rw[ht,A0 (U0 i n) Ai ps j hj',aL (by rw[Abm];exactλh=>aX (k1.symm.trans h))]
  ·have hj':j<ps.length:=by simpa using k0
   show ps.length-(j+1)<ps.length-j;omega
 ·show(Am (U0 i n) ps 0,())=_;have hj':¬j<ps.length:=by simpa using k0
  rw[ht,bI (by omega)];rfl
def cIn:Ctr:=fnC [dPl,dI,dI] rI (λ_=>True) (λy=>(pIn y.1 y.2.1 y.2.2.1,()))
theorem gIn:GoodC Tryz.prog 92 cIn:=by
 refine As Ah 5 _ _ _ _ ⟨_,Tryz.func92,rfl,rfl⟩ λ(⟨⟨st,ps⟩,i,n,_⟩:PlT×Int×Int×Unit) _=>?_
 refine(aF (aF (aF (λh0=>?_))));refine ex4 _ (λj:Nat=>⟨[.sl A7 ps,.fn (Fn.func 138) [] [.ptr 1 0,.ptr 2 0],.any,.any,.int .i64 0,.any,.sl A7 ps,.int .i64 (↑ps.length:Int),.int .i64 (j:Int),.any,.any,.any,.any,.any,.any,.any,.any,.any,.any],[.cells [.sl tSt st,.sl A7 ps],.cells [.int .i64 i],.cells [.int .i64 n]],3⟩) (λj=>j<=ps.length/\Am (inB i n) ps 0=Am (inB i n) (ps.drop j) j) (λj=>ps.length-j) (aI (eI (0) (eI ([some 0,some 1,some 2]) (aI ?_ (aB (aI (aH (aG tT)) (by rfl)))))) ?_)
 ·exact⟨aV _,rfl⟩
 rintro j ⟨hj,ht⟩;refine(aI (λk0=>(aO (aF (aI (λk1=>(Aa rfl ?_)) (λk1=>(aO ?_)))))) (λk0=>(Aa rfl ?_)))
 ·show(Am (inB i n) ps 0,())=_;rw[ht,A0 (inB i n) Ai ps j (by simpa using k0),aN (by rw[Af2];exact k1)]
 ·refine eI (j+1) (eI ([some 0,some 1,some 2]) (aI ?_ (aI ?_ (aB (aI (aH (aG tT)) (by rfl))))))
  ·have hj':j<ps.length:=by simpa using k0
   refine⟨hj', ?_⟩;rw[ht,A0 (inB i n) Ai ps j hj',aL (by rw[Af2];exactλh=>aX (k1.symm.trans h))]
  ·have hj':j<ps.length:=by simpa using k0
   show ps.length-(j+1)<ps.length-j;omega
 ·show(Am (inB i n) ps 0,())=_;have hj':¬j<ps.length:=by simpa using k0
  rw[ht,bI (by omega)];rfl
theorem Pz(s:StT):0<=stIn s/\stIn s<=2/\0<=stOut s/\stOut s<=2:=by
 have h:∀k:Int,0<=(Aq k).1/\(Aq k).1<=2/\0<=(Aq k).2.1/\(Aq k).2.1<=2:=λk=>by
  unfold Aq
  repeat' split
  all_goals decide
 unfold stIn stOut;have:=h s.1;split<;>omega
theorem Auq(s:StT):-9223372036854775808<=stOut s-1/\stOut s-1<=9223372036854775807:=by have:=Pz s;omega
theorem inN(s:StT):-9223372036854775808<=stIn s-1/\stIn s-1<=9223372036854775807:=by have:=Pz s;omega
theorem J1{a b:Bool}(h:(bif a then true else b)=false):a=false/\b=false:=by cases a<;>cases b<;>simp_all
theorem P0{a b:Bool}(h:(bif a then b else false)=true):a=true/\b=true:=by cases a<;>cases b<;>simp_all
theorem Bw{a:Bool}(h:(!a)=false):a=true:=by cases a<;>simp_all
theorem Aur(a b c d e:Bool):(bif bif bif bif !a then true else !b then true else !c then true else !d then true else !e)=(!a||(!b||(!c||(!d || !e)))):=by cases a<;>cases b<;>cases c<;>cases d<;>cases e<;>rfl
theorem Af3{n:Int}{st:List StT}(h:inR n 0 (st.length-1)=true):0<=n/\n<st.length:=by have:=Lo.1 h;omega
theorem Al7{p q:Prop}[Decidable p][Decidable q](h:(bif decide p then true else decide q)=true):p\/q:=by
 by_cases hp:p
 ·exact .inl hp
 ·rw[aZ hp]at h;exact .inr (aM h)
theorem Yw{p q:Prop}[Decidable p][Decidable q](h:(bif decide p then true else decide q)=false):¬(p\/q):=by
 have:=J1 h
 exactλh=>h.elim (aP this.1) (aP this.2)
theorem Aor{p q:Prop}[Decidable p][Decidable q](h:(bif decide p then decide q else false)=true):p/\q:=by
 have:=P0 h;exact⟨aM this.1,aM this.2⟩
theorem Al8{p q:Prop}[Decidable p][Decidable q](h:(bif decide p then decide q else false)=false):¬(p/\q):=by
 rintro⟨a,b⟩;rw[aW a,aW b]at h;cases h
def Al9:List (TypeId×Ty):=(98,A7)::(53,tSt)::Dp
def cxqB:Ctx:=⟨Al9,[(84,([],cWi)),(94,([],cOut)),(92,([],cIn)),(86,([],c19)),(87,([],c21))]⟩
theorem W3:Aj Tryz.prog cxqB:=C0 (Ad gWi (Ad Aoq (Ad gIn (Ad Ac9 (Ad Ada Ah)))))
def cChkP:Ctr:=fnC [dPl,dI] rI (λy=>0<=y.2.1/\y.2.1<y.1.2.length) (λy=>(Ie y.1 y.2.1 (y.1.2.getD y.2.1.toNat Ai),()))
set_option maxHeartbeats 8000000 in
theorem As7:GoodC Tryz.prog 88 cChkP:=by
 refine As W3 3 _ _ _ _ ⟨_,Tryz.func88,rfl,rfl⟩ λ(⟨⟨st,ps⟩,k,_⟩:PlT×Int×Unit) hk=>?_
 refine(aF (aI (by omega) (λh0=>(aO (aF (aI tT (aI (λh1=>tT) (aI (λh2=>?_) (aI (λh3=>tT) (aI (λh4=>?_) (aI (λh5=>tT) (aI (λh6=>?_) (aI (λh7=>tT) (aI (λh8=>?_) (aI (λh9=>tT) (aI (λh10=>tT) (aI (λh11=>(Aa rfl ?_)) (λh11=>(aI tT (aI (λh12=>tT) (aI (λh13=>(Aa rfl ?_)) (λh13=>(aI ?_ (aI (λh14=>(Aa rfl ?_)) (λh14=>(Aa rfl ?_))))))))))))))))))))))))))
 all_goals generalize hy:ps.getD k.toNat (Ab A7)=y at *
 ·exact Af3 (Bw (J1 h2).1)
 ·exact Auq _
 ·exact Af3 (Bw (J1 (J1 h6).1).2)
 ·exact inN _
 all_goals simp only[eta]at h11
 all_goals rw[Aur]at h11
 all_goals try rw[show ps.getD k.toNat Ai=y from hy]
 all_goals try unfold Ie
 ·rw[aN (show Lm (st,ps) y=true from h11)]
 ·rw[aL (λh=>aX (Eq.trans (Eq.symm (show Lm (st,ps) y=false from h11)) h)),aN (Al7 h13)]
 ·simp only[bJ]at h11;exact Af3 (Bw h11.1)
 ·rw[aL (λh=>aX (Eq.trans (Eq.symm (show Lm (st,ps) y=false from h11)) h)),aL (Yw h13),aN (show(sg (st,ps) y.1).1=5/\y.2.2.2.2<(sg (st,ps) y.1).2.1 from Aor h14)]
 ·rw[aL (λh=>aX (Eq.trans (Eq.symm (show Lm (st,ps) y=false from h11)) h)),aL (Yw h13),aL (show ¬((sg (st,ps) y.1).1=5/\y.2.2.2.2<(sg (st,ps) y.1).2.1)from Al8 h14)]
def inS(x:PlT):Prop:=∀k:Nat,k<x.2.length->0<=(x.2.getD k Ai).1/\(x.2.getD k Ai).1<x.1.length/\0<=(x.2.getD k Ai).2.2.1/\(x.2.getD k Ai).2.2.1<x.1.length
theorem Ama{n i:Nat}(h:i<n):(ints i++List.replicate (n-i) (0:Int)).set i i=ints (i+1)++List.replicate (n-(i+1)) 0:=by
 rw[List.set_append,aL (by simp[ints]),show n-i=(n-(i+1))+1 by omega,List.replicate_succ];simp[ints,dA]
theorem W4{ps:List PipeT}{g:List Int}{j:Nat}(h:j<ps.length):Gx (ps.drop j) g=if g.getD (ps.getD j Ai).1.toNat 0=g.getD (ps.getD j Ai).2.2.1.toNat 0 then true else Gx (ps.drop (j+1)) (Ji (ps.getD j Ai) g):=by
 rw[cE h,Gx];simp[aY,aQ h]
theorem P1{y:PipeT}{g q:List Int}{k:Nat}(h:k<g.length)(hq:q=(Ji y g).take k++g.drop k):q.length=g.length/\q.getD k 0=g.getD k 0/\
 (g.getD k 0=g.getD y.2.2.1.toNat 0->q.set k (g.getD y.1.toNat 0)=(Ji y g).take (k+1)++g.drop (k+1))/\(g.getD k 0≠g.getD y.2.2.1.toNat 0->q=(Ji y g).take (k+1)++g.drop (k+1)):=by
 have hl:(Ji y g).length=g.length:=by simp[Ji]
 have e1:(Ji y g).take (k+1)=(Ji y g).take k++[if g[k]=g.getD y.2.2.1.toNat 0 then g.getD y.1.toNat 0 else g[k]]:=by
  rw[bS (by omega)];simp[Ji]
 have e2:g.drop k=g[k]::g.drop (k+1):=cE h;have e3:g.getD k 0=g[k]:=by simp[aY,aQ h]
 have e4:((Ji y g).take k).length=k:=by rw[bO];omega
 subst hq;refine⟨by simp;omega, ?_,λhb=>?_,λhb=>?_⟩
 ·rw[aY,dY,aL (by omega),e4,fN,e2,e3];rfl
 ·rw[e1,e2,aN (by rw[<-e3];exact hb),List.set_append,aL (by omega),e4,fN,dO];rfl
 ·rw[e1,e2,aL (by rw[<-e3];exact hb),dO];rfl
def cCirc:Ctr:=fnC [dPl] rB (λy=>y.1.1.length<=1000/\inS y.1) (λy=>(Gx y.1.2 (ints y.1.1.length),()))
theorem As8:GoodC Tryz.prog 89 cCirc:=by
 refine As W3 3 _ _ _ _ ⟨_,Tryz.func89,rfl,rfl⟩ λ(⟨⟨st,ps⟩,_⟩:PlT×Unit) hk=>?_
 replace hk:st.length<=1000/\inS (st,ps):=hk;have hlen:=hk.1;refine(aF (λh0=>(aO (λh1=>?_))));refine ex4 _ (λi:Nat=>⟨[.any,.ptr 0 0,.any,.own 1,.any,.any,.any,.any,.any,.any,.any,.any,.any,.any,.any,.own 1,.int .i64 ((List.replicate st.length (0:Int)).length:Int),.int .i64 (i:Int)]++nA 43,[.cells [.sl tSt st,.sl A7 ps],.rows tI (ints i++List.replicate (st.length-i) 0)],2⟩) (λi=>i<=st.length) (λi=>st.length-i) (aI (eI (0) (eI ([some 0,some 1]) (aI ?_ (aB (aI (aG (aA tT)) (by rfl)))))) ?_)
 ·exact aV _
 rintro i hi;have hL:∀i≤st.length,(ints i++List.replicate (st.length-i) 0).length=st.length:=λi hi=>by simp[ints];omega
 refine(aI (λk0=>(aI ?_ (aO ?_))) (λk0=>(λk1=>?_)))
 ·have hi':i<st.length:=by simpa using k0
  rw[hL i hi];omega
 ·refine eI (i+1) (eI ([some 0,some 1]) (aI ?_ (aI ?_ (aB (aI (aG (aI ?_ tT)) (by rfl))))))
  ·have hi':i<st.length:=by simpa using k0
   exact hi'
  ·have hi':i<st.length:=by simpa using k0
   show st.length-(i+1)<st.length-i;omega
  ·have hi':i<st.length:=by simpa using k0
   exact bG (Ob.rows tI) (Ama hi')
 have hi':i=st.length:=by have:¬i<st.length:=(by simpa using k0);omega
 subst hi';refine ex4 _ (λp:Nat×List Int=>⟨[.any,.ptr 0 0,.any,.own 1,.any,.any,.any,.any,.any,.any,.any,.any,.any,.any,.any,.any,.any,.any,.any,.any,.any,.any,.any,.any,.any,.ptr 0 1,.sl A7 ps,.int .i64 (↑ps.length:Int),.int .i64 (p.1:Int)]++nA 32,[.cells [.sl tSt st,.sl A7 ps],.rows tI p.2],2⟩) (λp=>p.1<=ps.length/\p.2.length=st.length/\Gx (ps.drop p.1) p.2=Gx ps (ints st.length)) (λp=>ps.length-p.1) (aI (eI ((0,ints st.length++List.replicate (st.length-st.length) 0)) (eI ([some 0,some 1]) (aI ?_ (aB (aI (aG (aA tT)) (by rfl)))))) ?_)
 ·refine⟨aV _,hL _ (bB _), ?_⟩;rw[fN];show Gx ps (ints st.length++[])=_;rw[cB]
 rintro⟨j,g⟩ ⟨hj,hg,hc⟩;replace hj:j<=ps.length:=hj;replace hg:g.length=st.length:=hg;replace hc:Gx (ps.drop j) g=Gx ps (ints st.length):=hc;have hy0:∀j:Nat,j<ps.length->0<=(ps.getD (j:Int).toNat (Ab A7)).1/\(ps.getD (j:Int).toNat (Ab A7)).1<g.length/\0<=(ps.getD (j:Int).toNat (Ab A7)).2.2.1/\(ps.getD (j:Int).toNat (Ab A7)).2.2.1<g.length:=λj h=>by
  have:=hk.2 j h;rw[hg];exact this
 refine(aI (λm0=>(aO (aF (aI ?_ (aI ?_ (aI (λm1=>(Aa rfl ?_)) (λm1=>(λm2=>?_)))))))) (λm0=>(Aa rfl ?_)))
 ·have:=hy0 j (by simpa using m0);exact⟨this.1,this.2.1⟩
 ·have:=hy0 j (by simpa using m0);exact⟨this.2.2.1,this.2.2.2⟩
 ·have hj':j<ps.length:=by simpa using m0
  exact bG (λb=>(b,())) (hc.symm.trans ((W4 hj').trans (aN (aM m1))))
 ·have hj':j<ps.length:=by simpa using m0
  have hcd:Gx (ps.drop j) g=Gx (ps.drop (j+1)) (Ji (ps.getD (j:Int).toNat (Ab A7)) g):=(W4 hj').trans (aL (aP m1));clear m0 m1;generalize ps.getD (j:Int).toNat (Ab A7)=y at *;refine ex4 _ (λq:Nat×List Int=>⟨[.any,.ptr 0 0,.any,.own 1,.any,.any,.ptr 2 0,.int .i64 (g.getD y.1.toNat (Ab tI)),.int .i64 (g.getD y.2.2.1.toNat (Ab tI)),.any,.any,.any,.any,.any,.any,.any,.any,.any,.any,.any,.any,.any,.any,.any,.any,.ptr 0 1,.sl A7 ps,.int .i64 (↑ps.length:Int),.int .i64 (↑j:Int),.bool (decide ((↑j:Int)<(↑ps.length:Int))),.eptr   [PV.int .i64 y.1,PV.int .i64 y.2.1,PV.int .i64 y.2.2.1,PV.int .i64 y.2.2.2.1,     PV.int .i64 y.2.2.2.2],.agg   [.int .i64 y.1,.int .i64 y.2.1,.int .i64 y.2.2.1,.int .i64 y.2.2.2.1,     .int .i64 y.2.2.2.2],.own 1,.ptr 2 0,.int .i64 y.1,.rptr 1 tI.size y.1.toNat 0,.int .i64 (g.getD y.1.toNat (Ab tI)),.own 1,.ptr 2 2,.int .i64 y.2.2.1,.rptr 1 tI.size y.2.2.1.toNat 0,.int .i64 (g.getD y.2.2.1.toNat (Ab tI)),.int .i64 (g.getD y.1.toNat (Ab tI)),.int .i64 (g.getD y.2.2.1.toNat (Ab tI)),.bool (decide (g.getD y.1.toNat (Ab tI)=g.getD y.2.2.1.toNat (Ab tI))),.own 1,.int .i64 (↑g.length:Int),.int .i64 (q.1:Int)]++nA 13,[.cells [.sl tSt st,.sl A7 ps],.rows tI q.2,.cells   [.int .i64 y.1,.int .i64 y.2.1,.int .i64 y.2.2.1,.int .i64 y.2.2.2.1,     .int .i64 y.2.2.2.2]],3⟩) (λq=>q.1<=g.length/\q.2=(Ji y g).take q.1++g.drop q.1) (λq=>g.length-q.1) (aI (eI ((0,g)) (eI ([some 0,some 1,some 2]) (aI ?_ (aB (aI (aG (aA (aG tT))) (by rfl)))))) ?_)
  ·exact⟨aV _,rfl⟩
  rintro⟨l,q⟩ ⟨hl,hq⟩;replace hl:l<=g.length:=hl;replace hq:q=(Ji y g).take l++g.drop l:=hq;have hql:q.length=g.length:=by
   rw[hq,bD,bO,cH,show(Ji y g).length=g.length by simp[Ji]];omega
  have hl':decide ((l:Int)<(g.length:Int))=true->l<g.length:=λh=>by have:=aM h;omega
  refine(aI (λn0=>(aO (aI (λn1=>(aO (aO ?_))) (λn1=>(aO ?_))))) (λn0=>(aO ?_)))
  ·refine eI ((l+1,q.set l (g.getD y.1.toNat 0))) (eI ([some 0,some 1,some 2]) (aI ?_ (aI ?_ (aB (aI (aG (aA (aG tT))) (by rfl))))))
   ·exact⟨hl' n0,(P1 (hl' n0) hq).2.2.1 (((P1 (hl' n0) hq).2.1).symm.trans (aM n1))⟩
   ·have:=hl' n0;show g.length-(l+1)<g.length-l;omega
  ·refine eI ((l+1,q)) (eI ([some 0,some 1,some 2]) (aI ?_ (aI ?_ (aB (aI (aG (aA (aG tT))) (by rfl))))))
   ·exact⟨hl' n0,(P1 (hl' n0) hq).2.2.2 (λh=>aP n1 (((P1 (hl' n0) hq).2.1).trans h))⟩
   ·have:=hl' n0;show g.length-(l+1)<g.length-l;omega
  ·have hl2:l=g.length:=by have:¬(l:Int)<(g.length:Int):=aP n0;omega
   have hq2:q=Ji y g:=by
    rw[hq,hl2,gP,cB,bL (by simp[Ji])]
   refine eI ((j+1,q)) (eI ([some 0,some 1]) (aI ?_ (aI ?_ (aB (aI (aG (aA tT)) (by rfl))))))
   ·refine⟨hj',hql.trans hg, ?_⟩;show Gx (ps.drop (j+1)) q=_;rw[hq2,<-hcd];exact hc
   ·show ps.length-(j+1)<ps.length-j;omega
 ·have hj':¬j<ps.length:=by simpa using m0
  rw[<-hc,bI (by omega)];rfl
def cxqD:Ctx:=⟨Al9,[(84,([],cWi)),(88,([],cChkP)),(89,([],cCirc)),(85,([],c17)),(86,([],c19)),(87,([],c21))]⟩
theorem Ah5:Aj Tryz.prog cxqD:=C0 (Ad gWi (Ad As7 (Ad As8 (Ad Uq (Ad Ac9 (Ad Ada Ah))))))
theorem W5{st:List StT}{i:Nat}(h:i<st.length):Ft (st.take (i+1))=Ft (st.take i)+(stIn (st.getD i zStg)+stOut (st.getD i zStg)):=by
 unfold Ft;rw[bS h,dK];simp[aY,aQ h]
theorem Af4(st:List StT):∀i:Nat,i<=st.length->0<=Ft (st.take i)/\Ft (st.take i)<=4*i
 |0,_=>by simp[Ft]
 |i+1,h=>by
  have:=Af4 st i (by omega);rw[W5 (by omega)];have:=Pz (st.getD i zStg);omega
theorem Abn{α:Type}(f:α->Int)(d:α){l:List α}{i:Nat}(h:i<l.length):Cb ((l.drop i).map f)=if f (l.getD i d)≠0 then f (l.getD i d)else Cb ((l.drop (i+1)).map f):=by
 rw[cE h,eB,Cb];simp[aY,aQ h]
theorem Ari{x:PlT}(h:Cb ((List.range x.2.length).map (λk:Nat=>Ie x k (x.2.getD k Ai)))=0):inS x:=λk hk=>by
 have h:=Yu _ h _ (cR.2 ⟨k,cZ.2 hk,rfl⟩);unfold Ie at h;split at h
 ·cases h
 ·rename_i h1;simp only[Lm,bX,bK,not_or,fE,Lo]at h1;omega
def cPChk:Ctr:=fnC [dPl] rI (λ_=>True) (λy=>(Gf y.1,()))
set_option maxHeartbeats 8000000 in
theorem Af5:GoodC Tryz.prog 51 cPChk:=by
 refine As Ah5 3 _ _ _ _ ⟨_,Tryz.func51,rfl,rfl⟩ λ(⟨⟨st,ps⟩,_⟩:PlT×Unit) _=>?_
 refine(aF (λh0=>(aI tT (aI (λh1=>(Aa rfl ?_)) (λh1=>(λh2=>?_))))))
 ·have h1':¬(1<=st.length/\st.length<=16):=λh=>by
   have h2:inR (st.length:Int) 1 16=true:=Lo.2 (by omega);have h1:(!inR (st.length:Int) 1 16)=true:=h1;rw[h2]at h1;cases h1
  show(Gf (st,ps),())=_;unfold Gf;rw[aN h1']
 have h1b:1<=(st.length:Int)/\(st.length:Int)<=16:=Lo.1 (Bw h1);have hn:1<=st.length/\st.length<=16:=by omega
 have p1:Gf (st,ps)=if Cb (st.map Ap)≠0 then Cb (st.map Ap)else if 32<ps.length then 4
  else if Cb ((List.range ps.length).map (λk:Nat=>Ie (st,ps) k (ps.getD k Ai)))≠0 then Cb ((List.range ps.length).map (λk:Nat=>Ie (st,ps) k (ps.getD k Ai)))
  else if Ft st≠2*ps.length then 10 else if Gx ps (ints st.length)=true then 21 else 0:=by
  show(if ¬(1<=st.length/\st.length<=16)then _ else _)=_;rw[aL (λh=>h hn)]
 clear h1;refine ex4 _ (λp:Nat×Int=>⟨[.any,.ptr 0 0,.any,.int .i64 p.2,.any,.any,.any,.any,.any,.any,.any,.any,.any,.any,.ptr 0 0,.sl tSt st,.int .i64 (↑st.length:Int),.int .i64 (p.1:Int)]++nA 41,[.cells [.sl tSt st,.sl A7 ps]],1⟩) (λp=>p.1<=st.length/\p.2=Ft (st.take p.1)/\Cb (st.map Ap)=Cb ((st.drop p.1).map Ap)) (λp=>st.length-p.1) (aI (eI ((0,0)) (eI ([some 0]) (aI ?_ (aB (aI (aG tT) (by rfl)))))) ?_)
 ·exact⟨aV _,rfl,rfl⟩
 rintro⟨i,n⟩ ⟨hi,hnn,he⟩;replace hi:i<=st.length:=hi;replace hnn:n=Ft (st.take i):=hnn;replace he:Cb (st.map Ap)=Cb ((st.drop i).map Ap):=he;have hb:=Af4 st i hi;have hd:i<st.length->Cb (st.map Ap)=if Ap (st.getD (i:Int).toNat (Ab tSt))≠0 then Ap (st.getD (i:Int).toNat (Ab tSt))else Cb ((st.drop (i+1)).map Ap):=λh=>he.trans (Abn Ap zStg h)
 have hen:i<st.length->Ft (st.take (i+1))=Ft (st.take i)+(stIn (st.getD (i:Int).toNat (Ab tSt))+stOut (st.getD (i:Int).toNat (Ab tSt))):=λh=>W5 h
 have hlt:decide ((i:Int)<(st.length:Int))=true->i<st.length:=λh=>by have:=aM h;omega
 refine(aI (λk0=>(aO (aI tT (aI (λk1=>(Aa rfl ?_)) (λk1=>(aF (aI tT (aI tT (aI ?_ (aI ?_ (aO ?_))))))))))) (λk0=>(λk2=>(aI (λk3=>(Aa rfl ?_)) (λk3=>(λk4=>?_))))))
 ·simp only[eta]at k1 ⊢;have hne:Ap (st.getD (i:Int).toNat (Ab tSt))≠0:=λh=>by
   have k1:(!decide (Ap (st.getD (i:Int).toNat (Ab tSt))=0))=true:=k1;rw[h]at k1;cases k1
  have e:=(hd (hlt k0)).trans (aN hne);exact bG (λn=>(n,())) (p1.trans ((aN (by rw[e];exact hne)).trans e))
 ·have:=Pz (st.getD (i:Int).toNat (Ab tSt));simp only[eta];show -9223372036854775808<=stIn (st.getD (i:Int).toNat (Ab tSt))+stOut (st.getD (i:Int).toNat (Ab tSt))/\stIn (st.getD (i:Int).toNat (Ab tSt))+stOut (st.getD (i:Int).toNat (Ab tSt))<=9223372036854775807;omega
 ·have:=Pz (st.getD (i:Int).toNat (Ab tSt));simp only[eta];show -9223372036854775808<=n+(stIn (st.getD (i:Int).toNat (Ab tSt))+stOut (st.getD (i:Int).toNat (Ab tSt)))/\n+(stIn (st.getD (i:Int).toNat (Ab tSt))+stOut (st.getD (i:Int).toNat (Ab tSt)))<=9223372036854775807;omega
 ·simp only[eta]at k1;refine eI ((i+1,_)) (eI ([some 0]) (aI ?_ (aI ?_ (aB (aI (aG tT) (by rfl))))))
  ·have hz:¬Ap (st.getD (i:Int).toNat (Ab tSt))≠0:=λh=>by
    have k1:(!decide (Ap (st.getD (i:Int).toNat (Ab tSt))=0))=false:=k1;rw[aZ h]at k1;cases k1
   refine⟨hlt k0, ?_,(hd (hlt k0)).trans (aL hz)⟩;simp only[eta];show n+(stIn (st.getD (i:Int).toNat (Ab tSt))+stOut (st.getD (i:Int).toNat (Ab tSt)))=Ft (st.take (i+1));rw[hnn];exact(hen (hlt k0)).symm
  ·have:=hlt k0;show st.length-(i+1)<st.length-i;omega
 all_goals
  have hi2:i=st.length:=by
   have:¬(i:Int)<(st.length:Int):=aP k0;omega
  have hz:Cb (st.map Ap)=0:=by rw[he,hi2,gP];rfl
  have hn2:n=Ft st:=by rw[hnn,hi2,dM]
  rw[aL (by rw[hz];simp)]at p1;clear hd hen hlt he hnn hb k0;subst hn2
 ·exact bG (λn=>(n,())) (p1.trans (aN (by have:=aM k3;omega)))
 rw[aL (by have:=aP k3;omega)]at p1;have hp32:ps.length<=32:=by have:=aP k3;omega
 refine ex4 _ (λj:Nat=>⟨[.any,.ptr 0 0,.any,.int .i64 (Ft st),.any,.any,.any,.any,.any,.any,.any,.any,.any,.any,.any,.any,.any,.any,.any,.any,.any,.any,.any,.any,.any,.any,.any,.any,.any,.any,.any,.any,.any,.any,.any,.any,.any,.any,.ptr 0 1,.sl A7 ps,.int .i64 (↑ps.length:Int),.int .i64 (j:Int)]++nA 17,[.cells [.sl tSt st,.sl A7 ps]],1⟩) (λj=>j<=ps.length/\Cb ((List.range ps.length).map (λk:Nat=>Ie (st,ps) k (ps.getD k Ai)))=Cb (((List.range ps.length).drop j).map (λk:Nat=>Ie (st,ps) k (ps.getD k Ai)))) (λj=>ps.length-j) (aI (eI (0) (eI ([some 0]) (aI ?_ (aB (aI (aG tT) (by rfl)))))) ?_)
 ·exact⟨aV _,rfl⟩
 rintro j ⟨hj,he⟩;have hd:j<ps.length->Cb ((List.range ps.length).map (λk:Nat=>Ie (st,ps) k (ps.getD k Ai)))=if Ie (st,ps) j (ps.getD j Ai)≠0 then Ie (st,ps) j (ps.getD j Ai)else Cb (((List.range ps.length).drop (j+1)).map (λk:Nat=>Ie (st,ps) k (ps.getD k Ai))):=λh=>by
  rw[he,Abn (λk:Nat=>Ie (st,ps) k (ps.getD k Ai)) 0 (by rw[dT];exact h),show(List.range ps.length).getD j 0=j by simp[aY,h]]
 have hlt:decide ((j:Int)<(ps.length:Int))=true->j<ps.length:=λh=>by have:=aM h;omega
 refine(aI (λm0=>(aI ?_ (aI (λm1=>(Aa rfl ?_)) (λm1=>(aO ?_))))) (λm0=>(λm2=>(aO (aI (λm3=>(Aa rfl ?_)) (λm3=>(aI ?_ (aI (λm4=>(Aa rfl ?_)) (λm4=>(Aa rfl ?_))))))))))
 ·have:=hlt m0;exact⟨dQ j,show(j:Int)<(ps.length:Int) by omega⟩
 ·have hne:Ie (st,ps) j (ps.getD j Ai)≠0:=λh=>by
   have m1:(!decide (Ie (st,ps) j (ps.getD j Ai)=0))=true:=m1;rw[h]at m1;cases m1
  have e:=(hd (hlt m0)).trans (aN hne);exact bG (λn=>(n,())) (p1.trans ((aN (by rw[e];exact hne)).trans e))
 ·refine eI (j+1) (eI ([some 0]) (aI ?_ (aI ?_ (aB (aI (aG tT) (by rfl))))))
  ·have hz:¬Ie (st,ps) j (ps.getD j Ai)≠0:=λh=>by
    have m1:(!decide (Ie (st,ps) j (ps.getD j Ai)=0))=false:=m1;rw[aZ h]at m1;cases m1
   exact⟨hlt m0,(hd (hlt m0)).trans (aL hz)⟩
  ·have:=hlt m0;show ps.length-(j+1)<ps.length-j;omega
 all_goals
  have hj2:j=ps.length:=by
   have:¬(j:Int)<(ps.length:Int):=aP m0;omega
  have hz:Cb ((List.range ps.length).map (λk:Nat=>Ie (st,ps) k (ps.getD k Ai)))=0:=by rw[he,hj2,bI (by simp)];rfl
  rw[aL (by rw[hz];simp)]at p1
 ·exact bG (λn=>(n,())) (p1.trans (aN (λh=>by
   have m3:(!decide (Ft st=2*(ps.length:Int)))=true:=m3;rw[aW h]at m3;cases m3)))
 all_goals
  have he3:¬Ft st≠2*(ps.length:Int):=λh=>by
   have m3:(!decide (Ft st=2*(ps.length:Int)))=false:=m3;rw[aZ h]at m3;cases m3
  rw[aL he3]at p1
 ·exact⟨show st.length<=1000 by omega,Ari hz⟩
 ·exact bG (λn=>(n,())) (p1.trans (aN m4))
 ·exact bG (λn=>(n,())) (p1.trans (aL (λh=>aX (m4.symm.trans h))))
@[reducible] def C4:Ty:=.pair tI (.pair tI (.pair tI (.pair tI (.pair tIs .bool))))
@[reducible] def U5:AK:=.dat true C4
@[reducible] def Af6:List (Bool×Ty):=[(true,C4),(false,tI)]
def cInR:Ctr:=fnC [dI,dI,dI] rB (λ_=>True) (λy=>(inR y.1 y.2.1 y.2.2.1,()))
theorem Aus:GoodC Tryz.prog 106 cInR:=by
 refine As Ah 3 _ _ _ _ ⟨_,Tryz.func106,rfl,rfl⟩ λ⟨n,lo,hi,_⟩ _=>?_
 refine(aF (Aa rfl (by simp[inR])))
def cxf1:Ctx:=⟨Dp,[(106,([],cInR))]⟩
theorem Q0:Aj Tryz.prog cxf1:=Ad Aus Ah
def cBad:Ctr:=fnC [dI] rB (λ_=>True) (λy=>(A3 y.1,()))
theorem Aut:GoodC Tryz.prog 192 cBad:=by
 refine As Q0 3 _ _ _ _ ⟨_,Tryz.func192,rfl,rfl⟩ λ⟨n,_⟩ _=>?_
 refine(aF (aI tT (Aa rfl (by rfl))))
def cxf2:Ctx:=⟨Dp,[(192,([],cBad)),(106,([],cInR))]⟩
theorem Q1:Aj Tryz.prog cxf2:=Ad Aut Q0
def cIdx:Ctr:=fnC [dIs,.fn 192 [] []] rI (λ_=>True) (λy=>(Am A3 y.1 0,()))
theorem Auu:GoodC Tryz.prog 151 cIdx:=by
 refine As Q1 3 _ _ _ _ ⟨_,Tryz.func151,rfl,rfl⟩ λ⟨xs,_,_⟩ _=>?_
 refine(aF (λh0=>?_));refine ex4 _ (λi:Nat=>⟨[.sl (.int .i64) xs,.fn (Fn.func 192) [] [],.any,.any,.any,.any,.sl (.int .i64) xs,.int .i64 (↑(List.length xs):Int),.int .i64 (i:Int),.any,.any,.any,.any,.any,.any,.any,.any,.any,.any],[],0⟩) (λi=>i<=xs.length/\Am A3 xs 0=Am A3 (xs.drop i) i) (λi=>xs.length-i) (aI (eI (0) (eI ([]) (aI ?_ (aB (aI tT (by rfl)))))) ?_)
 ·exact⟨aV _,rfl⟩
 rintro i ⟨hi,ht⟩;refine(aI (λk0=>(aO (aI tT (aI (λk1=>(Aa rfl (by(try simp only[bV,bQ,bX,bJ,aR,bK,bU,bN,bF]at *);rw[ht];first|(rw[A0 A3 0 xs i (by omega)];simp_all;done)|(rw[bI (by omega)];rfl)))) (λk1=>(aO ?_)))))) (λk0=>(Aa rfl (by(try simp only[bV,bQ,bX,bJ,aR,bK,bU,bN,bF]at *);rw[ht];first|(rw[A0 A3 0 xs i (by omega)];simp_all;done)|(rw[bI (by omega)];rfl)))));refine eI (i+1) (eI ([]) (aI ?_ (aI ?_ (aB (aI tT (by rfl))))))
 ·have hi':i<xs.length:=by simp only[bV,bQ,bX,bJ,aR,bK,bU,bN,bF]at *;omega
  refine⟨hi', ?_⟩;rw[ht,A0 A3 0 xs i hi']
  simp_all
 ·simp only[bV,bQ,bX,bJ,aR,bK,bU,bN,bF]at *;omega
def cxf3:Ctx:=⟨Dp,[(151,([],cIdx)),(192,([],cBad)),(106,([],cInR))]⟩
theorem Ah6:Aj Tryz.prog cxf3:=Ad Auu Q1
def cAny:Ctr:=fnC [dIs,.fn 192 [] []] rB (λ_=>True) (λy=>(y.1.any A3,()))
theorem Auv:GoodC Tryz.prog 98 cAny:=by
 refine As Ah6 3 _ _ _ _ ⟨_,Tryz.func98,rfl,rfl⟩ λ⟨xs,_,_⟩ _=>?_
 refine(aF (aI tT (Aa rfl (by simp only;rw[Dq A3 _ 0 (by omega)]))))
def cxf4:Ctx:=⟨Dp,[(98,([],cAny)),(192,([],cBad)),(106,([],cInR))]⟩
theorem Ah7:Aj Tryz.prog cxf4:=Ad Auv Q1
def cFChk:Ctr:=fnC [U5] rI (λ_=>True) (λy=>(A8 y.1,()))
theorem Apn:GoodC Tryz.prog 152 cFChk:=by
 refine As Ah7 3 _ _ _ _ ⟨_,Tryz.func152,rfl,rfl⟩ λ⟨⟨cap,gr,se,ta,xs,cl⟩,_⟩ _=>?_
 refine(aF (aI tT (aI (λh0=>(Aa rfl ?_)) (λh0=>(aI (λh1=>(by intros;(try subst_vars);(try simp only[nB]at *);(try simp only[inK,big,lim,nL]at *);omega)) (λh2=>(aI (λh3=>(by intros;(try subst_vars);(try simp only[nB]at *);(try simp only[inK,big,lim,nL]at *);omega)) (aI (λh4=>(Aa rfl ?_)) (λh4=>(aI tT (aI (λh5=>(Aa rfl ?_)) (λh5=>(Aa rfl ?_)))))))))))))
 all_goals unfold A8
 all_goals dsimp only
 ·rw[aN h0]
 ·simp only[bV,bQ,bX,bJ,aR,bK,bU,bN,bF]at h4;rw[aL (by simpa using h0),aN (by omega)]
 ·simp only[bV,bQ,bX,bJ,aR,bK,bU,bN,bF]at h4;rw[aL (by simpa using h0),aL (by omega),aN h5]
 ·simp only[bV,bQ,bX,bJ,aR,bK,bU,bN,bF]at h4;rw[aL (by simpa using h0),aL (by omega),aL (λh=>aX (h5.symm.trans h))]
def cFNew:Ctr:=fnC [dI] Af6 (λ_=>True) (λy=>((Vn y.1).1,(Vn y.1).2,()))
def cxf5:Ctx:=⟨Dp,[(152,([],cFChk)),(106,([],cInR))]⟩
theorem Q2:Aj Tryz.prog cxf5:=Ad Apn Q0
theorem As9:GoodC Tryz.prog 65 cFNew:=by
 refine As Q2 3 _ _ _ _ ⟨_,Tryz.func65,rfl,rfl⟩ λ⟨n,_⟩ _=>?_
 refine(aF (aI tT (aI (λh0=>(Aa rfl (by simp_all [Vn]))) (λh0=>(Aa rfl (by simp_all [Vn]))))))
def cCl:Ctr:=fnO [dIs] tI (λy=>y.1.length<=1000000) (λy=>y.1)
theorem gCl:GoodC Tryz.prog 119 cCl:=by
 refine goodO Q2 3 _ _ _ _ ⟨_,Tryz.func119,rfl,rfl⟩ λ⟨xs,_⟩ hlen=>?_
 simp only at hlen;refine(aF (λh0=>(λh1=>(aI (λh2=>(Kf (by simp_all))) (λh2=>(aO (Nc rfl (by simp_all))))))))
def cxf6:Ctx:=⟨Dp,[(119,([],cCl)),(152,([],cFChk)),(106,([],cInR))]⟩
theorem Is:Aj Tryz.prog cxf6:=Ad gCl Q2
def cFReq:Ctr:=fnC [U5,dI] Af6 (λ_=>True) (λy=>((Jh y.1 y.2.1).1,(Jh y.1 y.2.1).2,()))
theorem Apo:GoodC Tryz.prog 66 cFReq:=by
 refine As Is 4 _ _ _ _ ⟨_,Tryz.func66,rfl,rfl⟩ λ⟨⟨cap,gr,se,ta,xs,cl⟩,n,_⟩ _=>?_
 have hb:=@Fg (cap,gr,se,ta,xs,cl);refine(aF (aF (aI tT (aI (λh0=>(Aa rfl (by(try subst_vars);(try simp only[bV,bQ,bX,bJ,aR,bK,bU,bN,bF]at *);first|(simp only[Jh, *,if_true,if_false,ne_eq,not_true,dH,cF];done)|grind [Jh]))) (λh0=>(aF (aI (λh1=>(Aa rfl (by(try subst_vars);(try simp only[bV,bQ,bX,bJ,aR,bK,bU,bN,bF]at *);first|(simp only[Jh, *,if_true,if_false,ne_eq,not_true,dH,cF];done)|grind [Jh]))) (λh1=>(aI (λh2=>(Aa rfl (by(try subst_vars);(try simp only[bV,bQ,bX,bJ,aR,bK,bU,bN,bF]at *);first|(simp only[Jh, *,if_true,if_false,ne_eq,not_true,dH,cF];done)|grind [Jh]))) (λh2=>(aI ?_ (aI ?_ (aI (λh3=>(Aa rfl (by(try subst_vars);(try simp only[bV,bQ,bX,bJ,aR,bK,bU,bN,bF]at *);first|(simp only[Jh, *,if_true,if_false,ne_eq,not_true,dH,cF];done)|grind [Jh]))) (λh3=>(aI ?_ (aI (λh4=>(Aa rfl (by(try subst_vars);(try simp only[bV,bQ,bX,bJ,aR,bK,bU,bN,bF]at *);first|(simp only[Jh, *,if_true,if_false,ne_eq,not_true,dH,cF];done)|grind [Jh]))) (λh4=>(aI ?_ (Aa rfl (by(try subst_vars);(try simp only[bV,bQ,bX,bJ,aR,bK,bU,bN,bF]at *);first|(simp only[Jh, *,if_true,if_false,ne_eq,not_true,dH,cF];done)|grind [Jh]))))))))))))))))))))
 any_goals (intros;(try subst_vars);(try simp only[nB]at *);(try simp only[inK,big,lim,nL]at *);omega)
def cFSend:Ctr:=fnC [U5,dI] Af6 (λ_=>True) (λy=>((Ey y.1 y.2.1).1,(Ey y.1 y.2.1).2,()))
theorem Arj:GoodC Tryz.prog 167 cFSend:=by
 refine As Is 4 _ _ _ _ ⟨_,Tryz.func167,rfl,rfl⟩ λ⟨⟨cap,gr,se,ta,xs,cl⟩,n,_⟩ _=>?_
 have hb:=@Fg (cap,gr,se,ta,xs,cl);refine(aF (aF (aI tT (aI (λh0=>(Aa rfl (by(try subst_vars);(try simp only[bV,bQ,bX,bJ,aR,bK,bU,bN,bF]at *);first|(simp only[Ey,A3, *,if_true,if_false,ne_eq,not_true,dH,cF];done)|grind [Ey,A3]))) (λh0=>(aF (aI tT (aI (λh1=>(Aa rfl (by(try subst_vars);(try simp only[bV,bQ,bX,bJ,aR,bK,bU,bN,bF]at *);first|(simp only[Ey,A3, *,if_true,if_false,ne_eq,not_true,dH,cF];done)|grind [Ey,A3]))) (λh1=>(aI (λh2=>(Aa rfl (by(try subst_vars);(try simp only[bV,bQ,bX,bJ,aR,bK,bU,bN,bF]at *);first|(simp only[Ey,A3, *,if_true,if_false,ne_eq,not_true,dH,cF];done)|grind [Ey,A3]))) (λh2=>(aI (λh3=>(Aa rfl (by(try subst_vars);(try simp only[bV,bQ,bX,bJ,aR,bK,bU,bN,bF]at *);first|(simp only[Ey,A3, *,if_true,if_false,ne_eq,not_true,dH,cF];done)|grind [Ey,A3]))) (λh3=>(aF (aI ?_ (aI ?_ (aI ?_ (Aa rfl (by(try subst_vars);(try simp only[bV,bQ,bX,bJ,aR,bK,bU,bN,bF]at *);first|(simp only[Ey,A3, *,if_true,if_false,ne_eq,not_true,dH,cF];done)|grind [Ey,A3])))))))))))))))))))
 any_goals (intros;(try subst_vars);(try simp only[nB]at *);(try simp only[inK,big,lim,nL]at *);omega)
def cFTake:Ctr:=fnC [U5] [(true,C4),(false,tI),(false,tI)] (λ_=>True) (λy=>((Em y.1).1,(Em y.1).2.1,(Em y.1).2.2,()))
theorem Ark:GoodC Tryz.prog 166 cFTake:=by
 refine As Is 4 _ _ _ _ ⟨_,Tryz.func166,rfl,rfl⟩ λ⟨⟨cap,gr,se,ta,xs,cl⟩,_⟩ _=>?_
 have hb:=@Fg (cap,gr,se,ta,xs,cl);refine(aF (aI tT (aI (λh0=>(Aa rfl (by(try subst_vars);(try simp only[bV,bQ,bX,bJ,aR,bK,bU,bN,bF]at *);first|(simp only[Em, *,if_true,if_false,ne_eq,not_true,dH,cF];done)|grind [Em]))) (λh0=>(λh1=>(aI (λh2=>(aI (λh3=>(Aa rfl (by(try subst_vars);(try simp only[bV,bQ,bX,bJ,aR,bK,bU,bN,bF]at *);first|(simp only[Em, *,if_true,if_false,ne_eq,not_true,dH,cF];done)|grind [Em]))) (λh3=>(Aa rfl (by(try subst_vars);(try simp only[bV,bQ,bX,bJ,aR,bK,bU,bN,bF]at *);first|(simp only[Em, *,if_true,if_false,ne_eq,not_true,dH,cF];done)|grind [Em]))))) (λh2=>(aI ?_ (λh4=>(aI ?_ (aI ?_ (aI ?_ (aI ?_ (Aa rfl (by(try subst_vars);(try simp only[bV,bQ,bX,bJ,aR,bK,bU,bN,bF]at *);first|(simp only[Em, *,if_true,if_false,ne_eq,not_true,dH,cF];done)|grind [Em])))))))))))))))
 any_goals (intros;(try subst_vars);(try simp only[nB]at *);(try simp only[inK,big,lim,nL]at *);omega)
def cFClose:Ctr:=fnC [U5] Af6 (λ_=>True) (λy=>((Ec y.1).1,(Ec y.1).2,()))
theorem Aos:GoodC Tryz.prog 168 cFClose:=by
 refine As Is 4 _ _ _ _ ⟨_,Tryz.func168,rfl,rfl⟩ λ⟨⟨cap,gr,se,ta,xs,cl⟩,_⟩ _=>?_
 refine(aF (aF (aI tT (aI (λh0=>(Aa rfl (by(try subst_vars);(try simp only[bV,bQ,bX,bJ,aR,bK,bU,bN,bF]at *);first|(simp only[Ec, *,if_true,if_false,ne_eq,not_true,dH,cF];done)|grind [Ec]))) (λh0=>(aF (aI (λh1=>(Aa rfl (by(try subst_vars);(try simp only[bV,bQ,bX,bJ,aR,bK,bU,bN,bF]at *);first|(simp only[Ec, *,if_true,if_false,ne_eq,not_true,dH,cF];done)|grind [Ec]))) (λh1=>(Aa rfl (by(try subst_vars);(try simp only[bV,bQ,bX,bJ,aR,bK,bU,bN,bF]at *);first|(simp only[Ec, *,if_true,if_false,ne_eq,not_true,dH,cF];done)|grind [Ec]))))))))))
def cFEnd:Ctr:=fnC [U5] rB (λ_=>True) (λy=>(Cv y.1,()))
theorem App:GoodC Tryz.prog 145 cFEnd:=by
 refine As Is 4 _ _ _ _ ⟨_,Tryz.func145,rfl,rfl⟩ λ⟨⟨cap,gr,se,ta,xs,cl⟩,_⟩ _=>?_
 refine(aF (aI tT (λh0=>(Aa rfl (by(try subst_vars);(try simp only[bV,bQ,bX,bJ,aR,bK,bU,bN,bF]at *);first|(simp only[Cv, *,if_true,if_false,ne_eq,not_true,dH,cF];done)|grind [Cv])))))
def cFRoom:Ctr:=fnC [U5] rI (λ_=>True) (λy=>(Jp y.1,()))
theorem Arl:GoodC Tryz.prog 148 cFRoom:=by
 refine As Is 4 _ _ _ _ ⟨_,Tryz.func148,rfl,rfl⟩ λ⟨⟨cap,gr,se,ta,xs,cl⟩,_⟩ _=>?_
 have hb:=@Fg (cap,gr,se,ta,xs,cl);refine(aF (aI tT (aI (λh0=>(Aa rfl (by(try subst_vars);(try simp only[bV,bQ,bX,bJ,aR,bK,bU,bN,bF]at *);first|(simp only[Jp, *,if_true,if_false,ne_eq,not_true,dH,cF];done)|grind [Jp]))) (λh0=>(aO (Aa rfl (by(try subst_vars);(try simp only[bV,bQ,bX,bJ,aR,bK,bU,bN,bF]at *);first|(simp only[Jp, *,if_true,if_false,ne_eq,not_true,dH,cF];done)|grind [Jp])))))))
@[reducible] def Auw:AK:=.dat false (.sl tSt)
@[reducible] def rIs:List (Bool×Ty):=[(false,tIs)]
theorem Abo{α:Type}(p:α->Bool)(d:α){l:List α}{i:Nat}(h:i<l.length):(l.take (i+1)).countP p=(l.take i).countP p+if p (l.getD i d)=true then 1 else 0:=by
 rw[bS h,List.countP_append];simp[aY,aQ h,dV]
def cSinks:Ctr:=fnC [Auw] rI (λ_=>True) (λy=>(Bp y.1,()))
theorem Adr:GoodC Tryz.prog 64 cSinks:=by
 refine As Ah 3 _ _ _ _ ⟨_,Tryz.func64,rfl,rfl⟩ λ(⟨st,_⟩:List StT×Unit) _=>?_
 refine(aF (λh0=>?_));refine ex4 _ (λp:Nat×Int=>⟨[.sl tSt st,.any,.any,.int .i64 p.2,.any,.any,.sl tSt st,.int .i64 (↑st.length:Int),.int .i64 (p.1:Int),.any,.any,.any,.any,.any,.any,.any,.any,.any,.any],[],0⟩) (λp=>p.1<=st.length/\p.2=((st.take p.1).countP isSink:Nat)) (λp=>st.length-p.1) (aI (eI ((0,0)) (eI ([]) (aI ?_ (aB (aI tT (by rfl)))))) ?_)
 ·exact⟨aV _,rfl⟩
 rintro⟨i,n⟩ ⟨hi,hn⟩;replace hi:i<=st.length:=hi;replace hn:n=((st.take i).countP isSink:Nat):=hn;have hle:(st.take i).countP isSink<=i:=cO eT (by rw[bO];omega);have hlt:decide ((i:Int)<(st.length:Int))=true->i<st.length:=λh=>by have:=aM h;omega
 have hs:i<st.length->(st.take (i+1)).countP isSink=(st.take i).countP isSink+if decide ((st.getD (i:Int).toNat (Ab tSt)).1=10)=true then 1 else 0:=λh=>Abo isSink zStg h
 refine(aI (λk0=>(aO (aI (λk1=>(aO (aO ?_))) (λk1=>(aO ?_))))) (λk0=>(Aa rfl ?_)))
 ·have h1:=(hs (hlt k0)).trans (bG _ (aN k1));refine eI ((i+1,n+1)) (eI ([]) (aI ?_ (aI ?_ (aB (aI tT (by rfl))))))
  ·exact⟨hlt k0,by show n+1=(((st.take (i+1)).countP isSink:Nat):Int);omega⟩
  ·have:=hlt k0;show st.length-(i+1)<st.length-i;omega
 ·have h1:=(hs (hlt k0)).trans (bG _ (aL (λh=>aX (k1.symm.trans h))));refine eI ((i+1,n)) (eI ([]) (aI ?_ (aI ?_ (aB (aI tT (by rfl))))))
  ·exact⟨hlt k0,by show n=(((st.take (i+1)).countP isSink:Nat):Int);omega⟩
  ·have:=hlt k0;show st.length-(i+1)<st.length-i;omega
 ·have hi2:i=st.length:=by have:¬(i:Int)<(st.length:Int):=aP k0;omega
  rw[hn,hi2,dM];rfl
def cNoted:Ctr:=fnC [dSt,dSS] rIs (λy=>y.1.1=9->0<=y.2.1.2.1/\y.2.1.2.1<=3) (λy=>(By y.1 y.2.1,()))
theorem Arm:GoodC Tryz.prog 153 cNoted:=by
 refine As Ah 3 _ _ _ _ ⟨_,Tryz.func153,rfl,rfl⟩ λ(⟨⟨k,z,⟨ek,eo,em,ev,ea⟩,l⟩,⟨hd,c,en⟩,_⟩:StT×SST×Unit) hc=>?_
 refine(aF (aI (λh0=>(Aa rfl ?_)) (λh0=>(aI (λh1=>(aI ?_ (Aa rfl ?_))) (λh1=>(aI (λh2=>(Aa rfl ?_)) (λh2=>(Aa rfl ?_))))))))
 all_goals try unfold By
 ·rw[aN (aM h0)]
 ·have:=hc (aM h1);exact⟨this.1,show c<4 by have:c<=3:=this.2;omega⟩
 ·rw[aL (aP h0),aN (aM h1)]
 ·have h3:k≠1/\en=true:=by
   have h2:(bif !decide (k=1)then en else false)=true:=h2;by_cases hk:k=1
   ·rw[aW hk]at h2;cases h2
   ·rw[aZ hk]at h2;exact⟨hk,h2⟩
  rw[aL (aP h0),aL (aP h1),aN h3]
 ·have h3:¬(k≠1/\en=true):=λh=>by
   have h2:(bif !decide (k=1)then en else false)=false:=h2;rw[aZ h.1,h.2]at h2;cases h2
  rw[aL (aP h0),aL (aP h1),aL h3]
def cxqE:Ctx:=⟨Al9,[(84,([],cWi))]⟩
theorem Ah8:Aj Tryz.prog cxqE:=C0 (Ad gWi Ah)
def cVal1:Ctr:=fnC [dI] rB (λ_=>True) (λy=>(A3 y.1,()))
theorem Ata:GoodC Tryz.prog 99 cVal1:=by
 refine As Ah8 3 _ _ _ _ ⟨_,Tryz.func99,rfl,rfl⟩ λ⟨n,_⟩ _=>?_
 refine(aF (aI tT (Aa rfl (by rfl))))
def cxqE2:Ctx:=⟨Dp,[(99,([],cVal1))]⟩
theorem U6:Aj Tryz.prog cxqE2:=Ad Ata Ah
def cIdxV:Ctr:=fnC [dIs,.fn 99 [] []] rI (λ_=>True) (λy=>(Am A3 y.1 0,()))
theorem Atb:GoodC Tryz.prog 151 cIdxV:=by
 refine As U6 3 _ _ _ _ ⟨_,Tryz.func151,rfl,rfl⟩ λ⟨xs,_,_⟩ _=>?_
 refine(aF (λh0=>?_));refine ex4 _ (λi:Nat=>⟨[.sl (.int .i64) xs,.fn (Fn.func 99) [] [],.any,.any,.any,.any,.sl (.int .i64) xs,.int .i64 (↑(List.length xs):Int),.int .i64 (i:Int),.any,.any,.any,.any,.any,.any,.any,.any,.any,.any],[],0⟩) (λi=>i<=xs.length/\Am A3 xs 0=Am A3 (xs.drop i) i) (λi=>xs.length-i) (aI (eI (0) (eI ([]) (aI ?_ (aB (aI tT (by rfl)))))) ?_)
 ·exact⟨aV _,rfl⟩
 rintro i ⟨hi,ht⟩;refine(aI (λk0=>(aO (aI tT (aI (λk1=>(Aa rfl (by(try simp only[bV,bQ,bX,bJ,aR,bK,bU,bN,bF]at *);rw[ht];first|(rw[A0 A3 0 xs i (by omega)];simp_all;done)|(rw[bI (by omega)];rfl)))) (λk1=>(aO ?_)))))) (λk0=>(Aa rfl (by(try simp only[bV,bQ,bX,bJ,aR,bK,bU,bN,bF]at *);rw[ht];first|(rw[A0 A3 0 xs i (by omega)];simp_all;done)|(rw[bI (by omega)];rfl)))));refine eI (i+1) (eI ([]) (aI ?_ (aI ?_ (aB (aI tT (by rfl))))))
 ·have hi':i<xs.length:=by simp only[bV,bQ,bX,bJ,aR,bK,bU,bN,bF]at *;omega
  refine⟨hi', ?_⟩;rw[ht,A0 A3 0 xs i hi']
  simp_all
 ·simp only[bV,bQ,bX,bJ,aR,bK,bU,bN,bF]at *;omega
def cxqE3:Ctx:=⟨Dp,[(151,([],cIdxV)),(99,([],cVal1))]⟩
theorem Ads:Aj Tryz.prog cxqE3:=Ad Atb U6
def cAnyV:Ctr:=fnC [dIs,.fn 99 [] []] rB (λ_=>True) (λy=>(y.1.any A3,()))
theorem Atc:GoodC Tryz.prog 98 cAnyV:=by
 refine As Ads 3 _ _ _ _ ⟨_,Tryz.func98,rfl,rfl⟩ λ⟨xs,_,_⟩ _=>?_
 refine(aF (aI tT (Aa rfl (by simp only;rw[Dq A3 _ 0 (by omega)]))))
@[reducible] def tFs:Ty:=.pair (.sl tSS) (.pair (.sl C4) (.pair X7 .bool))
@[reducible] def dFs:AK:=.dat true tFs
theorem Af7{y:StT}{t:SST}(h:(An y t).2=0)(h9:y.1=9):0<=t.2.1/\t.2.1<=3:=by
 obtain⟨⟨a1,a2,a3⟩,a4,a5⟩:=Au.1 (B3.1 h).2;have hb2:Ew y=(3,1):=by unfold Ew;rw[aL (by omega),aL (by omega),aL (by omega),aN h9]
 rw[hb2]at a2;exact⟨a1,a2⟩
theorem Amb{y:StT}{t:SST}(h:(An y t).2=0){n:Int}(hn:n∈By y t):0<=n/\n<stIn y:=by
 obtain⟨c0,hv⟩:=B3.1 h;obtain⟨⟨a1,a2,a3⟩,a4,a5⟩:=Au.1 hv;rw[Jb c0];have hkk:=G6 (B4 c0);unfold By at hn;by_cases h8:y.1=8
 ·rw[aN h8]at hn;unfold vk at a5;rw[aL (by omega),aN h8]at a5;split at a5
  ·cases a5
  ·rename_i hb;have hb:(List.range t.1.length).any (C7 t.1)=false:=by simpa using hb
   have hb2:Ew y=(1,2):=by unfold Ew;rw[aL (by omega),aL (by omega),aN h8]
   rw[hb2]at a3;have k2:(Aq y.1).1=2:=by rw[h8];rfl
   rw[k2];rcases Adl a3 hb with h|h|h|h<;>rw[h]at hn<;>simp at hn<;>omega
 ·rw[aL h8]at hn;by_cases h9:y.1=9
  ·rw[aN h9]at hn;have k2:(Aq y.1).1=2:=by rw[h9];rfl
   rw[k2];obtain⟨c1,c3⟩:=Af7 h h9;have hc:t.2.1=0\/t.2.1=1\/t.2.1=2\/t.2.1=3:=by omega
   rcases hc with hc|hc|hc|hc<;>rw[hc]at hn<;>simp at hn<;>omega
  ·rw[aL h9]at hn;split at hn
   ·rename_i hk;rw[bP.1 hn];refine⟨cJ 0, ?_⟩;have:=hk.1;rcases hkk with h|h|h|h|h|h|h|h|h|h<;>first|contradiction|(rw[h];decide)
   ·simp at hn
def okS(x:PlT)(s:FsT):Prop:=WF x/\s.1.length=x.1.length/\s.2.1.length=x.2.length/\∀i:Nat,i<x.1.length->(An (sg x (i:Int)) (Az s (i:Int))).2=0
def Mm:List (TypeId×Ty):=(65,C4)::(84,tSS)::Al9
def cxqF:Ctx:=⟨Mm,[(152,([],cFChk)),(145,([],cFEnd)),(92,([],cIn)),(153,([],cNoted))]⟩
theorem Ah9:Aj Tryz.prog cxqF:=C0 (Ad Apn (Ad App (Ad gIn (Ad Arm Ah))))
theorem Sv{p:Nat->Bool}{n k:Nat}(hk:k<n)(h:p k=true):(List.range n).any p=true:=fJ.2 ⟨k,cZ.2 hk,h⟩
theorem Sw{p:Nat->Bool}{k:Nat}(h:(List.range k).any p=false)(h2:p k=false):(List.range (k+1)).any p=false:=by
 rw[dA,eR,h];simp[h2]
theorem Apq(a b x y d:Bool):(bif bif bif !a then true else !b then true else !(x==y)then true else bif !x then !d else false)=(!a||(!b||(!decide (x=y)||(!x && !d)))):=by cases a<;>cases b<;>cases x<;>cases y<;>cases d<;>rfl
def cBuff:Ctr:=fnC [dPl,dFs] rB (λy=>okS y.1 y.2.1) (λy=>(Pq y.1 y.2.1,()))
set_option maxHeartbeats 8000000 in
theorem Atd:GoodC Tryz.prog 100 cBuff:=by
 refine As Ah9 3 _ _ _ _ ⟨_,Tryz.func100,rfl,rfl⟩ λ(⟨⟨st,ps⟩,⟨ss,cs,os,dr⟩,_⟩:PlT×FsT×Unit) hk=>?_
 replace hk:okS (st,ps) (ss,cs,os,dr):=hk;refine(aF (λh0=>?_));refine ex4 _ (λk:Nat=>⟨[.any,.any,.ptr 0 0,.ptr 1 0,.any,.any,.any,.any,.any,.any,.any,.any,.ptr 1 1,.sl C4 cs,.int .i64 (↑cs.length:Int),.int .i64 (k:Int)]++nA 79,[.cells [.sl tSt st,.sl A7 ps],.cells [.sl tSS ss,.sl C4 cs,.sl (.sl (.int .i64)) os,.bool dr]],2⟩) (λk=>k<=cs.length/\(List.range k).any (λk=>U1 (ss,cs,os,dr) (ps.getD k Ai) (cs.getD k zCred))=false) (λk=>cs.length-k) (aI (eI (0) (eI ([some 0,some 1]) (aI ?_ (aB (aI (aH tT) (by rfl)))))) ?_)
 ·exact⟨aV _,rfl⟩
 rintro k ⟨hkl,hc⟩;have hlt:decide ((k:Int)<(cs.length:Int))=true->k<cs.length:=λh=>by have:=aM h;omega
 have hl2:cs.length=ps.length:=hk.2.2.1;have hl1:ss.length=st.length:=hk.2.1;have hp:k<cs.length->0<=(ps.getD (k:Int).toNat (Ab A7)).1/\(ps.getD (k:Int).toNat (Ab A7)).1<ss.length:=λh=>by
  have:=hk.1.pipe (k:=k) (show k<ps.length by omega);have h1:=this.f0;have h2:=this.fn;refine⟨h1, ?_⟩;rw[hl1];exact h2
 have hF:k<cs.length->U1 (ss,cs,os,dr) (ps.getD (k:Int).toNat (Ab A7)) (cs.getD (k:Int).toNat (Ab C4))=true->Pq (st,ps) (ss,cs,os,dr)=false:=λh1 h2=>by
  unfold Pq;exact aN (Sv h1 h2)
 refine(aI (λk0=>(aO (aO (aF (aI tT (aI (λk1=>(by intros;(try subst_vars);(try simp only[nB]at *);(try simp only[inK,big,lim,nL]at *);omega)) (aI (λk2=>?_) (aI (λk3=>(Aa rfl ?_)) (λk3=>(aO ?_)))))))))) (λk0=>(λk4=>?_)))
 ·have kc:=J1 (J1 k2.1).1;have hz:A8 (cs.getD (k:Int).toNat (Ab C4))=0:=aM (Bw kc.1);have:=Fg hz;show -9223372036854775808<=(cs.getD (k:Int).toNat (Ab C4)).2.2.2.1+(cs.getD (k:Int).toNat (Ab C4)).1/\(cs.getD (k:Int).toNat (Ab C4)).2.2.2.1+(cs.getD (k:Int).toNat (Ab C4)).1<=9223372036854775807;omega
 ·rw[Apq]at k3;exact bG (λb=>(b,())) (hF (hlt k0) k3)
 ·rw[Apq]at k3;refine eI (k+1) (eI ([some 0,some 1]) (aI ?_ (aI ?_ (aB (aI (aH tT) (by rfl))))))
  ·exact⟨hlt k0,Sw hc k3⟩
  ·have:=hlt k0;show cs.length-(k+1)<cs.length-k;omega
 have hk2:k=cs.length:=by
  have:¬(k:Int)<(cs.length:Int):=aP k0;omega
 subst hk2;clear hlt hp hF k0;have p1:Pq (st,ps) (ss,cs,os,dr)=!(List.range ss.length).any (λi=>(By (sg (st,ps) i) (ss.getD i ([],0,false))).any (λn=>!Cv (Cq (ss,cs,os,dr) (pIn (st,ps) i n)))):=by
  unfold Pq;exact aL (λh=>aX (hc.symm.trans h))
 refine ex4 _ (λi:Nat=>⟨[.any,.any,.ptr 0 0,.ptr 1 0,.any,.any,.any,.any,.any,.any,.any,.any,.any,.any,.any,.any,.any,.any,.any,.any,.any,.any,.any,.any,.any,.any,.any,.any,.any,.any,.any,.any,.any,.any,.any,.any,.any,.any,.any,.any,.any,.any,.any,.any,.any,.any,.any,.any,.any,.any,.any,.any,.any,.any,.any,.any,.any,.any,.any,.any,.any,.any,.any,.ptr 1 0,.sl tSS ss,.int .i64 (↑ss.length:Int),.int .i64 (i:Int)]++nA 28,[.cells [.sl tSt st,.sl A7 ps],.cells [.sl tSS ss,.sl C4 cs,.sl (.sl (.int .i64)) os,.bool dr]],2⟩) (λi=>i<=ss.length/\(List.range i).any (λi=>(By (sg (st,ps) i) (ss.getD i ([],0,false))).any (λn=>!Cv (Cq (ss,cs,os,dr) (pIn (st,ps) i n))))=false) (λi=>ss.length-i) (aI (eI (0) (eI ([some 0,some 1]) (aI ?_ (aB (aI (aH tT) (by rfl)))))) ?_)
 ·exact⟨aV _,rfl⟩
 rintro i ⟨hi,hc2⟩;have hlt:decide ((i:Int)<(ss.length:Int))=true->i<ss.length:=λh=>by have:=aM h;omega
 have hnd:i<ss.length->(An (st.getD (i:Int).toNat (Ab tSt)) (ss.getD (i:Int).toNat (Ab tSS))).2=0:=λh=>hk.2.2.2 i (show i<st.length by omega)
 have hi0:(0:Int)<=(i:Int):=dQ i;refine(aI (λm0=>(aO (aF (aO (aI (λm1=>?_) (λm2=>?_)))))) (λm0=>(Aa rfl ?_)))
 ·exact Af7 (hnd (hlt m0)) m1
 ·have hin:∀n∈By (st.getD (i:Int).toNat (Ab tSt)) (ss.getD (i:Int).toNat (Ab tSS)),0<=pIn (st,ps) i n/\pIn (st,ps) i n<cs.length:=λn hn=>by
   have h1:=Amb (hnd (hlt m0)) hn;obtain⟨k,k1,k2,_⟩:=hk.1.ins hi0 (show(i:Int)<st.length by have:=hlt m0;omega) h1.1 h1.2;rw[k2];have k1:k<ps.length:=k1;omega
  have hF:(By (st.getD (i:Int).toNat (Ab tSt)) (ss.getD (i:Int).toNat (Ab tSS))).any (λn=>!Cv (Cq (ss,cs,os,dr) (pIn (st,ps) i n)))=true->Pq (st,ps) (ss,cs,os,dr)=false:=λh2=>by
   rw[p1];exact bG (λb=>!b) (Sv (k:=i) (hlt m0) h2)
  have hT:(By (st.getD (i:Int).toNat (Ab tSt)) (ss.getD (i:Int).toNat (Ab tSS))).any (λn=>!Cv (Cq (ss,cs,os,dr) (pIn (st,ps) i n)))=false->(List.range (i+1)).any (λi=>(By (sg (st,ps) i) (ss.getD i ([],0,false))).any (λn=>!Cv (Cq (ss,cs,os,dr) (pIn (st,ps) i n))))=false:=λh2=>Sw hc2 h2
  have en:By ((st.getD (i:Int).toNat (Ab tSt)).1,(st.getD (i:Int).toNat (Ab tSt)).2.1,ExprT.mk (ExprT.kind (st.getD (i:Int).toNat (Ab tSt)).2.2.1) (ExprT.op (st.getD (i:Int).toNat (Ab tSt)).2.2.1) (ExprT.name (st.getD (i:Int).toNat (Ab tSt)).2.2.1) (ExprT.value (st.getD (i:Int).toNat (Ab tSt)).2.2.1) (ExprT.args (st.getD (i:Int).toNat (Ab tSt)).2.2.1),(st.getD (i:Int).toNat (Ab tSt)).2.2.2) ((ss.getD (i:Int).toNat (Ab tSS)).1,(ss.getD (i:Int).toNat (Ab tSS)).2.1,(ss.getD (i:Int).toNat (Ab tSS)).2.2)=By (st.getD (i:Int).toNat (Ab tSt)) (ss.getD (i:Int).toNat (Ab tSS)):=by rw[eta]
  obtain⟨nl,hnl⟩:∃nl,By (st.getD (i:Int).toNat (Ab tSt)) (ss.getD (i:Int).toNat (Ab tSS))=nl:=⟨_,rfl⟩;rw[hnl]at hin hF hT en;refine ex4 _ (λj:Nat=>⟨[.any,.any,.ptr 0 0,.ptr 1 0,.any,.any,.any,.any,.int .i64 (↑i:Int),.ptr 2 0,.any,.any,.any,.any,.any,.any,.any,.any,.any,.any,.any,.any,.any,.any,.any,.any,.any,.any,.any,.any,.any,.any,.any,.any,.any,.any,.any,.any,.any,.any,.any,.any,.any,.any,.any,.any,.any,.any,.any,.any,.any,.any,.any,.any,.any,.any,.any,.any,.any,.any,.any,.any,.any,.ptr 1 0,.sl tSS ss,.int .i64 (↑ss.length:Int),.int .i64 (↑i:Int),.bool (decide ((↑i:Int)<(↑ss.length:Int))),.int .i64 (↑i:Int),.eptr   [PV.sl (.int .i64) (ss.getD (↑i:Int).toNat (Ab tSS)).1,     PV.int .i64 (ss.getD (↑i:Int).toNat (Ab tSS)).2.1,PV.bool (ss.getD (↑i:Int).toNat (Ab tSS)).2.2],.agg   [.sl (.int .i64) (ss.getD (↑i:Int).toNat (Ab tSS)).1,     .int .i64 (ss.getD (↑i:Int).toNat (Ab tSS)).2.1,.bool (ss.getD (↑i:Int).toNat (Ab tSS)).2.2],.ptr 0 0,.sl tSt st,.int .i64 (↑i:Int),.eptr   [PV.int .i64 (st.getD (↑i:Int).toNat (Ab tSt)).1,     PV.int .i64 (st.getD (↑i:Int).toNat (Ab tSt)).2.1,     PV.int .i64 (ExprT.kind (st.getD (↑i:Int).toNat (Ab tSt)).2.2.1),     PV.int .i64 (ExprT.op (st.getD (↑i:Int).toNat (Ab tSt)).2.2.1),     PV.str (ExprT.name (st.getD (↑i:Int).toNat (Ab tSt)).2.2.1),     PV.int .i64 (ExprT.value (st.getD (↑i:Int).toNat (Ab tSt)).2.2.1),     PV.sl .expr (ExprT.args (st.getD (↑i:Int).toNat (Ab tSt)).2.2.1),     PV.sl (.int .i64) (st.getD (↑i:Int).toNat (Ab tSt)).2.2.2],.agg   [.int .i64 (st.getD (↑i:Int).toNat (Ab tSt)).1,     .int .i64 (st.getD (↑i:Int).toNat (Ab tSt)).2.1,     .int .i64 (ExprT.kind (st.getD (↑i:Int).toNat (Ab tSt)).2.2.1),     .int .i64 (ExprT.op (st.getD (↑i:Int).toNat (Ab tSt)).2.2.1),     .str (ExprT.name (st.getD (↑i:Int).toNat (Ab tSt)).2.2.1),     .int .i64 (ExprT.value (st.getD (↑i:Int).toNat (Ab tSt)).2.2.1),     .sl .expr (ExprT.args (st.getD (↑i:Int).toNat (Ab tSt)).2.2.1),     .sl (.int .i64) (st.getD (↑i:Int).toNat (Ab tSt)).2.2.2],.agg   [.sl (.int .i64) (ss.getD (↑i:Int).toNat (Ab tSS)).1,     .int .i64 (ss.getD (↑i:Int).toNat (Ab tSS)).2.1,.bool (ss.getD (↑i:Int).toNat (Ab tSS)).2.2],.sl (.int .i64)   (By     ((st.getD (↑i:Int).toNat (Ab tSt)).1,(st.getD (↑i:Int).toNat (Ab tSt)).2.1,       ExprT.mk (ExprT.kind (st.getD (↑i:Int).toNat (Ab tSt)).2.2.1)         (ExprT.op (st.getD (↑i:Int).toNat (Ab tSt)).2.2.1) (ExprT.name (st.getD (↑i:Int).toNat (Ab tSt)).2.2.1)         (ExprT.value (st.getD (↑i:Int).toNat (Ab tSt)).2.2.1)         (ExprT.args (st.getD (↑i:Int).toNat (Ab tSt)).2.2.1),       (st.getD (↑i:Int).toNat (Ab tSt)).2.2.2)     ((ss.getD (↑i:Int).toNat (Ab tSS)).1,(ss.getD (↑i:Int).toNat (Ab tSS)).2.1,       (ss.getD (↑i:Int).toNat (Ab tSS)).2.2)),.int .i64   (↑(By           ((st.getD (↑i:Int).toNat (Ab tSt)).1,(st.getD (↑i:Int).toNat (Ab tSt)).2.1,             ExprT.mk (ExprT.kind (st.getD (↑i:Int).toNat (Ab tSt)).2.2.1)               (ExprT.op (st.getD (↑i:Int).toNat (Ab tSt)).2.2.1)               (ExprT.name (st.getD (↑i:Int).toNat (Ab tSt)).2.2.1)               (ExprT.value (st.getD (↑i:Int).toNat (Ab tSt)).2.2.1)               (ExprT.args (st.getD (↑i:Int).toNat (Ab tSt)).2.2.1),             (st.getD (↑i:Int).toNat (Ab tSt)).2.2.2)           ((ss.getD (↑i:Int).toNat (Ab tSS)).1,(ss.getD (↑i:Int).toNat (Ab tSS)).2.1,             (ss.getD (↑i:Int).toNat (Ab tSS)).2.2)).length :     Int),.int .i64 (j:Int)]++nA 15,[.cells [.sl tSt st,.sl A7 ps],.cells [.sl tSS ss,.sl C4 cs,.sl (.sl (.int .i64)) os,.bool dr],.cells   [.sl (.int .i64) (ss.getD (↑i:Int).toNat (Ab tSS)).1,     .int .i64 (ss.getD (↑i:Int).toNat (Ab tSS)).2.1,.bool (ss.getD (↑i:Int).toNat (Ab tSS)).2.2]],3⟩) (λj=>j<=nl.length/\(nl.take j).any (λn=>!Cv (Cq (ss,cs,os,dr) (pIn (st,ps) i n)))=false) (λj=>nl.length-j) (aI (eI (0) (eI ([some 0,some 1,some 2]) (aI ?_ (aB (aI (aH (aG tT)) (by rfl)))))) ?_)
  ·exact⟨aV _,rfl⟩
  rintro j ⟨hj,hc3⟩;have hlt2:decide ((j:Int)<(nl.length:Int))=true->j<nl.length:=λh=>by have:=aM h;omega
  have hmem:j<nl.length->nl.getD j 0∈nl:=λh=>by rw[A1 h];exact cI h
  refine(aI (λn0=>(aO (aF (aI tT (aI ?_ (aI tT (aI (λn1=>(Aa rfl ?_)) (λn1=>(aO ?_))))))))) (λn0=>(aO ?_)))
  ·have hj1:j<nl.length:=by rw[<-en];exact Int.ofNat_lt.1 (aM n0)
   have h:=hin _ (hmem hj1);rw[<-en]at h;exact h
  ·have hj1:j<nl.length:=by rw[<-en];exact Int.ofNat_lt.1 (aM n0)
   have h1:(!Cv (Cq (ss,cs,os,dr) (pIn (st,ps) i (nl.getD j 0))))=true:=by rw[<-en];exact n1
   exact bG (λb=>(b,())) (hF (fJ.2 ⟨_,hmem hj1,h1⟩))
  ·have hj1:j<nl.length:=by rw[<-en];exact Int.ofNat_lt.1 (aM n0)
   have h1:(!Cv (Cq (ss,cs,os,dr) (pIn (st,ps) i (nl.getD j 0))))=false:=by rw[<-en];exact n1
   clear n0 n1;refine eI (j+1) (eI ([some 0,some 1,some 2]) (aI ?_ (aI ?_ (aB (aI (aH (aG tT)) (by rfl))))))
   ·refine⟨hj1, ?_⟩;rw[bS hj1,eR,hc3,fU,eW,gT,gO,<-A1 (d:=0) hj1];exact h1
   ·show nl.length-(j+1)<nl.length-j;omega
  ·have hj1:¬j<nl.length:=by rw[<-en];exactλh=>aP n0 (Int.ofNat_lt.2 h)
   clear n0;refine eI (i+1) (eI ([some 0,some 1]) (aI ?_ (aI ?_ (aB (aI (aH tT) (by rfl))))))
   ·refine⟨hlt m0,hT ?_⟩
    rwa [bL (by omega)]at hc3
   ·have:=hlt m0;show ss.length-(i+1)<ss.length-i;omega
 ·have hi2:i=ss.length:=by
   have:¬(i:Int)<(ss.length:Int):=aP m0;omega
  subst hi2;rw[p1,hc2];rfl
def cxqG:Ctx:=⟨Mm,[(64,([],cSinks)),(97,([],c31)),(98,([],cAnyV)),(100,([],cBuff))]⟩
theorem Aia:Aj Tryz.prog cxqG:=C0 (Ad Adr (Ad Ur (Ad Atc (Ad Atd Ah))))
theorem Amc(l:List Int):(bif decide (200<(l.length:Int))then true else l.any A3)=I9 l:=by unfold I9;cases decide (200<(l.length:Int))<;>rfl
def cValid:Ctr:=fnC [dPl,dFs] rB (λy=>WF y.1) (λy=>(Ln y.1 y.2.1,()))
set_option maxHeartbeats 8000000 in
theorem Arn:GoodC Tryz.prog 60 cValid:=by
 refine As Aia 3 _ _ _ _ ⟨_,Tryz.func60,rfl,rfl⟩ λ(⟨⟨st,ps⟩,⟨ss,cs,os,dr⟩,_⟩:PlT×FsT×Unit) hk=>?_
 replace hk:WF (st,ps):=hk;refine(aF (aF (aI (λh0 h1 h2 h3 h4=>tT) (λh5=>(λh6=>(λh7=>(λh8=>(λh9=>(aI (λh10=>(Aa rfl ?_)) (λh10=>(λh11=>?_)))))))))))
 ·have h:ss.length≠st.length\/cs.length≠ps.length\/(os.length:Int)≠Bp st:=by
   have h10:(bif bif !decide ((ss.length:Int)=st.length)then true else !decide ((cs.length:Int)=ps.length)then true else !decide ((os.length:Int)=Bp st))=true:=h10;apply Classical.byContradiction;intro hn;rw[aW (show(ss.length:Int)=st.length by omega),aW (show(cs.length:Int)=ps.length by omega),aW (show(os.length:Int)=Bp st by omega)]at h10;cases h10
  exact bG (λb=>(b,())) (aN h)
 have hL:ss.length=st.length/\cs.length=ps.length/\(os.length:Int)=Bp st:=by
  have a:=J1 h10;have b:=J1 a.1;have b1:(ss.length:Int)=st.length:=aM (Bw b.1);have b2:(cs.length:Int)=ps.length:=aM (Bw b.2);have b3:(os.length:Int)=Bp st:=aM (Bw a.2);exact⟨by omega,by omega,b3⟩
 have p1:Ln (st,ps) (ss,cs,os,dr)=if(List.range ss.length).any (λi=>!decide ((An (sg (st,ps) i) (ss.getD i ([],0,false))).2=0))=true then false
  else if os.any I9=true then false else Pq (st,ps) (ss,cs,os,dr):=aL (show ¬(ss.length≠st.length\/cs.length≠ps.length\/(os.length:Int)≠Bp st) by omega)
 clear h5 h6 h7 h10;refine ex4 _ (λi:Nat=>⟨[.any,.any,.ptr 0 0,.ptr 1 0,.any,.any,.any,.any,.any,.any,.any,.any,.any,.any,.any,.any,.any,.any,.any,.any,.any,.any,.any,.any,.any,.any,.any,.any,.any,.any,.any,.any,.any,.any,.any,.any,.ptr 1 0,.sl tSS ss,.int .i64 (↑ss.length:Int),.int .i64 (i:Int)]++nA 35,[.cells [.sl tSt st,.sl A7 ps],.cells [.sl tSS ss,.sl C4 cs,.sl (.sl (.int .i64)) os,.bool dr]],2⟩) (λi=>i<=ss.length/\(List.range i).any (λi=>!decide ((An (sg (st,ps) i) (ss.getD i ([],0,false))).2=0))=false) (λi=>ss.length-i) (aI (eI (0) (eI ([some 0,some 1]) (aI ?_ (aB (aI (aH tT) (by rfl)))))) ?_)
 ·exact⟨aV _,rfl⟩
 rintro i ⟨hi,hc⟩;have hlt:decide ((i:Int)<(ss.length:Int))=true->i<ss.length:=λh=>by have:=aM h;omega
 have hF:i<ss.length->(!decide ((An (st.getD (i:Int).toNat (Ab tSt)) (ss.getD (i:Int).toNat (Ab tSS))).2=0))=true->Ln (st,ps) (ss,cs,os,dr)=false:=λh1 h2=>p1.trans (aN (Sv h1 h2))
 have hT:i<ss.length->(!decide ((An (st.getD (i:Int).toNat (Ab tSt)) (ss.getD (i:Int).toNat (Ab tSS))).2=0))=false->(List.range (i+1)).any (λi=>!decide ((An (sg (st,ps) i) (ss.getD i ([],0,false))).2=0))=false:=λh1 h2=>Sw hc h2
 refine(aI (λk0=>(aO (aF (aO (aI tT (aI (λk1=>(Aa rfl ?_)) (λk1=>(aO ?_)))))))) (λk0=>(λk2=>?_)))
 ·simp only[eta]at k1;exact bG (λb=>(b,())) (hF (hlt k0) k1)
 ·simp only[eta]at k1;have hi1:=hlt k0;have h2:=hT hi1 k1;clear k0 k1;refine eI (i+1) (eI ([some 0,some 1]) (aI ?_ (aI ?_ (aB (aI (aH tT) (by rfl))))))
  ·exact⟨hi1,h2⟩
  ·show ss.length-(i+1)<ss.length-i;omega
 have hi2:i=ss.length:=by
  have:¬(i:Int)<(ss.length:Int):=aP k0;omega
 subst hi2;rw[aL (λh=>aX (hc.symm.trans h))]at p1;clear hlt hF hT k0;refine ex4 _ (λj:Nat=>⟨[.any,.any,.ptr 0 0,.ptr 1 0,.any,.any,.any,.any,.any,.any,.any,.any,.any,.any,.any,.any,.any,.any,.any,.any,.any,.any,.any,.any,.any,.any,.any,.any,.any,.any,.any,.any,.any,.any,.any,.any,.any,.any,.any,.any,.any,.any,.any,.any,.any,.any,.any,.any,.any,.any,.any,.any,.any,.any,.any,.any,.any,.ptr 1 2,.sl (.sl (.int .i64)) os,.int .i64 (↑os.length:Int),.int .i64 (j:Int)]++nA 14,[.cells [.sl tSt st,.sl A7 ps],.cells [.sl tSS ss,.sl C4 cs,.sl (.sl (.int .i64)) os,.bool dr]],2⟩) (λj=>j<=os.length/\(os.take j).any I9=false) (λj=>os.length-j) (aI (eI (0) (eI ([some 0,some 1]) (aI ?_ (aB (aI (aH tT) (by rfl)))))) ?_)
 ·exact⟨aV _,rfl⟩
 rintro j ⟨hj,hc2⟩;have hlt:decide ((j:Int)<(os.length:Int))=true->j<os.length:=λh=>by have:=aM h;omega
 have hF:j<os.length->I9 (os.getD (j:Int).toNat (Ab tIs))=true->Ln (st,ps) (ss,cs,os,dr)=false:=λh1 h2=>p1.trans (aN (fJ.2 ⟨os.getD j [],by rw[A1 h1];exact cI h1,h2⟩))
 have hT:j<os.length->I9 (os.getD (j:Int).toNat (Ab tIs))=false->(os.take (j+1)).any I9=false:=λh1 h2=>by
  rw[bS h1,eR,hc2,fU,eW,gT,gO,<-A1 (d:=[]) h1];exact h2
 refine(aI (λm0=>(aO (λm1=>(aI (λm2=>tT) (aI (λm3=>(Aa rfl ?_)) (λm3=>(aO ?_))))))) (λm0=>(aI ?_ (Aa rfl ?_))))
 ·rw[Amc]at m3;exact bG (λb=>(b,())) (hF (hlt m0) m3)
 ·rw[Amc]at m3;have hj1:=hlt m0;have h2:=hT hj1 m3;clear m0 m1 m3;refine eI (j+1) (eI ([some 0,some 1]) (aI ?_ (aI ?_ (aB (aI (aH tT) (by rfl))))))
  ·exact⟨hj1,h2⟩
  ·show os.length-(j+1)<os.length-j;omega
 ·refine⟨hk,hL.1,hL.2.1,λi hi=>?_⟩;have h:=dJ.1 hc i (cZ.2 (show i<ss.length by have:i<st.length:=hi;omega));have h2:(!decide ((An (sg (st,ps) (i:Int)) (Az (ss,cs,os,dr) (i:Int))).2=0))=false:=by
   cases hb:(!decide ((An (sg (st,ps) (i:Int)) (Az (ss,cs,os,dr) (i:Int))).2=0))
   ·rfl
   ·exact aS hb h
  exact aM (Bw h2)
 ·have hj1:¬(j:Int)<(os.length:Int):=aP m0;rw[bL (by omega)]at hc2;exact bG (λb=>(b,())) (p1.trans (aL (λh=>aX (hc2.symm.trans h))))
def cxqG2:Ctx:=⟨Mm,[(51,([],cPChk)),(60,([],cValid))]⟩
theorem Adt:Aj Tryz.prog cxqG2:=C0 (Ad Af5 (Ad Arn Ah))
def cVal:Ctr:=fnC [dPl,dFs] rI (λ_=>True) (λy=>(Cl y.1 y.2.1,()))
theorem Aro:GoodC Tryz.prog 30 cVal:=by
 refine As Adt 3 _ _ _ _ ⟨_,Tryz.func30,rfl,rfl⟩ λ(⟨⟨st,ps⟩,⟨ss,cs,os,dr⟩,_⟩:PlT×FsT×Unit) _=>?_
 refine(aF (aI tT (aI (λh0=>?_) (aI (λh1=>(Aa rfl ?_)) (λh1=>(Aa rfl ?_))))))
 ·exact Ez.1 (aM (Bw h0))
 ·unfold Cl;rw[aN];have h1:(bif !decide (Gf (st,ps)=0)then true else !Ln (st,ps) (ss,cs,os,dr))=true:=h1;by_cases hp:Gf (st,ps)=0
  ·rw[aW hp]at h1;right;cases hv:Ln (st,ps) (ss,cs,os,dr)
   ·rfl
   ·rw[hv]at h1;cases h1
  ·exact .inl hp
 ·unfold Cl;have h2:=J1 h1;rw[aL];rintro(h|h)
  ·exact h (aM (Bw h2.1))
  ·exact aX (h.symm.trans (Bw h2.2))
def cxqG3:Ctx:=⟨Mm,[(30,([],cVal))]⟩
theorem Adu:Aj Tryz.prog cxqG3:=C0 (Ad Aro Ah)
def cDVal:Ctr:=fnC [dPl,dFs] rB (λ_=>True) (λy=>(decide (Cl y.1 y.2.1=0),()))
theorem Af8:GoodC Tryz.prog 41 cDVal:=by
 refine As Adu 3 _ _ _ _ ⟨_,Tryz.func41,rfl,rfl⟩ λ(⟨⟨st,ps⟩,⟨ss,cs,os,dr⟩,_⟩:PlT×FsT×Unit) _=>?_
 refine(aF (aI tT (Aa rfl (by rfl))))
end Go.Proofs.YtckpldpombdkgaaGreat
