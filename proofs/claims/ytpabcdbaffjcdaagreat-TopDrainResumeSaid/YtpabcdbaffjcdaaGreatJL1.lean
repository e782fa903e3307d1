/- Pipelines. -/
import Derived.Test.YtpabcdbaffjcdaaGreatJH
set_option linter.unusedSimpArgs false
set_option linter.unusedVariables false
set_option maxRecDepth 100000
namespace Go.Proofs.YtpabcdbaffjcdaaGreat
open Go.Sx
def Ab0(l:List StT):Int:=l.foldl (λn s=>IntKind.i64.wrap (n+(s.2.2.2.length:Int))) 0
def Ais(s:StT):Bool:=bif decide (4<s.2.1)then decide (s.1=5)else false
def Qz(m:List Int):Bool:=decide (60<(m.length:Int))
def Px(x:PlT)(ms:List (List Int)):Bool:=
 if x.1.any Ais=true then false else if ms.any Qz=true then false
 else bif (bif (bif !grP x then decide (Ab0 x.1<=40)else false)then decide ((x.1.length:Int)<=12)else false)then decide (Fa x=0)else false
def Avt:List (TypeId×Ty):=(4000000,tI)::Qt
def cxRa:Ctx:=⟨Avt,[(10,([],cGrP)),(11,([],cPChk))]⟩
theorem Ait:Ai Tryz.prog cxRa:=Dl (Ae Avq (Ae Afz Ah))
def cFine:Ctr:=fnC [dPl,Aaj] rB (λ_=>True) (λy=>(Px y.1 y.2.1,()))
set_option maxHeartbeats 4000000 in
theorem At6:GoodC Tryz.prog 4 cFine:=by
 refine Au Ait 3 _ _ _ _ ⟨_,Tryz.func4,rfl,rfl⟩ λ(⟨⟨st,ps⟩,ms,_⟩:PlT×List (List Int)×Unit) _=>?_
 refine(aF (λh0=>?_));refine ex4 _ (λp:Nat×Int=>⟨[.any,.sl (.sl (.int .i64)) ms,.ptr 0 0,.any,.any,.int .i64 p.2,.any,.any,.any,.any,.ptr 0 0,.sl tSt st,.int .i64 (↑st.length:Int),.int .i64 (p.1:Int)]++nA 45,[.cells [.sl tSt st,.sl A6 ps]],1⟩) (λp=>p.1<=st.length/\p.2=Ab0 (st.take p.1)/\(st.take p.1).any Ais=false) (λp=>st.length-p.1) (aI (eI ((0,0)) (eI ([some 0]) (aI ?_ (aB (aI (aG tT) (by rfl)))))) ?_)
 ·exact⟨aV _,rfl,rfl⟩
 rintro⟨i,z⟩ ⟨hi,hz1,hz2⟩;replace hi:i<=st.length:=hi;replace hz1:z=Ab0 (st.take i):=hz1;replace hz2:(st.take i).any Ais=false:=hz2;have hlt:decide ((i:Int)<(st.length:Int))=true->i<st.length/\Ab0 (st.take (i+1))=IntKind.i64.wrap (z+(List.length (st.getD (i:Int).toNat (Ab tSt)).2.2.2:Int)):=λh=>by
  have h1:i<st.length:=by have:=aM h;omega
  refine⟨h1, ?_⟩;unfold Ab0 at hz1 ⊢;rw[bS h1,dO,<-hz1,bH,A1 h1];rfl
 refine(aI (λk0=>(aO (λk1=>(aI (λk2=>(Aa rfl ?_)) (λk2=>(aO ?_)))))) (λk0=>(λk3=>?_)))
 ·have h1:=(hlt k0).1;have h2:Ais (st.getD (i:Int).toNat (Ab tSt))=true:=k2;show(Px (st,ps) ms,())=_;unfold Px;rw[aP (Ar6 (d:=Ab tSt) h1 h2)]
 ·obtain⟨h1,h3⟩:=hlt k0;have h2:=Ar7 (d:=Ab tSt) h1 hz2 (show Ais (st.getD (i:Int).toNat (Ab tSt))=false from k2);clear k0 k1 k2 hlt;refine eI ((i+1,IntKind.i64.wrap (z+(List.length (st.getD (i:Int).toNat (Ab tSt)).2.2.2:Int)))) (eI ([some 0]) (aI ?_ (aI ?_ (aB (aI (aG tT) (by rfl))))))
  ·exact⟨h1,h3.symm,h2⟩
  ·show st.length-(i+1)<st.length-i;omega
 ·have hi2:i=st.length:=by
   have:¬(i:Int)<(st.length:Int):=aQ k0;omega
  rw[hi2,dD]at hz1 hz2;have hF:Px (st,ps) ms=if ms.any Qz=true then false else bif (bif (bif !grP (st,ps)then decide (Ab0 st<=40)else false)then decide ((st.length:Int)<=12)else false)then decide (Fa (st,ps)=0)else false:=by
   unfold Px;rw[aL (by rw[show((st,ps):PlT).1.any Ais=false from hz2];decide)]
  clear k0 hlt hz2 hi hi2;refine ex4 _ (λj:Nat=>⟨[.any,.sl (.sl (.int .i64)) ms,.ptr 0 0,.any,.any,.int .i64 z,.any,.any,.any,.any,.any,.any,.any,.any,.any,.any,.any,.any,.any,.any,.any,.any,.any,.any,.any,.any,.any,.any,.any,.any,.any,.sl (.sl (.int .i64)) ms,.int .i64 (↑ms.length:Int),.int .i64 (j:Int)]++nA 25,[.cells [.sl tSt st,.sl A6 ps]],1⟩) (λj=>j<=ms.length/\(ms.take j).any Qz=false) (λj=>ms.length-j) (aI (eI (0) (eI ([some 0]) (aI ?_ (aB (aI (aG tT) (by rfl)))))) ?_)
  ·exact⟨aV _,by simp⟩
  rintro j ⟨hj,ha⟩;replace hj:j<=ms.length:=hj;replace ha:(ms.take j).any Qz=false:=ha;have hlj:decide ((j:Int)<(ms.length:Int))=true->j<ms.length:=λh=>by have:=aM h;omega
  refine(aI (λm0=>(aO (λm1=>(aI (λm2=>(Aa rfl ?_)) (λm2=>(aO ?_)))))) (λm0=>(aI tT (λm3=>(aI (λm4=>tT) (Aa rfl ?_))))))
  ·have h1:=hlj m0;show(Px (st,ps) ms,())=_;rw[hF,aP (Ar6 (d:=Ab tIs) h1 (show Qz (ms.getD (j:Int).toNat (Ab tIs))=true from m2))]
  ·have h1:=hlj m0;have h2:=Ar7 (d:=Ab tIs) h1 ha (show Qz (ms.getD (j:Int).toNat (Ab tIs))=false from m2);clear m0 m1 m2 hlj hF;refine eI (j+1) (eI ([some 0]) (aI ?_ (aI ?_ (aB (aI (aG tT) (by rfl))))))
   ·exact⟨h1,h2⟩
   ·show ms.length-(j+1)<ms.length-j;omega
  ·have h1:¬(j:Int)<(ms.length:Int):=aQ m0;rw[bL (by omega)]at ha;show(Px (st,ps) ms,())=_;rw[hF,aL (by rw[ha];decide),hz1]
end Go.Proofs.YtpabcdbaffjcdaaGreat
