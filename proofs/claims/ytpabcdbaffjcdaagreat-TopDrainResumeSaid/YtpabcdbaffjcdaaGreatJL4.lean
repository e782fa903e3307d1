/- Pipelines. -/
import Derived.Test.YtpabcdbaffjcdaaGreatJL3
set_option linter.unusedSimpArgs false
set_option linter.unusedVariables false
set_option maxRecDepth 100000
namespace Go.Proofs.YtpabcdbaffjcdaaGreat
open Go.Sx
def exR:PlT:=([(1,0,Ar2,[1,2,3]),(5,2,Ar2,[]),(10,0,Ar2,[])],[(0,0,1,0,2),(1,0,2,0,2)])
theorem Asn:Agg exR 2:=by
 refine⟨by decide,by kernel_rfl,λi i0 iN=>?_,by decide,by decide⟩;have iN:i<3:=iN;have:i=0\/i=1\/i=2:=by omega
 rcases this with rfl|rfl|rfl<;>(refine⟨?_, ?_, ?_, ?_⟩<;>decide)
theorem At8:sp1 exR [] [] 2=[[1,1,2,2]]:=by kernel_rfl
theorem At9:sp2 exR [] 2=[[3,3]]:=by kernel_rfl
def cSplitK:Ctr:=Aax [dPl,dIs,dIs,dI] Amv (λ_=>0) [((exR,[],[],2,()),([[1,1,2,2]],[[3,3]],true,()))]
theorem Apb:GoodC Tryz.prog 7 cSplitK:=Wk Amw _ _ λp hp=>by
 rw[bT]at hp;subst hp;exact⟨Asn,by rw[At8,At9]⟩
def Aua:List (TypeId×Ty):=(33,tSt)::(26,tIs)::Qt
def cxRd:Ctx:=⟨Aua,[(7,([],cSplitK)),(12,([],c14))]⟩
theorem Aix:Ai Tryz.prog cxRd:=Dl (Ae Apb (Ae Are Ah))
def cAwakeR:Ctr:=fnC [] rB (λ_=>True) (λ_=>(true,()))
set_option maxHeartbeats 8000000 in
theorem Apc:GoodC Tryz.prog 5 cAwakeR:=by
 refine Au Aix 4 _ _ _ _ ⟨_,Tryz.func5,rfl,rfl⟩ λy _=>?_
 refine(aF (aA (aI (λh0=>tT) (aI (λh1=>tT) (Aa rfl ?_)))))
 ·rfl
end Go.Proofs.YtpabcdbaffjcdaaGreat
