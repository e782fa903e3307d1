/- Pipelines. -/
import Derived.Test.YtpabcdbaffjcdaaGreatJG4
set_option linter.unusedSimpArgs false
set_option linter.unusedVariables false
set_option maxRecDepth 100000
namespace Go.Proofs.YtpabcdbaffjcdaaGreat
open Go.Sx
def Amf:List (TypeId×Ty):=(33,tSt)::(55,tFs)::(26,tIs)::Qt
theorem Ar5:Ai Tryz.prog ⟨Amf,[]⟩:=λ_ _ _ h=>by simp[G3]at h
def cClT:Ctr:=fnO [.dat false (.sl tSt)] tSt (λy=>y.1.length<=1000) (λy=>y.1)
theorem Avp:GoodC Tryz.prog 55 cClT:=by
 refine goodO Ar5 3 _ _ _ _ ⟨_,Tryz.func55,rfl,rfl⟩ λ⟨xs,_⟩ hlen=>?_
 simp only at hlen;refine(aF (λh0=>(λh1=>(aI (λh2=>(Kb (by simp_all))) (λh2=>(aO (M0 rfl (by simp_all))))))))
end Go.Proofs.YtpabcdbaffjcdaaGreat
