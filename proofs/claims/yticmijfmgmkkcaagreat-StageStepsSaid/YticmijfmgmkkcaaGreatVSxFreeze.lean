import Derived.Test.YticmijfmgmkkcaaGreatVSxFrame
set_option linter.unusedSimpArgs false
set_option linter.unusedVariables false
set_option maxRecDepth 100000
namespace Go.Sx
open Go.RowKit
def condS (g0:FuncId) (a b:CallSem):CallSem:=fun g args H n K=>bif Nat.beq g g0 then a g args H n K else b g args H n K
theorem condS_ok {P:Program} {g0:FuncId} {a b:CallSem} (ha:CallOk P a) (hb:CallOk P b):CallOk P (condS g0 a b):=by
 refine ⟨fun g args H n K h=>?_,fun id args H n K h=>?_⟩
 ·unfold condS at h
  cases hg:Nat.beq g g0 with
  | true=>rw [hg] at h;exact ha.1 g args H n K h
  | false=>rw [hg] at h;exact hb.1 g args H n K h
 ·unfold condS at h
  cases hg:Nat.beq 0 g0 with
  | true=>rw [hg] at h;exact ha.2 id args H n K h
  | false=>rw [hg] at h;exact hb.2 id args H n K h
end Go.Sx
