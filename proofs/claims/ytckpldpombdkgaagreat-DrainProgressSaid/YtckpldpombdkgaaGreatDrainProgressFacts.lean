/- What the row of DrainProgress asks of the program's form. -/
import Derived.Test.YtckpldpombdkgaaGreatRows
import Derived.JoinedOf
import Derived.KernelRfl
set_option linter.unusedSimpArgs false
set_option linter.unusedVariables false
set_option maxRecDepth 100000
namespace Go.Proofs.YtckpldpombdkgaaGreat
theorem drainProgress_closed : joinedFacts Tryz.prog 8 Tryz.f8 Rows.drainProgressSpec Rows.drainProgressRow = true := of_decide_eq_true (by kernel_rfl)
end Go.Proofs.YtckpldpombdkgaaGreat
