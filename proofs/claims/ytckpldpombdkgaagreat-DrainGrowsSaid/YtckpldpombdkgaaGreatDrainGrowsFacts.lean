/- What the row of DrainGrows asks of the program's form. -/
import Derived.Test.YtckpldpombdkgaaGreatRows
import Derived.JoinedOf
import Derived.KernelRfl
set_option linter.unusedSimpArgs false
set_option linter.unusedVariables false
set_option maxRecDepth 100000
namespace Go.Proofs.YtckpldpombdkgaaGreat
theorem drainGrows_closed : joinedFacts Tryz.prog 7 Tryz.f7 Rows.drainGrowsSpec Rows.drainGrowsRow = true := of_decide_eq_true (by kernel_rfl)
end Go.Proofs.YtckpldpombdkgaaGreat
