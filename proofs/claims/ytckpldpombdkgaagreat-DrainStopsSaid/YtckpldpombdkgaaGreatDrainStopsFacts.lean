/- What the row of DrainStops asks of the program's form. -/
import Derived.Test.YtckpldpombdkgaaGreatRows
import Derived.JoinedOf
import Derived.KernelRfl
set_option linter.unusedSimpArgs false
set_option linter.unusedVariables false
set_option maxRecDepth 100000
namespace Go.Proofs.YtckpldpombdkgaaGreat
theorem drainStops_closed : joinedFacts Tryz.prog 10 Tryz.f10 Rows.drainStopsSpec Rows.drainStopsRow = true := of_decide_eq_true (by kernel_rfl)
end Go.Proofs.YtckpldpombdkgaaGreat
