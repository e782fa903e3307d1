/- What the row of DrainDelivers asks of the program's form. -/
import Derived.Test.YtckpldpombdkgaaGreatRows
import Derived.JoinedOf
import Derived.KernelRfl
set_option linter.unusedSimpArgs false
set_option linter.unusedVariables false
set_option maxRecDepth 100000
namespace Go.Proofs.YtckpldpombdkgaaGreat
theorem drainDelivers_closed : joinedFacts Tryz.prog 4 Tryz.f4 Rows.drainDeliversSpec Rows.drainDeliversRow = true := of_decide_eq_true (by kernel_rfl)
end Go.Proofs.YtckpldpombdkgaaGreat
