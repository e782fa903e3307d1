/- What the row of DrainBeginnings asks of the program's form. -/
import Derived.Test.YtckpldpombdkgaaGreatRows
import Derived.JoinedOf
import Derived.KernelRfl
set_option linter.unusedSimpArgs false
set_option linter.unusedVariables false
set_option maxRecDepth 100000
namespace Go.Proofs.YtckpldpombdkgaaGreat
theorem drainBeginnings_closed : joinedFacts Tryz.prog 6 Tryz.f6 Rows.drainBeginningsSpec Rows.drainBeginningsRow = true := of_decide_eq_true (by kernel_rfl)
end Go.Proofs.YtckpldpombdkgaaGreat
