/- What the row of TopDrainResume asks of the program's form. -/
import Derived.Test.YtpabcdbaffjcdaaGreatRows
import Derived.JoinedOf
import Derived.KernelRfl
set_option linter.unusedSimpArgs false
set_option linter.unusedVariables false
set_option maxRecDepth 100000
namespace Go.Proofs.YtpabcdbaffjcdaaGreat
theorem topDrainResume_closed : joinedFacts Tryz.prog 3 Tryz.f3 Rows.topDrainResumeSpec Rows.topDrainResumeRow = true := of_decide_eq_true (by kernel_rfl)
end Go.Proofs.YtpabcdbaffjcdaaGreat
