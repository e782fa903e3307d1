/- A pipeline of stages that mix nothing, shut Cl at any time and started again with the items that were not accepted, gives its sinks what it would have given them without that, each item once. For every input the law returns true and leaves its arguments as they were; no condition. -/
import Derived.Test.YtpabcdbaffjcdaaGreatJL5
import Derived.Test.YtpabcdbaffjcdaaGreatTopDrainResumeFacts
set_option linter.unusedSimpArgs false
set_option linter.unusedVariables false
set_option maxRecDepth 100000
namespace Go.Proofs.YtpabcdbaffjcdaaGreat
open Go.Sx
open Go.ChangeShapes Go.WideShapes Go.ChangeAt Go.RowKit

theorem topDrainResume_own : ownKnob Tryz.prog.godebug = none := by kernel_rfl
theorem topDrainResume_laid : laidOutB Tryz.prog = true := by kernel_rfl
set_option maxRecDepth 100000 in
theorem topDrainResume_holds : Rows.TopDrainResumeSaid :=
  law_row 3 Tryz.f3 [tPl, tIs, tIs, .int .u8] [true, false, false, false] 4 rfl rfl rfl rfl rfl rfl rfl ⟨rfl, rfl, rfl, rfl, rfl⟩ rfl rfl rfl rfl rfl (by kernel_rfl) Tryz.func3 (by exact topDrainResume_closed)
    (of_decide_eq_true (by kernel_rfl))
    (by unfold Func.isWrapper; first | (rw [if_pos (by decide +kernel)]; kernel_rfl) | (rw [if_neg (by decide +kernel)]; exact ⟨rfl, rfl⟩))
    ⟨rfl, rfl, rfl, rfl, rfl, rfl⟩ (fun _ _ => rfl) topDrainResume_own (by kernel_rfl)
    (fun os H en => ChangeSpec.witness6 (enc := en) (C := Tryz.checked) false ⟨#[], #[.agg #[.slice none 0 0, .slice none 0 0], .slice none 0 0, .slice none 0 0, .int .u8 0], []⟩ 8 (by kernel_rfl) (by kernel_rfl) (by kernel_rfl) (by kernel_rfl))
    topDrainResume_laid (by kernel_rfl) (by kernel_rfl) (by kernel_rfl) rfl
    (fun H ds hd => by
      match ds, hd with
      | [_, _, _, _], _ => exact ⟨rfl, rfl, rfl⟩) (by kernel_rfl) (by kernel_rfl) ⟨by kernel_rfl, by kernel_rfl⟩ Auc

end Go.Proofs.YtpabcdbaffjcdaaGreat
