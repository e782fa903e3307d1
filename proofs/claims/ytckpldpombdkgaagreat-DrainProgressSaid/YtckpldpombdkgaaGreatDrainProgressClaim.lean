/- In a pipeline without a circle somebody can always go on: a state that a run has come to is at its end, or some stage is enabled. For every input the law returns true and leaves its arguments as they were; no condition. -/
import Derived.Test.YtckpldpombdkgaaGreatCL3
import Derived.Test.YtckpldpombdkgaaGreatDrainProgressFacts
set_option linter.unusedSimpArgs false
set_option linter.unusedVariables false
set_option maxRecDepth 100000
namespace Go.Proofs.YtckpldpombdkgaaGreat
open Go.Sx
open Go.ChangeShapes Go.WideShapes Go.ChangeAt Go.RowKit

theorem drainProgress_own : ownKnob Tryz.prog.godebug = none := by kernel_rfl
theorem drainProgress_laid : laidOutB Tryz.prog = true := by kernel_rfl
set_option maxRecDepth 100000 in
theorem drainProgress_holds : Rows.DrainProgressSaid :=
  law_row 8 Tryz.f8 [tPl, tIs, .int .u8, .bool] [true, false, false, false] 4 rfl rfl rfl rfl rfl rfl rfl ⟨rfl, rfl, rfl, rfl, rfl⟩ rfl rfl rfl rfl rfl (by kernel_rfl) Tryz.func8 (by exact drainProgress_closed)
    (of_decide_eq_true (by kernel_rfl))
    (by unfold Func.isWrapper; first | (rw [if_pos (by decide +kernel)]; kernel_rfl) | (rw [if_neg (by decide +kernel)]; exact ⟨rfl, rfl⟩))
    ⟨rfl, rfl, rfl, rfl, rfl, rfl⟩ (fun _ _ => rfl) drainProgress_own (by kernel_rfl)
    (fun os H en => ChangeSpec.witness6 (enc := en) (C := Tryz.checked) false ⟨#[], #[.agg #[.slice none 0 0, .slice none 0 0], .slice none 0 0, .int .u8 0, .bool false], []⟩ 8 (by kernel_rfl) (by kernel_rfl) (by kernel_rfl) (by kernel_rfl))
    drainProgress_laid (by kernel_rfl) (by kernel_rfl) (by kernel_rfl) rfl
    (fun H ds hd => by
      match ds, hd with
      | [_, _, _, _], _ => exact ⟨rfl, rfl, rfl⟩) (by kernel_rfl) (by kernel_rfl) ⟨by kernel_rfl, by kernel_rfl⟩ law8

end Go.Proofs.YtckpldpombdkgaaGreat
