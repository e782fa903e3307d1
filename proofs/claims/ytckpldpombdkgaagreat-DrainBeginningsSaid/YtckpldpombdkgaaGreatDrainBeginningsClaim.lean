/- What the sinks have put out at any time is a beginning of what the pipeline means. For every input the law returns true and leaves its arguments as they were; no condition. -/
import Derived.Test.YtckpldpombdkgaaGreatEL6
import Derived.Test.YtckpldpombdkgaaGreatDrainBeginningsFacts
set_option linter.unusedSimpArgs false
set_option linter.unusedVariables false
set_option maxRecDepth 100000
namespace Go.Proofs.YtckpldpombdkgaaGreat
open Go.Sx
open Go.ChangeShapes Go.WideShapes Go.ChangeAt Go.RowKit

theorem drainBeginnings_own : ownKnob Tryz.prog.godebug = none := by kernel_rfl
theorem drainBeginnings_laid : laidOutB Tryz.prog = true := by kernel_rfl
set_option maxRecDepth 100000 in
theorem drainBeginnings_holds : Rows.DrainBeginningsSaid :=
  law_row 6 Tryz.f6 [tPl, tIs, .int .u8] [true, false, false] 4 rfl rfl rfl rfl rfl rfl rfl ⟨rfl, rfl, rfl, rfl, rfl⟩ rfl rfl rfl rfl rfl (by kernel_rfl) Tryz.func6 (by exact drainBeginnings_closed)
    (of_decide_eq_true (by kernel_rfl))
    (by unfold Func.isWrapper; first | (rw [if_pos (by decide +kernel)]; kernel_rfl) | (rw [if_neg (by decide +kernel)]; exact ⟨rfl, rfl⟩))
    ⟨rfl, rfl, rfl, rfl, rfl, rfl⟩ (fun _ _ => rfl) drainBeginnings_own (by kernel_rfl)
    (fun os H en => ChangeSpec.witness6 (enc := en) (C := Tryz.checked) false ⟨#[], #[.agg #[.slice none 0 0, .slice none 0 0], .slice none 0 0, .int .u8 0], []⟩ 8 (by kernel_rfl) (by kernel_rfl) (by kernel_rfl) (by kernel_rfl))
    drainBeginnings_laid (by kernel_rfl) (by kernel_rfl) (by kernel_rfl) rfl
    (fun H ds hd => by
      match ds, hd with
      | [_, _, _], _ => exact ⟨rfl, rfl, rfl⟩) (by kernel_rfl) (by kernel_rfl) ⟨by kernel_rfl, by kernel_rfl⟩ Avz

end Go.Proofs.YtckpldpombdkgaaGreat
