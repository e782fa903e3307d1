/- Each step changes its own part of the state alone: the stages and buffers that a step does not name stay as they were. For every input the law returns true and leaves its arguments as they were; no condition. -/
import Derived.Test.YtckpldpombdkgaaGreatCL2
import Derived.Test.YtckpldpombdkgaaGreatDrainPartsFacts
set_option linter.unusedSimpArgs false
set_option linter.unusedVariables false
set_option maxRecDepth 100000
namespace Go.Proofs.YtckpldpombdkgaaGreat
open Go.Sx
open Go.ChangeShapes Go.WideShapes Go.ChangeAt Go.RowKit

theorem drainParts_own : ownKnob Tryz.prog.godebug = none := by kernel_rfl
theorem drainParts_laid : laidOutB Tryz.prog = true := by kernel_rfl
set_option maxRecDepth 100000 in
theorem drainParts_holds : Rows.DrainPartsSaid :=
  law_row 12 Tryz.f12 [tPl, tFs, tIs, .int .u8, .int .u8] [true, true, false, false, false] 4 rfl rfl rfl rfl rfl rfl rfl ⟨rfl, rfl, rfl, rfl, rfl⟩ rfl rfl rfl rfl rfl (by kernel_rfl) Tryz.func12 (by exact drainParts_closed)
    (of_decide_eq_true (by kernel_rfl))
    (by unfold Func.isWrapper; first | (rw [if_pos (by decide +kernel)]; kernel_rfl) | (rw [if_neg (by decide +kernel)]; exact ⟨rfl, rfl⟩))
    ⟨rfl, rfl, rfl, rfl, rfl, rfl⟩ (fun _ _ => rfl) drainParts_own (by kernel_rfl)
    (fun os H en => ChangeSpec.witness6 (enc := en) (C := Tryz.checked) false ⟨#[], #[.agg #[.slice none 0 0, .slice none 0 0], .agg #[.slice none 0 0, .slice none 0 0, .slice none 0 0, .bool false], .slice none 0 0, .int .u8 0, .int .u8 0], []⟩ 8 (by kernel_rfl) (by kernel_rfl) (by kernel_rfl) (by kernel_rfl))
    drainParts_laid (by kernel_rfl) (by kernel_rfl) (by kernel_rfl) rfl
    (fun H ds hd => by
      match ds, hd with
      | [_, _, _, _, _], _ => exact ⟨rfl, rfl, rfl⟩) (by kernel_rfl) (by kernel_rfl) ⟨by kernel_rfl, by kernel_rfl⟩ law12

end Go.Proofs.YtckpldpombdkgaaGreat
