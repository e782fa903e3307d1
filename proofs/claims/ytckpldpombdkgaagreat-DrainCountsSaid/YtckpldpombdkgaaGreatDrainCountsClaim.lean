/- What is in the buffers was sent, and not yet taken: for any pipeline and state the number that Buffered returns is the sum of the items sent less those taken. For every input the law returns true and leaves its arguments as they were; no condition. -/
import Derived.Test.YtckpldpombdkgaaGreatCL1
import Derived.Test.YtckpldpombdkgaaGreatDrainCountsFacts
set_option linter.unusedSimpArgs false
set_option linter.unusedVariables false
set_option maxRecDepth 100000
namespace Go.Proofs.YtckpldpombdkgaaGreat
open Go.Sx
open Go.ChangeShapes Go.WideShapes Go.ChangeAt Go.RowKit

theorem drainCounts_own : ownKnob Tryz.prog.godebug = none := by kernel_rfl
theorem drainCounts_laid : laidOutB Tryz.prog = true := by kernel_rfl
set_option maxRecDepth 100000 in
theorem drainCounts_holds : Rows.DrainCountsSaid :=
  law_row 9 Tryz.f9 [tPl, tFs] [true, true] 4 rfl rfl rfl rfl rfl rfl rfl ⟨rfl, rfl, rfl, rfl, rfl⟩ rfl rfl rfl rfl rfl (by kernel_rfl) Tryz.func9 (by exact drainCounts_closed)
    (of_decide_eq_true (by kernel_rfl))
    (by unfold Func.isWrapper; first | (rw [if_pos (by decide +kernel)]; kernel_rfl) | (rw [if_neg (by decide +kernel)]; exact ⟨rfl, rfl⟩))
    ⟨rfl, rfl, rfl, rfl, rfl, rfl⟩ (fun _ _ => rfl) drainCounts_own (by kernel_rfl)
    (fun os H en => ChangeSpec.witness6 (enc := en) (C := Tryz.checked) false ⟨#[], #[.agg #[.slice none 0 0, .slice none 0 0], .agg #[.slice none 0 0, .slice none 0 0, .slice none 0 0, .bool false]], []⟩ 8 (by kernel_rfl) (by kernel_rfl) (by kernel_rfl) (by kernel_rfl))
    drainCounts_laid (by kernel_rfl) (by kernel_rfl) (by kernel_rfl) rfl
    (fun H ds hd => by
      match ds, hd with
      | [_, _], _ => exact ⟨rfl, rfl, rfl⟩) (by kernel_rfl) (by kernel_rfl) ⟨by kernel_rfl, by kernel_rfl⟩ Ap6

end Go.Proofs.YtckpldpombdkgaaGreat
