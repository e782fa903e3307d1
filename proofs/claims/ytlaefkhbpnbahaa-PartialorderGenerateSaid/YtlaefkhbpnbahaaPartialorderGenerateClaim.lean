/- PartialorderGenerate: For every input the law returns true and leaves its arguments as they were; no condition. -/
import Derived.Test.YtlaefkhbpnbahaaPoN2
set_option linter.unusedSimpArgs false
set_option linter.unusedVariables false
set_option maxRecDepth 100000
namespace Go.Proofs.Ytlaefkhbpnbahaa
open Go.Sx
open Go.ChangeShapes Go.WideShapes Go.ChangeAt Go.RowKit

theorem partialorderGenerate_own : ownKnob Try.prog.godebug = none := by kernel_rfl
theorem partialorderGenerate_laid : laidOutB Try.prog = true := by kernel_rfl
set_option maxRecDepth 100000 in
theorem partialorderGenerate_holds : Rows.PartialorderGenerateSaid :=
  law_row 9 Try.f9 [tI, tEs] [false, false] 4 rfl rfl rfl rfl rfl rfl rfl ⟨rfl, rfl, rfl, rfl, rfl⟩ rfl rfl rfl rfl rfl (by kernel_rfl) Try.func9 (by kernel_rfl)
    (of_decide_eq_true (by kernel_rfl)) (by unfold Func.isWrapper; first | (rw [if_pos (by decide +kernel)]; kernel_rfl) | (rw [if_neg (by decide +kernel)]; exact ⟨rfl, rfl⟩))
    ⟨rfl, rfl, rfl, rfl, rfl, rfl⟩ (fun _ _ => rfl) partialorderGenerate_own (by kernel_rfl)
    (fun os H en => ChangeSpec.witness6 (enc := en) (C := Try.checked) false ⟨#[], #[.int .i64 0, .slice none 0 0], []⟩ 8 (by kernel_rfl) (by kernel_rfl) (by kernel_rfl) (by kernel_rfl))
    partialorderGenerate_laid (by kernel_rfl) (by kernel_rfl) (by kernel_rfl) rfl
    (fun H ds hd => by
      match ds, hd with
      | [_, _], _ => exact ⟨rfl, rfl, rfl⟩) (by kernel_rfl) (by kernel_rfl) ⟨by kernel_rfl, by kernel_rfl⟩ law9

end Go.Proofs.Ytlaefkhbpnbahaa
