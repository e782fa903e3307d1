/- StageMeaning: For every input the law returns true and leaves its arguments as they were; no condition. -/
import Derived.Test.YticmijfmgmkkcaaGreatWFc
set_option linter.unusedSimpArgs false
set_option linter.unusedVariables false
set_option maxRecDepth 100000
namespace Go.Proofs.YticmijfmgmkkcaaGreat
open Go.Sx
open Go.ChangeShapes Go.WideShapes Go.ChangeAt Go.RowKit

theorem stageMeaning_own : ownKnob Tryz.prog.godebug = none := by kernel_rfl
theorem stageMeaning_laid : laidOutB Tryz.prog = true := by kernel_rfl
set_option maxRecDepth 100000 in
theorem stageMeaning_holds : Rows.StageMeaningSaid :=
  law_row 5 Tryz.f5 [tSt, tIss] [true, false] 4 rfl rfl rfl rfl rfl rfl rfl ⟨rfl, rfl, rfl, rfl, rfl⟩ rfl rfl rfl rfl rfl (by kernel_rfl) Tryz.func5 (by kernel_rfl)
    (of_decide_eq_true (by kernel_rfl)) (by unfold Func.isWrapper; first | (rw [if_pos (by decide +kernel)]; kernel_rfl) | (rw [if_neg (by decide +kernel)]; exact ⟨rfl, rfl⟩))
    ⟨rfl, rfl, rfl, rfl, rfl, rfl⟩ (fun _ _ => rfl) stageMeaning_own (by kernel_rfl)
    (fun os H en => ChangeSpec.witness6 (enc := en) (C := Tryz.checked) false ⟨#[], #[.agg #[.int .i64 0, .int .i64 0, .int .i64 0, .int .i64 0, .string ByteArray.empty, .int .i64 0, .slice none 0 0, .slice none 0 0], .slice none 0 0], []⟩ 8 (by kernel_rfl) (by kernel_rfl) (by kernel_rfl) (by kernel_rfl))
    stageMeaning_laid (by kernel_rfl) (by kernel_rfl) (by kernel_rfl) rfl
    (fun H ds hd => by
      match ds, hd with
      | [_, _], _ => exact ⟨rfl, rfl, rfl⟩) (by kernel_rfl) (by kernel_rfl) ⟨by kernel_rfl, by kernel_rfl⟩ law5

end Go.Proofs.YticmijfmgmkkcaaGreat
