/- Deque: the laws DequeOps, DequePlay, walked. -/
import Derived.Test.YtcghckgbaeindaaDequeD
set_option linter.unusedSimpArgs false
set_option linter.unusedVariables false
set_option maxRecDepth 100000
namespace Go.Proofs.Ytcghckgbaeindaa
open Go.Sx

def cx6 : Ctx := ⟨tys0, (11, ([], c11)) :: cx5.tab⟩
theorem cx6_good : GoodCtx Try.prog cx6 := cx_cons good11 cx5_good

set_option maxRecDepth 100000 in
set_option maxHeartbeats 4000000 in
theorem law3 : LawOk Try.prog 3 [tIs, tI] [false, false] := by
  refine ⟨cx6, 3, cx6_good, fun (⟨xs, x, _⟩ : List Int × Int × Unit) _ => ?_⟩
  refine (And.intro (by rfl) (fun h0 => (And.intro (fun h1 => (And.intro True.intro (fin_of rfl (by subst_vars; first | (simp; done) | (exfalso; simp at *; done))))) (fun h1 => (And.intro True.intro (fun (h2 : List Int × Int × PUnit) => (fun h3 => (And.intro True.intro (fun (h4 : List Int × Int × PUnit) => (fun h5 => (And.intro True.intro (fun (h6 : List Int × Int × Int × PUnit) => (fun h7 => (And.intro True.intro (fun (h8 : List Int × Int × Int × PUnit) => (fun h9 => (And.intro True.intro (fun (h10 : List Int × Int × Int × PUnit) => (fun h11 => (And.intro True.intro (fun (h12 : List Int × Int × Int × PUnit) => (fun h13 => (And.intro True.intro (fun (h14 : List Int × List Int × PUnit) => (fun h15 => (And.intro True.intro (fun (h16 : List Int × List Int × PUnit) => (fun h17 => (And.intro True.intro (And.intro (fun h18 => True.intro) (And.intro (fun h19 => (fin_of rfl (by subst_vars; first | (simp; done) | (exfalso; simp at *; done)))) (fun h19 => (And.intro True.intro (And.intro True.intro (And.intro (fun h20 => True.intro) (And.intro (fun h21 => True.intro) (And.intro (fun h22 => True.intro) (And.intro (fun h23 => True.intro) (fin_of rfl (by subst_vars; first | (simp; done) | (exfalso; simp at *; done)))))))))))))))))))))))))))))))))))))))))

set_option maxRecDepth 100000 in
set_option maxHeartbeats 4000000 in
theorem law4 : LawOk Try.prog 4 [tIs, .sl tEdge] [false, false] := by
  refine ⟨cx6, 3, cx6_good, fun (⟨xs, l, _⟩ : List Int × List (Int × Int) × Unit) _ => ?_⟩
  refine (And.intro (by rfl) (fun h0 => (fun h1 => (And.intro (fun h2 => (And.intro True.intro (fin_of rfl (by subst_vars; first | (simp; done) | (exfalso; simp at *; done))))) (fun h2 => (And.intro True.intro (fun (h3 : List Int × List Int × Int × PUnit) => (fun h4 => (And.intro True.intro (fun (h5 : List Int × List Int × Int × PUnit) => (fun h6 => (And.intro True.intro (And.intro (fun h7 => True.intro) (And.intro (fun h8 => True.intro) (fin_of rfl (by subst_vars; first | (simp; done) | (exfalso; simp at *; done)))))))))))))))))
end Go.Proofs.Ytcghckgbaeindaa
