/- Deque: the laws DequeCommutes, DequeHalves, DequeEnds, walked. -/
import Derived.Test.YtcghckgbaeindaaDequeE
set_option linter.unusedSimpArgs false
set_option linter.unusedVariables false
set_option maxRecDepth 100000
namespace Go.Proofs.Ytcghckgbaeindaa
open Go.Sx

set_option maxRecDepth 100000 in
set_option maxHeartbeats 4000000 in
theorem law7 : LawOk Try.prog 7 [tIs] [false] := by
  refine ⟨cx6, 3, cx6_good, fun (⟨xs, _⟩ : List Int × Unit) _ => ?_⟩
  refine (And.intro (by rfl) (fun h0 => (fun h1 => (And.intro (fun h2 => True.intro) (And.intro (fun h3 => (And.intro True.intro (fin_of rfl ?_))) (fun h3 => (And.intro True.intro (fun (h4 : List Int × Int × Int × PUnit) => (fun h5 => (And.intro True.intro (fun (h6 : List Int × Int × Int × PUnit) => (fun h7 => (And.intro True.intro (fun (h8 : List Int × Int × Int × PUnit) => (fun h9 => (And.intro True.intro (fun (h10 : List Int × Int × Int × PUnit) => (fun h11 => (And.intro (fun h12 => True.intro) (And.intro (fun h13 => True.intro) (fin_of rfl ?_)))))))))))))))))))))
  · rfl
  · simp only [Bool.cond_true_left, Bool.or_eq_false_iff, decide_eq_false_iff_not, Bool.not_eq_false', decide_eq_true_eq] at h3
    have hc : dCheck xs = 0 := h3.2
    have hl : 2 ≤ xs.length := by omega
    have a1 : dPop xs = (xs.take (xs.length - 1), xs.getD (xs.length - 1) 0, 0) := by rw [dPop_ok hc, if_neg (by omega)]
    have a2 : dSteal xs = (xs.drop 1, xs.getD 0 0, 0) := by rw [dSteal_ok hc, if_neg (by omega)]
    have a3 : dSteal (xs.take (xs.length - 1)) = ((xs.take (xs.length - 1)).drop 1, (xs.take (xs.length - 1)).getD 0 0, 0) := by rw [dSteal_ok (take_ok _ hc), if_neg (by simp; omega)]
    have a4 : dPop (xs.drop 1) = ((xs.drop 1).take ((xs.drop 1).length - 1), (xs.drop 1).getD ((xs.drop 1).length - 1) 0, 0) := by rw [dPop_ok (drop_ok _ hc), if_neg (by simp; omega)]
    have b1 : (xs.take (xs.length - 1)).drop 1 = (xs.drop 1).take ((xs.drop 1).length - 1) := by rw [List.drop_take, List.length_drop]
    have b2 : (xs.take (xs.length - 1)).getD 0 0 = xs.getD 0 0 := by simp only [List.getD_eq_getElem?_getD]; rw [List.getElem?_take_of_lt (by omega)]
    have b3 : (xs.drop 1).getD ((xs.drop 1).length - 1) 0 = xs.getD (xs.length - 1) 0 := by simp only [List.getD_eq_getElem?_getD, List.getElem?_drop, List.length_drop]; rw [show 1 + (xs.length - 1 - 1) = xs.length - 1 from by omega]
    simp only [a1] at h5
    subst h5
    simp only [a3, b1, b2] at h7
    subst h7
    simp only [a2] at h9
    subst h9
    simp only [a4, b3] at h11
    subst h11
    simp
end Go.Proofs.Ytcghckgbaeindaa
