/- Deque: the laws DequeHalves, DequeEnds, walked. -/
import Derived.Test.YtcghckgbaeindaaDequeE
set_option linter.unusedSimpArgs false
set_option linter.unusedVariables false
set_option maxRecDepth 100000
namespace Go.Proofs.Ytcghckgbaeindaa
open Go.Sx

set_option maxRecDepth 100000 in
set_option maxHeartbeats 4000000 in
theorem law8 : LawOk Try.prog 8 [tIs] [false] := by
  refine ⟨cx6, 3, cx6_good, fun (⟨xs, _⟩ : List Int × Unit) _ => ?_⟩
  refine (And.intro (by rfl) (fun h0 => (And.intro (fun h1 => True.intro) (And.intro (fun h2 => (And.intro True.intro (fin_of rfl (by (rfl; done))))) (fun h2 => (And.intro True.intro (fun (h3 : List Int × List Int × PUnit) => (fun h4 => (fun h5 => ?_)))))))))
  simp only [Bool.cond_true_left, Bool.or_eq_false_iff, decide_eq_false_iff_not, Bool.not_eq_false', decide_eq_true_eq] at h2
  have hc : dCheck xs = 0 := h2.2
  have a1 : dHalf xs = (xs.drop ((xs.length + 1) / 2), xs.take ((xs.length + 1) / 2)) := by rw [dHalf, if_neg (by simpa using hc)]
  simp only [a1] at h4
  subst h4
  refine ex4 _ (fun i : Nat => ⟨[.any, .any, .any, .sl (.int .i64) (List.drop ((xs.length + 1) / 2) xs), .sl (.int .i64) (List.take ((xs.length + 1) / 2) xs), .sl tI (xs.drop i), .any, .any, .any, .any, .any, .any, .any, .any, .any, .any, .any, .any, .any, .any, .any, .any, .any, .any, .any, .any, .sl (.int .i64) (List.take ((xs.length + 1) / 2) xs), .int .i64 (↑(List.take ((xs.length + 1) / 2) xs).length : Int), .int .i64 (i : Int), .any, .any, .any, .any, .any, .any, .any, .any, .any, .any, .any, .any, .any, .any, .any, .any, .any, .any, .any, .any, .any, .any, .any, .any, .any, .any, .any, .any, .any, .any, .any, .any, .any, .any, .any, .any, .any, .any, .any], [], 0⟩) (fun i => i ≤ (xs.length + 1) / 2) (fun i => (xs.length + 1) / 2 - i) (And.intro (Exists.intro (0) (Exists.intro ([]) (And.intro ?_ (And.intro (by rfl) (And.intro (by rfl) (And.intro True.intro (by rfl))))))) ?_)
  · omega
  rintro i hi
  refine (And.intro (fun k0 => (And.intro (by intros; (try subst_vars); (try simp only [Bool.cond_true_left, Bool.cond_false_right, Bool.or_eq_true, Bool.or_eq_false_iff, Bool.and_eq_true, Bool.not_eq_true', Bool.not_eq_false', decide_eq_true_eq, decide_eq_false_iff_not, Int.not_lt, Int.not_le] at *); (try simp only [inK, big, lim, List.length_cons, List.length_nil, List.length_append, List.length_drop, List.length_take, List.length_replicate] at *); omega) (And.intro True.intro (fun (k1 : List Int × Int × Int × PUnit) => (fun k2 => (And.intro (fun k3 => (fin_of rfl ?_)) (fun k3 => (And.intro (by intros; (try subst_vars); (try simp only [Bool.cond_true_left, Bool.cond_false_right, Bool.or_eq_true, Bool.or_eq_false_iff, Bool.and_eq_true, Bool.not_eq_true', Bool.not_eq_false', decide_eq_true_eq, decide_eq_false_iff_not, Int.not_lt, Int.not_le] at *); (try simp only [inK, big, lim, List.length_cons, List.length_nil, List.length_append, List.length_drop, List.length_take, List.length_replicate] at *); omega) ?_)))))))) (fun k0 => (And.intro True.intro (fun k4 => (fun k5 => (fun k6 => (fun k7 => (And.intro (fun k8 => (by intros; (try subst_vars); (try simp only [Bool.cond_true_left, Bool.cond_false_right, Bool.or_eq_true, Bool.or_eq_false_iff, Bool.and_eq_true, Bool.not_eq_true', Bool.not_eq_false', decide_eq_true_eq, decide_eq_false_iff_not, Int.not_lt, Int.not_le] at *); (try simp only [inK, big, lim, List.length_cons, List.length_nil, List.length_append, List.length_drop, List.length_take, List.length_replicate] at *); omega)) (And.intro (fun k9 => True.intro) (fin_of rfl ?_))))))))))
  · exfalso
    have hi' : i < (xs.length + 1) / 2 := by simp at k0; omega
    have e : dSteal (xs.drop i) = ((xs.drop i).drop 1, (xs.drop i).getD 0 0, 0) := by rw [dSteal_ok (drop_ok _ hc), if_neg (by simp; omega)]
    simp only [e] at k2
    subst k2
    simp [List.getD_eq_getElem?_getD, List.getElem?_take_of_lt hi', dflt] at k3
  · have hi' : i < (xs.length + 1) / 2 := by simp at k0; omega
    have e : dSteal (xs.drop i) = ((xs.drop i).drop 1, (xs.drop i).getD 0 0, 0) := by rw [dSteal_ok (drop_ok _ hc), if_neg (by simp; omega)]
    simp only [e] at k2
    subst k2
    rw [List.drop_drop]
    refine Exists.intro (i + 1) (Exists.intro ([]) (And.intro ?_ (And.intro ?_ (And.intro (by rfl) (And.intro (by rfl) (And.intro True.intro (by rfl)))))))
    · exact hi'
    · show (xs.length + 1) / 2 - (i + 1) < (xs.length + 1) / 2 - i
      omega
  · have k0' : decide ((i : Int) < ((List.take ((xs.length + 1) / 2) xs).length : Int)) = false := k0
    have hi' : i = (xs.length + 1) / 2 := by rw [List.length_take, decide_eq_false_iff_not] at k0'; omega
    subst hi'
    have e : ((List.take ((xs.length + 1) / 2) xs).length = (List.drop ((xs.length + 1) / 2) xs).length ∨ (List.take ((xs.length + 1) / 2) xs).length = (List.drop ((xs.length + 1) / 2) xs).length + 1) := by simp; omega
    rcases e with e | e <;> simp [e]
end Go.Proofs.Ytcghckgbaeindaa
