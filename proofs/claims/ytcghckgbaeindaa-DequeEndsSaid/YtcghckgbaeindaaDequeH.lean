/- Deque: the law DequeEnds, walked. -/
import Derived.Test.YtcghckgbaeindaaDequeE
set_option linter.unusedSimpArgs false
set_option linter.unusedVariables false
set_option maxRecDepth 100000
namespace Go.Proofs.Ytcghckgbaeindaa
open Go.Sx

theorem pop_push {xs : List Int} {x : Int} (e : (dPush xs x).2 = 0) : dPop (dPush xs x).1 = (xs, x, 0) := by
  have h := push_ok e
  rw [dPop_ok h.2.1, h.2.2.1, if_neg (by simp)]
  simp
theorem steal_push {xs : List Int} {x : Int} (e : (dPush xs x).2 = 0) (hl : 0 < xs.length) : (dSteal (dPush xs x).1).2 = (xs.getD 0 0, 0) := by
  have h := push_ok e
  rw [dSteal_ok h.2.1, h.2.2.1, if_neg (by simp)]
  simp only [List.getD_eq_getElem?_getD, List.getElem?_append_left hl]

theorem steal_at {xs : List Int} {i : Nat} (hc : dCheck xs = 0) (hi : i < xs.length) : dSteal (xs.drop i) = (xs.drop (i + 1), xs.getD i 0, 0) := by
  rw [dSteal_ok (drop_ok _ hc), if_neg (by simp; omega), List.drop_drop]
  simp [List.getD_eq_getElem?_getD]
theorem pop_at {xs : List Int} {i : Nat} (hc : dCheck xs = 0) (hi : i < xs.length) : dPop (xs.take (xs.length - i)) = (xs.take (xs.length - (i + 1)), xs.getD (xs.length - 1 - i) 0, 0) := by
  have hl : (xs.take (xs.length - i)).length = xs.length - i := by simp
  rw [dPop_ok (take_ok _ hc), if_neg (by omega), hl, List.take_take, show min (xs.length - i - 1) (xs.length - i) = xs.length - (i + 1) by omega, show xs.length - i - 1 = xs.length - 1 - i by omega]
  simp only [List.getD_eq_getElem?_getD, List.getElem?_take_of_lt (show xs.length - 1 - i < xs.length - i by omega)]
theorem at_eq {xs : List Int} {i : Nat} {z : Int} (e : z = (xs.length - 1 - i : Nat)) : xs.getD (xs.length - 1 - i) 0 = xs.getD z.toNat 0 := by
  subst e; rfl

set_option maxRecDepth 100000 in
set_option maxHeartbeats 4000000 in
theorem law6 : LawOk Try.prog 6 [tIs, tI] [false, false] := by
  refine ⟨cx6, 3, cx6_good, fun (⟨xs, x, _⟩ : List Int × Int × Unit) _ => ?_⟩
  have a0 : (40 < (xs.length : Int)) ∨ ¬ dCheck xs = 0 ∨ dCheck xs = 0 := by omega
  refine (And.intro (by rfl) (fun h0 => (And.intro (fun h1 => True.intro) (And.intro (fun h2 => (And.intro True.intro (fin_of rfl ?_))) (fun h2 => (And.intro True.intro (fun (h3 : List Int × Int × PUnit) => (fun h4 => (And.intro (fun h5 => (And.intro True.intro (fun (h6 : List Int × Int × Int × PUnit) => (fun h7 => (fun h8 => (And.intro (fun h9 => (And.intro True.intro (fun (h10 : List Int × Int × Int × PUnit) => (fun h11 => (And.intro (fun h12 => True.intro) (fun h13 => (And.intro (fun h14 => (by intros; (try subst_vars); (try simp only [Bool.cond_true_left, Bool.cond_false_right, Bool.or_eq_true, Bool.or_eq_false_iff, Bool.and_eq_true, Bool.not_eq_true', Bool.not_eq_false', decide_eq_true_eq, decide_eq_false_iff_not, Int.not_lt, Int.not_le] at *); (try simp only [inK, big, lim, List.length_cons, List.length_nil, List.length_append, List.length_drop, List.length_take, List.length_replicate] at *); omega)) (And.intro (fun h15 => (fin_of rfl ?_)) (fun h15 => (fun h16 => ?_)))))))))) (fun h9 => (And.intro (fun h17 => True.intro) (fun h18 => (And.intro (fun h19 => (by intros; (try subst_vars); (try simp only [Bool.cond_true_left, Bool.cond_false_right, Bool.or_eq_true, Bool.or_eq_false_iff, Bool.and_eq_true, Bool.not_eq_true', Bool.not_eq_false', decide_eq_true_eq, decide_eq_false_iff_not, Int.not_lt, Int.not_le] at *); (try simp only [inK, big, lim, List.length_cons, List.length_nil, List.length_append, List.length_drop, List.length_take, List.length_replicate] at *); omega)) (And.intro (fun h20 => (fin_of rfl ?_)) (fun h20 => (fun h21 => ?_))))))))))))) (fun h5 => (fun h22 => ?_)))))))))))
  · rfl
  · exfalso
    have h5' : h3.2.1 = 0 := by simpa using h5
    have e0 : (dPush xs x).2 = 0 := by rw [h4] at h5'; exact h5'
    have hl : 0 < xs.length := by simpa using h9
    have e1 : h6 = (xs, x, 0, ()) := by rw [h7, h4]; simp only [pop_push e0]
    have e2 : h10.2.1 = xs.getD 0 0 ∧ h10.2.2.1 = 0 := by rw [h11, h4]; simp only [steal_push e0 hl]; exact ⟨trivial, trivial⟩
    subst e1
    simp [e2, hl, dflt] at h15
  · have hc : dCheck xs = 0 := by simp at h2; exact h2.2
    refine ex4 _ (fun p : Nat × List Int × List Int => ⟨[.sl (.int .i64) xs, .any, .any, .any, .any, .any, .any, .any, .any, .any, .any, .any, .sl tI p.2.1, .sl tI p.2.2, .any, .any, .any, .any, .any, .any, .any, .any, .any, .any, .any, .any, .any, .any, .any, .any, .any, .any, .any, .any, .any, .any, .any, .any, .any, .any, .any, .any, .any, .any, .any, .any, .any, .any, .any, .any, .any, .any, .any, .any, .any, .any, .any, .any, .any, .any, .any, .any, .any, .any, .any, .any, .any, .any, .any, .any, .any, .any, .any, .any, .any, .any, .any, .any, .any, .any, .any, .any, .any, .any, .any, .any, .any, .any, .any, .any, .sl (.int .i64) xs, .int .i64 (↑xs.length : Int), .int .i64 (p.1 : Int), .any, .any, .any, .any, .any, .any, .any, .any, .any, .any, .any, .any, .any, .any, .any, .any, .any, .any, .any, .any, .any, .any, .any, .any, .any, .any, .any, .any, .any, .any, .any, .any, .any, .any, .any, .any, .any, .any, .any, .any, .any, .any, .any, .any, .any, .any, .any, .any, .any, .any, .any, .any, .any, .any, .any, .any, .any, .any, .any, .any, .any, .any, .any, .any, .any, .any, .any, .any, .any, .any, .any, .any, .any, .any], [], 0⟩) (fun p => p.1 ≤ xs.length ∧ p.2.1 = xs.drop p.1 ∧ p.2.2 = xs.take (xs.length - p.1)) (fun p => xs.length - p.1) (And.intro (Exists.intro ((0, xs, xs)) (Exists.intro ([]) (And.intro ?_ (And.intro (by rfl) (And.intro (by rfl) (And.intro True.intro (by rfl))))))) ?_)
    · exact ⟨Nat.zero_le _, rfl, by simp⟩
    rintro ⟨i, a, b⟩ ⟨hi, ha, hb⟩
    simp only at hi ha hb
    subst ha hb
    refine (And.intro (fun k0 => (And.intro True.intro (fun (k1 : List Int × Int × Int × PUnit) => (fun k2 => (And.intro True.intro (fun (k3 : List Int × Int × Int × PUnit) => (fun k4 => (And.intro (fun k5 => (by intros; (try subst_vars); (try simp only [Bool.cond_true_left, Bool.cond_false_right, Bool.or_eq_true, Bool.or_eq_false_iff, Bool.and_eq_true, Bool.not_eq_true', Bool.not_eq_false', decide_eq_true_eq, decide_eq_false_iff_not, Int.not_lt, Int.not_le] at *); (try simp only [inK, big, lim, List.length_cons, List.length_nil, List.length_append, List.length_drop, List.length_take, List.length_replicate] at *); omega)) (fun k6 => (And.intro (fun k7 => (by intros; (try subst_vars); (try simp only [Bool.cond_true_left, Bool.cond_false_right, Bool.or_eq_true, Bool.or_eq_false_iff, Bool.and_eq_true, Bool.not_eq_true', Bool.not_eq_false', decide_eq_true_eq, decide_eq_false_iff_not, Int.not_lt, Int.not_le] at *); (try simp only [inK, big, lim, List.length_cons, List.length_nil, List.length_append, List.length_drop, List.length_take, List.length_replicate] at *); omega)) (And.intro (fun k8 => (by intros; (try subst_vars); (try simp only [Bool.cond_true_left, Bool.cond_false_right, Bool.or_eq_true, Bool.or_eq_false_iff, Bool.and_eq_true, Bool.not_eq_true', Bool.not_eq_false', decide_eq_true_eq, decide_eq_false_iff_not, Int.not_lt, Int.not_le] at *); (try simp only [inK, big, lim, List.length_cons, List.length_nil, List.length_append, List.length_drop, List.length_take, List.length_replicate] at *); omega)) (And.intro (fun k9 => (by intros; (try subst_vars); (try simp only [Bool.cond_true_left, Bool.cond_false_right, Bool.or_eq_true, Bool.or_eq_false_iff, Bool.and_eq_true, Bool.not_eq_true', Bool.not_eq_false', decide_eq_true_eq, decide_eq_false_iff_not, Int.not_lt, Int.not_le] at *); (try simp only [inK, big, lim, List.length_cons, List.length_nil, List.length_append, List.length_drop, List.length_take, List.length_replicate] at *); omega)) (And.intro (fun k10 => (fin_of rfl ?_)) (fun k10 => (And.intro (by intros; (try subst_vars); (try simp only [Bool.cond_true_left, Bool.cond_false_right, Bool.or_eq_true, Bool.or_eq_false_iff, Bool.and_eq_true, Bool.not_eq_true', Bool.not_eq_false', decide_eq_true_eq, decide_eq_false_iff_not, Int.not_lt, Int.not_le] at *); (try simp only [inK, big, lim, List.length_cons, List.length_nil, List.length_append, List.length_drop, List.length_take, List.length_replicate] at *); omega) ?_))))))))))))))) (fun k0 => (And.intro True.intro (fun (k11 : List Int × Int × Int × PUnit) => (fun k12 => (And.intro True.intro (fun (k13 : List Int × Int × Int × PUnit) => (fun k14 => (fun k15 => (fun k16 => (And.intro (fun k17 => True.intro) (fin_of rfl ?_))))))))))))
    · exfalso
      have hi' : i < xs.length := by simp at k0; omega
      have e := steal_at (i := i) hc hi'
      have f := pop_at (i := i) hc hi'
      simp only [e] at k2
      simp only [f] at k4
      subst k2 k4
      simp [dflt] at k10
    · have hi' : i < xs.length := by simp at k0; omega
      have e := steal_at (i := i) hc hi'
      have f := pop_at (i := i) hc hi'
      simp only [e] at k2
      simp only [f] at k4
      subst k2 k4
      refine Exists.intro ((i + 1, xs.drop (i + 1), xs.take (xs.length - (i + 1)))) (Exists.intro ([]) (And.intro ?_ (And.intro ?_ (And.intro (by rfl) (And.intro (by rfl) (And.intro True.intro (by rfl)))))))
      · exact ⟨hi', rfl, rfl⟩
      · show xs.length - (i + 1) < xs.length - i
        omega
    · have k0' : decide ((i : Int) < (xs.length : Int)) = false := k0
      have hi' : i = xs.length := by rw [decide_eq_false_iff_not] at k0'; omega
      subst hi'
      simp only [List.drop_length, Nat.sub_self, List.take_zero] at k12 k14 ⊢
      have e : dSteal [] = ([], 0, 23) := by decide
      have f : dPop [] = ([], 0, 23) := by decide
      rw [e] at k12
      rw [f] at k14
      subst k12 k14
      rfl
  · exfalso
    have h5' : h3.2.1 = 0 := by simpa using h5
    have e0 : (dPush xs x).2 = 0 := by rw [h4] at h5'; exact h5'
    have hl : ¬ 0 < xs.length := by simpa using h9
    have e1 : h6 = (xs, x, 0, ()) := by rw [h7, h4]; simp only [pop_push e0]
    subst e1
    simp at h20
    omega
  · have hc : dCheck xs = 0 := by simp at h2; exact h2.2
    refine ex4 _ (fun p : Nat × List Int × List Int => ⟨[.sl (.int .i64) xs, .any, .any, .any, .any, .any, .any, .any, .any, .any, .any, .any, .sl tI p.2.1, .sl tI p.2.2, .any, .any, .any, .any, .any, .any, .any, .any, .any, .any, .any, .any, .any, .any, .any, .any, .any, .any, .any, .any, .any, .any, .any, .any, .any, .any, .any, .any, .any, .any, .any, .any, .any, .any, .any, .any, .any, .any, .any, .any, .any, .any, .any, .any, .any, .any, .any, .any, .any, .any, .any, .any, .any, .any, .any, .any, .any, .any, .any, .any, .any, .any, .any, .any, .any, .any, .any, .any, .any, .any, .any, .any, .any, .any, .any, .any, .sl (.int .i64) xs, .int .i64 (↑xs.length : Int), .int .i64 (p.1 : Int), .any, .any, .any, .any, .any, .any, .any, .any, .any, .any, .any, .any, .any, .any, .any, .any, .any, .any, .any, .any, .any, .any, .any, .any, .any, .any, .any, .any, .any, .any, .any, .any, .any, .any, .any, .any, .any, .any, .any, .any, .any, .any, .any, .any, .any, .any, .any, .any, .any, .any, .any, .any, .any, .any, .any, .any, .any, .any, .any, .any, .any, .any, .any, .any, .any, .any, .any, .any, .any, .any, .any, .any, .any, .any], [], 0⟩) (fun p => p.1 ≤ xs.length ∧ p.2.1 = xs.drop p.1 ∧ p.2.2 = xs.take (xs.length - p.1)) (fun p => xs.length - p.1) (And.intro (Exists.intro ((0, xs, xs)) (Exists.intro ([]) (And.intro ?_ (And.intro (by rfl) (And.intro (by rfl) (And.intro True.intro (by rfl))))))) ?_)
    · exact ⟨Nat.zero_le _, rfl, by simp⟩
    rintro ⟨i, a, b⟩ ⟨hi, ha, hb⟩
    simp only at hi ha hb
    subst ha hb
    refine (And.intro (fun k0 => (And.intro True.intro (fun (k1 : List Int × Int × Int × PUnit) => (fun k2 => (And.intro True.intro (fun (k3 : List Int × Int × Int × PUnit) => (fun k4 => (And.intro (fun k5 => (by intros; (try subst_vars); (try simp only [Bool.cond_true_left, Bool.cond_false_right, Bool.or_eq_true, Bool.or_eq_false_iff, Bool.and_eq_true, Bool.not_eq_true', Bool.not_eq_false', decide_eq_true_eq, decide_eq_false_iff_not, Int.not_lt, Int.not_le] at *); (try simp only [inK, big, lim, List.length_cons, List.length_nil, List.length_append, List.length_drop, List.length_take, List.length_replicate] at *); omega)) (fun k6 => (And.intro (fun k7 => (by intros; (try subst_vars); (try simp only [Bool.cond_true_left, Bool.cond_false_right, Bool.or_eq_true, Bool.or_eq_false_iff, Bool.and_eq_true, Bool.not_eq_true', Bool.not_eq_false', decide_eq_true_eq, decide_eq_false_iff_not, Int.not_lt, Int.not_le] at *); (try simp only [inK, big, lim, List.length_cons, List.length_nil, List.length_append, List.length_drop, List.length_take, List.length_replicate] at *); omega)) (And.intro (fun k8 => (by intros; (try subst_vars); (try simp only [Bool.cond_true_left, Bool.cond_false_right, Bool.or_eq_true, Bool.or_eq_false_iff, Bool.and_eq_true, Bool.not_eq_true', Bool.not_eq_false', decide_eq_true_eq, decide_eq_false_iff_not, Int.not_lt, Int.not_le] at *); (try simp only [inK, big, lim, List.length_cons, List.length_nil, List.length_append, List.length_drop, List.length_take, List.length_replicate] at *); omega)) (And.intro (fun k9 => (by intros; (try subst_vars); (try simp only [Bool.cond_true_left, Bool.cond_false_right, Bool.or_eq_true, Bool.or_eq_false_iff, Bool.and_eq_true, Bool.not_eq_true', Bool.not_eq_false', decide_eq_true_eq, decide_eq_false_iff_not, Int.not_lt, Int.not_le] at *); (try simp only [inK, big, lim, List.length_cons, List.length_nil, List.length_append, List.length_drop, List.length_take, List.length_replicate] at *); omega)) (And.intro (fun k10 => (fin_of rfl ?_)) (fun k10 => (And.intro (by intros; (try subst_vars); (try simp only [Bool.cond_true_left, Bool.cond_false_right, Bool.or_eq_true, Bool.or_eq_false_iff, Bool.and_eq_true, Bool.not_eq_true', Bool.not_eq_false', decide_eq_true_eq, decide_eq_false_iff_not, Int.not_lt, Int.not_le] at *); (try simp only [inK, big, lim, List.length_cons, List.length_nil, List.length_append, List.length_drop, List.length_take, List.length_replicate] at *); omega) ?_))))))))))))))) (fun k0 => (And.intro True.intro (fun (k11 : List Int × Int × Int × PUnit) => (fun k12 => (And.intro True.intro (fun (k13 : List Int × Int × Int × PUnit) => (fun k14 => (fun k15 => (fun k16 => (And.intro (fun k17 => True.intro) (fin_of rfl ?_))))))))))))
    · exfalso
      have hi' : i < xs.length := by simp at k0; omega
      have e := steal_at (i := i) hc hi'
      have f := pop_at (i := i) hc hi'
      simp only [e] at k2
      simp only [f] at k4
      subst k2 k4
      simp [dflt] at k10
    · have hi' : i < xs.length := by simp at k0; omega
      have e := steal_at (i := i) hc hi'
      have f := pop_at (i := i) hc hi'
      simp only [e] at k2
      simp only [f] at k4
      subst k2 k4
      refine Exists.intro ((i + 1, xs.drop (i + 1), xs.take (xs.length - (i + 1)))) (Exists.intro ([]) (And.intro ?_ (And.intro ?_ (And.intro (by rfl) (And.intro (by rfl) (And.intro True.intro (by rfl)))))))
      · exact ⟨hi', rfl, rfl⟩
      · show xs.length - (i + 1) < xs.length - i
        omega
    · have k0' : decide ((i : Int) < (xs.length : Int)) = false := k0
      have hi' : i = xs.length := by rw [decide_eq_false_iff_not] at k0'; omega
      subst hi'
      simp only [List.drop_length, Nat.sub_self, List.take_zero] at k12 k14 ⊢
      have e : dSteal [] = ([], 0, 23) := by decide
      have f : dPop [] = ([], 0, 23) := by decide
      rw [e] at k12
      rw [f] at k14
      subst k12 k14
      rfl
  · have hc : dCheck xs = 0 := by simp at h2; exact h2.2
    refine ex4 _ (fun p : Nat × List Int × List Int => ⟨[.sl (.int .i64) xs, .any, .any, .any, .any, .any, .any, .any, .any, .any, .any, .any, .sl tI p.2.1, .sl tI p.2.2, .any, .any, .any, .any, .any, .any, .any, .any, .any, .any, .any, .any, .any, .any, .any, .any, .any, .any, .any, .any, .any, .any, .any, .any, .any, .any, .any, .any, .any, .any, .any, .any, .any, .any, .any, .any, .any, .any, .any, .any, .any, .any, .any, .any, .any, .any, .any, .any, .any, .any, .any, .any, .any, .any, .any, .any, .any, .any, .any, .any, .any, .any, .any, .any, .any, .any, .any, .any, .any, .any, .any, .any, .any, .any, .any, .any, .sl (.int .i64) xs, .int .i64 (↑xs.length : Int), .int .i64 (p.1 : Int), .any, .any, .any, .any, .any, .any, .any, .any, .any, .any, .any, .any, .any, .any, .any, .any, .any, .any, .any, .any, .any, .any, .any, .any, .any, .any, .any, .any, .any, .any, .any, .any, .any, .any, .any, .any, .any, .any, .any, .any, .any, .any, .any, .any, .any, .any, .any, .any, .any, .any, .any, .any, .any, .any, .any, .any, .any, .any, .any, .any, .any, .any, .any, .any, .any, .any, .any, .any, .any, .any, .any, .any, .any, .any], [], 0⟩) (fun p => p.1 ≤ xs.length ∧ p.2.1 = xs.drop p.1 ∧ p.2.2 = xs.take (xs.length - p.1)) (fun p => xs.length - p.1) (And.intro (Exists.intro ((0, xs, xs)) (Exists.intro ([]) (And.intro ?_ (And.intro (by rfl) (And.intro (by rfl) (And.intro True.intro (by rfl))))))) ?_)
    · exact ⟨Nat.zero_le _, rfl, by simp⟩
    rintro ⟨i, a, b⟩ ⟨hi, ha, hb⟩
    simp only at hi ha hb
    subst ha hb
    refine (And.intro (fun k0 => (And.intro True.intro (fun (k1 : List Int × Int × Int × PUnit) => (fun k2 => (And.intro True.intro (fun (k3 : List Int × Int × Int × PUnit) => (fun k4 => (And.intro (fun k5 => (by intros; (try subst_vars); (try simp only [Bool.cond_true_left, Bool.cond_false_right, Bool.or_eq_true, Bool.or_eq_false_iff, Bool.and_eq_true, Bool.not_eq_true', Bool.not_eq_false', decide_eq_true_eq, decide_eq_false_iff_not, Int.not_lt, Int.not_le] at *); (try simp only [inK, big, lim, List.length_cons, List.length_nil, List.length_append, List.length_drop, List.length_take, List.length_replicate] at *); omega)) (fun k6 => (And.intro (fun k7 => (by intros; (try subst_vars); (try simp only [Bool.cond_true_left, Bool.cond_false_right, Bool.or_eq_true, Bool.or_eq_false_iff, Bool.and_eq_true, Bool.not_eq_true', Bool.not_eq_false', decide_eq_true_eq, decide_eq_false_iff_not, Int.not_lt, Int.not_le] at *); (try simp only [inK, big, lim, List.length_cons, List.length_nil, List.length_append, List.length_drop, List.length_take, List.length_replicate] at *); omega)) (And.intro (fun k8 => (by intros; (try subst_vars); (try simp only [Bool.cond_true_left, Bool.cond_false_right, Bool.or_eq_true, Bool.or_eq_false_iff, Bool.and_eq_true, Bool.not_eq_true', Bool.not_eq_false', decide_eq_true_eq, decide_eq_false_iff_not, Int.not_lt, Int.not_le] at *); (try simp only [inK, big, lim, List.length_cons, List.length_nil, List.length_append, List.length_drop, List.length_take, List.length_replicate] at *); omega)) (And.intro (fun k9 => (by intros; (try subst_vars); (try simp only [Bool.cond_true_left, Bool.cond_false_right, Bool.or_eq_true, Bool.or_eq_false_iff, Bool.and_eq_true, Bool.not_eq_true', Bool.not_eq_false', decide_eq_true_eq, decide_eq_false_iff_not, Int.not_lt, Int.not_le] at *); (try simp only [inK, big, lim, List.length_cons, List.length_nil, List.length_append, List.length_drop, List.length_take, List.length_replicate] at *); omega)) (And.intro (fun k10 => (fin_of rfl ?_)) (fun k10 => (And.intro (by intros; (try subst_vars); (try simp only [Bool.cond_true_left, Bool.cond_false_right, Bool.or_eq_true, Bool.or_eq_false_iff, Bool.and_eq_true, Bool.not_eq_true', Bool.not_eq_false', decide_eq_true_eq, decide_eq_false_iff_not, Int.not_lt, Int.not_le] at *); (try simp only [inK, big, lim, List.length_cons, List.length_nil, List.length_append, List.length_drop, List.length_take, List.length_replicate] at *); omega) ?_))))))))))))))) (fun k0 => (And.intro True.intro (fun (k11 : List Int × Int × Int × PUnit) => (fun k12 => (And.intro True.intro (fun (k13 : List Int × Int × Int × PUnit) => (fun k14 => (fun k15 => (fun k16 => (And.intro (fun k17 => True.intro) (fin_of rfl ?_))))))))))))
    · exfalso
      have hi' : i < xs.length := by simp at k0; omega
      have e := steal_at (i := i) hc hi'
      have f := pop_at (i := i) hc hi'
      simp only [e] at k2
      simp only [f] at k4
      subst k2 k4
      simp [dflt] at k10
    · have hi' : i < xs.length := by simp at k0; omega
      have e := steal_at (i := i) hc hi'
      have f := pop_at (i := i) hc hi'
      simp only [e] at k2
      simp only [f] at k4
      subst k2 k4
      refine Exists.intro ((i + 1, xs.drop (i + 1), xs.take (xs.length - (i + 1)))) (Exists.intro ([]) (And.intro ?_ (And.intro ?_ (And.intro (by rfl) (And.intro (by rfl) (And.intro True.intro (by rfl)))))))
      · exact ⟨hi', rfl, rfl⟩
      · show xs.length - (i + 1) < xs.length - i
        omega
    · have k0' : decide ((i : Int) < (xs.length : Int)) = false := k0
      have hi' : i = xs.length := by rw [decide_eq_false_iff_not] at k0'; omega
      subst hi'
      simp only [List.drop_length, Nat.sub_self, List.take_zero] at k12 k14 ⊢
      have e : dSteal [] = ([], 0, 23) := by decide
      have f : dPop [] = ([], 0, 23) := by decide
      rw [e] at k12
      rw [f] at k14
      subst k12 k14
      rfl
end Go.Proofs.Ytcghckgbaeindaa
