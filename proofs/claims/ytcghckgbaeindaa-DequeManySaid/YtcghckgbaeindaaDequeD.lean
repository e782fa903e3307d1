/- Deque: the reference's Play, SameInts, the examples, as contracts. -/
import Derived.Test.YtcghckgbaeindaaDequeC
set_option linter.unusedSimpArgs false
set_option linter.unusedVariables false
set_option maxRecDepth 100000
namespace Go.Proofs.Ytcghckgbaeindaa
open Go.Sx

theorem dPush_ne23 {l : List Int} {x : Int} (h : dCheck l = 0) : (dPush l x).2 ≠ 23 := by
  unfold dPush
  rw [if_neg (by simpa using h)]
  split
  · simp
  · split <;> simp

def c20 : Ctr := fnC [dIs, dIs] [(false, .bool)] (fun _ => True) (fun y => (decide (y.1 = y.2.1), ()))
theorem good20 : GoodC Try.prog 20 c20 := by
  refine goodF cx0_good 4 _ _ _ _ ⟨_, Try.func20, rfl, rfl⟩ fun (⟨xs, ys, _⟩ : List Int × List Int × Unit) _ => ?_
  refine (And.intro (by rfl) (fun h0 => (fun h1 => (And.intro (fun h2 => (fin_of rfl (by (try simp only [Bool.cond_true_left, Bool.cond_false_right, Bool.or_eq_true, Bool.or_eq_false_iff, Bool.and_eq_true, Bool.not_eq_true', Bool.not_eq_false', decide_eq_true_eq, decide_eq_false_iff_not] at *); first | grind | (simp; rintro rfl; simp_all; done)))) (fun h2 => ?_)))))
  refine ex4 _ (fun i : Nat => ⟨[.sl (.int .i64) xs, .sl (.int .i64) ys, .any, .any, .any, .int .i64 (i : Int), .any, .any, .any, .any, .any, .any, .any, .any, .any, .any, .any, .any, .any, .any, .any, .any, .any, .any, .any, .any], [], 0⟩) (fun i => i ≤ xs.length ∧ xs.length = ys.length ∧ xs.take i = ys.take i) (fun i => xs.length - i) (And.intro (Exists.intro (0) (Exists.intro ([]) (And.intro ?_ (And.intro (by rfl) (And.intro (by rfl) (And.intro True.intro (by rfl))))))) ?_)
  · simp_all
    omega
  rintro i ⟨hi, hl, ht⟩
  refine (fun k0 => (And.intro (fun k1 => (And.intro (by rfl) (And.intro (by intros; (try subst_vars); (try simp only [Bool.cond_true_left, Bool.cond_false_right, Bool.or_eq_true, Bool.or_eq_false_iff, Bool.and_eq_true, Bool.not_eq_true', Bool.not_eq_false', decide_eq_true_eq, decide_eq_false_iff_not, Int.not_lt, Int.not_le] at *); (try simp only [inK, big, lim, List.length_cons, List.length_nil, List.length_append, List.length_drop, List.length_take, List.length_replicate] at *); omega) (And.intro (by intros; (try subst_vars); (try simp only [Bool.cond_true_left, Bool.cond_false_right, Bool.or_eq_true, Bool.or_eq_false_iff, Bool.and_eq_true, Bool.not_eq_true', Bool.not_eq_false', decide_eq_true_eq, decide_eq_false_iff_not, Int.not_lt, Int.not_le] at *); (try simp only [inK, big, lim, List.length_cons, List.length_nil, List.length_append, List.length_drop, List.length_take, List.length_replicate] at *); omega) (And.intro (fun k2 => (fin_of rfl (by (try simp only [Bool.cond_true_left, Bool.cond_false_right, Bool.or_eq_true, Bool.or_eq_false_iff, Bool.and_eq_true, Bool.not_eq_true', Bool.not_eq_false', decide_eq_true_eq, decide_eq_false_iff_not] at *); first | (rw [List.take_of_length_le (by omega), List.take_of_length_le (by omega)] at ht; simp [ht]; done) | (simp; rintro rfl; simp_all; done)))) (fun k2 => (And.intro (by intros; (try subst_vars); (try simp only [Bool.cond_true_left, Bool.cond_false_right, Bool.or_eq_true, Bool.or_eq_false_iff, Bool.and_eq_true, Bool.not_eq_true', Bool.not_eq_false', decide_eq_true_eq, decide_eq_false_iff_not, Int.not_lt, Int.not_le] at *); (try simp only [inK, big, lim, List.length_cons, List.length_nil, List.length_append, List.length_drop, List.length_take, List.length_replicate] at *); omega) ?_))))))) (fun k1 => (fin_of rfl (by (try simp only [Bool.cond_true_left, Bool.cond_false_right, Bool.or_eq_true, Bool.or_eq_false_iff, Bool.and_eq_true, Bool.not_eq_true', Bool.not_eq_false', decide_eq_true_eq, decide_eq_false_iff_not] at *); first | (rw [List.take_of_length_le (by omega), List.take_of_length_le (by omega)] at ht; simp [ht]; done) | (simp; rintro rfl; simp_all; done))))))
  refine Exists.intro (i + 1) (Exists.intro ([]) (And.intro ?_ (And.intro ?_ (And.intro (by rfl) (And.intro (by rfl) (And.intro True.intro (by rfl)))))))
  · have hi' : i < xs.length := by simp only [Bool.cond_true_left, Bool.cond_false_right, Bool.or_eq_true, Bool.or_eq_false_iff, Bool.and_eq_true, Bool.not_eq_true', Bool.not_eq_false', decide_eq_true_eq, decide_eq_false_iff_not] at *; omega
    exact ⟨hi', hl, take_ext_succ (d := 0) hi' (by omega) ht (by simpa using k2)⟩
  · simp only [Bool.cond_true_left, Bool.cond_false_right, Bool.or_eq_true, Bool.or_eq_false_iff, Bool.and_eq_true, Bool.not_eq_true', Bool.not_eq_false', decide_eq_true_eq, decide_eq_false_iff_not] at *; omega

def c24 : Ctr := fnC [dIs, dEdges] rPlay (fun _ => True) (fun y => ((dPlay y.1 y.2.1).1, (dPlay y.1 y.2.1).2.1, (dPlay y.1 y.2.1).2.2, ()))
set_option maxHeartbeats 4000000 in
theorem good24 : GoodC Try.prog 24 c24 := by
  refine goodF cx4_good 4 _ _ _ _ ⟨_, Try.func24, rfl, rfl⟩ fun (⟨xs, l, _⟩ : List Int × List (Int × Int) × Unit) _ => ?_
  have hb := @dCheck_len xs
  refine (And.intro (by rfl) (And.intro True.intro (And.intro (fun h0 => (fin_of rfl (by (try subst_vars); (try simp only [Bool.cond_true_left, Bool.cond_false_right, Bool.or_eq_true, Bool.or_eq_false_iff, Bool.and_eq_true, Bool.not_eq_true', Bool.not_eq_false', decide_eq_true_eq, decide_eq_false_iff_not] at *); first | (rw [dPlay, if_pos (by assumption)]; done) | (rw [dPlay, if_neg (by simpa using h0), if_pos (by assumption)]; done)))) (fun h0 => (fun h1 => (And.intro (fun h2 => (fin_of rfl (by (try subst_vars); (try simp only [Bool.cond_true_left, Bool.cond_false_right, Bool.or_eq_true, Bool.or_eq_false_iff, Bool.and_eq_true, Bool.not_eq_true', Bool.not_eq_false', decide_eq_true_eq, decide_eq_false_iff_not] at *); first | (rw [dPlay, if_pos (by assumption)]; done) | (rw [dPlay, if_neg (by simpa using h0), if_pos (by assumption)]; done)))) (fun h2 => ?_)))))))
  have hck : dCheck xs = 0 := by simpa using h0
  refine ex4 _ (fun p : Nat × (List Int × List Int) => ⟨[.sl tI p.2.1, .sl tEdge l, .any, .any, .any, .any, .any, .any, .own 0, .int .i64 (p.1 : Int), .any, .any, .any, .any, .any, .any, .any, .any, .any, .any, .any, .any, .any, .any, .any, .any, .any, .any, .any, .any, .any, .any, .any, .any, .any, .any, .any, .any, .any, .any, .any, .any, .any, .any, .any, .any, .any, .any, .any, .any, .any, .any, .any, .any, .any, .any, .any, .any, .any, .any, .any, .any, .any, .any, .any, .any, .any, .any, .any, .any, .any, .any, .any, .any, .any, .any, .any, .any, .any, .any, .any, .any, .any, .any, .any, .any, .any], [.rows tI p.2.2], 1⟩) (fun p => p.1 ≤ l.length ∧ dCheck p.2.1 = 0 ∧ p.2.2.length ≤ p.1 ∧ playS l (xs, []) = playS (l.drop p.1) p.2) (fun p => l.length - p.1) (And.intro (Exists.intro ((0, (xs, []))) (Exists.intro ([none]) (And.intro ?_ (And.intro (by rfl) (And.intro (by rfl) (And.intro (And.intro (by rfl) True.intro) (by rfl))))))) ?_)
  · exact ⟨Nat.zero_le _, hck, Nat.le_refl _, rfl⟩
  rintro ⟨i, m, out⟩ ⟨hi, hc, ho, ht⟩
  simp only at hi hc ho ht
  have hml := dCheck_len hc
  have hp : dPlay xs l = playS (l.drop i) (m, out) := by rw [← ht, dPlay, if_neg (by simpa using hck), if_neg (by simpa using h2)]
  refine (fun k0 => (And.intro (fun k1 => (And.intro (by intros; (try subst_vars); (try simp only [Bool.cond_true_left, Bool.cond_false_right, Bool.or_eq_true, Bool.or_eq_false_iff, Bool.and_eq_true, Bool.not_eq_true', Bool.not_eq_false', decide_eq_true_eq, decide_eq_false_iff_not, Int.not_lt, Int.not_le] at *); (try simp only [inK, big, lim, List.length_cons, List.length_nil, List.length_append, List.length_drop, List.length_take, List.length_replicate] at *); omega) (And.intro (fun k2 => (And.intro (by intros; (try subst_vars); (try simp only [Bool.cond_true_left, Bool.cond_false_right, Bool.or_eq_true, Bool.or_eq_false_iff, Bool.and_eq_true, Bool.not_eq_true', Bool.not_eq_false', decide_eq_true_eq, decide_eq_false_iff_not, Int.not_lt, Int.not_le] at *); (try simp only [inK, big, lim, List.length_cons, List.length_nil, List.length_append, List.length_drop, List.length_take, List.length_replicate] at *); omega) (And.intro True.intro (fun (k3 : List Int × Int × PUnit) => (fun k4 => (And.intro (fun k5 => (And.intro (fun k6 => (fin_of rfl ?_)) (fun k6 => (And.intro (by intros; (try subst_vars); (try simp only [Bool.cond_true_left, Bool.cond_false_right, Bool.or_eq_true, Bool.or_eq_false_iff, Bool.and_eq_true, Bool.not_eq_true', Bool.not_eq_false', decide_eq_true_eq, decide_eq_false_iff_not, Int.not_lt, Int.not_le] at *); (try simp only [inK, big, lim, List.length_cons, List.length_nil, List.length_append, List.length_drop, List.length_take, List.length_replicate] at *); omega) (And.intro (fun k7 => (And.intro (by intros; (try subst_vars); (try simp only [Bool.cond_true_left, Bool.cond_false_right, Bool.or_eq_true, Bool.or_eq_false_iff, Bool.and_eq_true, Bool.not_eq_true', Bool.not_eq_false', decide_eq_true_eq, decide_eq_false_iff_not, Int.not_lt, Int.not_le] at *); (try simp only [inK, big, lim, List.length_cons, List.length_nil, List.length_append, List.length_drop, List.length_take, List.length_replicate] at *); omega) (And.intro (by intros; (try subst_vars); (try simp only [Bool.cond_true_left, Bool.cond_false_right, Bool.or_eq_true, Bool.or_eq_false_iff, Bool.and_eq_true, Bool.not_eq_true', Bool.not_eq_false', decide_eq_true_eq, decide_eq_false_iff_not, Int.not_lt, Int.not_le] at *); (try simp only [inK, big, lim, List.length_cons, List.length_nil, List.length_append, List.length_drop, List.length_take, List.length_replicate] at *); omega) ?_))) (fun k7 => (And.intro (by intros; (try subst_vars); (try simp only [Bool.cond_true_left, Bool.cond_false_right, Bool.or_eq_true, Bool.or_eq_false_iff, Bool.and_eq_true, Bool.not_eq_true', Bool.not_eq_false', decide_eq_true_eq, decide_eq_false_iff_not, Int.not_lt, Int.not_le] at *); (try simp only [inK, big, lim, List.length_cons, List.length_nil, List.length_append, List.length_drop, List.length_take, List.length_replicate] at *); omega) ?_))))))) (fun k5 => (And.intro (fun k8 => (fin_of rfl ?_)) (fun k8 => (And.intro (by intros; (try subst_vars); (try simp only [Bool.cond_true_left, Bool.cond_false_right, Bool.or_eq_true, Bool.or_eq_false_iff, Bool.and_eq_true, Bool.not_eq_true', Bool.not_eq_false', decide_eq_true_eq, decide_eq_false_iff_not, Int.not_lt, Int.not_le] at *); (try simp only [inK, big, lim, List.length_cons, List.length_nil, List.length_append, List.length_drop, List.length_take, List.length_replicate] at *); omega) (And.intro (fun k9 => (And.intro (by intros; (try subst_vars); (try simp only [Bool.cond_true_left, Bool.cond_false_right, Bool.or_eq_true, Bool.or_eq_false_iff, Bool.and_eq_true, Bool.not_eq_true', Bool.not_eq_false', decide_eq_true_eq, decide_eq_false_iff_not, Int.not_lt, Int.not_le] at *); (try simp only [inK, big, lim, List.length_cons, List.length_nil, List.length_append, List.length_drop, List.length_take, List.length_replicate] at *); omega) (And.intro (by intros; (try subst_vars); (try simp only [Bool.cond_true_left, Bool.cond_false_right, Bool.or_eq_true, Bool.or_eq_false_iff, Bool.and_eq_true, Bool.not_eq_true', Bool.not_eq_false', decide_eq_true_eq, decide_eq_false_iff_not, Int.not_lt, Int.not_le] at *); (try simp only [inK, big, lim, List.length_cons, List.length_nil, List.length_append, List.length_drop, List.length_take, List.length_replicate] at *); omega) ?_))) (fun k9 => (And.intro (by intros; (try subst_vars); (try simp only [Bool.cond_true_left, Bool.cond_false_right, Bool.or_eq_true, Bool.or_eq_false_iff, Bool.and_eq_true, Bool.not_eq_true', Bool.not_eq_false', decide_eq_true_eq, decide_eq_false_iff_not, Int.not_lt, Int.not_le] at *); (try simp only [inK, big, lim, List.length_cons, List.length_nil, List.length_append, List.length_drop, List.length_take, List.length_replicate] at *); omega) ?_))))))))))))) (fun k2 => (And.intro (by intros; (try subst_vars); (try simp only [Bool.cond_true_left, Bool.cond_false_right, Bool.or_eq_true, Bool.or_eq_false_iff, Bool.and_eq_true, Bool.not_eq_true', Bool.not_eq_false', decide_eq_true_eq, decide_eq_false_iff_not, Int.not_lt, Int.not_le] at *); (try simp only [inK, big, lim, List.length_cons, List.length_nil, List.length_append, List.length_drop, List.length_take, List.length_replicate] at *); omega) (And.intro (fun k10 => (And.intro True.intro (fun (k11 : List Int × Int × Int × PUnit) => (fun k12 => (And.intro (fun k13 => (And.intro (fun k14 => (fin_of rfl ?_)) (fun k14 => (And.intro (by intros; (try subst_vars); (try simp only [Bool.cond_true_left, Bool.cond_false_right, Bool.or_eq_true, Bool.or_eq_false_iff, Bool.and_eq_true, Bool.not_eq_true', Bool.not_eq_false', decide_eq_true_eq, decide_eq_false_iff_not, Int.not_lt, Int.not_le] at *); (try simp only [inK, big, lim, List.length_cons, List.length_nil, List.length_append, List.length_drop, List.length_take, List.length_replicate] at *); omega) (And.intro (fun k15 => (And.intro (by intros; (try subst_vars); (try simp only [Bool.cond_true_left, Bool.cond_false_right, Bool.or_eq_true, Bool.or_eq_false_iff, Bool.and_eq_true, Bool.not_eq_true', Bool.not_eq_false', decide_eq_true_eq, decide_eq_false_iff_not, Int.not_lt, Int.not_le] at *); (try simp only [inK, big, lim, List.length_cons, List.length_nil, List.length_append, List.length_drop, List.length_take, List.length_replicate] at *); omega) (And.intro (by intros; (try subst_vars); (try simp only [Bool.cond_true_left, Bool.cond_false_right, Bool.or_eq_true, Bool.or_eq_false_iff, Bool.and_eq_true, Bool.not_eq_true', Bool.not_eq_false', decide_eq_true_eq, decide_eq_false_iff_not, Int.not_lt, Int.not_le] at *); (try simp only [inK, big, lim, List.length_cons, List.length_nil, List.length_append, List.length_drop, List.length_take, List.length_replicate] at *); omega) ?_))) (fun k15 => (And.intro (by intros; (try subst_vars); (try simp only [Bool.cond_true_left, Bool.cond_false_right, Bool.or_eq_true, Bool.or_eq_false_iff, Bool.and_eq_true, Bool.not_eq_true', Bool.not_eq_false', decide_eq_true_eq, decide_eq_false_iff_not, Int.not_lt, Int.not_le] at *); (try simp only [inK, big, lim, List.length_cons, List.length_nil, List.length_append, List.length_drop, List.length_take, List.length_replicate] at *); omega) ?_))))))) (fun k13 => (And.intro (fun k16 => (fin_of rfl ?_)) (fun k16 => (And.intro (by intros; (try subst_vars); (try simp only [Bool.cond_true_left, Bool.cond_false_right, Bool.or_eq_true, Bool.or_eq_false_iff, Bool.and_eq_true, Bool.not_eq_true', Bool.not_eq_false', decide_eq_true_eq, decide_eq_false_iff_not, Int.not_lt, Int.not_le] at *); (try simp only [inK, big, lim, List.length_cons, List.length_nil, List.length_append, List.length_drop, List.length_take, List.length_replicate] at *); omega) (And.intro (fun k17 => (And.intro (by intros; (try subst_vars); (try simp only [Bool.cond_true_left, Bool.cond_false_right, Bool.or_eq_true, Bool.or_eq_false_iff, Bool.and_eq_true, Bool.not_eq_true', Bool.not_eq_false', decide_eq_true_eq, decide_eq_false_iff_not, Int.not_lt, Int.not_le] at *); (try simp only [inK, big, lim, List.length_cons, List.length_nil, List.length_append, List.length_drop, List.length_take, List.length_replicate] at *); omega) (And.intro (by intros; (try subst_vars); (try simp only [Bool.cond_true_left, Bool.cond_false_right, Bool.or_eq_true, Bool.or_eq_false_iff, Bool.and_eq_true, Bool.not_eq_true', Bool.not_eq_false', decide_eq_true_eq, decide_eq_false_iff_not, Int.not_lt, Int.not_le] at *); (try simp only [inK, big, lim, List.length_cons, List.length_nil, List.length_append, List.length_drop, List.length_take, List.length_replicate] at *); omega) ?_))) (fun k17 => (And.intro (by intros; (try subst_vars); (try simp only [Bool.cond_true_left, Bool.cond_false_right, Bool.or_eq_true, Bool.or_eq_false_iff, Bool.and_eq_true, Bool.not_eq_true', Bool.not_eq_false', decide_eq_true_eq, decide_eq_false_iff_not, Int.not_lt, Int.not_le] at *); (try simp only [inK, big, lim, List.length_cons, List.length_nil, List.length_append, List.length_drop, List.length_take, List.length_replicate] at *); omega) ?_)))))))))))) (fun k10 => (And.intro (by intros; (try subst_vars); (try simp only [Bool.cond_true_left, Bool.cond_false_right, Bool.or_eq_true, Bool.or_eq_false_iff, Bool.and_eq_true, Bool.not_eq_true', Bool.not_eq_false', decide_eq_true_eq, decide_eq_false_iff_not, Int.not_lt, Int.not_le] at *); (try simp only [inK, big, lim, List.length_cons, List.length_nil, List.length_append, List.length_drop, List.length_take, List.length_replicate] at *); omega) (And.intro (fun k18 => (And.intro True.intro (fun (k19 : List Int × Int × Int × PUnit) => (fun k20 => (And.intro (fun k21 => (And.intro (fun k22 => (fin_of rfl ?_)) (fun k22 => (And.intro (by intros; (try subst_vars); (try simp only [Bool.cond_true_left, Bool.cond_false_right, Bool.or_eq_true, Bool.or_eq_false_iff, Bool.and_eq_true, Bool.not_eq_true', Bool.not_eq_false', decide_eq_true_eq, decide_eq_false_iff_not, Int.not_lt, Int.not_le] at *); (try simp only [inK, big, lim, List.length_cons, List.length_nil, List.length_append, List.length_drop, List.length_take, List.length_replicate] at *); omega) (And.intro (fun k23 => (And.intro (by intros; (try subst_vars); (try simp only [Bool.cond_true_left, Bool.cond_false_right, Bool.or_eq_true, Bool.or_eq_false_iff, Bool.and_eq_true, Bool.not_eq_true', Bool.not_eq_false', decide_eq_true_eq, decide_eq_false_iff_not, Int.not_lt, Int.not_le] at *); (try simp only [inK, big, lim, List.length_cons, List.length_nil, List.length_append, List.length_drop, List.length_take, List.length_replicate] at *); omega) (And.intro (by intros; (try subst_vars); (try simp only [Bool.cond_true_left, Bool.cond_false_right, Bool.or_eq_true, Bool.or_eq_false_iff, Bool.and_eq_true, Bool.not_eq_true', Bool.not_eq_false', decide_eq_true_eq, decide_eq_false_iff_not, Int.not_lt, Int.not_le] at *); (try simp only [inK, big, lim, List.length_cons, List.length_nil, List.length_append, List.length_drop, List.length_take, List.length_replicate] at *); omega) ?_))) (fun k23 => (And.intro (by intros; (try subst_vars); (try simp only [Bool.cond_true_left, Bool.cond_false_right, Bool.or_eq_true, Bool.or_eq_false_iff, Bool.and_eq_true, Bool.not_eq_true', Bool.not_eq_false', decide_eq_true_eq, decide_eq_false_iff_not, Int.not_lt, Int.not_le] at *); (try simp only [inK, big, lim, List.length_cons, List.length_nil, List.length_append, List.length_drop, List.length_take, List.length_replicate] at *); omega) ?_))))))) (fun k21 => (And.intro (fun k24 => (fin_of rfl ?_)) (fun k24 => (And.intro (by intros; (try subst_vars); (try simp only [Bool.cond_true_left, Bool.cond_false_right, Bool.or_eq_true, Bool.or_eq_false_iff, Bool.and_eq_true, Bool.not_eq_true', Bool.not_eq_false', decide_eq_true_eq, decide_eq_false_iff_not, Int.not_lt, Int.not_le] at *); (try simp only [inK, big, lim, List.length_cons, List.length_nil, List.length_append, List.length_drop, List.length_take, List.length_replicate] at *); omega) (And.intro (fun k25 => (And.intro (by intros; (try subst_vars); (try simp only [Bool.cond_true_left, Bool.cond_false_right, Bool.or_eq_true, Bool.or_eq_false_iff, Bool.and_eq_true, Bool.not_eq_true', Bool.not_eq_false', decide_eq_true_eq, decide_eq_false_iff_not, Int.not_lt, Int.not_le] at *); (try simp only [inK, big, lim, List.length_cons, List.length_nil, List.length_append, List.length_drop, List.length_take, List.length_replicate] at *); omega) (And.intro (by intros; (try subst_vars); (try simp only [Bool.cond_true_left, Bool.cond_false_right, Bool.or_eq_true, Bool.or_eq_false_iff, Bool.and_eq_true, Bool.not_eq_true', Bool.not_eq_false', decide_eq_true_eq, decide_eq_false_iff_not, Int.not_lt, Int.not_le] at *); (try simp only [inK, big, lim, List.length_cons, List.length_nil, List.length_append, List.length_drop, List.length_take, List.length_replicate] at *); omega) ?_))) (fun k25 => (And.intro (by intros; (try subst_vars); (try simp only [Bool.cond_true_left, Bool.cond_false_right, Bool.or_eq_true, Bool.or_eq_false_iff, Bool.and_eq_true, Bool.not_eq_true', Bool.not_eq_false', decide_eq_true_eq, decide_eq_false_iff_not, Int.not_lt, Int.not_le] at *); (try simp only [inK, big, lim, List.length_cons, List.length_nil, List.length_append, List.length_drop, List.length_take, List.length_replicate] at *); omega) ?_)))))))))))) (fun k18 => (And.intro (fun k26 => (And.intro (fun k27 => (fin_of rfl ?_)) (fun k27 => (And.intro (by intros; (try subst_vars); (try simp only [Bool.cond_true_left, Bool.cond_false_right, Bool.or_eq_true, Bool.or_eq_false_iff, Bool.and_eq_true, Bool.not_eq_true', Bool.not_eq_false', decide_eq_true_eq, decide_eq_false_iff_not, Int.not_lt, Int.not_le] at *); (try simp only [inK, big, lim, List.length_cons, List.length_nil, List.length_append, List.length_drop, List.length_take, List.length_replicate] at *); omega) (And.intro (fun k28 => (And.intro (by intros; (try subst_vars); (try simp only [Bool.cond_true_left, Bool.cond_false_right, Bool.or_eq_true, Bool.or_eq_false_iff, Bool.and_eq_true, Bool.not_eq_true', Bool.not_eq_false', decide_eq_true_eq, decide_eq_false_iff_not, Int.not_lt, Int.not_le] at *); (try simp only [inK, big, lim, List.length_cons, List.length_nil, List.length_append, List.length_drop, List.length_take, List.length_replicate] at *); omega) (And.intro (by intros; (try subst_vars); (try simp only [Bool.cond_true_left, Bool.cond_false_right, Bool.or_eq_true, Bool.or_eq_false_iff, Bool.and_eq_true, Bool.not_eq_true', Bool.not_eq_false', decide_eq_true_eq, decide_eq_false_iff_not, Int.not_lt, Int.not_le] at *); (try simp only [inK, big, lim, List.length_cons, List.length_nil, List.length_append, List.length_drop, List.length_take, List.length_replicate] at *); omega) ?_))) (fun k28 => (And.intro (by intros; (try subst_vars); (try simp only [Bool.cond_true_left, Bool.cond_false_right, Bool.or_eq_true, Bool.or_eq_false_iff, Bool.and_eq_true, Bool.not_eq_true', Bool.not_eq_false', decide_eq_true_eq, decide_eq_false_iff_not, Int.not_lt, Int.not_le] at *); (try simp only [inK, big, lim, List.length_cons, List.length_nil, List.length_append, List.length_drop, List.length_take, List.length_replicate] at *); omega) ?_))))))) (fun k26 => (And.intro (fun k29 => (fin_of rfl ?_)) (fun k29 => (And.intro (by intros; (try subst_vars); (try simp only [Bool.cond_true_left, Bool.cond_false_right, Bool.or_eq_true, Bool.or_eq_false_iff, Bool.and_eq_true, Bool.not_eq_true', Bool.not_eq_false', decide_eq_true_eq, decide_eq_false_iff_not, Int.not_lt, Int.not_le] at *); (try simp only [inK, big, lim, List.length_cons, List.length_nil, List.length_append, List.length_drop, List.length_take, List.length_replicate] at *); omega) (And.intro (fun k30 => (And.intro (by intros; (try subst_vars); (try simp only [Bool.cond_true_left, Bool.cond_false_right, Bool.or_eq_true, Bool.or_eq_false_iff, Bool.and_eq_true, Bool.not_eq_true', Bool.not_eq_false', decide_eq_true_eq, decide_eq_false_iff_not, Int.not_lt, Int.not_le] at *); (try simp only [inK, big, lim, List.length_cons, List.length_nil, List.length_append, List.length_drop, List.length_take, List.length_replicate] at *); omega) (And.intro (by intros; (try subst_vars); (try simp only [Bool.cond_true_left, Bool.cond_false_right, Bool.or_eq_true, Bool.or_eq_false_iff, Bool.and_eq_true, Bool.not_eq_true', Bool.not_eq_false', decide_eq_true_eq, decide_eq_false_iff_not, Int.not_lt, Int.not_le] at *); (try simp only [inK, big, lim, List.length_cons, List.length_nil, List.length_append, List.length_drop, List.length_take, List.length_replicate] at *); omega) ?_))) (fun k30 => (And.intro (by intros; (try subst_vars); (try simp only [Bool.cond_true_left, Bool.cond_false_right, Bool.or_eq_true, Bool.or_eq_false_iff, Bool.and_eq_true, Bool.not_eq_true', Bool.not_eq_false', decide_eq_true_eq, decide_eq_false_iff_not, Int.not_lt, Int.not_le] at *); (try simp only [inK, big, lim, List.length_cons, List.length_nil, List.length_append, List.length_drop, List.length_take, List.length_replicate] at *); omega) ?_)))))))))))))))))) (fun k1 => (fin_of rfl ?_))))
  · exfalso; simp at k6
  · exfalso; rw [k2] at k7; simp at k7
  · exfalso
    rw [k4] at k5
    exact dPush_ne23 hc (by simpa using k5)
  · have hi' : i < l.length := by simp only [Bool.cond_true_left, Bool.cond_false_right, Bool.or_eq_true, Bool.or_eq_false_iff, Bool.and_eq_true, Bool.not_eq_true', Bool.not_eq_false', decide_eq_true_eq, decide_eq_false_iff_not] at k1; omega
    have hk : (l.getD i (dflt tEdge)).1 = 1 := by simpa using k2
    have e : k3 = ((dPush m (l.getD i (dflt tEdge)).2).1, (dPush m (l.getD i (dflt tEdge)).2).2, ()) := k4
    have e0 : ¬ k3.2.1 = 0 := by simpa using k8
    subst e
    simp only at e0 ⊢
    rw [hp, playS_drop hi', if_pos hk, if_neg e0]
  · exfalso; rw [k2] at k9; simp at k9
  · have hi' : i < l.length := by simp only [Bool.cond_true_left, Bool.cond_false_right, Bool.or_eq_true, Bool.or_eq_false_iff, Bool.and_eq_true, Bool.not_eq_true', Bool.not_eq_false', decide_eq_true_eq, decide_eq_false_iff_not] at k1; omega
    have hk : (l.getD i (dflt tEdge)).1 = 1 := by simpa using k2
    have e : k3 = ((dPush m (l.getD i (dflt tEdge)).2).1, (dPush m (l.getD i (dflt tEdge)).2).2, ()) := k4
    have e0 : k3.2.1 = 0 := by simpa using k8
    refine Exists.intro ((i + 1, (k3.1, out))) (Exists.intro ([some 0]) (And.intro ?_ (And.intro ?_ (And.intro (by rfl) (And.intro (by rfl) (And.intro (And.intro (by rfl) True.intro) (by rfl)))))))
    · subst e
      have hpu := push_ok e0
      exact ⟨hi', hpu.2.1, by simp only; omega, by rw [ht, playS_drop hi', if_pos hk, if_pos e0]⟩
    · simp only; omega
  · exfalso; simp at k14
  · have e : k11 = ((dPop m).1, (dPop m).2.1, (dPop m).2.2, ()) := k12
    rw [dPop_ok hc] at e
    have hi' : i < l.length := by simp only [Bool.cond_true_left, Bool.cond_false_right, Bool.or_eq_true, Bool.or_eq_false_iff, Bool.and_eq_true, Bool.not_eq_true', Bool.not_eq_false', decide_eq_true_eq, decide_eq_false_iff_not] at k1; omega
    have hk1 : ¬ (l.getD i (dflt tEdge)).1 = 1 := by simpa using k2
    have hk : (l.getD i (dflt tEdge)).1 = 2 := by simpa using k10
    have hd : playS (l.drop i) (m, out) = playS (l.drop (i + 1)) (popS (m, out)) := by rw [playS_drop hi', if_neg hk1, if_pos hk]
    refine Exists.intro ((i + 1, (m, out ++ [-1]))) (Exists.intro ([some 2]) (And.intro ?_ (And.intro ?_ (And.intro (by rfl) (And.intro (by rfl) (And.intro (And.intro (by rfl) True.intro) (by rfl)))))))
    · by_cases hm : m.length = 0
      · exact ⟨hi', hc, by simp only [List.length_append, List.length_cons, List.length_nil]; omega, by rw [ht, hd]; simp [popS, hm]⟩
      · exfalso
        rw [e] at k13
        simp [hm] at k13
    · simp only; omega
  · exfalso; rw [k2] at k15; simp at k15
  · exfalso
    have e : k11 = ((dPop m).1, (dPop m).2.1, (dPop m).2.2, ()) := k12
    rw [dPop_ok hc] at e
    by_cases hm : m.length = 0
    · rw [e] at k13; simp [hm] at k13
    · rw [e] at k16; simp [hm] at k16
  · have e : k11 = ((dPop m).1, (dPop m).2.1, (dPop m).2.2, ()) := k12
    rw [dPop_ok hc] at e
    have hi' : i < l.length := by simp only [Bool.cond_true_left, Bool.cond_false_right, Bool.or_eq_true, Bool.or_eq_false_iff, Bool.and_eq_true, Bool.not_eq_true', Bool.not_eq_false', decide_eq_true_eq, decide_eq_false_iff_not] at k1; omega
    have hk1 : ¬ (l.getD i (dflt tEdge)).1 = 1 := by simpa using k2
    have hk : (l.getD i (dflt tEdge)).1 = 2 := by simpa using k10
    have hd : playS (l.drop i) (m, out) = playS (l.drop (i + 1)) (popS (m, out)) := by rw [playS_drop hi', if_neg hk1, if_pos hk]
    refine Exists.intro ((i + 1, (k11.1, out ++ [k11.2.1]))) (Exists.intro ([some 2]) (And.intro ?_ (And.intro ?_ (And.intro (by rfl) (And.intro (by rfl) (And.intro (And.intro (by rfl) True.intro) (by rfl)))))))
    · by_cases hm : m.length = 0
      · exfalso
        rw [e] at k13
        simp [hm] at k13
      · rw [if_neg hm] at e
        subst e
        exact ⟨hi', take_ok _ hc, by simp only [List.length_append, List.length_cons, List.length_nil]; omega, by rw [ht, hd]; simp [popS, hm]⟩
    · simp only; omega
  · exfalso; rw [k2] at k17; simp at k17
  · exfalso; simp at k22
  · have e : k19 = ((dSteal m).1, (dSteal m).2.1, (dSteal m).2.2, ()) := k20
    rw [dSteal_ok hc] at e
    have hi' : i < l.length := by simp only [Bool.cond_true_left, Bool.cond_false_right, Bool.or_eq_true, Bool.or_eq_false_iff, Bool.and_eq_true, Bool.not_eq_true', Bool.not_eq_false', decide_eq_true_eq, decide_eq_false_iff_not] at k1; omega
    have hk1 : ¬ (l.getD i (dflt tEdge)).1 = 1 := by simpa using k2
    have hk2 : ¬ (l.getD i (dflt tEdge)).1 = 2 := by simpa using k10
    have hk : (l.getD i (dflt tEdge)).1 = 3 := by simpa using k18
    have hd : playS (l.drop i) (m, out) = playS (l.drop (i + 1)) (stealS (m, out)) := by rw [playS_drop hi', if_neg hk1, if_neg hk2, if_pos hk]
    refine Exists.intro ((i + 1, (m, out ++ [-1]))) (Exists.intro ([some 2]) (And.intro ?_ (And.intro ?_ (And.intro (by rfl) (And.intro (by rfl) (And.intro (And.intro (by rfl) True.intro) (by rfl)))))))
    · by_cases hm : m.length = 0
      · exact ⟨hi', hc, by simp only [List.length_append, List.length_cons, List.length_nil]; omega, by rw [ht, hd]; simp [stealS, hm]⟩
      · exfalso
        rw [e] at k21
        simp [hm] at k21
    · simp only; omega
  · exfalso; rw [k2] at k23; simp at k23
  · exfalso
    have e : k19 = ((dSteal m).1, (dSteal m).2.1, (dSteal m).2.2, ()) := k20
    rw [dSteal_ok hc] at e
    by_cases hm : m.length = 0
    · rw [e] at k21; simp [hm] at k21
    · rw [e] at k24; simp [hm] at k24
  · have e : k19 = ((dSteal m).1, (dSteal m).2.1, (dSteal m).2.2, ()) := k20
    rw [dSteal_ok hc] at e
    have hi' : i < l.length := by simp only [Bool.cond_true_left, Bool.cond_false_right, Bool.or_eq_true, Bool.or_eq_false_iff, Bool.and_eq_true, Bool.not_eq_true', Bool.not_eq_false', decide_eq_true_eq, decide_eq_false_iff_not] at k1; omega
    have hk1 : ¬ (l.getD i (dflt tEdge)).1 = 1 := by simpa using k2
    have hk2 : ¬ (l.getD i (dflt tEdge)).1 = 2 := by simpa using k10
    have hk : (l.getD i (dflt tEdge)).1 = 3 := by simpa using k18
    have hd : playS (l.drop i) (m, out) = playS (l.drop (i + 1)) (stealS (m, out)) := by rw [playS_drop hi', if_neg hk1, if_neg hk2, if_pos hk]
    refine Exists.intro ((i + 1, (k19.1, out ++ [k19.2.1]))) (Exists.intro ([some 2]) (And.intro ?_ (And.intro ?_ (And.intro (by rfl) (And.intro (by rfl) (And.intro (And.intro (by rfl) True.intro) (by rfl)))))))
    · by_cases hm : m.length = 0
      · exfalso
        rw [e] at k21
        simp [hm] at k21
      · rw [if_neg hm] at e
        subst e
        exact ⟨hi', drop_ok _ hc, by simp only [List.length_append, List.length_cons, List.length_nil]; omega, by rw [ht, hd]; simp [stealS, hm]⟩
    · simp only; omega
  · exfalso; rw [k2] at k25; simp at k25
  · exfalso; simp at k26
  · exfalso; simp at k26
  · exfalso; simp at k26
  · have hi' : i < l.length := by simp only [Bool.cond_true_left, Bool.cond_false_right, Bool.or_eq_true, Bool.or_eq_false_iff, Bool.and_eq_true, Bool.not_eq_true', Bool.not_eq_false', decide_eq_true_eq, decide_eq_false_iff_not] at k1; omega
    have hk1 : ¬ (l.getD i (dflt tEdge)).1 = 1 := by simpa using k2
    have hk2 : ¬ (l.getD i (dflt tEdge)).1 = 2 := by simpa using k10
    have hk : ¬ (l.getD i (dflt tEdge)).1 = 3 := by simpa using k18
    rw [hp, playS_drop hi', if_neg hk1, if_neg hk2, if_neg hk]
  · exfalso; simp at k29
  · exfalso; simp at k29
  · have hi' : i = l.length := by simp only [Bool.cond_true_left, Bool.cond_false_right, Bool.or_eq_true, Bool.or_eq_false_iff, Bool.and_eq_true, Bool.not_eq_true', Bool.not_eq_false', decide_eq_true_eq, decide_eq_false_iff_not] at *; omega
    show ((dPlay xs l).1, (dPlay xs l).2.1, (dPlay xs l).2.2, ()) = (m, out, 0, ())
    rw [hp, hi', List.drop_length]
    rfl

def cx5 : Ctx := ⟨tys0, [(12, ([], c12)), (13, ([], c13)), (14, ([], c14)), (15, ([], c15)), (16, ([], c16)), (17, ([], c17)), (18, ([], c18)), (19, ([], c19)), (20, ([], c20)), (21, ([], c21)), (22, ([], c22)), (23, ([], c23)), (24, ([], c24)), (26, ([], c26f))]⟩
theorem cx5_good : GoodCtx Try.prog cx5 := cx_cons good12 (cx_cons good13 (cx_cons good14 (cx_cons good15 (cx_cons good16 (cx_cons good17 (cx_cons good18 (cx_cons good19 (cx_cons good20 (cx_cons good21 (cx_cons good22 (cx_cons good23 (cx_cons good24 (cx_cons good26f cx0_good)))))))))))))

def c11 : Ctr := fnC [] [(false, .bool)] (fun _ => True) (fun _ => (true, ()))
set_option maxHeartbeats 4000000 in
theorem good11 : GoodC Try.prog 11 c11 := by
  refine goodF cx5_good 3 _ _ _ _ ⟨_, Try.func11, rfl, rfl⟩ fun _ _ => ?_
  refine (And.intro (by rfl) (And.intro True.intro (fun (h0 : List Int × List Int × Int × PUnit) => (fun h1 => (And.intro True.intro (fun (h2 : List Int × List Int × PUnit) => (fun h3 => (And.intro (fun h4 => True.intro) (And.intro (fun h5 => True.intro) (And.intro (fun h6 => True.intro) (And.intro (fun h7 => True.intro) (fin_of rfl ?_))))))))))))
  have e1 : dPlay [] [(1, 1), (1, 2), (1, 3), (3, 0), (2, 0)] = ([2], [1, 3], 0) := by decide
  have e2 : dHalf [4, 5, 6] = ([6], [4, 5]) := by decide
  simp only at h1 h3
  rw [e1] at h1
  rw [e2] at h3
  subst h1 h3
  rfl
end Go.Proofs.Ytcghckgbaeindaa
