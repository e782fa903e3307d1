/- Deque: SameInts, the examples, Concat, as contracts. -/
import Derived.Test.YtcghckgbaeindaaDequeC
set_option linter.unusedSimpArgs false
set_option linter.unusedVariables false
set_option maxRecDepth 100000
namespace Go.Proofs.Ytcghckgbaeindaa
open Go.Sx

def c20 : Ctr := fnC [dIs, dIs] [(false, .bool)] (fun _ => True) (fun y => (decide (y.1 = y.2.1), ()))
theorem good20 : GoodC Try.prog 20 c20 := by
  refine goodF cx0_good 4 _ _ _ _ ⟨_, Try.func20, rfl, rfl⟩ fun (⟨xs, ys, _⟩ : List Int × List Int × Unit) _ => ?_
  refine (And.intro (by first | kernel_rfl | rfl) (fun h0 => (fun h1 => (And.intro (fun h2 => (fin_of rfl (by (try simp only [Bool.cond_true_left, Bool.cond_false_right, Bool.or_eq_true, Bool.or_eq_false_iff, Bool.and_eq_true, Bool.not_eq_true', Bool.not_eq_false', decide_eq_true_eq, decide_eq_false_iff_not] at *); first | grind | (simp; rintro rfl; simp_all; done)))) (fun h2 => ?_)))))
  refine ex4 _ (fun i : Nat => ⟨[.sl (.int .i64) xs, .sl (.int .i64) ys, .any, .any, .any, .int .i64 (i : Int), .any, .any, .any, .any, .any, .any, .any, .any, .any, .any, .any, .any, .any, .any, .any, .any, .any, .any, .any, .any], [], 0⟩) (fun i => i ≤ xs.length ∧ xs.length = ys.length ∧ xs.take i = ys.take i) (fun i => xs.length - i) (And.intro (Exists.intro (0) (Exists.intro ([]) (And.intro ?_ (And.intro (by rfl) (And.intro (by rfl) (And.intro True.intro (by rfl))))))) ?_)
  · simp_all
    omega
  rintro i ⟨hi, hl, ht⟩
  refine (fun k0 => (And.intro (fun k1 => (And.intro (by first | kernel_rfl | rfl) (And.intro (by intros; (try subst_vars); (try simp only [Bool.cond_true_left, Bool.cond_false_right, Bool.or_eq_true, Bool.or_eq_false_iff, Bool.and_eq_true, Bool.not_eq_true', Bool.not_eq_false', decide_eq_true_eq, decide_eq_false_iff_not, Int.not_lt, Int.not_le] at *); (try simp only [inK, big, lim, List.length_cons, List.length_nil, List.length_append, List.length_drop, List.length_take, List.length_replicate] at *); omega) (And.intro (by intros; (try subst_vars); (try simp only [Bool.cond_true_left, Bool.cond_false_right, Bool.or_eq_true, Bool.or_eq_false_iff, Bool.and_eq_true, Bool.not_eq_true', Bool.not_eq_false', decide_eq_true_eq, decide_eq_false_iff_not, Int.not_lt, Int.not_le] at *); (try simp only [inK, big, lim, List.length_cons, List.length_nil, List.length_append, List.length_drop, List.length_take, List.length_replicate] at *); omega) (And.intro (fun k2 => (fin_of rfl (by (try simp only [Bool.cond_true_left, Bool.cond_false_right, Bool.or_eq_true, Bool.or_eq_false_iff, Bool.and_eq_true, Bool.not_eq_true', Bool.not_eq_false', decide_eq_true_eq, decide_eq_false_iff_not] at *); first | (rw [List.take_of_length_le (by omega), List.take_of_length_le (by omega)] at ht; simp [ht]; done) | (simp; rintro rfl; simp_all; done)))) (fun k2 => (And.intro (by intros; (try subst_vars); (try simp only [Bool.cond_true_left, Bool.cond_false_right, Bool.or_eq_true, Bool.or_eq_false_iff, Bool.and_eq_true, Bool.not_eq_true', Bool.not_eq_false', decide_eq_true_eq, decide_eq_false_iff_not, Int.not_lt, Int.not_le] at *); (try simp only [inK, big, lim, List.length_cons, List.length_nil, List.length_append, List.length_drop, List.length_take, List.length_replicate] at *); omega) ?_))))))) (fun k1 => (fin_of rfl (by (try simp only [Bool.cond_true_left, Bool.cond_false_right, Bool.or_eq_true, Bool.or_eq_false_iff, Bool.and_eq_true, Bool.not_eq_true', Bool.not_eq_false', decide_eq_true_eq, decide_eq_false_iff_not] at *); first | (rw [List.take_of_length_le (by omega), List.take_of_length_le (by omega)] at ht; simp [ht]; done) | (simp; rintro rfl; simp_all; done))))))
  refine Exists.intro (i + 1) (Exists.intro ([]) (And.intro ?_ (And.intro ?_ (And.intro (by rfl) (And.intro (by rfl) (And.intro True.intro (by rfl)))))))
  · have hi' : i < xs.length := by simp only [Bool.cond_true_left, Bool.cond_false_right, Bool.or_eq_true, Bool.or_eq_false_iff, Bool.and_eq_true, Bool.not_eq_true', Bool.not_eq_false', decide_eq_true_eq, decide_eq_false_iff_not] at *; omega
    exact ⟨hi', hl, take_ext_succ (d := 0) hi' (by omega) ht (by simpa using k2)⟩
  · simp only [Bool.cond_true_left, Bool.cond_false_right, Bool.or_eq_true, Bool.or_eq_false_iff, Bool.and_eq_true, Bool.not_eq_true', Bool.not_eq_false', decide_eq_true_eq, decide_eq_false_iff_not] at *; omega

def cxK : Ctx := ⟨tys0, [(12, ([], c12)), (13, ([], c13)), (14, ([], c14)), (15, ([], c15)), (16, ([], c16)), (17, ([], c17)), (18, ([], c18)), (19, ([], c19)), (20, ([], c20)), (21, ([], c21)), (22, ([], c22)), (23, ([], c23)), (26, ([], c26f))]⟩
theorem cxK_good : GoodCtx Try.prog cxK := cx_cons good12 (cx_cons good13 (cx_cons good14 (cx_cons good15 (cx_cons good16 (cx_cons good17 (cx_cons good18 (cx_cons good19 (cx_cons good20 (cx_cons good21 (cx_cons good22 (cx_cons good23 (cx_cons good26f cx0_good))))))))))))

def c11 : Ctr := fnC [] [(false, .bool)] (fun _ => True) (fun _ => (true, ()))
set_option maxHeartbeats 4000000 in
theorem good11 : GoodC Try.prog 11 c11 := by
  refine goodF cxK_good 3 _ _ _ _ ⟨_, Try.func11, rfl, rfl⟩ fun _ _ => ?_
  refine (And.intro (by first | kernel_rfl | rfl) (And.intro True.intro (fun (h0 : List Int × List Int × Int × PUnit) => (fun h1 => (And.intro True.intro (fun (h2 : List Int × List Int × PUnit) => (fun h3 => (And.intro (fun h4 => True.intro) (And.intro (fun h5 => True.intro) (And.intro (fun h6 => True.intro) (And.intro (fun h7 => True.intro) (fin_of rfl ?_))))))))))))
  have e1 : dPlay [] [(1, 1), (1, 2), (1, 3), (3, 0), (2, 0)] = ([2], [1, 3], 0) := by decide
  have e2 : dHalf [4, 5, 6] = ([6], [4, 5]) := by decide
  simp only at h1 h3
  rw [e1] at h1
  rw [e2] at h3
  subst h1 h3
  rfl
theorem playS_append : ∀ (l r : List (Int × Int)) (s : List Int × List Int), playS (l ++ r) s = if (playS l s).2.2 = 0 then playS r ((playS l s).1, (playS l s).2.1) else playS l s
  | [], r, s => by simp [playS]
  | o :: l, r, s => by
    rw [List.cons_append]
    by_cases h1 : o.1 = 1
    · by_cases h2 : (dPush s.1 o.2).2 = 0
      · have e : ∀ q, playS (o :: q) s = playS q ((dPush s.1 o.2).1, s.2) := fun q => by rw [playS, if_pos h1, if_pos h2]
        rw [e, e, playS_append l r]
      · have e : ∀ q, playS (o :: q) s = ([], [], (dPush s.1 o.2).2) := fun q => by rw [playS, if_pos h1, if_neg h2]
        rw [e, e, if_neg h2]
    · by_cases h2 : o.1 = 2
      · have e : ∀ q, playS (o :: q) s = playS q (popS s) := fun q => by rw [playS, if_neg h1, if_pos h2]
        rw [e, e, playS_append l r]
      · by_cases h3 : o.1 = 3
        · have e : ∀ q, playS (o :: q) s = playS q (stealS s) := fun q => by rw [playS, if_neg h1, if_neg h2, if_pos h3]
          rw [e, e, playS_append l r]
        · have e : ∀ q, playS (o :: q) s = ([], [], 8) := fun q => by rw [playS, if_neg h1, if_neg h2, if_neg h3]
          rw [e, e, if_neg (by simp)]

/-- The first so many of several lists, one after the other. -/
def cat (ll : List (List Int)) (i : Nat) : List Int := (ll.take i).flatten
def tysK : List (TypeId × Ty) := (22, tIs) :: tys0
theorem cxKk_good : GoodCtx Try.prog ⟨tysK, []⟩ := fun _ _ _ h => by simp [lookL] at h
theorem cat_next {ll : List (List Int)} {i : Nat} (h : i < ll.length) : cat ll (i + 1) = cat ll i ++ ll.getD i [] := by
  rw [cat, List.take_add_one, List.flatten_append, List.getD_eq_getElem?_getD, List.getElem?_eq_getElem h]
  simp [cat]
theorem cat_len (ll : List (List Int)) (i : Nat) : (cat ll i).length ≤ ll.flatten.length := by
  have h : ll.flatten.length = (cat ll i).length + ((ll.drop i).flatten).length := by
    rw [cat, ← List.length_append, ← List.flatten_append, List.take_append_drop]
  omega
theorem cat_end {ll : List (List Int)} {i : Nat} (h : ¬ i < ll.length) : cat ll i = ll.flatten := by
  rw [cat, List.take_of_length_le (by omega)]
def c25 : Ctr := fnO [.dat false (.sl tIs)] tI (fun y => y.1.flatten.length ≤ 1000) (fun y => y.1.flatten)
theorem good25 : GoodC Try.prog 25 c25 := by
  refine goodO cxKk_good 3 _ _ _ _ ⟨_, Try.func25, rfl, rfl⟩ fun (⟨ll, _⟩ : List (List Int) × Unit) hlen => ?_
  simp only at hlen
  refine (And.intro (by first | kernel_rfl | rfl) (fun h0 => ?_))
  refine ex4 _ (fun p : Nat × Int => ⟨[.sl tIs ll, .any, .any, .int .i64 p.2, .any, .any, .any, .any, .any, .sl tIs ll, .int .i64 (↑ll.length : Int), .int .i64 (p.1 : Int), .any, .any, .any, .any, .any, .any, .any, .any, .any, .any, .any, .any, .any, .any, .any, .any, .any, .any, .any, .any, .any, .any, .any, .any], [], 0⟩) (fun p => p.1 ≤ ll.length ∧ p.2 = ((cat ll p.1).length : Int)) (fun p => ll.length - p.1) (And.intro (Exists.intro ((0, 0)) (Exists.intro ([]) (And.intro ?_ (And.intro (by rfl) (And.intro (by rfl) (And.intro True.intro (by rfl))))))) ?_)
  · exact ⟨Nat.zero_le _, rfl⟩
  rintro ⟨i, z⟩ ⟨hi, hz⟩
  simp only at hi hz
  have hc := cat_len ll i
  refine (And.intro (fun k0 => (And.intro (by intros; (try subst_vars); (try simp only [Bool.cond_true_left, Bool.cond_false_right, Bool.or_eq_true, Bool.or_eq_false_iff, Bool.and_eq_true, Bool.not_eq_true', Bool.not_eq_false', decide_eq_true_eq, decide_eq_false_iff_not, Int.not_lt, Int.not_le] at *); (try simp only [inK, big, lim, List.length_cons, List.length_nil, List.length_append, List.length_drop, List.length_take, List.length_replicate] at *); omega) (fun k1 => (And.intro ?_ (And.intro (fun (k2 : decide (z + (↑(List.length (ll.getD (↑i : Int).toNat (dflt tIs))) : Int) < (0 : Int)) = true) => absurd (of_decide_eq_true k2) (by omega)) (fun k2 => (And.intro (by intros; (try subst_vars); (try simp only [Bool.cond_true_left, Bool.cond_false_right, Bool.or_eq_true, Bool.or_eq_false_iff, Bool.and_eq_true, Bool.not_eq_true', Bool.not_eq_false', decide_eq_true_eq, decide_eq_false_iff_not, Int.not_lt, Int.not_le] at *); (try simp only [inK, big, lim, List.length_cons, List.length_nil, List.length_append, List.length_drop, List.length_take, List.length_replicate] at *); omega) ?_))))))) (fun k0 => (And.intro (by first | kernel_rfl | rfl) (And.intro (fun (k3 : decide (z < (0 : Int)) = true) => absurd (of_decide_eq_true k3) (by omega)) (fun k3 => (And.intro (by intros; (try subst_vars); (try simp only [Bool.cond_true_left, Bool.cond_false_right, Bool.or_eq_true, Bool.or_eq_false_iff, Bool.and_eq_true, Bool.not_eq_true', Bool.not_eq_false', decide_eq_true_eq, decide_eq_false_iff_not, Int.not_lt, Int.not_le] at *); (try simp only [inK, big, lim, List.length_cons, List.length_nil, List.length_append, List.length_drop, List.length_take, List.length_replicate] at *); omega) (And.intro (by intros; (try subst_vars); (try simp only [Bool.cond_true_left, Bool.cond_false_right, Bool.or_eq_true, Bool.or_eq_false_iff, Bool.and_eq_true, Bool.not_eq_true', Bool.not_eq_false', decide_eq_true_eq, decide_eq_false_iff_not, Int.not_lt, Int.not_le] at *); (try simp only [inK, big, lim, List.length_cons, List.length_nil, List.length_append, List.length_drop, List.length_take, List.length_replicate] at *); omega) (And.intro (fun k4 => (And.intro (by intros; (try subst_vars); (try simp only [Bool.cond_true_left, Bool.cond_false_right, Bool.or_eq_true, Bool.or_eq_false_iff, Bool.and_eq_true, Bool.not_eq_true', Bool.not_eq_false', decide_eq_true_eq, decide_eq_false_iff_not, Int.not_lt, Int.not_le] at *); (try simp only [inK, big, lim, List.length_cons, List.length_nil, List.length_append, List.length_drop, List.length_take, List.length_replicate] at *); omega) (And.intro (by intros; (try subst_vars); (try simp only [Bool.cond_true_left, Bool.cond_false_right, Bool.or_eq_true, Bool.or_eq_false_iff, Bool.and_eq_true, Bool.not_eq_true', Bool.not_eq_false', decide_eq_true_eq, decide_eq_false_iff_not, Int.not_lt, Int.not_le] at *); (try simp only [inK, big, lim, List.length_cons, List.length_nil, List.length_append, List.length_drop, List.length_take, List.length_replicate] at *); omega) (And.intro (by intros; (try subst_vars); (try simp only [Bool.cond_true_left, Bool.cond_false_right, Bool.or_eq_true, Bool.or_eq_false_iff, Bool.and_eq_true, Bool.not_eq_true', Bool.not_eq_false', decide_eq_true_eq, decide_eq_false_iff_not, Int.not_lt, Int.not_le] at *); (try simp only [inK, big, lim, List.length_cons, List.length_nil, List.length_append, List.length_drop, List.length_take, List.length_replicate] at *); omega) (fun k5 => ?_))))) (fun k4 => (fun k6 => ?_))))))))))
  · have hi' : i < ll.length := by simpa using k0
    have hn := cat_next hi'
    have hc2 := cat_len ll (i + 1)
    rw [hn, List.length_append] at hc2
    show -9223372036854775808 ≤ z + ((ll.getD i []).length : Int) ∧ z + ((ll.getD i []).length : Int) ≤ 9223372036854775807
    omega
  · have hi' : i < ll.length := by simpa using k0
    have hn := cat_next hi'
    have e : ((cat ll (i + 1)).length : Int) = ((cat ll i).length : Int) + ((ll.getD i []).length : Int) := by rw [hn, List.length_append]; rfl
    refine Exists.intro ((i + 1, z + ((ll.getD i []).length : Int))) (Exists.intro ([]) (And.intro ?_ (And.intro ?_ (And.intro (by rfl) (And.intro (by rfl) (And.intro True.intro (by rfl)))))))
    · exact ⟨hi', by rw [e, hz]⟩
    · show ll.length - (i + 1) < ll.length - i
      omega
  · have hi' : ¬ i < ll.length := by simpa using k0
    refine ex4 _ (fun j : Nat => ⟨[.sl tIs ll, .any, .any, .any, .any, .any, (match j with | 0 => .ownp 0 1 0 0 | _ + 1 => .own 0), .any, .any, .any, .any, .any, .any, .any, .any, .any, .any, .any, .any, .any, .any, .any, .any, .any, .any, .sl tIs ll, .int .i64 (↑ll.length : Int), .int .i64 (j : Int), .any, .any, .any, .any, .any, .any, .any, .any], [.rows tI (match j with | 0 => List.replicate (z - (0 - 0)).toNat 0 | m + 1 => cat ll (m + 1))], 1⟩) (fun j => j ≤ ll.length) (fun j => ll.length - j) (And.intro (Exists.intro (0) (Exists.intro ([some 0]) (And.intro ?_ (And.intro (by rfl) (And.intro (by rfl) (And.intro (And.intro (by rfl) True.intro) (by rfl))))))) ?_)
    · exact Nat.zero_le _
    rintro j hj
    have hcj := cat_len ll j
    have hcj2 := cat_len ll (j + 1)
    cases j with
    | zero =>
      refine (And.intro (fun m0 => (And.intro (by intros; (try subst_vars); (try simp only [Bool.cond_true_left, Bool.cond_false_right, Bool.or_eq_true, Bool.or_eq_false_iff, Bool.and_eq_true, Bool.not_eq_true', Bool.not_eq_false', decide_eq_true_eq, decide_eq_false_iff_not, Int.not_lt, Int.not_le] at *); (try simp only [inK, big, lim, List.length_cons, List.length_nil, List.length_append, List.length_drop, List.length_take, List.length_replicate] at *); omega) (And.intro ?_ (And.intro (by intros; (try subst_vars); (try simp only [Bool.cond_true_left, Bool.cond_false_right, Bool.or_eq_true, Bool.or_eq_false_iff, Bool.and_eq_true, Bool.not_eq_true', Bool.not_eq_false', decide_eq_true_eq, decide_eq_false_iff_not, Int.not_lt, Int.not_le] at *); (try simp only [inK, big, lim, List.length_cons, List.length_nil, List.length_append, List.length_drop, List.length_take, List.length_replicate] at *); omega) ?_)))) (fun m0 => ?_))
      · have hj' : 0 < ll.length := by simpa using m0
        rw [cat_next hj', List.length_append] at hcj2
        show (0 + (ll.getD 0 []).length) * 8 ≤ lim
        unfold lim
        omega
      · have hj' : 0 < ll.length := by simpa using m0
        refine Exists.intro 1 (Exists.intro [some 1] (And.intro ?_ (And.intro ?_ (And.intro (by rfl) (And.intro (by rfl) (And.intro (And.intro ?_ True.intro) (by rfl)))))))
        · exact hj'
        · show ll.length - 1 < ll.length - 0
          omega
        · show Ob.rows tI (ll.getD 0 []) = Ob.rows tI (cat ll 1)
          rw [cat_next hj']
          rfl
      · exfalso
        have hj' : ¬ 0 < ll.length := by simpa using m0
        have e : ll = [] := List.length_eq_zero_iff.1 (by omega)
        have hz0 : z = 0 := by rw [hz, e]; simp [cat]
        have hk : 0 < z - (0 - 0) := by simpa using k4
        omega
    | succ j =>
      refine (And.intro (fun m0 => (And.intro (by intros; (try subst_vars); (try simp only [Bool.cond_true_left, Bool.cond_false_right, Bool.or_eq_true, Bool.or_eq_false_iff, Bool.and_eq_true, Bool.not_eq_true', Bool.not_eq_false', decide_eq_true_eq, decide_eq_false_iff_not, Int.not_lt, Int.not_le] at *); (try simp only [inK, big, lim, List.length_cons, List.length_nil, List.length_append, List.length_drop, List.length_take, List.length_replicate] at *); omega) (And.intro ?_ (And.intro (by intros; (try subst_vars); (try simp only [Bool.cond_true_left, Bool.cond_false_right, Bool.or_eq_true, Bool.or_eq_false_iff, Bool.and_eq_true, Bool.not_eq_true', Bool.not_eq_false', decide_eq_true_eq, decide_eq_false_iff_not, Int.not_lt, Int.not_le] at *); (try simp only [inK, big, lim, List.length_cons, List.length_nil, List.length_append, List.length_drop, List.length_take, List.length_replicate] at *); omega) ?_)))) (fun m0 => (fin_own rfl ?_)))
      · have hj' : j + 1 < ll.length := Int.ofNat_lt.1 (of_decide_eq_true m0)
        rw [cat_next hj', List.length_append] at hcj2
        show ((cat ll (j + 1)).length + (ll.getD (j + 1) []).length) * 8 ≤ lim
        unfold lim
        omega
      · have hj' : j + 1 < ll.length := Int.ofNat_lt.1 (of_decide_eq_true m0)
        refine Exists.intro (j + 1 + 1) (Exists.intro [some 1] (And.intro ?_ (And.intro ?_ (And.intro (by rfl) (And.intro (by rfl) (And.intro (And.intro ?_ True.intro) (by rfl)))))))
        · exact hj'
        · show ll.length - (j + 1 + 1) < ll.length - (j + 1)
          omega
        · show Ob.rows tI (cat ll (j + 1) ++ ll.getD (j + 1) []) = Ob.rows tI (cat ll (j + 1 + 1))
          rw [cat_next hj']
      · have hj' : ¬ j + 1 < ll.length := fun hh => of_decide_eq_false m0 (Int.ofNat_lt.2 hh)
        exact (cat_end hj').symm
  · have hi' : ¬ i < ll.length := by simpa using k0
    refine ex4 _ (fun j : Nat => ⟨[.sl tIs ll, .any, .any, .any, .any, .any, .own 0, .any, .any, .any, .any, .any, .any, .any, .any, .any, .any, .any, .any, .any, .any, .any, .any, .any, .any, .sl tIs ll, .int .i64 (↑ll.length : Int), .int .i64 (j : Int), .any, .any, .any, .any, .any, .any, .any, .any], [.rows tI (cat ll j)], 1⟩) (fun j => j ≤ ll.length) (fun j => ll.length - j) (And.intro (Exists.intro (0) (Exists.intro ([none]) (And.intro ?_ (And.intro (by rfl) (And.intro (by rfl) (And.intro (And.intro (by rfl) True.intro) (by rfl))))))) ?_)
    · exact Nat.zero_le _
    rintro j hj
    have hcj := cat_len ll j
    have hcj2 := cat_len ll (j + 1)
    refine (And.intro (fun m0 => (And.intro (by intros; (try subst_vars); (try simp only [Bool.cond_true_left, Bool.cond_false_right, Bool.or_eq_true, Bool.or_eq_false_iff, Bool.and_eq_true, Bool.not_eq_true', Bool.not_eq_false', decide_eq_true_eq, decide_eq_false_iff_not, Int.not_lt, Int.not_le] at *); (try simp only [inK, big, lim, List.length_cons, List.length_nil, List.length_append, List.length_drop, List.length_take, List.length_replicate] at *); omega) (And.intro ?_ (And.intro (by intros; (try subst_vars); (try simp only [Bool.cond_true_left, Bool.cond_false_right, Bool.or_eq_true, Bool.or_eq_false_iff, Bool.and_eq_true, Bool.not_eq_true', Bool.not_eq_false', decide_eq_true_eq, decide_eq_false_iff_not, Int.not_lt, Int.not_le] at *); (try simp only [inK, big, lim, List.length_cons, List.length_nil, List.length_append, List.length_drop, List.length_take, List.length_replicate] at *); omega) ?_)))) (fun m0 => (fin_own rfl ?_)))
    · have hj' : j < ll.length := by simpa using m0
      rw [cat_next hj', List.length_append] at hcj2
      show ((cat ll j).length + (ll.getD j []).length) * 8 ≤ lim
      unfold lim
      omega
    · have hj' : j < ll.length := by simpa using m0
      refine Exists.intro (j + 1) (Exists.intro ([some 1]) (And.intro ?_ (And.intro ?_ (And.intro (by rfl) (And.intro (by rfl) (And.intro (And.intro ?_ True.intro) (by rfl)))))))
      · exact hj'
      · show ll.length - (j + 1) < ll.length - j
        omega
      · show Ob.rows tI (cat ll j ++ ll.getD j []) = Ob.rows tI (cat ll (j + 1))
        rw [cat_next hj']
    · have hj' : ¬ j < ll.length := by simpa using m0
      exact (cat_end hj').symm
end Go.Proofs.Ytcghckgbaeindaa
