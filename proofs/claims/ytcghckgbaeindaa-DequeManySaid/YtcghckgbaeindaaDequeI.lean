/- Deque: the law DequeMany, walked. -/
import Derived.Test.YtcghckgbaeindaaDequeE
set_option linter.unusedSimpArgs false
set_option linter.unusedVariables false
set_option maxRecDepth 100000
namespace Go.Proofs.Ytcghckgbaeindaa
open Go.Sx

theorem playS_append : ∀ (l r : List (Int × Int)) (s : List Int × List Int), playS (l ++ r) s = if (playS l s).2.2 = 0 then playS r ((playS l s).1, (playS l s).2.1) else playS l s
  | [], r, s => by simp [playS]
  | o :: l, r, s => by
    rw [List.cons_append]
    by_cases h1 : o.1 = 1
    · by_cases h2 : (dPush s.1 o.2).2 = 0
      · have e : ∀ q, playS (o :: q) s = playS q ((dPush s.1 o.2).1, s.2) := fun q => by rw [playS, if_pos h1, if_pos h2]
        rw [e, e, playS_append l r]
      · have e : ∀ q, playS (o :: q) s = ([], [], (dPush s.1 o.2).2) := fun q => by rw [playS, if_pos h1, if_neg h2]
        rw [e, e, if_neg h2]
    · by_cases h2 : o.1 = 2
      · have e : ∀ q, playS (o :: q) s = playS q (popS s) := fun q => by rw [playS, if_neg h1, if_pos h2]
        rw [e, e, playS_append l r]
      · by_cases h3 : o.1 = 3
        · have e : ∀ q, playS (o :: q) s = playS q (stealS s) := fun q => by rw [playS, if_neg h1, if_neg h2, if_pos h3]
          rw [e, e, playS_append l r]
        · have e : ∀ q, playS (o :: q) s = ([], [], 8) := fun q => by rw [playS, if_neg h1, if_neg h2, if_neg h3]
          rw [e, e, if_neg (by simp)]

def mOp (f k : Int) (i : Nat) : Int × Int := if i % 2 = 1 then (2 + k % 2, 0) else (1, (f + i / 2) % 16)
def mOps (f k : Int) : Nat → List (Int × Int)
  | 0 => []
  | n + 1 => mOps f k n ++ [mOp f k n]
theorem mOps_len {f k : Int} : ∀ n, (mOps f k n).length = n
  | 0 => rfl
  | n + 1 => by simp [mOps, mOps_len n]

theorem push_nil {x : Int} (h0 : 0 ≤ x) (h1 : x < 16) : dPush [] x = ([x], 0) := by
  have e : isTask x = true := by simp [isTask]; omega
  have d : dCheck [] = 0 := by decide
  simp [dPush, d, e, hasI]

theorem mOps_play {f k : Int} (hk : 0 ≤ k) : ∀ n, ∃ out, playS (mOps f k n) ([], []) = (if n % 2 = 1 then [(f + (n / 2 : Nat)) % 16] else [], out, 0)
  | 0 => ⟨[], rfl⟩
  | n + 1 => by
    obtain ⟨out, h⟩ := mOps_play (f := f) hk n
    rw [mOps, playS_append, h, if_pos rfl]
    by_cases hn : n % 2 = 1
    · have e : (n + 1) % 2 ≠ 1 := by omega
      rw [if_pos hn, if_neg e, mOp, if_pos hn]
      have : k % 2 = 0 ∨ k % 2 = 1 := by omega
      rcases this with e | e <;> rw [e]
      · exact ⟨_, by simp [playS, popS]; rfl⟩
      · exact ⟨_, by simp [playS, stealS]; rfl⟩
    · have e : (n + 1) % 2 = 1 := by omega
      rw [if_neg hn, if_pos e, mOp, if_neg hn]
      refine ⟨out, ?_⟩
      have hp := push_nil (x := (f + (n : Int) / 2) % 16) (by omega) (by omega)
      simp only [playS, hp, if_true]
      rw [show ((n + 1) / 2 : Nat) = n / 2 by omega]
      simp

theorem mOps_dPlay {f k : Int} (hk : 0 ≤ k) (n : Nat) : (decide ((n : Int) ≤ 1000) == decide ((dPlay [] (mOps f k n)).2.2 = 0)) = true := by
  obtain ⟨out, h⟩ := mOps_play (f := f) hk n
  have d : dCheck [] = 0 := by decide
  unfold dPlay
  rw [if_neg (by simpa using d), mOps_len]
  by_cases hn : 1000 < (n : Int)
  · rw [if_pos hn, decide_eq_false (by omega)]; rfl
  · rw [if_neg hn, h, decide_eq_true (by omega)]; rfl

set_option maxRecDepth 100000 in
set_option maxHeartbeats 4000000 in
theorem law5 : LawOk Try.prog 5 [.int .u16, .int .u8, .int .u8] [false, false, false] := by
  refine ⟨cx6, 3, cx6_good, fun (⟨c, f, k, _⟩ : Int × Int × Int × Unit) fine => ?_⟩
  obtain ⟨hc, hf, hk, _⟩ := fine
  have c0 : 0 ≤ c := hc.1
  have c1 : c ≤ 65535 := hc.2
  have f0 : 0 ≤ f := hf.1
  have f1 : f ≤ 255 := hf.2
  have k0 : 0 ≤ k := hk.1
  have k1 : k ≤ 255 := hk.2
  clear hc hf hk
  refine (And.intro (by rfl) (And.intro (by intros; (try subst_vars); (try simp only [Bool.cond_true_left, Bool.cond_false_right, Bool.or_eq_true, Bool.or_eq_false_iff, Bool.and_eq_true, Bool.not_eq_true', Bool.not_eq_false', decide_eq_true_eq, decide_eq_false_iff_not, Int.not_lt, Int.not_le] at *); (try simp only [inK, big, lim, List.length_cons, List.length_nil, List.length_append, List.length_drop, List.length_take, List.length_replicate] at *); omega) (And.intro (by intros; (try subst_vars); (try simp only [Bool.cond_true_left, Bool.cond_false_right, Bool.or_eq_true, Bool.or_eq_false_iff, Bool.and_eq_true, Bool.not_eq_true', Bool.not_eq_false', decide_eq_true_eq, decide_eq_false_iff_not, Int.not_lt, Int.not_le] at *); (try simp only [inK, big, lim, List.length_cons, List.length_nil, List.length_append, List.length_drop, List.length_take, List.length_replicate] at *); omega) ?_)))
  refine ex4 _ (fun p : Nat × List (Int × Int) => ⟨[.int .u16 c, .int .u8 f, .int .u8 k, .any, .any, .any, .any, .own 0, .any, .any, .any, .any, .any, .any, .any, .int .u16 c, .int .i64 c, .int .i64 (c.tmod 1004), .int .i64 (p.1 : Int), .any, .any, .any, .any, .any, .any, .any, .any, .any, .any, .any, .any, .any, .any, .any, .any, .any, .any, .any, .any, .any, .any, .any, .any, .any, .any, .any, .any, .any, .any, .any, .any, .any, .any, .any, .any, .any, .any, .any, .any, .any, .any, .any, .any, .any, .any, .any, .any, .any, .any, .any, .any, .any, .any, .any, .any, .any, .any, .any, .any], [.rows tEdge p.2], 1⟩) (fun p => p.1 ≤ (c % 1004).toNat ∧ p.2 = mOps f k p.1) (fun p => (c % 1004).toNat - p.1) (And.intro (Exists.intro ((0, [])) (Exists.intro ([none]) (And.intro ?_ (And.intro (by rfl) (And.intro (by rfl) (And.intro (And.intro (by rfl) True.intro) (by rfl))))))) ?_)
  · exact ⟨Nat.zero_le _, rfl⟩
  rintro ⟨i, l⟩ ⟨hi, hl⟩
  simp only at hi hl
  subst hl
  have t1 : (i : Int).tdiv 2 = (i : Int) / 2 := Int.tdiv_eq_ediv_of_nonneg (by omega)
  have t2 : (i : Int).tmod 2 = (i : Int) % 2 := Int.tmod_eq_emod_of_nonneg (by omega)
  have t3 : c.tmod 1004 = c % 1004 := Int.tmod_eq_emod_of_nonneg c0
  have t4 : k.tmod 2 = k % 2 := Int.tmod_eq_emod_of_nonneg k0
  have t5 : (f + (i : Int) / 2).tmod 16 = (f + (i : Int) / 2) % 16 := Int.tmod_eq_emod_of_nonneg (by omega)
  have hl := mOps_len (f := f) (k := k) i
  refine (And.intro (fun m0 => (And.intro (by (try (change _ ≤ _)); (simp only [t1, t2, t3, t4, t5, hl, decide_eq_true_eq, decide_eq_false_iff_not, List.length_append, List.length_cons, List.length_nil, lim, inK] at *); omega) (And.intro (by (try (change _ ≤ _)); (simp only [t1, t2, t3, t4, t5, hl, decide_eq_true_eq, decide_eq_false_iff_not, List.length_append, List.length_cons, List.length_nil, lim, inK] at *); omega) (And.intro (by (try (change _ ≤ _)); (simp only [t1, t2, t3, t4, t5, hl, decide_eq_true_eq, decide_eq_false_iff_not, List.length_append, List.length_cons, List.length_nil, lim, inK] at *); omega) (And.intro (by (try (change _ ≤ _)); (simp only [t1, t2, t3, t4, t5, hl, decide_eq_true_eq, decide_eq_false_iff_not, List.length_append, List.length_cons, List.length_nil, lim, inK] at *); omega) (And.intro (by (try (change _ ≤ _)); (simp only [t1, t2, t3, t4, t5, hl, decide_eq_true_eq, decide_eq_false_iff_not, List.length_append, List.length_cons, List.length_nil, lim, inK] at *); omega) (And.intro (by (try (change _ ≤ _)); (simp only [t1, t2, t3, t4, t5, hl, decide_eq_true_eq, decide_eq_false_iff_not, List.length_append, List.length_cons, List.length_nil, lim, inK] at *); omega) (And.intro (fun m1 => (And.intro (by (try (change _ ≤ _)); (simp only [t1, t2, t3, t4, t5, hl, decide_eq_true_eq, decide_eq_false_iff_not, List.length_append, List.length_cons, List.length_nil, lim, inK] at *); omega) (And.intro (by (try (change _ ≤ _)); (simp only [t1, t2, t3, t4, t5, hl, decide_eq_true_eq, decide_eq_false_iff_not, List.length_append, List.length_cons, List.length_nil, lim, inK] at *); omega) (And.intro (by (try (change _ ≤ _)); (simp only [t1, t2, t3, t4, t5, hl, decide_eq_true_eq, decide_eq_false_iff_not, List.length_append, List.length_cons, List.length_nil, lim, inK] at *); omega) (And.intro (by (try (change _ ≤ _)); (simp only [t1, t2, t3, t4, t5, hl, decide_eq_true_eq, decide_eq_false_iff_not, List.length_append, List.length_cons, List.length_nil, lim, inK] at *); omega) (And.intro (by (try (change _ ≤ _)); (simp only [t1, t2, t3, t4, t5, hl, decide_eq_true_eq, decide_eq_false_iff_not, List.length_append, List.length_cons, List.length_nil, lim, inK] at *); omega) ?_)))))) (fun m1 => (And.intro (by (try (change _ ≤ _)); (simp only [t1, t2, t3, t4, t5, hl, decide_eq_true_eq, decide_eq_false_iff_not, List.length_append, List.length_cons, List.length_nil, lim, inK] at *); omega) ?_)))))))))) (fun m0 => (And.intro True.intro (fun (m2 : List Int × List Int × Int × PUnit) => (fun m3 => (And.intro True.intro (fun (m4 : List Int × List Int × Int × PUnit) => (fun m5 => (And.intro True.intro (And.intro (fun m6 => True.intro) (fun m7 => (And.intro (fun m8 => True.intro) (fin_of rfl ?_)))))))))))))
  all_goals (try simp only [t1, t2, t3, t4, t5, decide_eq_true_eq, decide_eq_false_iff_not] at *)
  · have e : (mOps f k i ++ [(1, (f + (i : Int) / 2) % 16)]).set (i : Int).toNat (2 + k % 2, 0) = mOps f k (i + 1) := by
      rw [mOps, mOp, if_pos (by omega), Int.toNat_natCast, List.set_append_right _ _ (by omega), hl]
      simp
    rw [e]
    refine Exists.intro ((i + 1, mOps f k (i + 1))) (Exists.intro ([some 2]) (And.intro ?_ (And.intro ?_ (And.intro (by rfl) (And.intro (by rfl) (And.intro (And.intro (by rfl) True.intro) (by rfl)))))))
    · exact ⟨by omega, rfl⟩
    · show (c % 1004).toNat - (i + 1) < (c % 1004).toNat - i
      omega
  · have e : (mOps f k i ++ [(1, (f + (i : Int) / 2) % 16)]) = mOps f k (i + 1) := by
      rw [mOps, mOp, if_neg (by omega)]
    rw [e]
    refine Exists.intro ((i + 1, mOps f k (i + 1))) (Exists.intro ([some 2]) (And.intro ?_ (And.intro ?_ (And.intro (by rfl) (And.intro (by rfl) (And.intro (And.intro (by rfl) True.intro) (by rfl)))))))
    · exact ⟨by omega, rfl⟩
    · show (c % 1004).toNat - (i + 1) < (c % 1004).toNat - i
      omega
  · subst m3 m5
    have e := mOps_dPlay (f := f) k0 i
    simp only [hl]
    simp only [decide_true, cond_true, e]
end Go.Proofs.Ytcghckgbaeindaa
