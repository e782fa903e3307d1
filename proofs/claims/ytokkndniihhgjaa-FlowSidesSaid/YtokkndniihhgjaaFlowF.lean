/- Flow: the laws FlowValid and FlowSides, walked. -/
import Derived.Test.YtokkndniihhgjaaFlowP
import Derived.Test.YtokkndniihhgjaaFlowE
set_option linter.unusedSimpArgs false
set_option linter.unusedVariables false
namespace Go.Proofs.Ytokkndniihhgjaa
open Go.Sx

set_option maxRecDepth 100000 in
set_option maxHeartbeats 4000000 in
theorem law9 : LawOk Try.prog 9 [tCred, tEdge] [true, true] := by
  refine ⟨cxM, 3, cxM_good, fun (⟨⟨cap, gr, se, ta, xs, cl⟩, ⟨fr, to⟩, _⟩ : Cred × (Int × Int) × Unit) _ => ?_⟩
  refine (And.intro (by rfl) (And.intro True.intro (And.intro (fun h0 => (And.intro True.intro (fin_of rfl (by subst_vars; simp [sameCred_self])))) (fun h0 => (And.intro True.intro (fun (h1 : (Int × Int × Int × Int × List Int × Bool) × Int × Int × PUnit) => (fun h2 => (And.intro True.intro (fun (h3 : (Int × Int × Int × Int × List Int × Bool) × Int × PUnit) => (fun h4 => (And.intro (fun h5 => True.intro) (And.intro (fun h6 => True.intro) (And.intro (fun h7 => (fin_of rfl ?_)) (fun h7 => (And.intro (fun h8 => True.intro) (And.intro (fun h9 => True.intro) (fin_of rfl ?_)))))))))))))))))
  · subst_vars
    exfalso
    simp at h7
    rcases h7 with ⟨a, b⟩ | ⟨a, b⟩
    · exact b (fNew_ok a).1
    · exact b (doS_ok a).1
  · obtain ⟨⟨r1, r2, r3, r4, r5, r6⟩, x, y, _⟩ := h1
    simp only [Prod.mk.injEq, and_true] at h2
    obtain ⟨k, rfl, rfl⟩ := h2
    by_cases a : (doS (cap, gr, se, ta, xs, cl) (fr, to)).2.2 = 0
    · have e := doS_ok a
      rw [← k] at e
      obtain ⟨e1, e2, e3⟩ := e
      simp only at e3
      subst e3
      simp [a, e2]
    · simp [a]

set_option maxRecDepth 100000 in
set_option maxHeartbeats 4000000 in
theorem law8 : LawOk Try.prog 8 [tCred, tI, tI] [true, false, false] := by
  refine ⟨cxM, 3, cxM_good, fun (⟨⟨cap, gr, se, ta, xs, cl⟩, it, n, _⟩ : Cred × Int × Int × Unit) _ => ?_⟩
  refine (And.intro (by rfl) (And.intro True.intro (And.intro (fun h0 => (And.intro True.intro (fin_of rfl (by subst_vars; simp [sameCred_self])))) (fun h0 => (fun h1 => ?_)))))
  refine ex4 _ (fun i : Nat => ⟨[.any, .int .i64 it, .int .i64 n, .ptr 0 0, .any, .any, .any, .any, .any, .any, .any, .any, .any, .any, .any, .any, .any, .any, .any, .any, .any, .any, .any, .any, .int .i64 it, .agg [.int .i64 2, .int .i64 it], .agg [.int .i64 4, .int .i64 0], .own 1, .int .i64 (↑[(2, it), (4, 0)].length : Int), .int .i64 (i : Int), .any, .any, .any, .any, .any, .any, .any, .any, .any, .any, .any, .any, .any, .any, .any, .any, .any, .any, .any, .any, .any, .any, .any, .any, .any, .any, .any, .any, .any, .any, .any, .any, .any, .any, .any, .any, .any, .any, .any, .any, .any, .any, .any, .any, .any, .any, .any, .any, .any, .any, .any, .any, .any, .any, .any, .any, .any, .any, .any, .any, .any, .any, .any, .any, .any, .any, .any, .any, .any, .any, .any, .any, .any, .any, .any, .any], [.cells   [.int .i64 cap, .int .i64 gr, .int .i64 se, .int .i64 ta,     .sl (.int .i64) xs, .bool cl], .rows tEdge [(2, it), (4, 0)]], 2⟩) (fun i => i ≤ 2) (fun i => 2 - i) (And.intro (Exists.intro (0) (Exists.intro ([some 0, some 1]) (And.intro ?_ (And.intro (by rfl) (And.intro (by rfl) (And.intro (And.intro (And.intro (by rfl) (by rfl)) (And.intro (by rfl) True.intro)) (by rfl))))))) ?_)
  · omega
  rintro i hi
  refine (And.intro (fun k0 => (And.intro (by intros; (try subst_vars); (try simp only [Bool.cond_true_left, Bool.cond_false_right, Bool.or_eq_true, Bool.or_eq_false_iff, Bool.and_eq_true, Bool.not_eq_true', Bool.not_eq_false', decide_eq_true_eq, decide_eq_false_iff_not, Int.not_lt, Int.not_le] at *); (try simp only [inK, big, lim, List.length_cons, List.length_nil, List.length_append, List.length_drop, List.length_take, List.length_replicate] at *); omega) (fun k1 => ?_))) (fun k0 => (And.intro True.intro (fin_of rfl (by subst_vars; simp [sameCred_self])))))
  refine ex4 _ (fun j : Nat => ⟨[.any, .int .i64 it, .int .i64 n, .ptr 0 0, .any, .any, .any, .any, .ptr 2 0, .any, .any, .any, .any, .any, .any, .any, .any, .any, .any, .any, .any, .any, .any, .any, .int .i64 it, .agg [.int .i64 2, .int .i64 it], .agg [.int .i64 4, .int .i64 0], .own 1, .int .i64 (↑[(2, it), (4, 0)].length : Int), .int .i64 (↑i : Int), .bool (decide ((↑i : Int) < (↑[(2, it), (4, 0)].length : Int))), .rptr 1 tEdge.size (↑i : Int).toNat 0, .agg   [.int .i64 ([(2, it), (4, 0)].getD (↑i : Int).toNat (dflt tEdge)).1,     .int .i64 ([(2, it), (4, 0)].getD (↑i : Int).toNat (dflt tEdge)).2], .int .i64 n, .agg [.int .i64 1, .int .i64 n], .agg [.int .i64 3, .int .i64 0], .own 3, .int .i64 (↑[(1, n), (3, 0)].length : Int), .int .i64 (j : Int), .any, .any, .any, .any, .any, .any, .any, .any, .any, .any, .any, .any, .any, .any, .any, .any, .any, .any, .any, .any, .any, .any, .any, .any, .any, .any, .any, .any, .any, .any, .any, .any, .any, .any, .any, .any, .any, .any, .any, .any, .any, .any, .any, .any, .any, .any, .any, .any, .any, .any, .any, .any, .any, .any, .any, .any, .any, .any, .any, .any, .any, .any, .any, .any, .any, .any, .any], [.cells   [.int .i64 cap, .int .i64 gr, .int .i64 se, .int .i64 ta,     .sl (.int .i64) xs, .bool cl], .rows tEdge [(2, it), (4, 0)], .cells   [.int .i64 ([(2, it), (4, 0)].getD (↑i : Int).toNat (dflt tEdge)).1,     .int .i64 ([(2, it), (4, 0)].getD (↑i : Int).toNat (dflt tEdge)).2], .rows tEdge [(1, n), (3, 0)]], 4⟩) (fun j => j ≤ 2) (fun j => 2 - j) (And.intro (Exists.intro (0) (Exists.intro ([some 0, some 1, some 2, some 3]) (And.intro ?_ (And.intro (by rfl) (And.intro (by rfl) (And.intro (And.intro (And.intro (by rfl) (by rfl)) (And.intro (by rfl) (And.intro (And.intro (by rfl) (by rfl)) (And.intro (by rfl) True.intro)))) (by rfl))))))) ?_)
  · omega
  rintro j hj
  refine (And.intro (fun m0 => (And.intro (by intros; (try subst_vars); (try simp only [Bool.cond_true_left, Bool.cond_false_right, Bool.or_eq_true, Bool.or_eq_false_iff, Bool.and_eq_true, Bool.not_eq_true', Bool.not_eq_false', decide_eq_true_eq, decide_eq_false_iff_not, Int.not_lt, Int.not_le] at *); (try simp only [inK, big, lim, List.length_cons, List.length_nil, List.length_append, List.length_drop, List.length_take, List.length_replicate] at *); omega) (And.intro True.intro (fun (m1 : (Int × Int × Int × Int × List Int × Bool) × Int × Int × PUnit) => (fun m2 => (And.intro True.intro (fun (m3 : (Int × Int × Int × Int × List Int × Bool) × Int × Int × PUnit) => (fun m4 => (And.intro (fun m5 => (And.intro (by intros; (try subst_vars); (try simp only [Bool.cond_true_left, Bool.cond_false_right, Bool.or_eq_true, Bool.or_eq_false_iff, Bool.and_eq_true, Bool.not_eq_true', Bool.not_eq_false', decide_eq_true_eq, decide_eq_false_iff_not, Int.not_lt, Int.not_le] at *); (try simp only [inK, big, lim, List.length_cons, List.length_nil, List.length_append, List.length_drop, List.length_take, List.length_replicate] at *); omega) ?_)) (fun m5 => (And.intro True.intro (fun (m6 : (Int × Int × Int × Int × List Int × Bool) × Int × Int × PUnit) => (fun m7 => (And.intro True.intro (fun (m8 : (Int × Int × Int × Int × List Int × Bool) × Int × Int × PUnit) => (fun m9 => (And.intro (fun m10 => True.intro) (And.intro (fun m11 => (fin_of rfl ?_)) (fun m11 => (And.intro (by intros; (try subst_vars); (try simp only [Bool.cond_true_left, Bool.cond_false_right, Bool.or_eq_true, Bool.or_eq_false_iff, Bool.and_eq_true, Bool.not_eq_true', Bool.not_eq_false', decide_eq_true_eq, decide_eq_false_iff_not, Int.not_lt, Int.not_le] at *); (try simp only [inK, big, lim, List.length_cons, List.length_nil, List.length_append, List.length_drop, List.length_take, List.length_replicate] at *); omega) ?_)))))))))))))))))))) (fun m0 => (And.intro (by intros; (try subst_vars); (try simp only [Bool.cond_true_left, Bool.cond_false_right, Bool.or_eq_true, Bool.or_eq_false_iff, Bool.and_eq_true, Bool.not_eq_true', Bool.not_eq_false', decide_eq_true_eq, decide_eq_false_iff_not, Int.not_lt, Int.not_le] at *); (try simp only [inK, big, lim, List.length_cons, List.length_nil, List.length_append, List.length_drop, List.length_take, List.length_replicate] at *); omega) ?_)))
  · refine Exists.intro (j + 1) (Exists.intro ([some 0, some 1, some 2, some 3]) (And.intro ?_ (And.intro ?_ (And.intro (by rfl) (And.intro (by rfl) (And.intro (And.intro (And.intro (by rfl) (by rfl)) (And.intro (by rfl) (And.intro (And.intro (by rfl) (by rfl)) (And.intro (by rfl) True.intro)))) (by rfl)))))))
    · have : j < 2 := by simp at m0; omega
      omega
    · have : j < 2 := by simp at m0; omega
      show 2 - (j + 1) < 2 - j
      omega
  · exfalso
    have hi2 : i < 2 := by simp at k0; omega
    have hj2 : j < 2 := by simp at m0; omega
    obtain ⟨⟨a1, a2, a3, a4, a5, a6⟩, x1, e1, _⟩ := m1
    obtain ⟨⟨b1, b2, b3, b4, b5, b6⟩, x2, e2, _⟩ := m3
    obtain ⟨⟨c1, c2, c3, c4, c5, c6⟩, x3, e3, _⟩ := m6
    obtain ⟨⟨d1, d2, d3, d4, d5, d6⟩, x4, e4, _⟩ := m8
    simp only [Int.toNat_natCast, Prod.mk.injEq, and_true] at m2 m4 m5 m7 m9 m11
    have hp : ([((2 : Int), it), (4, 0)].getD i (dflt tEdge)) = (2, it) ∨ ([((2 : Int), it), (4, 0)].getD i (dflt tEdge)) = (4, 0) := by
      rcases (by omega : i = 0 ∨ i = 1) with rfl | rfl
      · exact .inl rfl
      · exact .inr rfl
    have hq : ([((1 : Int), n), (3, 0)].getD j (dflt tEdge)) = (1, n) ∨ ([((1 : Int), n), (3, 0)].getD j (dflt tEdge)) = (3, 0) := by
      rcases (by omega : j = 0 ∨ j = 1) with rfl | rfl
      · exact .inl rfl
      · exact .inr rfl
    have S0 := @sides_ok (cap, gr, se, ta, xs, cl) it n _ _ hp hq
    rcases hp with hP | hP <;> rcases hq with hQ | hQ <;> simp only [hP, hQ] at m2 m4 m5 m7 m9 m11 S0
    all_goals
      rw [m2.1] at m7
      rw [m4.1] at m9
      obtain ⟨k1', rfl, rfl⟩ := m2
      obtain ⟨k2', rfl, rfl⟩ := m4
      obtain ⟨k3', rfl, rfl⟩ := m7
      obtain ⟨k4', rfl, rfl⟩ := m9
      have S := S0 (by simp_all) (by simp_all) (by simp_all)
      have S4 : sameCred (c1, c2, c3, c4, c5, c6) (d1, d2, d3, d4, d5, d6) = true := sameCred_of (by rw [k3', k4', S.2.2.2])
      rw [S4] at m11
      simp [S.1, S.2.1, S.2.2.1] at m11
  · refine Exists.intro (j + 1) (Exists.intro ([some 0, some 1, some 2, some 3]) (And.intro ?_ (And.intro ?_ (And.intro (by rfl) (And.intro (by rfl) (And.intro (And.intro (And.intro (by rfl) (by rfl)) (And.intro (by rfl) (And.intro (And.intro (by rfl) (by rfl)) (And.intro (by rfl) True.intro)))) (by rfl)))))))
    · have : j < 2 := by simp at m0; omega
      omega
    · have : j < 2 := by simp at m0; omega
      show 2 - (j + 1) < 2 - j
      omega
  · refine Exists.intro (i + 1) (Exists.intro ([some 0, some 1]) (And.intro ?_ (And.intro ?_ (And.intro (by rfl) (And.intro (by rfl) (And.intro (And.intro (And.intro (by rfl) (by rfl)) (And.intro (by rfl) True.intro)) (by rfl)))))))
    · have : i < 2 := by simp at k0; omega
      omega
    · have : i < 2 := by simp at k0; omega
      show 2 - (i + 1) < 2 - i
      omega
end Go.Proofs.Ytokkndniihhgjaa
