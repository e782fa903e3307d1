/- Flow: the laws FlowDemand and FlowOrder, walked. -/
import Derived.Test.YtokkndniihhgjaaFlowH
set_option linter.unusedSimpArgs false
set_option linter.unusedVariables false
namespace Go.Proofs.Ytokkndniihhgjaa
open Go.Sx

def cxR : Ctx := ⟨tys0, (30, ([], c30)) :: cxM.tab⟩
theorem cxR_good : GoodCtx Try.prog cxR := cx_cons good30 cxM_good

theorem fNew_yes {n : Int} (h1 : 1 ≤ n) (h2 : n ≤ 100) : fNew n = ((n, 0, 0, 0, [], false), 0) := by
  unfold fNew
  rw [if_neg (by simp [inR]; omega)]
theorem fresh_ok {n : Int} (h1 : 1 ≤ n) (h2 : n ≤ 100) : fCheck (n, 0, 0, 0, [], false) = 0 := by
  have := (fNew_ok (n := n) (by rw [fNew_yes h1 h2])).1
  rwa [fNew_yes h1 h2] at this
theorem runS_end {c0 : Cred} (h0 : fCheck c0 = 0) (l : List (Int × Int)) : RunInv c0 l.length (runS c0 l) := by
  have := runS_inv h0 l l.length (Nat.le_refl _)
  rwa [List.take_length] at this

set_option maxRecDepth 100000 in
set_option maxHeartbeats 4000000 in
theorem law6 : LawOk Try.prog 6 [.int .u8, .sl tEdge] [false, false] := by
  refine ⟨cxR, 3, cxR_good, fun (⟨a, l, _⟩ : Int × List (Int × Int) × Unit) hf => ?_⟩
  have ha : 0 ≤ a ∧ a ≤ 255 := hf.1
  have hm := Int.tmod_eq_emod_of_nonneg (b := 100) ha.1
  refine (And.intro (by rfl) (And.intro (by intros; (try subst_vars); (try simp only [Bool.cond_true_left, Bool.cond_false_right, Bool.or_eq_true, Bool.or_eq_false_iff, Bool.and_eq_true, Bool.not_eq_true', Bool.not_eq_false', decide_eq_true_eq, decide_eq_false_iff_not, Int.not_lt, Int.not_le] at *); (try simp only [inK, big, lim, List.length_cons, List.length_nil, List.length_append, List.length_drop, List.length_take, List.length_replicate] at *); omega) (And.intro (by intros; (try subst_vars); (try simp only [Bool.cond_true_left, Bool.cond_false_right, Bool.or_eq_true, Bool.or_eq_false_iff, Bool.and_eq_true, Bool.not_eq_true', Bool.not_eq_false', decide_eq_true_eq, decide_eq_false_iff_not, Int.not_lt, Int.not_le] at *); (try simp only [inK, big, lim, List.length_cons, List.length_nil, List.length_append, List.length_drop, List.length_take, List.length_replicate] at *); omega) (And.intro (by intros; (try subst_vars); (try simp only [Bool.cond_true_left, Bool.cond_false_right, Bool.or_eq_true, Bool.or_eq_false_iff, Bool.and_eq_true, Bool.not_eq_true', Bool.not_eq_false', decide_eq_true_eq, decide_eq_false_iff_not, Int.not_lt, Int.not_le] at *); (try simp only [inK, big, lim, List.length_cons, List.length_nil, List.length_append, List.length_drop, List.length_take, List.length_replicate] at *); omega) (And.intro True.intro (fun (h0 : (Int × Int × Int × Int × List Int × Bool) × Int × PUnit) => (fun h1 => (fun h2 => (And.intro (fun h3 => (And.intro (fun h4 => True.intro) (fin_of rfl ?_))) (fun h3 => (And.intro ?_ (fun (h5 : (Int × Int × Int × Int × List Int × Bool) × Int × List Int × List Int × PUnit) => (fun h6 => (fun h7 => (fun h8 => (And.intro (by intros; (try subst_vars); (try simp only [Bool.cond_true_left, Bool.cond_false_right, Bool.or_eq_true, Bool.or_eq_false_iff, Bool.and_eq_true, Bool.not_eq_true', Bool.not_eq_false', decide_eq_true_eq, decide_eq_false_iff_not, Int.not_lt, Int.not_le] at *); (try simp only [inK, big, lim, List.length_cons, List.length_nil, List.length_append, List.length_drop, List.length_take, List.length_replicate] at *); omega) (fun h9 => (And.intro (fun h10 => ?_) (fun h11 => (And.intro (fun h12 => ?_) (fun h13 => (fun h14 => (fun h15 => (And.intro (fun h16 => True.intro) (fin_of rfl ?_)))))))))))))))))))))))))
  · simp only at *
    have e0 : h0 = ((1 + a.tmod 100, 0, 0, 0, [], false), 0, ()) := by rw [h1, fNew_yes (by omega) (by omega)]
    clear h1
    subst e0
    simp
  · simp only at *
    have e0 : h0 = ((1 + a.tmod 100, 0, 0, 0, [], false), 0, ()) := by rw [h1, fNew_yes (by omega) (by omega)]
    clear h1
    subst e0
    exact ⟨fresh_ok (n := 1 + a.tmod 100) (by omega) (by omega), by simp at h3; omega⟩
  · simp only at *
    have e0 : h0 = ((1 + a.tmod 100, 0, 0, 0, [], false), 0, ()) := by rw [h1, fNew_yes (by omega) (by omega)]
    clear h1
    subst e0
    have hi := runS_end (c0 := (1 + a.tmod 100, 0, 0, 0, [], false)) (fresh_ok (by omega) (by omega)) l
    have e5 : h5 = ((runS (1 + a.tmod 100, 0, 0, 0, [], false) l).1, (runS (1 + a.tmod 100, 0, 0, 0, [], false) l).2.1, (runS (1 + a.tmod 100, 0, 0, 0, [], false) l).2.2.1, (runS (1 + a.tmod 100, 0, 0, 0, [], false) l).2.2.2, ()) := h6
    clear h6
    subst e5
    obtain ⟨v1, v2, v3, v4, v5, v6, v7, v8⟩ := hi
    have hb := (ok_iff _).1 v1
    have hl : l.length ≤ 60 := by simp at h3; omega
    simp only [inK] at *
    omega
  · simp only at *
    have e0 : h0 = ((1 + a.tmod 100, 0, 0, 0, [], false), 0, ()) := by rw [h1, fNew_yes (by omega) (by omega)]
    clear h1
    subst e0
    have hi := runS_end (c0 := (1 + a.tmod 100, 0, 0, 0, [], false)) (fresh_ok (by omega) (by omega)) l
    have e5 : h5 = ((runS (1 + a.tmod 100, 0, 0, 0, [], false) l).1, (runS (1 + a.tmod 100, 0, 0, 0, [], false) l).2.1, (runS (1 + a.tmod 100, 0, 0, 0, [], false) l).2.2.1, (runS (1 + a.tmod 100, 0, 0, 0, [], false) l).2.2.2, ()) := h6
    clear h6
    subst e5
    obtain ⟨v1, v2, v3, v4, v5, v6, v7, v8⟩ := hi
    have hb := (ok_iff _).1 v1
    have hl : l.length ≤ 60 := by simp at h3; omega
    simp only [inK] at *
    omega
  · simp only at *
    have e0 : h0 = ((1 + a.tmod 100, 0, 0, 0, [], false), 0, ()) := by rw [h1, fNew_yes (by omega) (by omega)]
    clear h1
    subst e0
    have hi := runS_end (c0 := (1 + a.tmod 100, 0, 0, 0, [], false)) (fresh_ok (by omega) (by omega)) l
    have e5 : h5 = ((runS (1 + a.tmod 100, 0, 0, 0, [], false) l).1, (runS (1 + a.tmod 100, 0, 0, 0, [], false) l).2.1, (runS (1 + a.tmod 100, 0, 0, 0, [], false) l).2.2.1, (runS (1 + a.tmod 100, 0, 0, 0, [], false) l).2.2.2, ()) := h6
    clear h6
    subst e5
    obtain ⟨v1, v2, v3, v4, v5, v6, v7, v8⟩ := hi
    have hb := (ok_iff _).1 v1
    have hl : l.length ≤ 60 := by simp at h3; omega
    simp only at *
    simp
    omega

set_option maxRecDepth 100000 in
set_option maxHeartbeats 4000000 in
theorem law7 : LawOk Try.prog 7 [.int .u8, .sl tEdge] [false, false] := by
  refine ⟨cxR, 3, cxR_good, fun (⟨a, l, _⟩ : Int × List (Int × Int) × Unit) hf => ?_⟩
  have ha : 0 ≤ a ∧ a ≤ 255 := hf.1
  have hm := Int.tmod_eq_emod_of_nonneg (b := 100) ha.1
  refine (And.intro (by rfl) (And.intro (by intros; (try subst_vars); (try simp only [Bool.cond_true_left, Bool.cond_false_right, Bool.or_eq_true, Bool.or_eq_false_iff, Bool.and_eq_true, Bool.not_eq_true', Bool.not_eq_false', decide_eq_true_eq, decide_eq_false_iff_not, Int.not_lt, Int.not_le] at *); (try simp only [inK, big, lim, List.length_cons, List.length_nil, List.length_append, List.length_drop, List.length_take, List.length_replicate] at *); omega) (And.intro (by intros; (try subst_vars); (try simp only [Bool.cond_true_left, Bool.cond_false_right, Bool.or_eq_true, Bool.or_eq_false_iff, Bool.and_eq_true, Bool.not_eq_true', Bool.not_eq_false', decide_eq_true_eq, decide_eq_false_iff_not, Int.not_lt, Int.not_le] at *); (try simp only [inK, big, lim, List.length_cons, List.length_nil, List.length_append, List.length_drop, List.length_take, List.length_replicate] at *); omega) (And.intro (by intros; (try subst_vars); (try simp only [Bool.cond_true_left, Bool.cond_false_right, Bool.or_eq_true, Bool.or_eq_false_iff, Bool.and_eq_true, Bool.not_eq_true', Bool.not_eq_false', decide_eq_true_eq, decide_eq_false_iff_not, Int.not_lt, Int.not_le] at *); (try simp only [inK, big, lim, List.length_cons, List.length_nil, List.length_append, List.length_drop, List.length_take, List.length_replicate] at *); omega) (And.intro True.intro (fun (h0 : (Int × Int × Int × Int × List Int × Bool) × Int × PUnit) => (fun h1 => (fun h2 => (And.intro (fun h3 => (And.intro (fun h4 => True.intro) (fin_of rfl ?_))) (fun h3 => (And.intro ?_ (fun (h5 : (Int × Int × Int × Int × List Int × Bool) × Int × List Int × List Int × PUnit) => (fun h6 => (fun h7 => (And.intro (by rfl) (And.intro (fun h8 h9 => (by intros; (try subst_vars); (try simp only [Bool.cond_true_left, Bool.cond_false_right, Bool.or_eq_true, Bool.or_eq_false_iff, Bool.and_eq_true, Bool.not_eq_true', Bool.not_eq_false', decide_eq_true_eq, decide_eq_false_iff_not, Int.not_lt, Int.not_le] at *); (try simp only [inK, big, lim, List.length_cons, List.length_nil, List.length_append, List.length_drop, List.length_take, List.length_replicate] at *); omega)) (And.intro (fun h10 h11 => True.intro) (And.intro (fun h12 h13 => (by intros; (try subst_vars); (try simp only [Bool.cond_true_left, Bool.cond_false_right, Bool.or_eq_true, Bool.or_eq_false_iff, Bool.and_eq_true, Bool.not_eq_true', Bool.not_eq_false', decide_eq_true_eq, decide_eq_false_iff_not, Int.not_lt, Int.not_le] at *); (try simp only [inK, big, lim, List.length_cons, List.length_nil, List.length_append, List.length_drop, List.length_take, List.length_replicate] at *); omega)) (And.intro (fun h14 h15 => True.intro) (And.intro (fun h16 h17 => True.intro) (fun h18 => (fin_of rfl ?_))))))))))))))))))))))
  · simp only at *
    have e0 : h0 = ((1 + a.tmod 100, 0, 0, 0, [], false), 0, ()) := by rw [h1, fNew_yes (by omega) (by omega)]
    clear h1
    subst e0
    simp
  · simp only at *
    have e0 : h0 = ((1 + a.tmod 100, 0, 0, 0, [], false), 0, ()) := by rw [h1, fNew_yes (by omega) (by omega)]
    clear h1
    subst e0
    exact ⟨fresh_ok (n := 1 + a.tmod 100) (by omega) (by omega), by simp at h3; omega⟩
  · simp only at *
    have e0 : h0 = ((1 + a.tmod 100, 0, 0, 0, [], false), 0, ()) := by rw [h1, fNew_yes (by omega) (by omega)]
    clear h1
    subst e0
    have hi := runS_end (c0 := (1 + a.tmod 100, 0, 0, 0, [], false)) (fresh_ok (by omega) (by omega)) l
    have e5 : h5 = ((runS (1 + a.tmod 100, 0, 0, 0, [], false) l).1, (runS (1 + a.tmod 100, 0, 0, 0, [], false) l).2.1, (runS (1 + a.tmod 100, 0, 0, 0, [], false) l).2.2.1, (runS (1 + a.tmod 100, 0, 0, 0, [], false) l).2.2.2, ()) := h6
    clear h6
    subst e5
    obtain ⟨v1, v2, v3, v4, v5, v6, v7, v8⟩ := hi
    have hb := (ok_iff _).1 v1
    have hl : l.length ≤ 60 := by simp at h3; omega
    simp only [List.nil_append] at v8
    simp [v8]
    omega
end Go.Proofs.Ytokkndniihhgjaa
