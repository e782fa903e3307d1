/- Flow: the law FlowProgress, walked. -/
import Derived.Test.YtokkndniihhgjaaFlowP
import Derived.Test.YtokkndniihhgjaaFlowE
set_option linter.unusedSimpArgs false
set_option linter.unusedVariables false
namespace Go.Proofs.Ytokkndniihhgjaa
open Go.Sx

theorem fSend_full {c : Cred} {x : Int} (h1 : fCheck c = 0) (h2 : badItem x = false) (h3 : c.2.2.2.2.2 = false) (h4 : c.2.2.1 = c.2.1) : fSend c x = (zCred, 18) := by
  unfold fSend
  rw [if_neg (by simpa using h1), if_neg (by simp [h2]), if_neg (by simp [h3]), if_pos h4]
theorem rep_ok {cap gr se ta it : Int} {xs : List Int} {b : Bool} {i : Nat} (h : fCheck (cap, gr, se, ta, xs, b) = 0) (hb : badItem it = false) (hi : (i : Int) ≤ gr - se) : fCheck (cap, gr, se + i, ta, xs ++ List.replicate i it, b) = 0 := by
  have hc := (ok_iff _).1 h
  simp only at hc
  refine (ok_iff _).2 ?_
  simp only [List.length_append, List.length_replicate, List.any_append, Bool.or_eq_false_iff]
  refine ⟨hc.1, hc.2.1, hc.2.2.1, by omega, by omega, by omega, by omega, by omega, hc.2.2.2.2.2.2.2.2, ?_⟩
  simp only [List.any_eq_false, List.mem_replicate]
  rintro x ⟨_, rfl⟩
  simp [hb]
theorem fRoom_open {c : Cred} (h1 : fCheck c = 0) (h3 : c.2.2.2.2.2 = false) : fRoom c = c.2.1 - c.2.2.1 := by
  unfold fRoom
  rw [if_neg (by simp [h1, h3])]

set_option maxRecDepth 100000 in
set_option maxHeartbeats 4000000 in
theorem law3 : LawOk Try.prog 3 [tCred, tI] [true, false] := by
  refine ⟨cxM, 3, cxM_good, fun (⟨⟨cap, gr, se, ta, xs, cl⟩, it, _⟩ : Cred × Int × Unit) _ => ?_⟩
  refine (And.intro (by rfl) (And.intro True.intro (And.intro (fun h0 => True.intro) (And.intro (fun h1 => (And.intro True.intro (fin_of rfl (by subst_vars; simp [sameCred_self])))) (fun h1 => (And.intro True.intro (fun (h2 : (Int × Int × Int × Int × List Int × Bool) × Int × Int × PUnit) => (fun h3 => (And.intro True.intro (fun (h4 : (Int × Int × Int × Int × List Int × Bool) × Int × PUnit) => (fun h5 => (And.intro True.intro (fun (h6 : (Int × Int × Int × Int × List Int × Bool) × Int × PUnit) => (fun h7 => (And.intro (fun h8 => (fin_of rfl ?_)) (fun h8 => (And.intro True.intro ?_)))))))))))))))))
  · exfalso
    simp at h1
    obtain ⟨⟨⟨⟨h1a, h1b⟩, h1c⟩, h1d⟩, h1e⟩ := h1
    have hbad : badItem it = false := by simp [badItem, inR]; omega
    have hc := (ok_iff _).1 h1b
    simp only at hc
    simp only at h3 h5 h7
    subst h3 h5 h7
    simp at h8
    obtain ⟨⟨⟨g1, g2⟩, g3⟩, g4⟩ := h8
    cases hx : xs with
    | cons x l => exact g2 (by rw [fTake_yes (x := x) (l := l) h1b hx])
    | nil =>
      have hl : xs.length = 0 := by rw [hx]; rfl
      by_cases hs : se = gr
      · exact g3 (by rw [fReq_yes h1b (by omega) (by simpa using h1c) (by simp only; omega) (by simp only; omega)])
      · exact g4 (by rw [fSend_yes h1b hbad (by simpa using h1c) (by simp only; omega)])
  · 
    simp at h1
    obtain ⟨⟨⟨⟨h1a, h1b⟩, h1c⟩, h1d⟩, h1e⟩ := h1
    have hbad : badItem it = false := by simp [badItem, inR]; omega
    have hc := (ok_iff _).1 h1b
    simp only at hc
    clear h8
    obtain rfl : cl = false := by simpa using h1c
    have hr : fRoom (cap, gr, se, ta, xs, false) = gr - se := fRoom_open h1b rfl
    refine ex4 _ (fun p : Nat × Cred => ⟨[.any, .int .i64 it, .ptr 0 0, .any, .any, .any, .any, .any, .any, .any, .any, .any, .ptr 4 0, .any, .any, .any, .any, .any, .any, .any, .any, .any, .any, .any, .any, .any, .any, .any, .any, .any, .any, .any, .any, .any, .any, .any, .any, .any, .any, .any, .any, .any, .any, .any, .any, .any, .any, .any, .any, .any, .any, .any, .any, .any, .any, .any, .any, .any, .any, .any, .any, .any, .any, .any, .any, .any, .any, .any, .any, .any, .agg   [.int .i64 cap, .int .i64 gr, .int .i64 se, .int .i64 ta,     .sl (.int .i64) xs, .bool false], .int .i64 (fRoom (cap, gr, se, ta, xs, false)), .int .i64 (p.1 : Int), .any, .any, .any, .any, .any, .any, .any, .any, .any, .any, .any, .any, .any, .any, .any, .any, .any, .any, .any, .any, .any, .any, .any, .any, .any, .any, .any, .any, .any, .any, .any, .any, .any, .any, .any, .any, .any, .any, .any], [.cells   [.int .i64 cap, .int .i64 gr, .int .i64 se, .int .i64 ta,     .sl (.int .i64) xs, .bool false], .cells   [.int .i64 h2.1.1, .int .i64 h2.1.2.1, .int .i64 h2.1.2.2.1,     .int .i64 h2.1.2.2.2.1, .sl (.int .i64) h2.1.2.2.2.2.1, .bool h2.1.2.2.2.2.2], .cells   [.int .i64 h4.1.1, .int .i64 h4.1.2.1, .int .i64 h4.1.2.2.1,     .int .i64 h4.1.2.2.2.1, .sl (.int .i64) h4.1.2.2.2.2.1, .bool h4.1.2.2.2.2.2], .cells   [.int .i64 h6.1.1, .int .i64 h6.1.2.1, .int .i64 h6.1.2.2.1,     .int .i64 h6.1.2.2.2.1, .sl (.int .i64) h6.1.2.2.2.2.1, .bool h6.1.2.2.2.2.2], .cells [.int .i64 p.2.1, .int .i64 p.2.2.1, .int .i64 p.2.2.2.1, .int .i64 p.2.2.2.2.1, .sl tI p.2.2.2.2.2.1, .bool p.2.2.2.2.2.2]], 5⟩) (fun p => (p.1 : Int) ≤ gr - se ∧ p.2 = (cap, gr, se + (p.1 : Int), ta, xs ++ List.replicate p.1 it, false)) (fun p => (gr - se).toNat - p.1) (And.intro (Exists.intro ((0, (cap, gr, se, ta, xs, false))) (Exists.intro ([some 0, some 1, some 2, some 3, some 4]) (And.intro ?_ (And.intro (by rfl) (And.intro (by rfl) (And.intro (And.intro (And.intro (by rfl) (by rfl)) (And.intro (And.intro (by rfl) (by rfl)) (And.intro (And.intro (by rfl) (by rfl)) (And.intro (And.intro (by rfl) (by rfl)) (And.intro (And.intro (by rfl) (by rfl)) True.intro))))) (by rfl))))))) ?_)
    · simp; omega
    rintro ⟨i, d⟩ ⟨hi, hd⟩
    simp only at hi hd
    have hdc := rep_ok h1b hbad hi
    refine (And.intro (fun k0 => (And.intro True.intro (fun (k1 : (Int × Int × Int × Int × List Int × Bool) × Int × PUnit) => (fun k2 => (And.intro (fun k3 => (fin_of rfl ?_)) (fun k3 => (And.intro (by intros; (try subst_vars); (try simp only [Bool.cond_true_left, Bool.cond_false_right, Bool.or_eq_true, Bool.or_eq_false_iff, Bool.and_eq_true, Bool.not_eq_true', Bool.not_eq_false', decide_eq_true_eq, decide_eq_false_iff_not, Int.not_lt, Int.not_le] at *); (try simp only [inK, big, lim, List.length_cons, List.length_nil, List.length_append, List.length_drop, List.length_take, List.length_replicate] at *); omega) ?_))))))) (fun k0 => (And.intro True.intro (fun (k4 : (Int × Int × Int × Int × List Int × Bool) × Int × PUnit) => (fun k5 => (And.intro (by rfl) (And.intro (fun k6 => True.intro) (And.intro (fun k7 => True.intro) (And.intro (fun k8 k9 => (by intros; (try subst_vars); (try simp only [Bool.cond_true_left, Bool.cond_false_right, Bool.or_eq_true, Bool.or_eq_false_iff, Bool.and_eq_true, Bool.not_eq_true', Bool.not_eq_false', decide_eq_true_eq, decide_eq_false_iff_not, Int.not_lt, Int.not_le] at *); (try simp only [inK, big, lim, List.length_cons, List.length_nil, List.length_append, List.length_drop, List.length_take, List.length_replicate] at *); omega)) (And.intro (fun k10 k11 k12 => True.intro) (fun k13 => (fun k14 => (fin_of rfl ?_)))))))))))))
    · exfalso
      have hi' : (i : Int) < gr - se := by simp [hr] at k0; omega
      have k2' : k1 = ((fSend d it).1, (fSend d it).2, ()) := k2
      clear k2
      rw [hd, fSend_yes hdc hbad rfl (by simp only; omega)] at k2'
      subst k2'
      simp at k3
    · have hi' : (i : Int) < gr - se := by simp [hr] at k0; omega
      have k2' : k1 = ((fSend d it).1, (fSend d it).2, ()) := k2
      clear k2
      rw [hd, fSend_yes hdc hbad rfl (by simp only; omega)] at k2'
      refine Exists.intro ((i + 1, k1.1)) (Exists.intro ([some 0, some 1, some 2, some 3, some 4]) (And.intro ?_ (And.intro ?_ (And.intro (by rfl) (And.intro (by rfl) (And.intro (And.intro (And.intro (by rfl) (by rfl)) (And.intro (And.intro (by rfl) (by rfl)) (And.intro (And.intro (by rfl) (by rfl)) (And.intro (And.intro (by rfl) (by rfl)) (And.intro (And.intro (by rfl) (by rfl)) True.intro))))) (by rfl)))))))
      · rw [k2']
        refine ⟨by simp only; omega, ?_⟩
        simp [List.replicate_succ']
        omega
      · simp only; omega
    · have hi' : (i : Int) = gr - se := by simp [hr] at k0; omega
      have k5' : k4 = ((fSend d it).1, (fSend d it).2, ()) := k5
      clear k5
      have hdd : (d.1, d.2.1, d.2.2.1, d.2.2.2.1, d.2.2.2.2.1, d.2.2.2.2.2) = d := rfl
      rw [hd, fSend_full hdc hbad rfl (by simp only; omega)] at k5'
      subst k5'
      simp only [hdd, hd, hr]
      rw [fRoom_open hdc rfl]
      simp
      omega
end Go.Proofs.Ytokkndniihhgjaa
