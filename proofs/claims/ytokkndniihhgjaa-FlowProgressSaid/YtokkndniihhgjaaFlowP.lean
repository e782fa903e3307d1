/- Flow: plain facts about the buffer's functions. -/
import Derived.Test.YtokkndniihhgjaaFlowD
set_option linter.unusedSimpArgs false
set_option linter.unusedVariables false
namespace Go.Proofs.Ytokkndniihhgjaa
open Go.Sx

theorem ok_iff (c : Cred) : fCheck c = 0 ↔ (1 ≤ c.1 ∧ c.1 ≤ 100 ∧ 0 ≤ c.2.2.2.1 ∧ c.2.2.2.1 ≤ c.2.2.1 ∧ c.2.2.1 ≤ c.2.1 ∧ c.2.1 ≤ 1099511627776 ∧ c.2.1 - c.2.2.2.1 ≤ c.1 ∧ (c.2.2.2.2.1.length : Int) = c.2.2.1 - c.2.2.2.1 ∧ c.2.2.2.2.1.any badItem = false) := by
  refine ⟨fCheck_bd, fun h => ?_⟩
  rw [fCheck_eq, if_neg (by omega), if_neg (by omega), if_neg (by simp [h.2.2.2.2.2.2.2.2])]

theorem fNew_ok {n : Int} (h : (fNew n).2 = 0) : fCheck (fNew n).1 = 0 ∧ 1 ≤ n ∧ n ≤ 100 ∧ (fNew n).1 = (n, 0, 0, 0, [], false) := by
  unfold fNew at h ⊢
  split at h
  · simp at h
  · rename_i hn
    rw [if_neg hn]
    have h2 : 1 ≤ n ∧ n ≤ 100 := by simpa [inR] using hn
    refine ⟨(ok_iff _).2 ?_, h2.1, h2.2, rfl⟩
    simp
    omega

theorem fReq_ok {c : Cred} {n : Int} (h : (fReq c n).2 = 0) : fCheck c = 0 ∧ fCheck (fReq c n).1 = 0 ∧ 1 ≤ n ∧ c.2.2.2.2.2 = false ∧ n ≤ c.2.2.2.1 + c.1 - c.2.1 ∧ c.2.1 + n ≤ 1099511627776 ∧ (fReq c n).1 = (c.1, c.2.1 + n, c.2.2) := by
  unfold fReq at h ⊢
  by_cases h1 : fCheck c = 0
  · rw [if_neg (by simpa using h1)] at h ⊢
    by_cases h2 : n < 1
    · rw [if_pos h2] at h; simp at h
    · rw [if_neg h2] at h ⊢
      by_cases h3 : c.2.2.2.2.2 = true
      · rw [if_pos h3] at h; simp at h
      · rw [if_neg h3] at h ⊢
        by_cases h4 : c.2.2.2.1 + c.1 - c.2.1 < n
        · rw [if_pos h4] at h; simp at h
        · rw [if_neg h4] at h ⊢
          by_cases h5 : 1099511627776 < c.2.1 + n
          · rw [if_pos h5] at h; simp at h
          · rw [if_neg h5]
            have hb := (ok_iff c).1 h1
            refine ⟨h1, (ok_iff _).2 ?_, by omega, by simpa using h3, by omega, by omega, rfl⟩
            simp only
            refine ⟨hb.1, hb.2.1, hb.2.2.1, hb.2.2.2.1, by omega, by omega, by omega, hb.2.2.2.2.2.2.2.1, hb.2.2.2.2.2.2.2.2⟩
  · rw [if_pos (by simpa using h1)] at h
    exact absurd h h1

theorem fSend_ok {c : Cred} {x : Int} (h : (fSend c x).2 = 0) : fCheck c = 0 ∧ fCheck (fSend c x).1 = 0 ∧ badItem x = false ∧ c.2.2.2.2.2 = false ∧ c.2.2.1 < c.2.1 ∧ (fSend c x).1 = (c.1, c.2.1, c.2.2.1 + 1, c.2.2.2.1, c.2.2.2.2.1 ++ [x], c.2.2.2.2.2) := by
  unfold fSend at h ⊢
  by_cases h1 : fCheck c = 0
  · rw [if_neg (by simpa using h1)] at h ⊢
    by_cases h2 : badItem x = true
    · rw [if_pos h2] at h; simp at h
    · rw [if_neg h2] at h ⊢
      by_cases h3 : c.2.2.2.2.2 = true
      · rw [if_pos h3] at h; simp at h
      · rw [if_neg h3] at h ⊢
        by_cases h4 : c.2.2.1 = c.2.1
        · rw [if_pos h4] at h; simp at h
        · rw [if_neg h4]
          have hb := (ok_iff c).1 h1
          refine ⟨h1, (ok_iff _).2 ?_, by simpa using h2, by simpa using h3, by omega, rfl⟩
          simp only [List.length_append, List.length_cons, List.length_nil, List.any_append, List.any_cons, List.any_nil, Bool.or_false]
          refine ⟨hb.1, hb.2.1, hb.2.2.1, by omega, by omega, by omega, by omega, by omega, ?_⟩
          rw [hb.2.2.2.2.2.2.2.2]; simpa using h2
  · rw [if_pos (by simpa using h1)] at h
    exact absurd h h1

theorem fTake_ok {c : Cred} (h : (fTake c).2.2 = 0) : fCheck c = 0 ∧ fCheck (fTake c).1 = 0 ∧ ∃ x l, c.2.2.2.2.1 = x :: l ∧ fTake c = ((c.1, c.2.1, c.2.2.1, c.2.2.2.1 + 1, l, c.2.2.2.2.2), x, 0) := by
  unfold fTake at h ⊢
  by_cases h1 : fCheck c = 0
  · rw [if_neg (by simpa using h1)] at h ⊢
    cases hl : c.2.2.2.2.1 with
    | nil =>
      rw [hl] at h
      simp only at h
      split at h <;> simp at h
    | cons x l =>
      have hb := (ok_iff c).1 h1
      rw [hl] at hb
      simp only [List.length_cons, List.any_cons, Bool.or_eq_false_iff] at hb
      refine ⟨h1, (ok_iff _).2 ?_, x, l, rfl, rfl⟩
      simp only
      refine ⟨hb.1, hb.2.1, by omega, by omega, by omega, by omega, by omega, by omega, hb.2.2.2.2.2.2.2.2.2⟩
  · rw [if_pos (by simpa using h1)] at h
    exact absurd h h1

theorem fClose_ok {c : Cred} (h : (fClose c).2 = 0) : fCheck c = 0 ∧ fCheck (fClose c).1 = 0 ∧ c.2.2.2.2.2 = false ∧ (fClose c).1 = (c.1, c.2.1, c.2.2.1, c.2.2.2.1, c.2.2.2.2.1, true) := by
  unfold fClose at h ⊢
  by_cases h1 : fCheck c = 0
  · rw [if_neg (by simpa using h1)] at h ⊢
    by_cases h3 : c.2.2.2.2.2 = true
    · rw [if_pos h3] at h; simp at h
    · rw [if_neg h3]
      have hb := (ok_iff c).1 h1
      exact ⟨h1, (ok_iff _).2 hb, by simpa using h3, rfl⟩
  · rw [if_pos (by simpa using h1)] at h
    exact absurd h h1

theorem doS_ok {c : Cred} {o : Int × Int} (h : (doS c o).2.2 = 0) : fCheck c = 0 ∧ fCheck (doS c o).1 = 0 ∧ (doS c o).1.1 = c.1 := by
  unfold doS at h ⊢
  by_cases h1 : o.1 = 1
  · rw [if_pos h1] at h ⊢
    obtain ⟨a, b, _, _, _, _, e⟩ := fReq_ok h
    exact ⟨a, b, by rw [e]⟩
  · rw [if_neg h1] at h ⊢
    by_cases h2 : o.1 = 2
    · rw [if_pos h2] at h ⊢
      obtain ⟨a, b, _, _, _, e⟩ := fSend_ok h
      exact ⟨a, b, by rw [e]⟩
    · rw [if_neg h2] at h ⊢
      by_cases h3 : o.1 = 3
      · rw [if_pos h3] at h ⊢
        obtain ⟨a, b, x, l, _, e⟩ := fTake_ok h
        exact ⟨a, b, by rw [e]⟩
      · rw [if_neg h3] at h ⊢
        obtain ⟨a, b, _, e⟩ := fClose_ok h
        exact ⟨a, b, by rw [e]⟩

theorem fReq_yes {c : Cred} {n : Int} (h1 : fCheck c = 0) (h2 : 1 ≤ n) (h3 : c.2.2.2.2.2 = false) (h4 : n ≤ c.2.2.2.1 + c.1 - c.2.1) (h5 : c.2.1 + n ≤ 1099511627776) : fReq c n = ((c.1, c.2.1 + n, c.2.2), 0) := by
  unfold fReq
  rw [if_neg (by simpa using h1), if_neg (by omega), if_neg (by simp [h3]), if_neg (by omega), if_neg (by omega)]
theorem fSend_yes {c : Cred} {x : Int} (h1 : fCheck c = 0) (h2 : badItem x = false) (h3 : c.2.2.2.2.2 = false) (h4 : c.2.2.1 < c.2.1) :
    fSend c x = ((c.1, c.2.1, c.2.2.1 + 1, c.2.2.2.1, c.2.2.2.2.1 ++ [x], c.2.2.2.2.2), 0) := by
  unfold fSend
  rw [if_neg (by simpa using h1), if_neg (by simp [h2]), if_neg (by simp [h3]), if_neg (by omega)]
theorem fTake_yes {c : Cred} {x : Int} {l : List Int} (h1 : fCheck c = 0) (h2 : c.2.2.2.2.1 = x :: l) : fTake c = ((c.1, c.2.1, c.2.2.1, c.2.2.2.1 + 1, l, c.2.2.2.2.2), x, 0) := by
  unfold fTake
  rw [if_neg (by simpa using h1), h2]
theorem fClose_yes {c : Cred} (h1 : fCheck c = 0) (h3 : c.2.2.2.2.2 = false) : fClose c = ((c.1, c.2.1, c.2.2.1, c.2.2.2.1, c.2.2.2.2.1, true), 0) := by
  unfold fClose
  rw [if_neg (by simpa using h1), if_neg (by simp [h3])]

theorem sameCred_of {a b : Cred} (h : a = b) : sameCred a b = true := by subst h; simp [sameCred]

theorem sides_ok {c : Cred} {it n : Int} {p q : Int × Int} (hp : p = (2, it) ∨ p = (4, 0)) (hq : q = (1, n) ∨ q = (3, 0)) (h1 : (doS c p).2.2 = 0) (h2 : (doS c q).2.2 = 0) (hn : ¬ (p.1 = 4 ∧ q.1 = 1)) :
    (doS (doS c p).1 q).2.2 = 0 ∧ (doS (doS c q).1 p).2.2 = 0 ∧ (doS c q).2.1 = (doS (doS c p).1 q).2.1 ∧ (doS (doS c p).1 q).1 = (doS (doS c q).1 p).1 := by
  rcases hp with rfl | rfl <;> rcases hq with rfl | rfl
  · simp [doS] at h1 h2 ⊢
    obtain ⟨a1, a2, a3, a4, a5, a6⟩ := fSend_ok h1
    obtain ⟨b1, b2, b3, b4, b5, b6, b7⟩ := fReq_ok h2
    rw [fReq_yes a2 b3 (by rw [a6]; exact a4) (by rw [a6]; exact b5) (by rw [a6]; exact b6), fSend_yes b2 a3 (by rw [b7]; exact a4) (by rw [b7]; simp only; omega)]
    simp [a6, b7]
  · simp [doS] at h1 h2 ⊢
    obtain ⟨a1, a2, a3, a4, a5, a6⟩ := fSend_ok h1
    obtain ⟨b1, b2, x, l, b4, b5⟩ := fTake_ok h2
    rw [fTake_yes (x := x) (l := l ++ [it]) a2 (by rw [a6]; simp [b4]), fSend_yes b2 a3 (by rw [b5]; exact a4) (by rw [b5]; simp only; omega)]
    simp [a6, b5]
  · exact absurd ⟨rfl, rfl⟩ hn
  · simp [doS] at h1 h2 ⊢
    obtain ⟨a1, a2, a3, a4⟩ := fClose_ok h1
    obtain ⟨b1, b2, x, l, b4, b5⟩ := fTake_ok h2
    rw [fTake_yes (x := x) (l := l) a2 (by rw [a4]; simp [b4]), fClose_yes b2 (by rw [b5]; exact a3)]
    simp [a4, b5]

theorem fClose_closed {c : Cred} (h1 : fCheck c = 0) (h3 : c.2.2.2.2.2 = true) : fClose c = (zCred, 19) := by
  unfold fClose
  rw [if_neg (by simpa using h1), if_pos h3]
theorem fRoom_closed {c : Cred} (h3 : c.2.2.2.2.2 = true) : fRoom c = 0 := by
  unfold fRoom
  rw [if_pos (.inr h3)]
theorem fReq_closed {c : Cred} {n : Int} (h1 : fCheck c = 0) (h2 : 1 ≤ n) (h3 : c.2.2.2.2.2 = true) : fReq c n = (zCred, 19) := by
  unfold fReq
  rw [if_neg (by simpa using h1), if_neg (by omega), if_pos h3]
theorem fSend_closed {c : Cred} {x : Int} (h1 : fCheck c = 0) (h2 : badItem x = false) (h3 : c.2.2.2.2.2 = true) : fSend c x = (zCred, 19) := by
  unfold fSend
  rw [if_neg (by simpa using h1), if_neg (by simp [h2]), if_pos h3]
theorem fTake_closed {c : Cred} (h1 : fCheck c = 0) (h2 : c.2.2.2.2.1 = []) (h3 : c.2.2.2.2.2 = true) : fTake c = (zCred, 0, 19) := by
  unfold fTake
  rw [if_neg (by simpa using h1), h2]
  simp only
  rw [if_pos h3]
theorem drop_ok {cap gr se ta : Int} {xs : List Int} {cl b : Bool} {i : Nat} (h : fCheck (cap, gr, se, ta, xs, cl) = 0) (hi : i ≤ xs.length) : fCheck (cap, gr, se, ta + i, xs.drop i, b) = 0 := by
  have hb := (ok_iff _).1 h
  simp only at hb
  refine (ok_iff _).2 ?_
  simp only [List.length_drop]
  refine ⟨hb.1, hb.2.1, by omega, by omega, by omega, by omega, by omega, by omega, ?_⟩
  have := hb.2.2.2.2.2.2.2.2
  simp only [List.any_eq_false] at this ⊢
  exact fun x hx => this x (List.mem_of_mem_drop hx)

end Go.Proofs.Ytokkndniihhgjaa
