/- Stages: plain facts for what is conserved. -/
import Derived.Test.YticmijfmgmkkcaaGreatZb4
set_option linter.unusedSimpArgs false
set_option linter.unusedVariables false
set_option maxRecDepth 100000
namespace Go.Proofs.YticmijfmgmkkcaaGreat
open Go.Sx

theorem merge_get : ∀ (f : Nat) (a b : List Int) (i : Nat), a.length + b.length ≤ f → i < a.length + b.length →
    (mergeN f a b).getD i 0 = if i < 2 * min a.length b.length then (if i % 2 = 0 then a.getD (i / 2) 0 else b.getD (i / 2) 0) else if b.length < a.length then a.getD (i - b.length) 0 else b.getD (i - a.length) 0
  | 0, a, b, i, h, hi => absurd hi (by omega)
  | f + 1, [], b, i, h, hi => by
    rw [if_neg (by simp), if_neg (by simp)]
    simp [mergeN]
  | f + 1, x :: a, b, i, h, hi => by
    simp only [List.length_cons] at h hi ⊢
    cases i with
    | zero =>
      cases b with
      | nil => simp [mergeN]
      | cons y b => simp [mergeN]
    | succ j =>
      have ih := merge_get f b a j (by omega) (by omega)
      simp only [mergeN, List.getD_cons_succ]
      rw [ih]
      by_cases h1 : j < 2 * min b.length a.length
      · rw [if_pos h1]
        by_cases h2 : j + 1 < 2 * min (a.length + 1) b.length
        · rw [if_pos h2]
          by_cases h3 : j % 2 = 0
          · rw [if_pos h3, if_neg (by omega), show (j + 1) / 2 = j / 2 by omega]
          · rw [if_neg h3, if_pos (by omega), show (j + 1) / 2 = j / 2 + 1 by omega, List.getD_cons_succ]
        · rw [if_neg h2]
          rw [if_neg (by omega), if_pos (by omega), show j + 1 - b.length = (j / 2) + 1 by omega, List.getD_cons_succ]
      · rw [if_neg h1]
        by_cases h2 : j + 1 < 2 * min (a.length + 1) b.length
        · rw [if_pos h2]
          rw [if_pos (by omega)]
          by_cases h3 : j % 2 = 0
          · rw [if_neg (by omega), show j - a.length = (j + 1) / 2 by omega]
          · exfalso; omega
        · rw [if_neg h2]
          by_cases h3 : a.length < b.length
          · rw [if_pos h3, if_neg (by omega), show j - a.length = j + 1 - (a.length + 1) by omega]
          · rw [if_neg h3, if_pos (by omega), show j + 1 - b.length = (j - b.length) + 1 by omega, List.getD_cons_succ]
/-- How many of the first i items come from the first stream. -/
def cntA (a b i : Nat) : Nat := if i < 2 * min a b then (i + 1) / 2 else if b < a then i - b else a
/-- Whether the next one does. -/
def isA (a b i : Nat) : Bool := if i < 2 * min a b then decide (i % 2 = 0) else decide (min a b < a)
theorem cntA_le (a b i : Nat) (h : i ≤ a + b) : cntA a b i ≤ a ∧ i - cntA a b i ≤ b ∧ cntA a b i ≤ i := by
  unfold cntA; split
  · omega
  · split <;> omega
theorem cnt_next (a b i : Nat) (h : i < a + b) : (isA a b i = true → cntA a b (i + 1) = cntA a b i + 1) ∧ (isA a b i = false → cntA a b (i + 1) = cntA a b i) := by
  unfold cntA isA
  refine ⟨fun h1 => ?_, fun h1 => ?_⟩
  all_goals
    split at h1 <;> simp at h1 <;> (repeat' split) <;> omega
theorem merge_next (a b : List Int) (i : Nat) (h : i < a.length + b.length) :
    (isA a.length b.length i = true → cntA a.length b.length i < a.length ∧ (mergeN (a.length + b.length) a b).getD i 0 = a.getD (cntA a.length b.length i) 0) ∧
    (isA a.length b.length i = false → i - cntA a.length b.length i < b.length ∧ (mergeN (a.length + b.length) a b).getD i 0 = b.getD (i - cntA a.length b.length i) 0) := by
  rw [merge_get _ a b i (Nat.le_refl _) h]
  unfold isA cntA
  refine ⟨fun h1 => ?_, fun h1 => ?_⟩
  · split at h1
    · rename_i h2
      have h3 : i % 2 = 0 := of_decide_eq_true h1
      rw [if_pos h2, if_pos h3, if_pos h2, show (i + 1) / 2 = i / 2 by omega]
      exact ⟨by omega, rfl⟩
    · rename_i h2
      have h3 := of_decide_eq_true h1
      rw [if_neg h2, if_neg h2, if_pos (by omega), if_pos (by omega)]
      exact ⟨by omega, rfl⟩
  · split at h1
    · rename_i h2
      have h3 : ¬ i % 2 = 0 := of_decide_eq_false h1
      rw [if_pos h2, if_neg h3, if_pos h2, show i - (i + 1) / 2 = i / 2 by omega]
      exact ⟨by omega, rfl⟩
    · rename_i h2
      have h3 := of_decide_eq_false h1
      rw [if_neg h2, if_neg h2, if_neg (by omega), if_neg (by omega)]
      exact ⟨by omega, rfl⟩

theorem chk_73 {z : Int} {e : ExprT} {l : List Int} (h : stChk (7, z, e, l) = 0) : stChk (3, z, e, l) = 0 := by
  rw [stChk_in (by show (1 : Int) ≤ 7; decide) (by show (7 : Int) ≤ 10; decide)] at h
  rw [stChk_in (by show (1 : Int) ≤ 3; decide) (by show (3 : Int) ≤ 10; decide)]
  exact h
theorem inM_of {x : Int} (h : numB x = true) : inM x := by
  unfold numB at h
  unfold inM
  by_cases h1 : -1099511627776 ≤ x
  · rw [decide_eq_true h1] at h
    exact ⟨h1, of_decide_eq_true h⟩
  · rw [decide_eq_false h1] at h; cases h
theorem all_in {l : List Int} (h : l.any notNum = false) : ∀ x ∈ l, inM x := fun x hx => by
  have h1 := List.any_eq_false.1 h x hx
  refine inM_of ?_
  unfold notNum at h1
  cases hb : numB x
  · rw [hb] at h1; exact absurd rfl h1
  · rfl
theorem sum_num : ∀ (d : List Int) (n f : Int), (d.foldl sumS (n, f)).2 = 0 → inM n → inM (d.foldl sumS (n, f)).1
  | [], n, f, _, h => h
  | a :: d, n, f, h, hn => by
    rw [List.foldl_cons] at h ⊢
    have h0 := sum_snd d _ _ h
    refine sum_num d _ _ h ?_
    cases hb : numB (n + a) with
    | true => exact inM_of hb
    | false =>
      exfalso
      by_cases hf : f = 0
      · subst hf
        rw [hb] at h0
        exact absurd (show (14 : Int) = 0 from h0) (by decide)
      · rw [hb, decide_eq_false hf] at h0
        exact hf h0
theorem batS_err (z : Int) (s : List Int × List Int × Int) (a : Int) (h : (batS z s a).2.2 = 0) : s.2.2 = 0 := by
  unfold batS at h
  split at h
  · exact (batE_ok h).1
  · exact h
theorem bat_err (z : Int) : ∀ (l : List Int) (s : List Int × List Int × Int), (l.foldl (batS z) s).2.2 = 0 → s.2.2 = 0
  | [], s, h => h
  | a :: l, s, h => batS_err z s a (bat_err z l _ h)
theorem batE_in {d o : List Int} {f : Int} (h : (batE (d, o, f)).2.2 = 0) (ho : ∀ x ∈ o, inM x) : ∀ x ∈ (batE (d, o, f)).2.1, inM x := by
  have h1 : (d.foldl sumS (0, f)).2 = 0 := h
  have h2 := sum_num d 0 f h1 ⟨by decide, by decide⟩
  rw [sum_fst, Int.zero_add] at h2
  rw [(batE_ok h).2]
  intro x hx
  rcases List.mem_append.1 hx with h3 | h3
  · exact ho x h3
  · rw [List.mem_singleton.1 h3]; exact h2
theorem bat_in (z : Int) : ∀ (l : List Int) (s : List Int × List Int × Int), (l.foldl (batS z) s).2.2 = 0 → (∀ x ∈ s.2.1, inM x) → ∀ x ∈ (l.foldl (batS z) s).2.1, inM x
  | [], s, _, h => h
  | a :: l, (d, o, f), h, hs => by
    rw [List.foldl_cons] at h ⊢
    refine bat_in z l _ h ?_
    have he := bat_err z l _ h
    unfold batS at he ⊢
    split
    · rename_i hc
      rw [if_pos hc] at he
      exact batE_in he hs
    · exact hs
theorem batR_in {z : Int} {l : List Int} (h : (batR (l.foldl (batS z) ([], [], 0))).2.2 = 0) : ∀ x ∈ (batR (l.foldl (batS z) ([], [], 0))).2.1, inM x := by
  obtain ⟨s, hs⟩ : ∃ s, l.foldl (batS z) ([], [], 0) = s := ⟨_, rfl⟩
  have hb := bat_in z l ([], [], 0)
  rw [hs] at h hb ⊢
  obtain ⟨d, o, f⟩ := s
  unfold batR at h ⊢
  split
  · rename_i hc
    rw [if_pos hc] at h
    refine batE_in h (hb (batE_ok h).1 fun x hx => by simp at hx)
  · rename_i hc
    rw [if_neg hc] at h
    exact hb h fun x hx => by simp at hx
/-- What is in one of the two parts, and what is in the other. -/
theorem filter_mem (p : Int → Bool) (l : List Int) : l.filter p = l.filter (fun n => (l.filter p).any (isI n)) := by
  apply List.filter_congr
  intro x hx
  cases hp : p x with
  | true => exact (List.any_eq_true.2 ⟨x, List.mem_filter.2 ⟨hx, hp⟩, decide_eq_true rfl⟩).symm
  | false =>
    refine (List.any_eq_false.2 fun y hy => ?_).symm
    have h1 := (List.mem_filter.1 hy).2
    intro h2
    have e : x = y := of_decide_eq_true h2
    rw [e, h1] at hp; cases hp
theorem filter_two (p : Int → Bool) : ∀ l : List Int, (l.filter p).length + (l.filter (fun a => !p a)).length = l.length
  | [] => rfl
  | a :: l => by
    have ih := filter_two p l
    cases hp : p a <;> simp [hp] <;> omega
theorem sum_le : ∀ (l : List Int) (k : Nat), l.length ≤ k → (∀ x ∈ l, inM x) → -(1099511627776 * (k : Int)) ≤ l.sum ∧ l.sum ≤ 1099511627776 * (k : Int)
  | [], k, _, _ => by simp; omega
  | a :: l, 0, h, _ => by simp at h
  | a :: l, k + 1, h, hm => by
    have ih := sum_le l k (by simpa using h) fun x hx => hm x (by simp [hx])
    have ha := hm a (by simp)
    unfold inM at ha
    rw [List.sum_cons]
    omega
theorem sum_take (l : List Int) (i : Nat) (h : i < l.length) : (l.take (i + 1)).sum = (l.take i).sum + l.getD i 0 := by
  rw [take_getD (d := 0) h, List.sum_append]; simp
end Go.Proofs.YticmijfmgmkkcaaGreat
