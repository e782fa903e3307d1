/- Deque: plain facts. -/
import Derived.Test.YtcghckgbaeindaaDequeB
set_option linter.unusedSimpArgs false
set_option linter.unusedVariables false
set_option maxRecDepth 100000
namespace Go.Proofs.Ytcghckgbaeindaa
open Go.Sx

theorem dScan_append : ∀ (l pre : List Int) (x : Int), dScan pre (l ++ [x]) = if dScan pre l = 0 then (if isTask x = false then 2 else if hasI (pre ++ l) x = true then 6 else 0) else dScan pre l
  | [], pre, x => by simp [dScan]
  | y :: l, pre, x => by
    have ih := dScan_append l (pre ++ [y]) x
    simp only [List.cons_append, dScan]
    split
    · rfl
    · split
      · rfl
      · rw [ih]; simp

/-- A valid list: tasks, each once. -/
theorem dScan_zero : ∀ (l pre : List Int), dScan pre l = 0 ↔ (∀ x ∈ l, isTask x = true) ∧ l.Nodup ∧ ∀ x ∈ l, x ∉ pre
  | [], pre => by simp [dScan]
  | y :: l, pre => by
    have ih := dScan_zero l (pre ++ [y])
    simp only [dScan]
    by_cases h1 : isTask y = false
    · rw [if_pos h1]; simp [h1]
    · rw [if_neg h1]
      by_cases h2 : hasI pre y = true
      · rw [if_pos h2]
        have : y ∈ pre := by simpa [hasI] using h2
        simp [this]
      · rw [if_neg h2, ih]
        have h3 : y ∉ pre := by simpa [hasI] using h2
        have h1' : isTask y = true := by simpa using h1
        simp only [List.mem_cons, List.nodup_cons, List.mem_append, List.not_mem_nil, or_false]
        constructor
        · rintro ⟨a, b, c⟩
          refine ⟨?_, ⟨fun hy => (c y hy) (.inr rfl), b⟩, ?_⟩
          · rintro x (rfl | hx)
            · exact h1'
            · exact a x hx
          · rintro x (rfl | hx)
            · exact h3
            · exact fun h => c x hx (.inl h)
        · rintro ⟨a, ⟨b, c⟩, d⟩
          refine ⟨fun x hx => a x (.inr hx), c, fun x hx h => ?_⟩
          rcases h with h | rfl
          · exact d x (.inr hx) h
          · exact b hx

/-- No more different numbers below n than n. -/
theorem pigeon : ∀ (n : Nat) (l : List Int), l.Nodup → (∀ x ∈ l, 0 ≤ x ∧ x < n) → l.length ≤ n
  | 0, l, _, h => by
    cases l with
    | nil => simp
    | cons x l => have := h x (by simp); omega
  | n + 1, l, hd, h => by
    have ih := pigeon n (l.erase (n : Int)) (hd.erase _) (fun x hx => by
      have h1 := h x (List.mem_of_mem_erase hx)
      have h2 : x ≠ (n : Int) := by
        rintro rfl
        exact (hd.not_mem_erase) hx
      omega)
    rw [List.length_erase] at ih
    split at ih <;> omega

theorem dCheck_zero {l : List Int} : dCheck l = 0 ↔ (∀ x ∈ l, isTask x = true) ∧ l.Nodup := by
  unfold dCheck
  constructor
  · intro h
    split at h
    · simp at h
    · have := (dScan_zero l []).1 h
      exact ⟨this.1, this.2.1⟩
  · rintro ⟨h1, h2⟩
    have hl := pigeon 16 l h2 (fun x hx => by have := h1 x hx; simp [isTask] at this; omega)
    rw [if_neg (by omega)]
    exact (dScan_zero l []).2 ⟨h1, h2, by simp⟩

theorem push_ok {l : List Int} {x : Int} (h : (dPush l x).2 = 0) : dCheck l = 0 ∧ dCheck (dPush l x).1 = 0 ∧ (dPush l x).1 = l ++ [x] ∧ isTask x = true ∧ x ∉ l := by
  unfold dPush at h ⊢
  by_cases h1 : dCheck l = 0
  · rw [if_neg (by simpa using h1)] at h ⊢
    by_cases h2 : isTask x = false
    · rw [if_pos h2] at h; simp at h
    · rw [if_neg h2] at h ⊢
      by_cases h3 : hasI l x = true
      · rw [if_pos h3] at h; simp at h
      · rw [if_neg h3]
        have hm : x ∉ l := by simpa [hasI] using h3
        have hv := dCheck_zero.1 h1
        refine ⟨h1, dCheck_zero.2 ⟨fun y hy => ?_, ?_⟩, rfl, by simpa using h2, hm⟩
        · simp only [List.mem_append, List.mem_cons, List.not_mem_nil, or_false] at hy
          rcases hy with hy | rfl
          · exact hv.1 y hy
          · simpa using h2
        · rw [List.nodup_append]
          exact ⟨hv.2, by simp, fun a ha b hb => by simp at hb; subst hb; exact fun e => hm (e ▸ ha)⟩
  · rw [if_pos (by simpa using h1)] at h
    exact absurd h h1

theorem take_ok {l : List Int} (n : Nat) (h : dCheck l = 0) : dCheck (l.take n) = 0 := by
  have hv := dCheck_zero.1 h
  exact dCheck_zero.2 ⟨fun x hx => hv.1 x (List.mem_of_mem_take hx), hv.2.sublist (List.take_sublist _ _)⟩
theorem drop_ok {l : List Int} (n : Nat) (h : dCheck l = 0) : dCheck (l.drop n) = 0 := by
  have hv := dCheck_zero.1 h
  exact dCheck_zero.2 ⟨fun x hx => hv.1 x (List.mem_of_mem_drop hx), hv.2.sublist (List.drop_sublist _ _)⟩
end Go.Proofs.Ytcghckgbaeindaa
