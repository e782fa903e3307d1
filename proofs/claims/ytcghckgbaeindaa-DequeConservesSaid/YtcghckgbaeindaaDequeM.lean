/- Deque: what was there and was pushed, and what is left and was taken: plain facts. -/
import Derived.Test.YtcghckgbaeindaaDequeSo
import Derived.Test.YtcghckgbaeindaaDequeL
set_option linter.unusedSimpArgs false
set_option linter.unusedVariables false
set_option maxRecDepth 100000
namespace Go.Proofs.Ytcghckgbaeindaa
open Go.Sx

def pushV (l : List (Int × Int)) : List Int := (l.filter (fun o => decide (o.1 = 1))).map (·.2)
def others (l : List (Int × Int)) : Nat := (l.filter (fun o => !decide (o.1 = 1))).length
def real (l : List Int) : List Int := l.filter (fun x => !decide (x = -1))
theorem real_app (a b : List Int) : real (a ++ b) = real a ++ real b := List.filter_append ..
theorem task_real {x : Int} (h : isTask x = true) : real [x] = [x] := by
  have : x ≠ -1 := by
    rintro rfl
    revert h
    decide
  simp [real, this]
theorem conserves : ∀ (l : List (Int × Int)) (m out : List Int), dCheck m = 0 → (playS l (m, out)).2.2 = 0 →
    ((m ++ pushV l) ++ real out).Perm ((playS l (m, out)).1 ++ real (playS l (m, out)).2.1) ∧ (playS l (m, out)).2.1.length = out.length + others l
  | [], m, out, _, _ => by simp [playS, pushV, others]
  | o :: l, m, out, hm, h0 => by
    by_cases h1 : o.1 = 1
    · by_cases h2 : (dPush m o.2).2 = 0
      · have e : playS (o :: l) (m, out) = playS l ((dPush m o.2).1, out) := by rw [playS, if_pos h1, if_pos h2]
        rw [e] at h0 ⊢
        obtain ⟨g1, g2, g3, g4, g5⟩ := push_ok h2
        obtain ⟨k1, k2⟩ := conserves l (dPush m o.2).1 out g2 h0
        rw [g3] at k1 k2 ⊢
        refine ⟨?_, ?_⟩
        · have : m ++ pushV (o :: l) = m ++ [o.2] ++ pushV l := by simp [pushV, h1]
          rw [this]
          exact k1
        · rw [k2]
          simp [others, h1]
      · have e : playS (o :: l) (m, out) = ([], [], (dPush m o.2).2) := by rw [playS, if_pos h1, if_neg h2]
        rw [e] at h0
        exact absurd h0 h2
    · have hp : pushV (o :: l) = pushV l := by simp [pushV, h1]
      have ho : others (o :: l) = others l + 1 := by simp [others, h1]
      have step : ∀ (m' : List Int) (x : Int), dCheck m' = 0 → m.Perm (m' ++ real [x]) → (playS l (m', out ++ [x])).2.2 = 0 → playS (o :: l) (m, out) = playS l (m', out ++ [x]) →
          ((m ++ pushV (o :: l)) ++ real out).Perm ((playS (o :: l) (m, out)).1 ++ real (playS (o :: l) (m, out)).2.1) ∧ (playS (o :: l) (m, out)).2.1.length = out.length + others (o :: l) := by
        intro m' x hc hpm hz e
        obtain ⟨k1, k2⟩ := conserves l m' (out ++ [x]) hc hz
        rw [e, hp, ho]
        refine ⟨?_, ?_⟩
        · refine List.Perm.trans ?_ k1
          rw [real_app]
          have a1 : ((m ++ pushV l) ++ real out).Perm (((m' ++ real [x]) ++ pushV l) ++ real out) := (hpm.append_right _).append_right _
          refine a1.trans ?_
          rw [List.append_assoc, List.append_assoc, List.append_assoc]
          refine List.Perm.append_left _ ?_
          have a2 : (real [x] ++ (pushV l ++ real out)).Perm ((pushV l ++ real out) ++ real [x]) := List.perm_append_comm
          rw [List.append_assoc] at a2
          exact a2
        · rw [k2, List.length_append, List.length_cons, List.length_nil]
          omega
      have hall := (dCheck_zero.1 hm).1
      by_cases h2 : o.1 = 2
      · have e : playS (o :: l) (m, out) = playS l (popS (m, out)) := by rw [playS, if_neg h1, if_pos h2]
        have h0' := h0
        rw [e] at h0'
        by_cases hl : m.length = 0
        · have es : popS (m, out) = (m, out ++ [-1]) := by unfold popS; rw [if_pos hl]
          rw [es] at e h0'
          exact step m (-1) hm (by simp [real]) h0' e
        · have es : popS (m, out) = (m.take (m.length - 1), out ++ [m.getD (m.length - 1) 0]) := by unfold popS; rw [if_neg hl]
          rw [es] at e h0'
          have hx : m.getD (m.length - 1) 0 ∈ m := by
            rw [List.getD_eq_getElem?_getD, List.getElem?_eq_getElem (by omega)]
            exact List.getElem_mem _
          refine step _ _ (take_ok _ hm) ?_ h0' e
          rw [task_real (hall _ hx)]
          have : m = m.take (m.length - 1) ++ [m.getD (m.length - 1) 0] := by
            have h3 := List.take_append_drop (m.length - 1) m
            rw [List.drop_eq_getElem_cons (by omega), List.drop_of_length_le (by omega)] at h3
            rw [List.getD_eq_getElem?_getD, List.getElem?_eq_getElem (by omega)]
            exact h3.symm
          rw [← this]
      · by_cases h3 : o.1 = 3
        · have e : playS (o :: l) (m, out) = playS l (stealS (m, out)) := by rw [playS, if_neg h1, if_neg h2, if_pos h3]
          have h0' := h0
          rw [e] at h0'
          by_cases hl : m.length = 0
          · have es : stealS (m, out) = (m, out ++ [-1]) := by unfold stealS; rw [if_pos hl]
            rw [es] at e h0'
            exact step m (-1) hm (by simp [real]) h0' e
          · have es : stealS (m, out) = (m.drop 1, out ++ [m.getD 0 0]) := by unfold stealS; rw [if_neg hl]
            rw [es] at e h0'
            match m, hl with
            | x :: m, _ =>
              refine step _ _ (drop_ok _ hm) ?_ h0' e
              have hx : isTask x = true := hall x (by simp)
              show (x :: m).Perm (m ++ real [x])
              rw [task_real hx]
              exact (List.perm_append_comm (l₁ := [x]) (l₂ := m))
        · have e : playS (o :: l) (m, out) = ([], [], 8) := by rw [playS, if_neg h1, if_neg h2, if_neg h3]
          rw [e] at h0
          simp at h0
theorem playS_fail : ∀ (l : List (Int × Int)) (m out : List Int), (playS l (m, out)).2.2 ≠ 0 → (playS l (m, out)).1 = [] ∧ (playS l (m, out)).2.1 = []
  | [], m, out, h => absurd rfl h
  | o :: l, m, out, h => by
    by_cases h1 : o.1 = 1
    · by_cases h2 : (dPush m o.2).2 = 0
      · have e : playS (o :: l) (m, out) = playS l ((dPush m o.2).1, out) := by rw [playS, if_pos h1, if_pos h2]
        rw [e] at h ⊢
        exact playS_fail l _ _ h
      · have e : playS (o :: l) (m, out) = ([], [], (dPush m o.2).2) := by rw [playS, if_pos h1, if_neg h2]
        rw [e]
        exact ⟨rfl, rfl⟩
    · by_cases h2 : o.1 = 2
      · have e : playS (o :: l) (m, out) = playS l ((popS (m, out)).1, (popS (m, out)).2) := by rw [playS, if_neg h1, if_pos h2]
        rw [e] at h ⊢
        exact playS_fail l _ _ h
      · by_cases h3 : o.1 = 3
        · have e : playS (o :: l) (m, out) = playS l ((stealS (m, out)).1, (stealS (m, out)).2) := by rw [playS, if_neg h1, if_neg h2, if_pos h3]
          rw [e] at h ⊢
          exact playS_fail l _ _ h
        · have e : playS (o :: l) (m, out) = ([], [], 8) := by rw [playS, if_neg h1, if_neg h2, if_neg h3]
          rw [e]
          exact ⟨rfl, rfl⟩
theorem dPlay_fail {m : List Int} {l : List (Int × Int)} (h : (dPlay m l).2.2 ≠ 0) : (dPlay m l).1 = [] ∧ (dPlay m l).2.1 = [] := by
  unfold dPlay at h ⊢
  split
  · exact ⟨rfl, rfl⟩
  · rename_i h1
    rw [if_neg h1] at h
    split
    · exact ⟨rfl, rfl⟩
    · rename_i h2
      rw [if_neg h2] at h
      exact playS_fail l m [] h
theorem sort_perm {a b : List Int} (h : a.Perm b) : sortI a = sortI b := by
  have p : (sortI a).Perm (sortI b) := (List.mergeSort_perm a _).trans (h.trans (List.mergeSort_perm b _).symm)
  have s : ∀ l : List Int, (sortI l).Pairwise (fun x y => decide (x ≤ y) = true) := fun l => List.pairwise_mergeSort (le := fun x y => decide (x ≤ y)) (fun a b c h1 h2 => by simp at *; omega) (fun a b => by simp; omega) l
  exact p.eq_of_pairwise (fun a b _ _ h1 h2 => by simp at h1 h2; omega) (s a) (s b)
/-- What the law compares. -/
theorem kept {xs : List Int} {l : List (Int × Int)} (hl : l.length ≤ 40) (h : (dPlay xs l).2.2 = 0) :
    sortI (xs ++ pushV l) = sortI ((dPlay xs l).1 ++ real (dPlay xs l).2.1) ∧ (dPlay xs l).2.1.length = others l ∧ dCheck (dPlay xs l).1 = 0 := by
  have hx : dCheck xs = 0 := by
    by_cases hx : dCheck xs = 0
    · exact hx
    · rw [dPlay, if_pos hx] at h
      exact absurd h hx
  rw [dPlay_few hx (Nat.le_trans hl (by decide))] at h ⊢
  obtain ⟨k1, k2⟩ := conserves l xs [] hx h
  refine ⟨sort_perm ?_, by simpa using k2, playS_check l xs [] hx h⟩
  have : real [] = [] := rfl
  rw [this, List.append_nil] at k1
  exact k1
end Go.Proofs.Ytcghckgbaeindaa
