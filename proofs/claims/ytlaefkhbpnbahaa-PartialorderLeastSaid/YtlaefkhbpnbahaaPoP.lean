/- Partial orders: the plain laws of the closure. -/
import Derived.Test.YtlaefkhbpnbahaaPoD
set_option linter.unusedSimpArgs false
set_option linter.unusedVariables false
set_option maxRecDepth 100000
namespace Go.Proofs.Ytlaefkhbpnbahaa
open Go.Sx

theorem close_mono (f : Nat → Nat → Bool) {i j : Nat} (h : f i j = true) : ∀ k, closeK f k i j = true
  | 0 => h
  | k + 1 => by
    have := close_mono f h k
    simp [closeK, warsh, this]
theorem close_succ (f : Nat → Nat → Bool) (k i j : Nat) : closeK f (k + 1) i j = true ↔ closeK f k i j = true ∨ (closeK f k i k = true ∧ closeK f k k j = true) := by
  simp [closeK, warsh]
theorem close_trans (f : Nat → Nat → Bool) : ∀ k i v j, v < k → closeK f k i v = true → closeK f k v j = true → closeK f k i j = true
  | 0, _, _, _, h, _, _ => absurd h (Nat.not_lt_zero _)
  | k + 1, i, v, j, h, h1, h2 => by
    rw [close_succ] at h1 h2 ⊢
    by_cases hv : v = k
    · subst hv
      exact .inr ⟨h1.elim id fun h => h.1, h2.elim id fun h => h.2⟩
    · have ih := close_trans f k
      have hv' : v < k := by omega
      rcases h1 with h1 | ⟨h1, h1'⟩ <;> rcases h2 with h2 | ⟨h2, h2'⟩
      · exact .inl (ih i v j hv' h1 h2)
      · exact .inr ⟨ih i v k hv' h1 h2, h2'⟩
      · exact .inr ⟨h1, ih k v j hv' h1' h2⟩
      · exact .inr ⟨h1, h2'⟩
theorem close_least (f g : Nat → Nat → Bool) (hf : ∀ i j, f i j = true → g i j = true) (hg : ∀ i v j, g i v = true → g v j = true → g i j = true) : ∀ k i j, closeK f k i j = true → g i j = true
  | 0, i, j, h => hf i j h
  | k + 1, i, j, h => by
    rw [close_succ] at h
    rcases h with h | ⟨h, h'⟩
    · exact close_least f g hf hg k i j h
    · exact hg i k j (close_least f g hf hg k i k h) (close_least f g hf hg k k j h')
theorem mem_pairs {n : Nat} {f : Nat → Nat → Bool} {p : Ed} : p ∈ pairsF n f ↔ ∃ i j : Nat, i < n ∧ j < n ∧ f i j = true ∧ p = ((i : Int), (j : Int)) := by
  simp only [pairsF, List.mem_flatMap, List.mem_map, List.mem_filter, List.mem_range]
  constructor
  · rintro ⟨i, hi, j, ⟨hj, hf⟩, rfl⟩
    exact ⟨i, j, hi, hj, hf, rfl⟩
  · rintro ⟨i, j, hi, hj, hf, rfl⟩
    exact ⟨i, hi, j, ⟨hj, hf⟩, rfl⟩
theorem inL_iff {l : List Ed} {i j : Nat} : inL l i j = true ↔ ((i : Int), (j : Int)) ∈ l := by
  simp only [inL, List.any_eq_true, Bool.and_eq_true, decide_eq_true_eq]
  constructor
  · rintro ⟨⟨a, b⟩, h, h1, h2⟩
    simp only at h1 h2
    subst h1; subst h2
    exact h
  · intro h
    exact ⟨_, h, rfl, rfl⟩
theorem inL_pairs {n : Nat} {f : Nat → Nat → Bool} {i j : Nat} (hi : i < n) (hj : j < n) : inL (pairsF n f) i j = f i j := by
  rw [Bool.eq_iff_iff, inL_iff, mem_pairs]
  constructor
  · rintro ⟨a, b, _, _, h, e⟩
    have e1 : i = a := by have := congrArg Prod.fst e; simp only at this; omega
    have e2 : j = b := by have := congrArg Prod.snd e; simp only at this; omega
    rw [e1, e2]; exact h
  · exact fun h => ⟨i, j, hi, hj, h, rfl⟩
theorem inL_out {n : Nat} {f : Nat → Nat → Bool} {i j : Nat} (h : inL (pairsF n f) i j = true) : i < n ∧ j < n ∧ f i j = true := by
  rw [inL_iff, mem_pairs] at h
  obtain ⟨a, b, h1, h2, h3, e⟩ := h
  have e1 : i = a := by have := congrArg Prod.fst e; simp only at this; omega
  have e2 : j = b := by have := congrArg Prod.snd e; simp only at this; omega
  rw [e1, e2]; exact ⟨h1, h2, h3⟩

theorem cmp_lt {a b : Ed} : cmpE a b < 0 ↔ lessE a b = true := by
  unfold cmpE cmpI lessE
  simp only [Bool.or_eq_true, Bool.and_eq_true, decide_eq_true_eq]
  split <;> split <;> omega
/-- In ascending order. -/
def asc (l : List Ed) : Prop := l.Pairwise fun a b => lessE a b = true
theorem less_trans {a b c : Ed} (h : lessE a b = true) (h' : lessE b c = true) : lessE a c = true := by
  unfold lessE at *
  simp only [Bool.or_eq_true, Bool.and_eq_true, decide_eq_true_eq] at *
  omega
theorem less_irr {a : Ed} : lessE a a = false := by
  unfold lessE
  simp

theorem asc_cons2 {q p : Ed} {l : List Ed} : asc (q :: p :: l) ↔ lessE q p = true ∧ asc (p :: l) := by
  constructor
  · intro h
    exact ⟨(List.pairwise_cons.1 h).1 p (by simp), (List.pairwise_cons.1 h).2⟩
  · rintro ⟨h, h'⟩
    refine List.pairwise_cons.2 ⟨fun r hr => ?_, h'⟩
    rcases List.mem_cons.1 hr with rfl | hr
    · exact h
    · exact less_trans h ((List.pairwise_cons.1 h').1 r hr)
theorem scan_iff (n : Int) : ∀ (q : Option Ed) (l : List Ed), scanE n q l = 0 ↔ insideAll n l ∧ asc (q.toList ++ l)
  | q, [] => by
    refine ⟨fun _ => ⟨fun p hp => by simp at hp, ?_⟩, fun _ => rfl⟩
    cases q <;> simp [asc]
  | q, p :: l => by
    have ih := scan_iff n (some p) l
    have ei : insideAll n (p :: l) ↔ outB n p = false ∧ insideAll n l := by simp [insideAll]
    rw [ei, scanE]
    cases ho : outB n p with
    | true => simp
    | false =>
      rw [if_neg (by simp)]
      cases q with
      | none =>
        rw [if_neg (by simp [badPrev]), ih]
        simp
      | some q =>
        have eb : badPrev (some q) p = true ↔ ¬ lessE q p = true := by
          rw [← cmp_lt]
          simp [badPrev]
        by_cases hb : lessE q p = true
        · rw [if_neg (by rw [eb]; exact fun h => h hb), ih]
          show _ ↔ (_ ∧ _) ∧ asc (q :: p :: l)
          rw [asc_cons2]
          simp [hb]
        · rw [if_pos (eb.2 hb)]
          refine ⟨fun h => absurd h (by decide), fun h => ?_⟩
          have h2 : asc (q :: p :: l) := h.2
          exact absurd (asc_cons2.1 h2).1 hb

theorem asc_row (n : Nat) (f : Nat → Nat → Bool) (i j : Nat) : asc (rowP n f i j) ∧ ∀ p ∈ rowP n f i j, p.1 = (i : Int) := by
  refine ⟨?_, fun p hp => ?_⟩
  · unfold asc rowP
    rw [List.pairwise_map]
    refine (List.Pairwise.filter _ List.pairwise_lt_range).imp fun {a b} h => ?_
    simp only [lessE, Bool.or_eq_true, Bool.and_eq_true, decide_eq_true_eq]
    exact Or.inr ⟨trivial, Int.ofNat_lt.2 h⟩
  · unfold rowP at hp
    obtain ⟨b, _, rfl⟩ := List.mem_map.1 hp
    rfl
theorem asc_acc (n : Nat) (f : Nat → Nat → Bool) : ∀ i, asc (accI n f i) ∧ ∀ p ∈ accI n f i, p.1 < (i : Int)
  | 0 => by simp [accI, asc]
  | i + 1 => by
    obtain ⟨h1, h2⟩ := asc_acc n f i
    obtain ⟨h3, h4⟩ := asc_row n f i n
    rw [acc_next]
    refine ⟨List.pairwise_append.2 ⟨h1, h3, fun a ha b hb => ?_⟩, fun p hp => ?_⟩
    · have := h2 a ha
      have := h4 b hb
      simp only [lessE, Bool.or_eq_true, Bool.and_eq_true, decide_eq_true_eq]
      omega
    · rcases List.mem_append.1 hp with hp | hp
      · have := h2 p hp; omega
      · have := h4 p hp; omega
theorem asc_pairs (n : Nat) (f : Nat → Nat → Bool) : asc (pairsF n f) := (asc_acc n f n).1

theorem asc_ext : ∀ {l m : List Ed}, asc l → asc m → (∀ p, p ∈ l ↔ p ∈ m) → l = m
  | [], [], _, _, _ => rfl
  | [], b :: m, _, _, h => absurd ((h b).2 (by simp)) (by simp)
  | a :: l, [], _, _, h => absurd ((h a).1 (by simp)) (by simp)
  | a :: l, b :: m, hl, hm, h => by
    obtain ⟨l1, l2⟩ := List.pairwise_cons.1 hl
    obtain ⟨m1, m2⟩ := List.pairwise_cons.1 hm
    have e : a = b := by
      rcases List.mem_cons.1 ((h a).1 (by simp)) with e | ha
      · exact e
      · rcases List.mem_cons.1 ((h b).2 (by simp)) with e | hb
        · exact e.symm
        · have := less_trans (l1 b hb) (m1 a ha)
          rw [less_irr] at this
          cases this
    subst e
    refine congrArg (a :: ·) (asc_ext l2 m2 fun p => ⟨fun hp => ?_, fun hp => ?_⟩)
    · rcases List.mem_cons.1 ((h p).1 (by simp [hp])) with e | h'
      · have := l1 p hp
        rw [e, less_irr] at this
        cases this
      · exact h'
    · rcases List.mem_cons.1 ((h p).2 (by simp [hp])) with e | h'
      · have := m1 p hp
        rw [e, less_irr] at this
        cases this
      · exact h'
end Go.Proofs.Ytlaefkhbpnbahaa
