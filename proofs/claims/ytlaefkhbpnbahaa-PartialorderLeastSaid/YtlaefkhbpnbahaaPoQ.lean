/- Partial orders: plain laws of the closure and of the covering pairs. -/
import Derived.Test.YtlaefkhbpnbahaaPoP
import Derived.Test.YtlaefkhbpnbahaaPoE
set_option linter.unusedSimpArgs false
set_option linter.unusedVariables false
set_option maxRecDepth 100000
namespace Go.Proofs.Ytlaefkhbpnbahaa
open Go.Sx
/-- A strict partial order on n elements. -/
structure Ord (n : Int) (l : List Ed) : Prop where
  n0 : 0 ≤ n
  n1 : n ≤ 200
  len : l.length ≤ 2000
  ins : insideAll n l
  asc : asc l
  irr : ∀ i, inL l i i = false
  tr : ∀ i v j, inL l i v = true → inL l v j = true → inL l i j = true
theorem inL_ins {n : Int} {l : List Ed} (h : insideAll n l) {i j : Nat} (e : inL l i j = true) : i < n.toNat ∧ j < n.toNat := by
  have := out_false (h _ (inL_iff.1 e))
  simp only at this
  omega
theorem mem_inL {n : Int} {l : List Ed} (h : insideAll n l) {p : Ed} (hp : p ∈ l) : inL l p.1.toNat p.2.toNat = true ∧ ((p.1.toNat : Nat) : Int) = p.1 ∧ ((p.2.toNat : Nat) : Int) = p.2 ∧ p.1.toNat < n.toNat ∧ p.2.toNat < n.toNat := by
  have := out_false (h _ hp)
  have e1 : ((p.1.toNat : Nat) : Int) = p.1 := by omega
  have e2 : ((p.2.toNat : Nat) : Int) = p.2 := by omega
  refine ⟨?_, e1, e2, by omega, by omega⟩
  rw [inL_iff, e1, e2]
  exact hp
theorem sizes_iff {n : Int} {l : List Ed} : sizesF n l = 0 ↔ 0 ≤ n ∧ n ≤ 200 ∧ l.length ≤ 2000 := by
  refine ⟨sizes_ok, fun h => ?_⟩
  rw [sizesF, if_neg (by omega), if_neg (by omega)]
theorem open_iff {n : Int} {l : List Ed} (h0 : 0 ≤ n) (hl : insideAll n l) : l.any (openE n.toNat (matF n l)) = false ↔ ∀ i v j, inL l i v = true → inL l v j = true → inL l i j = true := by
  rw [mat_tab h0 hl, List.any_eq_false]
  constructor
  · intro h i v j h1 h2
    obtain ⟨hi, hv⟩ := inL_ins hl h1
    obtain ⟨_, hj⟩ := inL_ins hl h2
    have := h _ (inL_iff.1 h1)
    simp only [openE, lacks, Int.toNat_natCast, List.any_eq_true, not_exists, not_and, List.mem_range, Bool.and_eq_true] at this
    have := this j hj
    rw [tab_at _ hv hj, tab_at _ hi hj] at this
    simpa using this h2
  · intro h p hp
    obtain ⟨h1, e1, e2, l1, l2⟩ := mem_inL hl hp
    simp only [openE, lacks, List.any_eq_true, not_exists, not_and, List.mem_range, Bool.and_eq_true]
    intro k hk
    rw [tab_at _ l2 hk, tab_at _ l1 hk]
    intro h2
    simpa using h _ _ _ h1 h2
theorem loop_iff {n : Int} {l : List Ed} (hl : insideAll n l) : l.any loopE = false ↔ ∀ i, inL l i i = false := by
  rw [List.any_eq_false]
  constructor
  · intro h i
    rw [Bool.eq_false_iff]
    intro e
    exact h _ (inL_iff.1 e) (by simp [loopE])
  · intro h p hp e
    obtain ⟨h1, e1, e2, l1, l2⟩ := mem_inL hl hp
    have e3 : p.1 = p.2 := by simpa [loopE] using e
    rw [e3] at h1
    rw [h] at h1
    cases h1
theorem check_iff {n : Int} {l : List Ed} : checkF n l = 0 ↔ Ord n l := by
  rw [checkF]
  by_cases h1 : sizesF n l = 0
  · rw [if_neg (by simp [h1])]
    by_cases h2 : scanE n none l = 0
    · rw [if_neg (by simp [h2])]
      have hs := sizes_ok h1
      have hi := (scan_iff n none l).1 h2
      have ho := open_iff hs.1 hi.1
      have hp := loop_iff hi.1
      cases h3 : l.any loopE with
      | true =>
        rw [if_pos rfl]
        refine ⟨fun h => absurd h (by decide), fun h => ?_⟩
        rw [hp.2 h.irr] at h3; cases h3
      | false =>
        rw [if_neg (by simp)]
        cases h4 : l.any (openE n.toNat (matF n l)) with
        | true =>
          rw [if_pos rfl]
          refine ⟨fun h => absurd h (by decide), fun h => ?_⟩
          rw [ho.2 h.tr] at h4; cases h4
        | false =>
          rw [if_neg (by simp)]
          exact ⟨fun _ => ⟨hs.1, hs.2.1, hs.2.2, hi.1, hi.2, hp.1 h3, ho.1 h4⟩, fun _ => rfl⟩
    · rw [if_pos h2]
      exact ⟨fun h => absurd h h2, fun h => absurd ((scan_iff n none l).2 ⟨h.ins, h.asc⟩) h2⟩
  · rw [if_pos h1]
    exact ⟨fun h => absurd h h1, fun h => absurd (sizes_iff.2 ⟨h.n0, h.n1, h.len⟩) h1⟩
/-- An ascending list of pairs is the list of the pairs of its relation. -/
theorem pairs_self {n : Int} {l : List Ed} (h : insideAll n l) (ha : asc l) : pairsF n.toNat (inL l) = l := by
  refine asc_ext (asc_pairs _ _) ha fun p => ?_
  rw [mem_pairs]
  constructor
  · rintro ⟨i, j, _, _, hf, rfl⟩
    exact inL_iff.1 hf
  · intro hp
    obtain ⟨h1, e1, e2, l1, l2⟩ := mem_inL h hp
    exact ⟨_, _, l1, l2, h1, by rw [e1, e2]⟩
theorem pairs_congr {n : Nat} {f g : Nat → Nat → Bool} (h : ∀ i j, i < n → j < n → f i j = g i j) : pairsF n f = pairsF n g := by
  refine asc_ext (asc_pairs _ _) (asc_pairs _ _) fun p => ?_
  rw [mem_pairs, mem_pairs]
  constructor <;> rintro ⟨i, j, hi, hj, hf, rfl⟩ <;> refine ⟨i, j, hi, hj, ?_, rfl⟩
  · rw [← h i j hi hj]; exact hf
  · rw [h i j hi hj]; exact hf
theorem pairs_ins (n : Int) (f : Nat → Nat → Bool) : insideAll n (pairsF n.toNat f) := by
  intro p hp
  obtain ⟨i, j, hi, hj, _, rfl⟩ := mem_pairs.1 hp
  simp only [outB, Bool.or_eq_false_iff, decide_eq_false_iff_not]
  omega
theorem asc_nodup : ∀ {l : List Ed}, asc l → l.Nodup := fun {l} h => h.imp fun {a b} h e => by
  subst e; rw [less_irr] at h; cases h
theorem sub_len {α : Type} [DecidableEq α] : ∀ {l m : List α}, l.Nodup → (∀ p ∈ l, p ∈ m) → l.length ≤ m.length
  | [], _, _, _ => Nat.zero_le _
  | a :: l, m, hn, h => by
    have ha := h a (by simp)
    have hn' := List.nodup_cons.1 hn
    have ih := sub_len (l := l) (m := m.erase a) hn'.2 fun p hp => by
      have hne : p ≠ a := fun e => hn'.1 (e ▸ hp)
      rw [List.mem_erase_of_ne hne]
      exact h p (by simp [hp])
    rw [List.length_erase_of_mem ha] at ih
    have := List.length_pos_of_mem ha
    simp only [List.length_cons]
    omega
theorem pairs_len (n : Nat) (f : Nat → Nat → Bool) : (pairsF n f).length ≤ n * n := acc_len n f n
/-- The closure of pairs. -/
def cl (n : Int) (l : List Ed) : Nat → Nat → Bool := closeK (inL l) n.toNat
theorem cl_mono {n : Int} {l : List Ed} {i j : Nat} (h : inL l i j = true) : cl n l i j = true := close_mono _ h _
theorem cl_ins {n : Int} {l : List Ed} (hl : insideAll n l) {i j : Nat} (h : cl n l i j = true) : i < n.toNat ∧ j < n.toNat := by
  have := close_least (inL l) (fun a b => decide (a < n.toNat ∧ b < n.toNat)) (fun a b e => decide_eq_true (inL_ins hl e)) (fun a b c h1 h2 => by
    have := of_decide_eq_true h1
    have := of_decide_eq_true h2
    exact decide_eq_true (by omega)) _ _ _ h
  exact of_decide_eq_true this
theorem cl_trans {n : Int} {l : List Ed} (hl : insideAll n l) {i v j : Nat} (h : cl n l i v = true) (h' : cl n l v j = true) : cl n l i j = true :=
  close_trans _ _ i v j (cl_ins hl h).2 h h'
theorem cl_least {n : Int} {l : List Ed} {g : Nat → Nat → Bool} (hf : ∀ i j, inL l i j = true → g i j = true) (hg : ∀ i v j, g i v = true → g v j = true → g i j = true) {i j : Nat} (h : cl n l i j = true) : g i j = true :=
  close_least _ g hf hg _ i j h
theorem gen_cases (n : Int) (l : List Ed) : (genF n l).2 ≠ 0 ∧ (genF n l).1 = [] ∨
    genF n l = (pairsF n.toNat (cl n l), 0) ∧ 0 ≤ n ∧ n ≤ 200 ∧ l.length ≤ 2000 ∧ insideAll n l ∧ (∀ i, cl n l i i = false) ∧ (pairsF n.toNat (cl n l)).length ≤ 2000 := by
  unfold genF
  by_cases h1 : sizesF n l = 0
  · rw [if_neg (by simp [h1])]
    cases h2 : l.any (outB n) with
    | true => exact .inl ⟨by simp, rfl⟩
    | false =>
      have hl : insideAll n l := fun p hp => by simpa using List.any_eq_false.1 h2 p hp
      rw [if_neg (by simp)]
      cases h3 : (List.range n.toNat).any (fun i => closeK (inL l) n.toNat i i) with
      | true => exact .inl ⟨by simp, rfl⟩
      | false =>
        rw [if_neg (by simp)]
        by_cases h4 : 2000 < ((pairsF n.toNat (closeK (inL l) n.toNat)).length : Int)
        · rw [if_pos h4]; exact .inl ⟨by simp, rfl⟩
        · rw [if_neg h4]
          have hs := sizes_ok h1
          refine .inr ⟨rfl, hs.1, hs.2.1, hs.2.2, hl, fun i => ?_, by unfold cl; omega⟩
          rw [Bool.eq_false_iff]
          intro e
          have := List.any_eq_false.1 h3 i (List.mem_range.2 (cl_ins hl e).1)
          exact this e
  · rw [if_pos h1]
    exact .inl ⟨h1, rfl⟩
theorem gen_some {n : Int} {l : List Ed} (n0 : 0 ≤ n) (n1 : n ≤ 200) (hn : l.length ≤ 2000) (hl : insideAll n l) (g : Nat → Nat → Bool) (hf : ∀ i j, inL l i j = true → g i j = true)
    (hg : ∀ i v j, g i v = true → g v j = true → g i j = true) (hi : ∀ i, g i i = false) (hc : (pairsF n.toNat (cl n l)).length ≤ 2000) : genF n l = (pairsF n.toNat (cl n l), 0) := by
  unfold genF
  rw [if_neg (by simp [sizes_iff.2 ⟨n0, n1, hn⟩]), if_neg, if_neg, if_neg]
  · rfl
  · have : (pairsF n.toNat (closeK (inL l) n.toNat)).length ≤ 2000 := hc
    omega
  · simp only [List.any_eq_true, not_exists, not_and]
    intro x _ e
    have := cl_least hf hg e
    rw [hi] at this; cases this
  · simp only [List.any_eq_true, not_exists, not_and]
    intro p hp
    rw [hl p hp]; decide
theorem cl_self {n : Int} {l : List Ed} (h : Ord n l) : ∀ i j, cl n l i j = inL l i j := fun i j => by
  rw [Bool.eq_iff_iff]
  exact ⟨fun e => cl_least (fun _ _ h => h) h.tr e, cl_mono⟩
theorem gen_self {n : Int} {l : List Ed} (h : Ord n l) : genF n l = (l, 0) := by
  have e : pairsF n.toNat (cl n l) = l := by
    rw [pairs_congr (fun i j _ _ => cl_self h i j), pairs_self h.ins h.asc]
  rw [gen_some h.n0 h.n1 h.len h.ins (inL l) (fun _ _ h => h) h.tr h.irr (by rw [e]; exact h.len), e]
theorem ord_pairs {n : Int} {f : Nat → Nat → Bool} (n0 : 0 ≤ n) (n1 : n ≤ 200) (hc : (pairsF n.toNat f).length ≤ 2000) (hi : ∀ i, f i i = false)
    (hg : ∀ i v j, f i v = true → f v j = true → f i j = true) : Ord n (pairsF n.toNat f) := by
  refine ⟨n0, n1, hc, pairs_ins n f, asc_pairs _ _, fun i => ?_, fun i v j h h' => ?_⟩
  · rw [Bool.eq_false_iff]
    intro e
    have := (inL_out e).2.2
    rw [hi] at this; cases this
  · obtain ⟨h1, h2, h3⟩ := inL_out h
    obtain ⟨h4, h5, h6⟩ := inL_out h'
    rw [inL_pairs h1 h5]
    exact hg i v j h3 h6
theorem gen_ord {n : Int} {l a : List Ed} (h : genF n l = (a, 0)) : Ord n a ∧ (∀ p ∈ l, p ∈ a) ∧ ∀ p : Ed, p ∈ a ↔ ∃ i j : Nat, cl n l i j = true ∧ p = ((i : Int), (j : Int)) := by
  rcases gen_cases n l with ⟨h1, _⟩ | ⟨h1, n0, n1, hn, hl, hi, hc⟩
  · rw [h] at h1; exact absurd rfl h1
  · rw [h1] at h
    have ea : a = pairsF n.toNat (cl n l) := (congrArg Prod.fst h).symm
    subst ea
    have hm : ∀ p : Ed, p ∈ pairsF n.toNat (cl n l) ↔ ∃ i j : Nat, cl n l i j = true ∧ p = ((i : Int), (j : Int)) := fun p => by
      rw [mem_pairs]
      constructor
      · rintro ⟨i, j, _, _, h, e⟩; exact ⟨i, j, h, e⟩
      · rintro ⟨i, j, h, e⟩; exact ⟨i, j, (cl_ins hl h).1, (cl_ins hl h).2, h, e⟩
    refine ⟨ord_pairs n0 n1 hc hi fun i v j => cl_trans hl, fun p hp => ?_, hm⟩
    obtain ⟨h1, e1, e2, l1, l2⟩ := mem_inL hl hp
    rw [hm]
    exact ⟨_, _, cl_mono h1, by rw [e1, e2]⟩
/-- A strict partial order that contains the pairs contains what is generated. -/
theorem gen_in {n : Int} {l m : List Ed} (hn : l.length ≤ 2000) (hm : Ord n m) (h : ∀ p ∈ l, p ∈ m) : ∃ a, genF n l = (a, 0) ∧ ∀ p ∈ a, p ∈ m := by
  have hl : insideAll n l := fun p hp => hm.ins p (h p hp)
  have hf : ∀ i j, inL l i j = true → inL m i j = true := fun i j e => inL_iff.2 (h _ (inL_iff.1 e))
  have hs : ∀ p ∈ pairsF n.toNat (cl n l), p ∈ m := fun p hp => by
    obtain ⟨i, j, _, _, e, rfl⟩ := mem_pairs.1 hp
    exact inL_iff.1 (cl_least hf hm.tr e)
  have hc := sub_len (asc_nodup (asc_pairs n.toNat (cl n l))) hs
  refine ⟨_, gen_some hm.n0 hm.n1 hn hl (inL m) hf hm.tr hm.irr (by have := hm.len; omega), hs⟩
theorem inL_app {l m : List Ed} {i j : Nat} : inL (l ++ m) i j = (inL l i j || inL m i j) := by
  simp [inL]
theorem inL_one {p : Ed} {i j : Nat} : inL [p] i j = true ↔ p = ((i : Int), (j : Int)) := by
  rw [inL_iff, List.mem_singleton]
  exact eq_comm
/-- One pair of concurrent elements more. -/
def addG (l : List Ed) (i j u v : Nat) : Bool := inL l u v || ((decide (u = i) || inL l u i) && (decide (v = j) || inL l j v))
theorem refine_ok {n : Int} {l : List Ed} {i j : Nat} (h : Ord n l) (hn : n ≤ 8) (hl : l.length ≤ 60) (hi : i < n.toNat) (hj : j < n.toNat) (hne : i ≠ j) (h1 : inL l i j = false) (h2 : inL l j i = false) :
    ∃ a, genF n (l ++ [((i : Int), (j : Int))]) = (a, 0) ∧ (∀ p ∈ l, p ∈ a) ∧ ((i : Int), (j : Int)) ∈ a ∧ ((j : Int), (i : Int)) ∉ a := by
  have n0 := h.n0
  have hins : insideAll n (l ++ [((i : Int), (j : Int))]) := fun p hp => by
    rcases List.mem_append.1 hp with hp | hp
    · exact h.ins p hp
    · rw [List.mem_singleton.1 hp]
      simp only [outB, Bool.or_eq_false_iff, decide_eq_false_iff_not]
      omega
  have hlen : (l ++ [((i : Int), (j : Int))]).length ≤ 2000 := by simp; omega
  have hc : (pairsF n.toNat (cl n (l ++ [((i : Int), (j : Int))]))).length ≤ 2000 := by
    have h1 := pairs_len n.toNat (cl n (l ++ [((i : Int), (j : Int))]))
    have h2 : n.toNat ≤ 8 := by omega
    have := Nat.mul_le_mul h2 h2
    omega
  have hg := gen_some h.n0 h.n1 hlen hins (addG l i j) (fun u v e => by
      rw [inL_app, Bool.or_eq_true, inL_one] at e
      rcases e with e | e
      · simp [addG, e]
      · have e1 : u = i := by have := congrArg Prod.fst e; simp only at this; omega
        have e2 : v = j := by have := congrArg Prod.snd e; simp only at this; omega
        simp [addG, e1, e2]) (fun u w v e e' => by
      simp only [addG, Bool.or_eq_true, Bool.and_eq_true, decide_eq_true_eq] at e e' ⊢
      have tr := h.tr
      have h2' : ¬ inL l j i = true := by simp [h2]
      grind) (fun u => by
      have tr := h.tr
      have irr := h.irr
      rw [Bool.eq_false_iff]
      intro e
      simp only [addG, Bool.or_eq_true, Bool.and_eq_true, decide_eq_true_eq] at e
      have h2' : ¬ inL l j i = true := by simp [h2]
      have irr' : ¬ inL l u u = true := by simp [irr u]
      grind) hc
  have ho := gen_ord hg
  refine ⟨_, hg, fun p hp => ho.2.1 p (List.mem_append_left _ hp), ho.2.1 _ (by simp), fun hb => ?_⟩
  have hf := ho.2.1 ((i : Int), (j : Int)) (by simp)
  have e := ho.1.tr i j i (inL_iff.2 hf) (inL_iff.2 hb)
  rw [ho.1.irr] at e; cases e
/-- The covering pairs. -/
def covL (n : Int) (l : List Ed) : List Ed := l.filter fun p => !covB n.toNat (inL l) p
def btw (n : Int) (l : List Ed) (i j : Nat) : List Nat := (List.range n.toNat).filter fun k => inL l i k && inL l k j
theorem cov_chain {n : Int} {l : List Ed} (h : Ord n l) : ∀ (b i j : Nat), (btw n l i j).length ≤ b → inL l i j = true → cl n (covL n l) i j = true := by
  have hcl : insideAll n (covL n l) := fun p hp => h.ins p (List.mem_filter.1 hp).1
  intro b
  induction b with
  | zero =>
    intro i j hb e
    refine cl_mono ?_
    rw [inL_iff, covL, List.mem_filter]
    refine ⟨inL_iff.1 e, ?_⟩
    have e0 : btw n l i j = [] := List.eq_nil_of_length_eq_zero (by omega)
    simp only [covB, Bool.not_eq_true', Int.toNat_natCast]
    rw [List.any_eq_false]
    intro k hk hk'
    have : k ∈ btw n l i j := List.mem_filter.2 ⟨hk, hk'⟩
    rw [e0] at this; cases this
  | succ b ih =>
    intro i j hb e
    cases hc : covB n.toNat (inL l) ((i : Int), (j : Int)) with
    | false =>
      refine cl_mono ?_
      rw [inL_iff, covL, List.mem_filter]
      exact ⟨inL_iff.1 e, by rw [hc]; rfl⟩
    | true =>
      simp only [covB, Int.toNat_natCast, List.any_eq_true, Bool.and_eq_true, List.mem_range] at hc
      obtain ⟨k, hk, h1, h2⟩ := hc
      have hkm : k ∈ btw n l i j := List.mem_filter.2 ⟨List.mem_range.2 hk, by simp [h1, h2]⟩
      have nd : (List.range n.toNat).Nodup := List.nodup_range
      have l1 : (btw n l i k).length ≤ b := by
        have := sub_len (l := k :: btw n l i k) (m := btw n l i j) (List.nodup_cons.2 ⟨fun hm => by
          have := (List.mem_filter.1 hm).2
          simp [h.irr] at this, nd.filter _⟩) fun p hp => by
          rcases List.mem_cons.1 hp with rfl | hp
          · exact hkm
          · have := List.mem_filter.1 hp
            simp only [Bool.and_eq_true] at this
            exact List.mem_filter.2 ⟨this.1, by simp [this.2.1, h.tr _ _ _ this.2.2 h2]⟩
        simp only [List.length_cons] at this
        omega
      have l2 : (btw n l k j).length ≤ b := by
        have := sub_len (l := k :: btw n l k j) (m := btw n l i j) (List.nodup_cons.2 ⟨fun hm => by
          have := (List.mem_filter.1 hm).2
          simp [h.irr] at this, nd.filter _⟩) fun p hp => by
          rcases List.mem_cons.1 hp with rfl | hp
          · exact hkm
          · have := List.mem_filter.1 hp
            simp only [Bool.and_eq_true] at this
            exact List.mem_filter.2 ⟨this.1, by simp [this.2.2, h.tr _ _ _ h1 this.2.1]⟩
        simp only [List.length_cons] at this
        omega
      exact cl_trans hcl (ih i k l1 h1) (ih k j l2 h2)
theorem cov_gen {n : Int} {l : List Ed} (h : Ord n l) : genF n (covL n l) = (l, 0) := by
  have hsub : ∀ p ∈ covL n l, p ∈ l := fun p hp => (List.mem_filter.1 hp).1
  have hlen : (covL n l).length ≤ 2000 := Nat.le_trans (List.length_filter_le _ _) h.len
  obtain ⟨a, ha, hs⟩ := gen_in hlen h hsub
  have ho := gen_ord ha
  have e : a = l := asc_ext ho.1.asc h.asc fun p => ⟨hs p, fun hp => by
    obtain ⟨h1, e1, e2, l1, l2⟩ := mem_inL h.ins hp
    rw [ho.2.2]
    exact ⟨_, _, cov_chain h _ _ _ (Nat.le_refl _) h1, by rw [e1, e2]⟩⟩
  rw [ha, e]
/-- Without one of the covering pairs something less is generated. -/
theorem cov_less {n : Int} {l : List Ed} (h : Ord n l) {i : Nat} (hi : i < (covL n l).length) (d : Ed) : ∃ b, genF n ((covL n l).eraseIdx i) = (b, 0) ∧ (covL n l).getD i d ∉ b := by
  have hsub : ∀ p ∈ covL n l, p ∈ l := fun p hp => (List.mem_filter.1 hp).1
  have hsub' : ∀ p ∈ (covL n l).eraseIdx i, p ∈ l := fun p hp => hsub p (List.mem_of_mem_eraseIdx hp)
  have hlen : (covL n l).length ≤ 2000 := Nat.le_trans (List.length_filter_le _ _) h.len
  have hlen' : ((covL n l).eraseIdx i).length ≤ 2000 := Nat.le_trans (List.length_eraseIdx_le _ _) hlen
  obtain ⟨b, hb, hs⟩ := gen_in hlen' h hsub'
  refine ⟨b, hb, fun hm => ?_⟩
  have eg : (covL n l).getD i d = (covL n l)[i] := by simp [List.getD_eq_getElem?_getD, List.getElem?_eq_getElem hi]
  have hc : (covL n l)[i] ∈ covL n l := List.getElem_mem hi
  obtain ⟨hcl, hcb⟩ := List.mem_filter.1 hc
  rw [eg] at hm
  have nd : (covL n l).Nodup := (asc_nodup h.asc).filter _
  generalize hp : (covL n l)[i] = p at *
  obtain ⟨h1, e1, e2, l1, l2⟩ := mem_inL h.ins hcl
  have ho := gen_ord hb
  obtain ⟨u, v, huv, e⟩ := (ho.2.2 p).1 hm
  have := cl_least (g := fun x y => inL l x y && !decide (x = u ∧ y = v)) (fun x y hxy => by
    have hxm := inL_iff.1 hxy
    have : inL l x y = true := inL_iff.2 (hsub' _ hxm)
    simp only [this, Bool.true_and, Bool.not_eq_true', decide_eq_false_iff_not]
    rintro ⟨rfl, rfl⟩
    rw [← e, ← hp] at hxm
    rw [List.mem_eraseIdx_iff_getElem] at hxm
    obtain ⟨k, hk, hne, hk'⟩ := hxm
    exact hne ((List.getElem_inj nd).1 hk')) (fun x w y h1' h2' => by
    simp only [Bool.and_eq_true, Bool.not_eq_true', decide_eq_false_iff_not] at h1' h2' ⊢
    refine ⟨h.tr _ _ _ h1'.1 h2'.1, ?_⟩
    rintro ⟨rfl, rfl⟩
    simp only [covB, Bool.not_eq_true', List.any_eq_false, List.mem_range] at hcb
    have := hcb w (inL_ins h.ins h1'.1).2
    rw [e] at this
    simp [h1'.1, h2'.1] at this) huv
  simp at this
end Go.Proofs.Ytlaefkhbpnbahaa
