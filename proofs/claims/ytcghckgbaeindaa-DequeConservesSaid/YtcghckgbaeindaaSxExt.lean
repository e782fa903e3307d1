/- One step of the memory: a block more, a block written, a block that dies; what that keeps. -/
import Derived.Test.YtcghckgbaeindaaSxSem
set_option linter.unusedSimpArgs false
set_option linter.unusedVariables false
namespace Go.Sx
open Go.RowKit

/-- The state behind a step that ends in the world w' and makes m blocks, named from n on. -/
def Env.ext (E : Env) (n m : Nat) (kill : Option Nat) (frz : List Nat) (wn : Nat → Prop) (w' : World) (hd : Nat → Option Hdr) : Env where
  w := w'
  B := E.B
  F0 := E.F0
  ρ := fun id => if n ≤ id ∧ id < n + m then hd (id - n) else E.ρ id
  L := fun id => (E.L id ∧ kill ≠ some id) ∨ (n ≤ id ∧ id < n + m)
  W := fun id => (E.W id ∧ kill ≠ some id ∧ id ∉ frz) ∨ (n ≤ id ∧ id < n + m ∧ wn id)
  A := fun id => E.A id ∨ (n ≤ id ∧ id < n + m)

/-- What is asked of such a step. -/
structure Step (E : Env) (n : Nat) (r : Res) (w' : World) (hd : Nat → Option Hdr) : Prop where
  below : Below E.B E.w w'
  fr : ∀ b, b < E.w.heap.size → (∀ id h, E.W id → (r.kill = some id ∨ r.st.map (·.1) = some id) → E.ρ id = some h → h.blk ≠ b) → w'.heap[b]? = E.w.heap[b]?
  blk : ∀ j h, j < r.news.length → hd j = some h → h.blk < w'.heap.size ∧ (E.w.heap.size ≤ h.blk ∨ ∃ id h', E.W id ∧ r.kill = some id ∧ E.ρ id = some h' ∧ h'.blk = h.blk)
  two : ∀ j j' h h', j < r.news.length → j' < r.news.length → hd j = some h → hd j' = some h' → j ≠ j' → h.blk ≠ h'.blk
  kw : ∀ id, r.kill = some id → E.W id
  sw : ∀ p, r.st = some p → E.W p.1

structure Ext (E : Env) (n : Nat) (r : Res) (wn : Nat → Prop) (E' : Env) : Prop where
  evo : ∀ n0, Evo n0 E E'
  L : ∀ id, E'.L id ↔ (E.L id ∧ r.kill ≠ some id) ∨ (n ≤ id ∧ id < n + r.news.length)
  W : ∀ id, E'.W id ↔ (E.W id ∧ r.kill ≠ some id ∧ id ∉ r.frz) ∨ (n ≤ id ∧ id < n + r.news.length ∧ wn id)
  A : ∀ id, E'.A id ↔ E.A id ∨ (n ≤ id ∧ id < n + r.news.length)
  inj : ∀ id id' h h', E'.L id → E'.L id' → E'.ρ id = some h → E'.ρ id' = some h' → id ≠ id' → h.blk ≠ h'.blk
  lt : ∀ id h, E'.L id → E'.ρ id = some h → E'.B ≤ h.blk ∧ h.blk < E'.w.heap.size
  new : ∀ j ob, r.news[j]? = some ob → OkOb E' (n + j) ob
  st : ∀ id ob, r.st = some (id, ob) → OkOb E' id ob
  keep : ∀ id h, E.L id → E.ρ id = some h → r.kill ≠ some id → (∀ p, r.st = some p → p.1 ≠ id) → E'.w.heap[h.blk]? = E.w.heap[h.blk]?
  old : ∀ id ob, E.L id → r.kill ≠ some id → (∀ p, r.st = some p → p.1 ≠ id) → OkOb E id ob → OkOb E' id ob

/-- What a state must be for a step to be made in it. -/
structure Ready (E : Env) (n : Nat) (m : Nat) : Prop where
  sub : ∀ id, E.L id → E.A id
  wl : ∀ id, E.W id → E.L id
  inj : ∀ id id' h h', E.L id → E.L id' → E.ρ id = some h → E.ρ id' = some h' → id ≠ id' → h.blk ≠ h'.blk
  lt : ∀ id h, E.L id → E.ρ id = some h → E.B ≤ h.blk ∧ h.blk < E.w.heap.size
  f0 : ∀ b o, E.F0 b o → b < E.B
  B : E.B ≤ E.w.heap.size
  fresh : ∀ id, n ≤ id → id < n + m → ¬ E.A id

theorem Step.evo {E : Env} {n : Nat} {r : Res} {w' : World} {hd : Nat → Option Hdr} {wn : Nat → Prop} (hs : Step E n r w' hd) (hr : Ready E n r.news.length) (n0 : Nat) :
    Evo n0 E (E.ext n r.news.length r.kill r.frz wn w' hd) := by
  have old : ∀ b, b < E.w.heap.size → (∀ id h, E.W id → E.ρ id = some h → h.blk ≠ b) → w'.heap[b]? = E.w.heap[b]? := fun b hb hw =>
    hs.fr b hb fun id h hW _ hρ => hw id h hW hρ
  refine ⟨rfl, rfl, hs.below, fun id _ ha => .inl ha, ?_, ?_⟩
  · intro id _ ha hl
    have hne : ¬ (n ≤ id ∧ id < n + r.news.length) := fun ⟨h1, h2⟩ => hr.fresh id h1 h2 ha
    rcases hl with ⟨hl, _⟩ | hl
    · exact ⟨hl, by simp only [Env.ext]; rw [if_neg hne]⟩
    · exact absurd hl hne
  · intro b o hf
    rcases hf with ⟨hb, hf⟩ | ⟨hb, hsz, hf⟩
    · exact ⟨.inl ⟨hb, hf⟩, cell_of_heap (hs.below.block b hb)⟩
    · refine ⟨.inr ⟨hb, Nat.lt_of_lt_of_le hsz hs.below.size, ?_⟩, cell_of_heap (old b hsz hf)⟩
      intro id h hW hρ
      by_cases hid : n ≤ id ∧ id < n + r.news.length
      · simp only [Env.ext] at hρ
        rw [if_pos hid] at hρ
        obtain ⟨_, h2⟩ := hs.blk (id - n) h (by omega) hρ
        rcases h2 with h2 | ⟨id', h', hW', _, hρ', he⟩
        · omega
        · rw [← he]; exact hf id' h' hW' hρ'
      · simp only [Env.ext] at hρ
        rw [if_neg hid] at hρ
        rcases hW with ⟨hW, _⟩ | ⟨h1, h2, _⟩
        · exact hf id h hW hρ
        · exact absurd ⟨h1, h2⟩ hid

theorem Step.blkB {E : Env} {n : Nat} {r : Res} {w' : World} {hd : Nat → Option Hdr} (hs : Step E n r w' hd) (hr : Ready E n r.news.length) {j : Nat} {h : Hdr} (hj : j < r.news.length) (hh : hd j = some h) :
    E.B ≤ h.blk ∧ h.blk < w'.heap.size := by
  obtain ⟨h1, h2⟩ := hs.blk j h hj hh
  refine ⟨?_, h1⟩
  rcases h2 with h2 | ⟨id, h', hW, _, hρ, he⟩
  · exact Nat.le_trans hr.B h2
  · rw [← he]; exact (hr.lt id h' (hr.wl id hW) hρ).1

theorem Step.apart {E : Env} {n : Nat} {r : Res} {w' : World} {hd : Nat → Option Hdr} (hs : Step E n r w' hd) (hr : Ready E n r.news.length) {j : Nat} {h : Hdr} (hj : j < r.news.length) (hh : hd j = some h)
    {id : Nat} {h' : Hdr} (hl : E.L id) (hk : r.kill ≠ some id) (hρ : E.ρ id = some h') : h.blk ≠ h'.blk := by
  obtain ⟨_, h2⟩ := hs.blk j h hj hh
  rcases h2 with h2 | ⟨id2, h2', hW, hk2, hρ2, he⟩
  · have := (hr.lt id h' hl hρ).2; omega
  · rw [← he]
    exact hr.inj id2 id h2' h' (hr.wl id2 hW) hl hρ2 hρ (fun e => hk (e ▸ hk2))

theorem Step.ext {E : Env} {n : Nat} {r : Res} {w' : World} {hd : Nat → Option Hdr} {wn : Nat → Prop} (hs : Step E n r w' hd) (hr : Ready E n r.news.length)
    (hA : ∃ N, ∀ id, E.A id → id < N)
    (hnew : (∀ n0, Evo n0 E (E.ext n r.news.length r.kill r.frz wn w' hd)) → ∀ j ob, r.news[j]? = some ob → OkOb (E.ext n r.news.length r.kill r.frz wn w' hd) (n + j) ob)
    (hst : (∀ n0, Evo n0 E (E.ext n r.news.length r.kill r.frz wn w' hd)) → ∀ id ob, r.st = some (id, ob) → OkOb (E.ext n r.news.length r.kill r.frz wn w' hd) id ob) :
    Ext E n r wn (E.ext n r.news.length r.kill r.frz wn w' hd) := by
  obtain ⟨N, hN⟩ := hA
  have hkeep : ∀ id h, E.L id → E.ρ id = some h → r.kill ≠ some id → (∀ p, r.st = some p → p.1 ≠ id) → w'.heap[h.blk]? = E.w.heap[h.blk]? := by
    intro id h hl hρ hk hst'
    refine hs.fr h.blk (hr.lt id h hl hρ).2 fun id2 h2 hW2 hor hρ2 => ?_
    refine hr.inj id2 id h2 h (hr.wl id2 hW2) hl hρ2 hρ fun e => ?_
    subst e
    rcases hor with h | h
    · exact hk h
    · cases hst2 : r.st with
      | none => rw [hst2] at h; cases h
      | some p => rw [hst2] at h; simp at h; exact hst' p hst2 h
  refine ⟨hs.evo hr, fun _ => Iff.rfl, fun _ => Iff.rfl, fun _ => Iff.rfl, ?_, ?_, hnew (hs.evo hr), hst (hs.evo hr), hkeep, ?_⟩
  · intro id id' h h' hl hl' hρ hρ' hne
    simp only [Env.ext] at hl hl' hρ hρ'
    by_cases h1 : n ≤ id ∧ id < n + r.news.length <;> by_cases h2 : n ≤ id' ∧ id' < n + r.news.length
    · rw [if_pos h1] at hρ; rw [if_pos h2] at hρ'
      exact hs.two _ _ h h' (by omega) (by omega) hρ hρ' (by omega)
    · rw [if_pos h1] at hρ; rw [if_neg h2] at hρ'
      obtain ⟨hl', hk⟩ := hl'.resolve_right h2
      exact hs.apart hr (by omega) hρ hl' hk hρ'
    · rw [if_neg h1] at hρ; rw [if_pos h2] at hρ'
      obtain ⟨hl, hk⟩ := hl.resolve_right h1
      exact fun e => hs.apart hr (by omega) hρ' hl hk hρ e.symm
    · rw [if_neg h1] at hρ; rw [if_neg h2] at hρ'
      exact hr.inj id id' h h' (hl.resolve_right h1).1 (hl'.resolve_right h2).1 hρ hρ' hne
  · intro id h hl hρ
    simp only [Env.ext] at hl hρ ⊢
    by_cases h1 : n ≤ id ∧ id < n + r.news.length
    · rw [if_pos h1] at hρ
      exact hs.blkB hr (by omega) hρ
    · rw [if_neg h1] at hρ
      obtain ⟨h2, h3⟩ := hr.lt id h (hl.resolve_right h1).1 hρ
      exact ⟨h2, Nat.lt_of_lt_of_le h3 hs.below.size⟩
  · intro id ob hl hk hst' hok
    exact OkOb.mono (hs.evo hr N) hN (hr.sub id hl) (.inl ⟨hl, hk⟩) (fun h hρ => hkeep id h hl hρ hk hst') hok

/-- The step that leaves the memory as it is. -/
theorem Ext.idle {E : Env} {n : Nat} {r : Res} {wn : Nat → Prop} (hr : Ready E n r.news.length) (hk : r.kill = none) (hst : r.st = none) (hf : r.frz = []) (hn : r.news = []) : Ext E n r wn E := by
  refine ⟨fun n0 => Evo.refl n0 E, ?_, ?_, ?_, hr.inj, hr.lt, ?_, ?_, fun _ _ _ _ _ _ => rfl, fun _ _ _ _ _ h => h⟩
  · intro id; rw [hk, hn]; simp; omega
  · intro id; rw [hk, hn, hf]; simp; omega
  · intro id; rw [hn]; simp; omega
  · intro j ob h; rw [hn] at h; simp at h
  · intro id ob h; rw [hst] at h; cases h

end Go.Sx
