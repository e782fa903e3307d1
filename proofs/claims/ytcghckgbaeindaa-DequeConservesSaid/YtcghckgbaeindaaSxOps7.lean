/- The operations that make a block: what the symbolic execution says of them is so. -/
import Derived.Test.YtcghckgbaeindaaSxOps6
set_option linter.unusedSimpArgs false
set_option linter.unusedVariables false
namespace Go.Sx
open Go.RowKit

/-- A cell that is not written any more once the blocks 'ids' are given up. -/
def FF (E : Env) (ids : List Nat) (b o : Nat) : Prop := E.Fz b o ∨ ∃ id ∈ ids, ∃ h, E.L id ∧ E.ρ id = some h ∧ h.blk = b

theorem FF.mono {E : Env} {ids ids' : List Nat} (h : ∀ id ∈ ids, id ∈ ids') {b o : Nat} : FF E ids b o → FF E ids' b o
  | .inl h1 => .inl h1
  | .inr ⟨id, h1, h2⟩ => .inr ⟨id, h id h1, h2⟩

theorem RdP.monoF {w : World} {F F' : Nat → Nat → Prop} (hF : ∀ b o, F b o → F' b o) {v : Value} {p : PV} (h : RdP w F v p) : RdP w F' v p :=
  h.mono fun b o hb => ⟨hF b o hb, rfl⟩

theorem RdP.le {w : World} {F : Nat → Nat → Prop} {v : Value} {p q : PV} (h : RdP w F v p) (hle : PV.le p q) : RdP w F v q := by
  rcases hle with rfl | ⟨rfl, t, rfl⟩
  · exact h
  · cases h; exact .sl0 _ _ _

theorem LeL.get {l m : List PV} (h : LeL l m) : l.length = m.length ∧ ∀ (i : Nat) p q, l[i]? = some p → m[i]? = some q → PV.le p q := by
  induction h with
  | nil => exact ⟨rfl, fun i p q hp => by simp at hp⟩
  | cons hle _ ih =>
    refine ⟨by simp [ih.1], fun i p q hp hq => ?_⟩
    match i, hp, hq with
    | 0, hp, hq => cases hp; cases hq; exact hle
    | i + 1, hp, hq => exact ih.2 i p q (by simpa using hp) (by simpa using hq)

section
variable {P : Program} {cx : Ctx} {E : Env} {a : Act} {e : Operand → AV} {H : List Ob} {n : Nat} {r : Res}
  {dst : Option Tmp} {ty : TypeId} {pos : String} {after : Array Go.Edge} {guard : Option (Nat × Bool)}

/-- A row of the call's own, given up, by value. -/
theorem rows_down {id : Nat} {t : Ty} {xs : List t.den} {v : Value} {ids : List Nat} (hrow : RowsAt E t xs (E.ρ id)) (hl : E.L id) (hv : ownV (E.ρ id) v) (hid : id ∈ ids) : RdP E.w (FF E ids) v (.sl t xs) := by
  cases hρ : E.ρ id with
  | none =>
    rw [hρ] at hrow hv
    have : xs = [] := hrow
    subst this
    obtain ⟨ba, rfl⟩ := hv
    exact .sl0 _ _ _
  | some hd =>
    rw [hρ] at hrow hv
    obtain ⟨h1, h2, h3, h3', arr, el, h4, h5, h6⟩ := hrow
    have hv' : v = .slice (some ⟨hd.blk, hd.off, none⟩) hd.len hd.cap := hv
    subst hv'
    let g : Nat → Value := fun j => (arr[hd.off + j]?).getD undef
    refine .sl hd.blk hd.off hd.len hd.cap t xs g h1 h2 (lim_big h3) (fun j hj => ⟨.inr ⟨id, hid, hd, hl, hρ, rfl⟩, ?_⟩) (fun j p hp => ?_)
    · obtain ⟨u, hu, _⟩ := h6 j _ (List.getElem?_eq_getElem hj)
      simp [World.cell?, h4, g, hu]
    · obtain ⟨u, hu, hr⟩ := h6 j p hp
      have : g j = u := by simp [g, hu]
      rw [this]
      exact hr.monoF fun b o hb => .inl hb

theorem down_ok (hL : ∀ id, E.A id → getOb H id ≠ .dead → E.L id) (hH : ∀ id, E.L id → getOb H id ≠ .dead → OkOb E id (getOb H id)) {v : Value} {x : AV} {p : PV} {ids ids' : List Nat} (hx : RdA E v x) (h : down H x = some (p, ids)) (hsub : ∀ id ∈ ids, id ∈ ids') :
    RdP E.w (FF E ids') v p := by
  have part : ∀ (id k lo len : Nat) (t : Ty) (xs : List t.den), RowsAt E t xs (E.ρ id) → E.L id → id ∈ ids' → k = t.size → ownpV k lo len (E.ρ id) v → RdP E.w (FF E ids') v (.sl t ((xs.drop lo).take len)) := by
    intro id k lo len t xs hrow hl hid hk hv
    subst hk
    cases hρ : E.ρ id with
    | none =>
      rw [hρ] at hv hrow
      obtain ⟨h0, ba, rfl⟩ := hv
      have : xs = [] := hrow
      subst this
      subst h0
      simp only [List.drop_nil, List.take_nil]
      exact .sl0 _ _ _
    | some hd =>
      rw [hρ] at hv
      obtain ⟨h1, o, c, rfl, h2, _, h3⟩ := hv
      by_cases h0 : len = 0
      · subst h0
        simp only [List.take_zero]
        exact .sl0 _ _ _
      · have ho : o = hd.off + lo * t.size := h3.resolve_right (by omega)
        subst ho
        rw [hρ] at hrow
        obtain ⟨hlen, g2, g3, g3', arr, el, g4, g5, g6⟩ := hrow
        let g : Nat → Value := fun j => (arr[hd.off + lo * t.size + j]?).getD undef
        have hfl : ∀ j p, (flat t ((xs.drop lo).take len))[j]? = some p → (flat t xs)[lo * t.size + j]? = some p := by
          intro j p hp
          rw [flat_take, flat_drop] at hp
          have hj : j < len * t.size := by
            have := (List.getElem?_eq_some_iff.1 hp).1
            rw [List.length_take] at this; omega
          rw [List.getElem?_take_of_lt hj, List.getElem?_drop] at hp
          exact hp
        refine .sl hd.blk _ len c t _ g ?_ h2 (lim_big (by omega)) (fun j hj => ⟨.inr ⟨id, hid, hd, hl, hρ, rfl⟩, ?_⟩) (fun j p hp => ?_)
        · rw [List.length_take, List.length_drop]; omega
        · obtain ⟨u, hu, _⟩ := g6 _ _ (hfl j _ (List.getElem?_eq_getElem hj))
          rw [← Nat.add_assoc] at hu
          simp [World.cell?, g4, g, hu]
        · obtain ⟨u, hu, hr⟩ := g6 _ p (hfl j p hp)
          rw [← Nat.add_assoc] at hu
          have : g j = u := by simp [g, hu]
          rw [this]
          exact hr.monoF fun b o hb => .inl hb
  cases x with
  | int k m => simp only [down, Option.some.injEq, Prod.mk.injEq] at h; obtain ⟨rfl, rfl⟩ := h; cases hx; exact .int _ _
  | bool b => simp only [down, Option.some.injEq, Prod.mk.injEq] at h; obtain ⟨rfl, rfl⟩ := h; cases hx; exact .bool _
  | str s => simp only [down, Option.some.injEq, Prod.mk.injEq] at h; obtain ⟨rfl, rfl⟩ := h; cases hx; exact .str _
  | sl t xs => simp only [down, Option.some.injEq, Prod.mk.injEq] at h; obtain ⟨rfl, rfl⟩ := h; exact hx.sl_inv.monoF fun b o hb => .inl hb
  | nils => simp only [down, Option.some.injEq, Prod.mk.injEq] at h; obtain ⟨rfl, rfl⟩ := h; cases hx; exact .nils _ _
  | cap0 => simp only [down, Option.some.injEq, Prod.mk.injEq] at h; obtain ⟨rfl, rfl⟩ := h; cases hx; exact .nils _ _
  | val u => simp only [down, Option.some.injEq, Prod.mk.injEq] at h; obtain ⟨rfl, rfl⟩ := h; cases hx; exact .val _ ‹_›
  | own id =>
    simp only [down] at h
    have hA := hx.own_inv.1
    split at h
    · rename_i t xs hob
      simp only [Option.some.injEq, Prod.mk.injEq] at h
      obtain ⟨rfl, rfl⟩ := h
      have hne : getOb H id ≠ .dead := by rw [hob]; simp
      have hl := hL id hA hne
      have hok := hH id hl hne
      rw [hob] at hok
      exact rows_down hok hl (hx.own_inv.2.2 hl) (hsub id (by simp))
    · rename_i t xs hob
      simp only [Option.some.injEq, Prod.mk.injEq] at h
      obtain ⟨rfl, rfl⟩ := h
      have hne : getOb H id ≠ .dead := by rw [hob]; simp
      have hl := hL id hA hne
      have hok := hH id hl hne
      rw [hob] at hok
      exact rows_down hok hl (hx.own_inv.2.2 hl) (hsub id (by simp))
    · cases h
  | ownp id k lo len =>
    simp only [down] at h
    have hA := hx.ownp_inv.1
    split at h
    · rename_i t xs hob
      split at h
      · rename_i hk
        simp only [Option.some.injEq, Prod.mk.injEq] at h
        obtain ⟨rfl, rfl⟩ := h
        have hne : getOb H id ≠ .dead := by rw [hob]; simp
        have hl := hL id hA hne
        have hok := hH id hl hne
        rw [hob] at hok
        exact part id k lo len t xs hok hl (hsub id (by simp)) (by simpa using hk) (hx.ownp_inv.2.2 hl)
      · cases h
    · rename_i t xs hob
      split at h
      · rename_i hk
        simp only [Option.some.injEq, Prod.mk.injEq] at h
        obtain ⟨rfl, rfl⟩ := h
        have hne : getOb H id ≠ .dead := by rw [hob]; simp
        have hl := hL id hA hne
        have hok := hH id hl hne
        rw [hob] at hok
        exact part id k lo len t xs hok hl (hsub id (by simp)) (by simpa using hk) (hx.ownp_inv.2.2 hl)
      · cases h
    · cases h
  | any => simp [down] at h
  | ptr _ _ => simp [down] at h
  | rptr _ _ _ _ => simp [down] at h
  | eptr _ => simp [down] at h
  | fn _ _ _ => simp [down] at h
  | mp _ => simp [down] at h
  | agg _ => simp [down] at h
  | tup _ => simp [down] at h
  | when => simp [down] at h

/-- A row of cells, given up, by value. -/
theorem downL_ok (hL : ∀ id, E.A id → getOb H id ≠ .dead → E.L id) (hH : ∀ id, E.L id → getOb H id ≠ .dead → OkOb E id (getOb H id)) {ids' : List Nat} : ∀ {vs : List Value} {cs : List AV} {ps : List PV} {ids : List Nat}, CellL E vs cs → downL H cs = some (ps, ids) → (∀ id ∈ ids, id ∈ ids') →
    vs.length = ps.length ∧ ∀ (i : Nat) v p, vs[i]? = some v → ps[i]? = some p → v.oneCell' = true ∧ RdP E.w (FF E ids') v p
  | vs, [], ps, ids, hc, h, _ => by
    simp only [downL, Option.some.injEq, Prod.mk.injEq] at h
    obtain ⟨rfl, rfl⟩ := h
    have := hc.1
    refine ⟨by simpa using this, fun i v p _ hp => by simp at hp⟩
  | vs, c :: cs, ps, ids, hc, h, hsub => by
    simp only [downL] at h
    split at h
    · rename_i p ia qs ib h1 h2
      simp only [Option.some.injEq, Prod.mk.injEq] at h
      obtain ⟨rfl, rfl⟩ := h
      match vs, hc with
      | [], hc => exact absurd hc.1 (by simp)
      | v :: vs, hc =>
        have hc' : CellL E vs cs := ⟨by have := hc.1; simpa using this, fun i u x hu hx => hc.2 (i + 1) u x (by simpa using hu) (by simpa using hx)⟩
        have ih := downL_ok hL hH hc' h2 (fun id hid => hsub id (by simp [hid]))
        refine ⟨by simp [ih.1], fun i u q hu hq => ?_⟩
        match i, hu, hq with
        | 0, hu, hq =>
          cases hu; cases hq
          have h3 := hc.2 0 v c rfl rfl
          exact ⟨h3.1, down_ok hL hH h3.2 h1 (fun id hid => hsub id (by simp [hid]))⟩
        | i + 1, hu, hq => exact ih.2 i u q (by simpa using hu) (by simpa using hq)
    · cases h

/-- Behind the step the blocks that were given up are written no more. -/
theorem Step.ff {w' : World} {hd : Nat → Option Hdr} {wn : Nat → Prop} (hs : Step E n r w' hd) (hr : Ready E n r.news.length) (hk : r.kill = none) (hst : ∀ p, r.st = some p → p.1 ∉ r.frz) {b o : Nat} (h : FF E r.frz b o) :
    (E.ext n r.news.length r.kill r.frz wn w' hd).Fz b o ∧ w'.cell? ⟨b, o, none⟩ = E.w.cell? ⟨b, o, none⟩ := by
  rcases h with h | ⟨id, hid, h, hl, hρ, hb⟩
  · exact (hs.evo hr 0).fz b o h
  · subst hb
    obtain ⟨h1, h2⟩ := hr.lt id h hl hρ
    refine ⟨.inr ⟨h1, Nat.lt_of_lt_of_le h2 hs.below.size, fun id' h' hW hρ' => ?_⟩, cell_of_heap (hs.fr h.blk h2 fun id' h' hW hor hρ' => ?_)⟩
    · by_cases hc : n ≤ id' ∧ id' < n + r.news.length
      · simp only [Env.ext] at hρ'
        rw [if_pos hc] at hρ'
        exact hs.apart hr (by omega) hρ' hl (by rw [hk]; simp) hρ
      · simp only [Env.ext] at hρ'
        rw [if_neg hc] at hρ'
        rcases hW with ⟨hW, _, hnf⟩ | ⟨g1, g2, _⟩
        · exact hr.inj id' id h' h (hr.wl id' hW) hl hρ' hρ (fun e => hnf (e ▸ hid))
        · exact absurd ⟨g1, g2⟩ hc
    · rcases hor with g | g
      · rw [hk] at g; cases g
      · cases hst' : r.st with
        | none => rw [hst'] at g; cases g
        | some p =>
          rw [hst'] at g
          simp at g
          exact hr.inj id' id h' h (hr.wl id' hW) hl hρ' hρ (fun e => hst p hst' (by rw [g, e]; exact hid))

end
end Go.Sx
