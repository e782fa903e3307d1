/- Channel: plain facts for the order of the values. -/
import Derived.Test.YtnaejponobbahaaChanM
set_option linter.unusedSimpArgs false
set_option linter.unusedVariables false
set_option maxRecDepth 100000
namespace Go.Proofs.Ytnaejponobbahaa
open Go.Sx

def val (w : W) : Int := w.2.2.1
def senders (q : List W) : List W := q.filter (isOp 64)
def sendVals (q : List W) : List Int := (senders q).map val
/-- What a task that waits to send would send. -/
def taskVals (q : List W) (t : Int) : List Int := ((senders q).filter (isT t)).map val
def dropAll (vs l : List Int) : List Int := l.filter (fun v => !vs.contains v)
theorem drop_key {α : Type} {f : α → Int} {p : α → Bool} (l : List α) (h : (l.map f).Nodup) : ∀ x ∈ l, (!((l.filter p).map f).contains (f x)) = !p x := by
  intro x hx
  congr 1
  cases hp : p x
  · rw [← Bool.not_eq_true]
    intro hc
    rw [List.contains_iff_mem] at hc
    obtain ⟨y, hy, he⟩ := List.mem_map.1 hc
    obtain ⟨hy1, hy2⟩ := List.mem_filter.1 hy
    have inj : ∀ (m : List α), (m.map f).Nodup → ∀ a ∈ m, ∀ b ∈ m, f a = f b → a = b := by
      intro m
      induction m with
      | nil => intro _ a ha; cases ha
      | cons c m ih =>
        intro hm a ha b hb hab
        rw [List.map_cons, List.nodup_cons] at hm
        rcases List.mem_cons.1 ha with ea | ha2
        · rcases List.mem_cons.1 hb with eb | hb2
          · rw [ea, eb]
          · exact absurd (List.mem_map.2 ⟨b, hb2, by rw [← hab, ea]⟩) hm.1
        · rcases List.mem_cons.1 hb with eb | hb2
          · exact absurd (List.mem_map.2 ⟨a, ha2, by rw [hab, eb]⟩) hm.1
          · exact ih hm.2 a ha2 b hb2 hab
    have := inj l h y hy1 x hx he
    rw [this, hp] at hy2
    cases hy2
  · rw [List.contains_iff_mem]
    exact List.mem_map.2 ⟨x, List.mem_filter.2 ⟨hx, hp⟩, rfl⟩
theorem drop_map2 {α : Type} {f : α → Int} {p : α → Bool} (l : List α) (h : (l.map f).Nodup) (r : α → Bool) : dropAll ((l.filter p).map f) ((l.filter r).map f) = ((l.filter r).filter (fun x => !p x)).map f := by
  unfold dropAll
  rw [List.filter_map]
  congr 1
  exact List.filter_congr fun x hx => drop_key l h x (List.mem_filter.1 hx).1
theorem drop_map {α : Type} {f : α → Int} {p : α → Bool} : ∀ (l : List α), (l.map f).Nodup → dropAll ((l.filter p).map f) (l.map f) = (l.filter (fun x => !p x)).map f := by
  intro l h
  unfold dropAll
  rw [List.filter_map]
  congr 1
  exact List.filter_congr fun x hx => drop_key l h x hx
theorem senders_remove (q : List W) (t : Int) : senders (sRemove q t) = (senders q).filter (fun x => !isT t x) := by
  unfold senders sRemove
  rw [List.filter_filter, List.filter_filter]
  refine List.filter_congr fun x _ => ?_
  rw [Bool.and_comm]
  congr 1
  simp [keep, isT]
/-- What was sent, where a task has left. -/
theorem drop_sent {a : List Int} {q : List W} {t : Int} (h : (a ++ sendVals q).Nodup) : dropAll (taskVals q t) (a ++ sendVals q) = a ++ sendVals (sRemove q t) := by
  rw [List.nodup_append] at h
  obtain ⟨_, h2, h3⟩ := h
  unfold dropAll
  rw [List.filter_append]
  have e1 : a.filter (fun v => !(taskVals q t).contains v) = a := by
    rw [List.filter_eq_self]
    intro v hv
    rw [Bool.not_eq_true', ← Bool.not_eq_true]
    intro hc
    rw [List.contains_iff_mem] at hc
    obtain ⟨x, hx, he⟩ := List.mem_map.1 hc
    exact h3 v hv v (List.mem_map.2 ⟨x, (List.mem_filter.1 hx).1, he⟩) rfl
  have e2 : (sendVals q).filter (fun v => !(taskVals q t).contains v) = sendVals (sRemove q t) := by
    show _ = (senders (sRemove q t)).map val
    rw [senders_remove]
    exact drop_map (p := isT t) (senders q) h2
  rw [e1, e2]
/-- The state of a game in which the values come in order. -/
structure Inv (o : ObT) (s : OS) (sent recv : List Int) (n : Int) : Prop where
  val : Val o s
  caseOk : ∀ w ∈ qu s, w.2.1 = 64 → w.2.2.2.2 = 0 ∨ w.2.2.2.2 = -1
  eq : sent = (recv ++ bu s) ++ sendVals (qu s)
  lt : ∀ x ∈ sent, x < n
  nodup : sent.Nodup
theorem senders_apart {o : ObT} {s : OS} (hv : Val o s) (hc : ∀ w ∈ qu s, w.2.1 = 64 → w.2.2.2.2 = 0 ∨ w.2.2.2.2 = -1) : (senders (qu s)).Pairwise (fun x y => x.1 ≠ y.1) := by
  have hp : (senders (qu s)).Pairwise (fun x w => clash w x = false) := hv.fit.2.filter _
  refine hp.imp_of_mem fun {x y} hx hy h he => ?_
  obtain ⟨hx1, hx2⟩ := List.mem_filter.1 hx
  obtain ⟨hy1, hy2⟩ := List.mem_filter.1 hy
  have cx := hc x hx1 (by simpa [isOp] using hx2)
  have cy := hc y hy1 (by simpa [isOp] using hy2)
  simp only [clash, he, decide_true, Bool.true_and, Bool.or_eq_false_iff, decide_eq_false_iff_not] at h
  omega
theorem first_sender {o : ObT} {s : OS} {w : W} (hv : Val o s) (hc : ∀ w ∈ qu s, w.2.1 = 64 → w.2.2.2.2 = 0 ∨ w.2.2.2.2 = -1) (hf : (qu s).find? (isOp 64) = some w) :
    sendVals (qu s) = Go.Proofs.Ytnaejponobbahaa.val w :: sendVals (sRemove (qu s) w.1) := by
  have ha := senders_apart hv hc
  have hh : (senders (qu s)).head? = some w := by
    rw [senders, List.head?_filter]
    exact hf
  rw [sendVals, sendVals, senders_remove]
  cases hs : senders (qu s) with
  | nil => rw [hs] at hh; cases hh
  | cons y l =>
    rw [hs] at hh ha
    cases hh
    rw [List.map_cons, List.filter_cons_of_neg (by simp [isT])]
    congr 1
    rw [List.filter_eq_self.2]
    intro x hx
    have := (List.pairwise_cons.1 ha).1 x hx
    simp only [isT, Bool.not_eq_true', decide_eq_false_iff_not]
    exact fun e => this e.symm
/-- What a game notes of those who are woken. -/
def wokenS (q : List W) : List Wk → List Int × List Int → List Int × List Int
  | [], g => g
  | w :: l, g => wokenS q l (if w.2.1 = 65 ∨ w.2.2.2.1 = false then dropAll (taskVals q w.1) g.1 else g.1, if w.2.1 = 65 ∧ w.2.2.2.1 = true then g.2 ++ [w.2.2.1] else g.2)
theorem mem_dropAll {vs l : List Int} {x : Int} (h : x ∈ dropAll vs l) : x ∈ l := (List.mem_filter.1 h).1
theorem task_lt {o : ObT} {s : OS} {sent recv : List Int} {n : Int} (h : Inv o s sent recv n) {t v : Int} (hv : v ∈ taskVals (qu s) t) : v < n := by
  refine h.lt v ?_
  rw [h.eq]
  obtain ⟨x, hx, he⟩ := List.mem_map.1 hv
  exact List.mem_append.2 (.inr (List.mem_map.2 ⟨x, (List.mem_filter.1 hx).1, he⟩))
theorem nodup_add {l : List Int} {n : Int} (h : l.Nodup) (hl : ∀ x ∈ l, x < n) : (l ++ [n]).Nodup := by
  rw [List.nodup_append]
  refine ⟨h, by simp, fun a ha b hb => ?_⟩
  simp at hb
  have := hl a ha
  omega
theorem lt_add {l : List Int} {n : Int} (hl : ∀ x ∈ l, x < n) : ∀ x ∈ l ++ [n], x < n + 1 := by
  intro x hx
  rcases List.mem_append.1 hx with hx | hx
  · have := hl x hx
    omega
  · simp at hx
    omega
theorem sub_case {q : List W} {t : Int} (h : ∀ w ∈ q, w.2.1 = 64 → w.2.2.2.2 = 0 ∨ w.2.2.2.2 = -1) : ∀ w ∈ sRemove q t, w.2.1 = 64 → w.2.2.2.2 = 0 ∨ w.2.2.2.2 = -1 :=
  fun w hw => h w (List.mem_filter.1 hw).1
theorem send_add {q : List W} {w : W} (h : w.2.1 = 64) : sendVals (q ++ [w]) = sendVals q ++ [val w] := by
  simp [sendVals, senders, List.filter_append, isOp, h]
theorem send_other {q : List W} {w : W} (h : w.2.1 ≠ 64) : sendVals (q ++ [w]) = sendVals q := by
  simp [sendVals, senders, List.filter_append, isOp, h]
/-- Withdrawing. -/
theorem inv_with {o : ObT} {s : OS} {sent recv : List Int} {n : Int} (h : Inv o s sent recv n) (t : Int) : Inv o (setQ s (sRemove (qu s) t)) (dropAll (taskVals (qu s) t) sent) recv (n + 1) := by
  refine ⟨val_filter h.val _, sub_case h.caseOk, ?_, fun x hx => ?_, h.nodup.filter _⟩
  · have hn := h.nodup
    rw [h.eq] at hn ⊢
    exact drop_sent hn
  · have := h.lt x (mem_dropAll hx)
    omega
/-- Nothing but the number of the step is new. -/
theorem inv_next {o : ObT} {s : OS} {sent recv : List Int} {n : Int} (h : Inv o s sent recv n) : Inv o s sent recv (n + 1) :=
  ⟨h.val, h.caseOk, h.eq, fun x hx => by have := h.lt x hx; omega, h.nodup⟩
/-- A sender is added to the queue. -/
theorem inv_offer {o : ObT} {s : OS} {sent recv : List Int} {n : Int} {w : W} (h : Inv o s sent recv n) (hv : Val o (setQ s (qu s ++ [w]))) (hw : w.2.1 = 64) (hn : val w = n) (hc : w.2.2.2.2 = 0 ∨ w.2.2.2.2 = -1) :
    Inv o (setQ s (qu s ++ [w])) (sent ++ [n]) recv (n + 1) := by
  refine ⟨hv, fun x hx hx2 => ?_, ?_, lt_add h.lt, nodup_add h.nodup h.lt⟩
  · rcases List.mem_append.1 hx with hx | hx
    · exact h.caseOk x hx hx2
    · simp at hx
      rw [hx]
      exact hc
  · show sent ++ [n] = (recv ++ bu s) ++ sendVals (qu s ++ [w])
    rw [send_add hw, h.eq, hn, List.append_assoc]
/-- A receiver is added to the queue. -/
theorem inv_offer_recv {o : ObT} {s : OS} {sent recv : List Int} {n : Int} {w : W} (h : Inv o s sent recv n) (hv : Val o (setQ s (qu s ++ [w]))) (hw : w.2.1 = 65) :
    Inv o (setQ s (qu s ++ [w])) sent recv n := by
  refine ⟨hv, fun x hx hx2 => ?_, ?_, h.lt, h.nodup⟩
  · rcases List.mem_append.1 hx with hx | hx
    · exact h.caseOk x hx hx2
    · simp at hx
      rw [hx] at hx2
      omega
  · show sent = (recv ++ bu s) ++ sendVals (qu s ++ [w])
    rw [send_other (by omega), h.eq]
theorem drop_add {vs l : List Int} {n : Int} (h : n ∉ vs) : dropAll vs (l ++ [n]) = dropAll vs l ++ [n] := by
  unfold dropAll
  rw [List.filter_append]
  congr 1
  simp [h]
theorem no_senders {q : List W} (h : ∀ x ∈ q, x.2.1 ≠ 64) : sendVals q = [] := by
  have : senders q = [] := by
    rw [senders, List.filter_eq_nil_iff]
    intro x hx
    simp [isOp, h x hx]
  rw [sendVals, this]
  rfl
/-- Sending. -/
theorem inv_send {o : ObT} {s : OS} {sent recv : List Int} {n : Int} {c : Cl} (h : Inv o s sent recv n) (hv : Val o (sSend o s c).1) (hc : c.2.1 = 64) (hn : c.2.2.1 = n) :
    Inv o (sSend o s c).1 (wokenS (qu s) (sSend o s c).2.2.2.2 (sent ++ [n], recv)).1 (wokenS (qu s) (sSend o s c).2.2.2.2 (sent ++ [n], recv)).2 (n + 1) := by
  unfold sSend at hv ⊢
  cases hf : (qu s).find? (isOp 65) with
  | some w =>
    simp only [hf] at hv ⊢
    obtain ⟨hm, he⟩ := find_mem hf
    obtain ⟨hb, hs⟩ := h.val.recv w hm he
    have e0 : sendVals (sRemove (qu s) w.1) = [] := no_senders fun x hx hx2 => by
      obtain ⟨hx1, hx3⟩ := List.mem_filter.1 hx
      simp only [keep, decide_eq_true_eq] at hx3
      exact hx3 (hs x hx1 hx2)
    have hnt : n ∉ taskVals (qu s) w.1 := fun hx => by
      have := task_lt h hx
      omega
    have e1 : wokenS (qu s) [wkOf w c.2.2.1 true] (sent ++ [n], recv) = (dropAll (taskVals (qu s) w.1) sent ++ [n], recv ++ [n]) := by
      simp only [wokenS, wkOf, he, hn, true_or, if_true, true_and]
      rw [drop_add hnt]
    have e2 : dropAll (taskVals (qu s) w.1) sent = recv := by
      have hnd := h.nodup
      rw [h.eq] at hnd ⊢
      rw [drop_sent hnd, e0, hb]
      simp
    have hlt : ∀ x ∈ recv, x < n := fun x hx => h.lt x (by rw [h.eq]; simp [hx])
    have hnd : recv.Nodup := by
      have := h.nodup
      rw [h.eq, hb] at this
      simp only [List.append_nil] at this
      exact (List.nodup_append.1 this).1
    rw [e1, e2]
    refine ⟨hv, sub_case h.caseOk, ?_, lt_add hlt, nodup_add hnd hlt⟩
    show recv ++ [n] = (recv ++ [n] ++ bu s) ++ sendVals (sRemove (qu s) w.1)
    rw [e0, hb]
    simp
  | none =>
    simp only [hf] at hv ⊢
    have hno := find_none hf
    by_cases hlt : ((bu s).length : Int) < o.2.2.1
    · rw [if_pos hlt] at hv ⊢
      have e0 : sendVals (qu s) = [] := no_senders fun x hx hx2 => by
        have := (h.val.send x hx hx2).1
        omega
      refine ⟨hv, h.caseOk, ?_, lt_add h.lt, nodup_add h.nodup h.lt⟩
      show sent ++ [n] = (recv ++ (bu s ++ [c.2.2.1])) ++ sendVals (qu s)
      rw [h.eq, e0, hn]
      simp
    · rw [if_neg hlt] at hv ⊢
      exact inv_offer (w := (c.1, c.2.1, c.2.2.1, c.2.2.2.1, -1)) h hv hc hn (.inr rfl)
/-- Receiving: what is noted first. -/
def recvS (r : Rp) (recv : List Int) : List Int := if r.2.2.2.1 = true ∧ r.2.1 = false then recv ++ [r.2.2.1] else recv
theorem inv_recv {o : ObT} {s : OS} {sent recv : List Int} {n : Int} {c : Cl} (h : Inv o s sent recv n) (hv : Val o (sRecv s c).1) (hc : c.2.1 = 65) :
    Inv o (sRecv s c).1 (wokenS (qu s) (sRecv s c).2.2.2.2 (sent, recvS (sRecv s c) recv)).1 (wokenS (qu s) (sRecv s c).2.2.2.2 (sent, recvS (sRecv s c) recv)).2 n := by
  have quiet : ∀ {w : W} {v : Int} {g : List Int × List Int}, w.2.1 = 64 → wokenS (qu s) [wkOf w v true] g = g := by
    intro w v g hw
    simp [wokenS, wkOf, hw]
  unfold sRecv at hv ⊢
  cases hb : bu s with
  | cons v b =>
    cases hf : (qu s).find? (isOp 64) with
    | some w =>
      simp only [hb, hf] at hv ⊢
      obtain ⟨hm, he⟩ := find_mem hf
      rw [quiet he]
      refine ⟨hv, sub_case h.caseOk, ?_, h.lt, h.nodup⟩
      show sent = ((recv ++ [v]) ++ (b ++ [w.2.2.1])) ++ sendVals (sRemove (qu s) w.1)
      rw [h.eq, hb, first_sender h.val h.caseOk hf]
      simp [val]
    | none =>
      simp only [hb, hf] at hv ⊢
      refine ⟨hv, h.caseOk, ?_, h.lt, h.nodup⟩
      show sent = ((recv ++ [v]) ++ b) ++ sendVals (qu s)
      rw [h.eq, hb]
      simp
  | nil =>
    cases hf : (qu s).find? (isOp 64) with
    | some w =>
      simp only [hb, hf] at hv ⊢
      obtain ⟨hm, he⟩ := find_mem hf
      rw [quiet he]
      refine ⟨hv, sub_case h.caseOk, ?_, h.lt, h.nodup⟩
      show sent = ((recv ++ [w.2.2.1]) ++ bu s) ++ sendVals (sRemove (qu s) w.1)
      rw [h.eq, hb, first_sender h.val h.caseOk hf]
      simp [val]
    | none =>
      simp only [hb, hf] at hv ⊢
      by_cases h3 : clo s = true
      · rw [if_pos h3] at hv ⊢
        exact h
      · rw [if_neg h3] at hv ⊢
        exact inv_offer_recv (w := (c.1, c.2.1, 0, c.2.2.2.1, -1)) h hv hc
theorem senders_filter (q : List W) (p : W → Bool) : senders (q.filter p) = (senders q).filter p := by
  unfold senders
  rw [List.filter_filter, List.filter_filter]
  exact List.filter_congr fun x _ => Bool.and_comm ..
theorem drop_sub {a : List Int} {q : List W} {t : Int} (p : W → Bool) (h : (a ++ sendVals q).Nodup) : dropAll (taskVals q t) (a ++ sendVals (q.filter p)) = a ++ sendVals (sRemove (q.filter p) t) := by
  rw [List.nodup_append] at h
  obtain ⟨_, h2, h3⟩ := h
  unfold dropAll
  rw [List.filter_append]
  have e1 : a.filter (fun v => !(taskVals q t).contains v) = a := by
    rw [List.filter_eq_self]
    intro v hv
    rw [Bool.not_eq_true', ← Bool.not_eq_true]
    intro hc
    rw [List.contains_iff_mem] at hc
    obtain ⟨x, hx, he⟩ := List.mem_map.1 hc
    exact h3 v hv v (List.mem_map.2 ⟨x, (List.mem_filter.1 hx).1, he⟩) rfl
  have e2 : (sendVals (q.filter p)).filter (fun v => !(taskVals q t).contains v) = sendVals (sRemove (q.filter p) t) := by
    show _ = (senders (sRemove (q.filter p) t)).map val
    rw [senders_remove, sendVals, senders_filter]
    exact drop_map2 (p := isT t) (senders q) h2 p
  rw [e1, e2]
theorem woken_shut {q : List W} {a r : List Int} (h : (a ++ sendVals q).Nodup) : ∀ (k : Nat) (p : W → Bool), (q.filter p).length ≤ k → wokenS q (shutW (q.filter p)) (a ++ sendVals (q.filter p), r) = (a, r) := by
  intro k
  induction k with
  | zero =>
    intro p hk
    have e : q.filter p = [] := List.length_eq_zero_iff.1 (Nat.le_zero.1 hk)
    rw [e, shut_nil]
    simp [wokenS, sendVals, senders]
  | succ k ih =>
    intro p hk
    by_cases hp : 0 < (q.filter p).length
    · rw [shut_step hp, wokenS]
      have e0 : sRemove (q.filter p) ((q.filter p).getD 0 (dflt tW)).1 = q.filter (fun x => keep ((q.filter p).getD 0 (dflt tW)).1 x && p x) := by
        rw [sRemove, List.filter_filter]
      have hl := remove_head hp
      have e1 := drop_sub (t := ((q.filter p).getD 0 (dflt tW)).1) p h
      rw [if_pos (.inr rfl), if_neg (fun hh => Bool.false_ne_true hh.2), show (wkOf ((q.filter p).getD 0 (dflt tW)) 0 false).1 = ((q.filter p).getD 0 (dflt tW)).1 from rfl]
      show wokenS q _ (dropAll (taskVals q ((q.filter p).getD 0 (dflt tW)).1) (a ++ sendVals (q.filter p)), r) = (a, r)
      rw [e1, e0]
      rw [e0] at hl
      exact ih _ (by omega)
    · have e : q.filter p = [] := List.length_eq_zero_iff.1 (by omega)
      rw [e, shut_nil]
      simp [wokenS, sendVals, senders]
/-- Closing. -/
theorem inv_shut {o : ObT} {s : OS} {sent recv : List Int} {n : Int} (h : Inv o s sent recv n) :
    Inv o (sShut s).1 (wokenS (qu s) (sShut s).2.2.2.2 (sent, recv)).1 (wokenS (qu s) (sShut s).2.2.2.2 (sent, recv)).2 (n + 1) := by
  have hnd := h.nodup
  rw [h.eq] at hnd
  have e := woken_shut (r := recv) hnd (qu s).length (fun _ => true) (List.length_filter_le _ _)
  rw [List.filter_eq_self.2 (fun _ _ => rfl), ← h.eq] at e
  rw [show (sShut s).2.2.2.2 = shutW (qu s) from rfl, e]
  refine ⟨val_shut h.val, (fun w hw => by cases hw), ?_, fun x hx => ?_, (List.nodup_append.1 hnd).1⟩
  · show recv ++ bu s = (recv ++ bu s) ++ sendVals []
    simp [sendVals, senders]
  · have := h.lt x (by rw [h.eq]; exact List.mem_append.2 (.inl hx))
    omega
abbrev Gm := OS × List Int × List Int
/-- One step of a game: a state, what was sent, what was received. -/
def gStep (o : ObT) (n t k : Int) (g : Gm) : Gm :=
  if k = 0 ∨ k = 1 then (if (sApply o g.1 (t, 64, n, 0, 0)).2 = 0 then ((sApply o g.1 (t, 64, n, 0, 0)).1.1, wokenS (qu g.1) (sApply o g.1 (t, 64, n, 0, 0)).1.2.2.2.2 (g.2.1 ++ [n], g.2.2)) else g)
  else if k = 2 ∨ k = 3 then (if (sApply o g.1 (t, 65, 0, 0, 0)).2 = 0 then ((sApply o g.1 (t, 65, 0, 0, 0)).1.1, wokenS (qu g.1) (sApply o g.1 (t, 65, 0, 0, 0)).1.2.2.2.2 (g.2.1, recvS (sApply o g.1 (t, 65, 0, 0, 0)).1 g.2.2)) else g)
  else if k = 4 then (if (sWith o g.1 t).2 = 0 then ((sWith o g.1 t).1.1, dropAll (taskVals (qu g.1) t) g.2.1, g.2.2) else g)
  else if k = 5 then (
    let g1 : Gm := if (sOffer o g.1 (t, 64, n, 0, 0)).2 = 0 then ((sOffer o g.1 (t, 64, n, 0, 0)).1, g.2.1 ++ [n], g.2.2) else g
    if (sOffer o g1.1 (t, 65, 0, 0, 1)).2 = 0 then ((sOffer o g1.1 (t, 65, 0, 0, 1)).1, g1.2) else g1)
  else (if (sApply o g.1 (t, 66, 0, 0, 0)).2 = 0 then ((sApply o g.1 (t, 66, 0, 0, 0)).1.1, wokenS (qu g.1) (sApply o g.1 (t, 66, 0, 0, 0)).1.2.2.2.2 g.2) else g)
abbrev InvG (o : ObT) (g : Gm) (n : Int) : Prop := Inv o g.1 g.2.1 g.2.2 n
theorem step_inv {o : ObT} {g : Gm} {n t k : Int} (h : InvG o g n) (hl : (qu g.1).length ≤ 90) : InvG o (gStep o n t k g) (n + 1) := by
  have hl' : (qu g.1).length ≤ 95 := by omega
  unfold gStep
  split
  · split
    · rename_i _ h0
      have hv := (apply_ok hl' h0).2
      have e : sApply o g.1 (t, 64, n, 0, 0) = (sSend o g.1 (t, 64, n, 0, 0), 0) := (apply_do h0).1
      rw [e] at hv ⊢
      exact inv_send h hv rfl rfl
    · exact inv_next h
  · split
    · split
      · rename_i _ _ h0
        have hv := (apply_ok hl' h0).2
        have e : sApply o g.1 (t, 65, 0, 0, 0) = (sRecv g.1 (t, 65, 0, 0, 0), 0) := (apply_do h0).1
        rw [e] at hv ⊢
        exact inv_next (inv_recv h hv rfl)
      · exact inv_next h
    · split
      · split
        · rename_i _ _ _ h0
          have e : (sWith o g.1 t).1.1 = setQ g.1 (sRemove (qu g.1) t) := by
            unfold sWith at h0 ⊢
            split at h0
            · simp at h0
            · split at h0
              · simp at h0
              · rename_i k1 k2
                rw [if_neg k1, if_neg k2]
          rw [e]
          exact inv_with h t
        · exact inv_next h
      · split
        · have h1 : InvG o (if (sOffer o g.1 (t, 64, n, 0, 0)).2 = 0 then ((sOffer o g.1 (t, 64, n, 0, 0)).1, g.2.1 ++ [n], g.2.2) else g) (n + 1) ∧ (qu (if (sOffer o g.1 (t, 64, n, 0, 0)).2 = 0 then ((sOffer o g.1 (t, 64, n, 0, 0)).1, g.2.1 ++ [n], g.2.2) else g : Gm).1).length ≤ 95 := by
            split
            · rename_i h0
              obtain ⟨_, e, hv⟩ := offer_ok hl' h0
              rw [e] at hv ⊢
              refine ⟨inv_offer h hv rfl rfl (.inl rfl), ?_⟩
              show (qu g.1 ++ [_]).length ≤ 95
              rw [List.length_append, List.length_cons, List.length_nil]
              omega
            · exact ⟨inv_next h, hl'⟩
          generalize (if (sOffer o g.1 (t, 64, n, 0, 0)).2 = 0 then ((sOffer o g.1 (t, 64, n, 0, 0)).1, g.2.1 ++ [n], g.2.2) else g : Gm) = g1 at h1
          obtain ⟨h1, h2⟩ := h1
          simp only
          split
          · rename_i h0
            obtain ⟨_, e, hv⟩ := offer_ok h2 h0
            rw [e] at hv ⊢
            exact inv_offer_recv h1 hv rfl
          · exact h1
        · split
          · rename_i _ _ _ _ h0
            have e : sApply o g.1 (t, 66, 0, 0, 0) = (sShut g.1, 0) := (apply_do h0).1
            rw [e]
            exact inv_shut h
          · exact inv_next h
theorem apply_len {o : ObT} {s : OS} {c : Cl} : (qu (sApply o s c).1.1).length ≤ (qu s).length + 1 := by
  have hp : ∀ v, (qu (sPark s c v).1).length ≤ (qu s).length + 1 := fun v => by
    show (qu s ++ [_]).length ≤ _
    rw [List.length_append, List.length_cons, List.length_nil]
    omega
  have hr : ∀ t, (sRemove (qu s) t).length ≤ (qu s).length + 1 := fun t => Nat.le_succ_of_le (remove_le _ _)
  rw [sApply_err]
  split
  · exact Nat.zero_le _
  · show (qu (sDo o s c).1).length ≤ _
    unfold sDo
    split
    · unfold sSend
      split
      · exact hr _
      · split
        · exact Nat.le_succ _
        · exact hp _
    · split
      · unfold sRecv
        split
        · split
          · exact hr _
          · exact Nat.le_succ _
        · split
          · exact hr _
          · split
            · exact Nat.le_succ _
            · exact hp _
      · exact Nat.zero_le _
theorem with_len {o : ObT} {s : OS} {t : Int} : (qu (sWith o s t).1.1).length ≤ (qu s).length := by
  unfold sWith
  split
  · exact Nat.zero_le _
  · split
    · exact Nat.zero_le _
    · exact remove_le _ _
theorem offer_le {o : ObT} {s : OS} {w : W} : (qu (sOffer o s w).1).length ≤ (qu s).length + 1 := by
  unfold sOffer
  repeat' split
  all_goals first | exact Nat.zero_le _ | skip
  show (qu s ++ [w]).length ≤ _
  rw [List.length_append, List.length_cons, List.length_nil]
  omega
theorem step_len {o : ObT} {g : Gm} {n t k : Int} : (qu (gStep o n t k g).1).length ≤ (qu g.1).length + 2 := by
  unfold gStep
  split
  · split
    · exact Nat.le_succ_of_le apply_len
    · omega
  · split
    · split
      · exact Nat.le_succ_of_le apply_len
      · omega
    · split
      · split
        · exact Nat.le_trans with_len (by omega)
        · omega
      · split
        · have h1 : (qu (if (sOffer o g.1 (t, 64, n, 0, 0)).2 = 0 then ((sOffer o g.1 (t, 64, n, 0, 0)).1, g.2.1 ++ [n], g.2.2) else g : Gm).1).length ≤ (qu g.1).length + 1 := by
            split
            · exact offer_le
            · omega
          generalize (if (sOffer o g.1 (t, 64, n, 0, 0)).2 = 0 then ((sOffer o g.1 (t, 64, n, 0, 0)).1, g.2.1 ++ [n], g.2.2) else g : Gm) = g1 at h1
          simp only
          split
          · have := offer_le (o := o) (s := g1.1) (w := (t, 65, 0, 0, 1))
            show (qu (sOffer o g1.1 (t, 65, 0, 0, 1)).1).length ≤ _
            omega
          · omega
        · split
          · exact Nat.le_succ_of_le apply_len
          · omega
/-- A game: steps by a task and a kind. -/
def gPlay (o : ObT) : Int → List (Int × Int) → Gm → Gm
  | _, [], g => g
  | n, x :: l, g => gPlay o (n + 1) l (gStep o n x.1 x.2 g)
theorem play_inv {o : ObT} : ∀ (l : List (Int × Int)) (g : Gm) (n : Int), InvG o g n → (qu g.1).length + 2 * l.length ≤ 90 → InvG o (gPlay o n l g) (n + l.length)
  | [], g, n, h, _ => by simpa [gPlay] using h
  | x :: l, g, n, h, hl => by
    rw [List.length_cons] at hl
    have h1 := step_inv (t := x.1) (k := x.2) h (by omega)
    have h2 := step_len (o := o) (g := g) (n := n) (t := x.1) (k := x.2)
    have h3 := play_inv l _ (n + 1) h1 (by omega)
    rw [List.length_cons, show n + ((l.length + 1 : Nat) : Int) = n + 1 + l.length by omega]
    exact h3
theorem order_eq {o : ObT} {g : Gm} {n : Int} (h : InvG o g n) : (g.2.2 ++ bu g.1) ++ sendVals (qu g.1) = g.2.1 := h.eq.symm
theorem inv_new {z : Int} (h : z = 0 ∨ z = 1 ∨ z = 2 ∨ z = 3) : InvG (objQ z) ((sNew (objQ z)).1, [], []) 0 := by
  have hc : sCheck (objQ z) (sNew (objQ z)).1 = 0 ∧ qu (sNew (objQ z)).1 = [] ∧ bu (sNew (objQ z)).1 = [] := by
    rcases h with rfl | rfl | rfl | rfl <;> exact ⟨by decide, rfl, rfl⟩
  refine ⟨check_val hc.1, ?_, ?_, (fun x hx => by cases hx), .nil⟩
  · intro w hw
    rw [hc.2.1] at hw
    cases hw
  · show [] = ([] ++ bu (sNew (objQ z)).1) ++ sendVals (qu (sNew (objQ z)).1)
    rw [hc.2.1, hc.2.2]
    rfl
end Go.Proofs.Ytnaejponobbahaa
/- Channel: loops of the game that keeps the order. -/
namespace Go.Proofs.Ytnaejponobbahaa
open Go.Sx

def eqV (n m : Int) : Bool := decide (m = n)
def dropV (n : Int) (l : List Int) : List Int := l.filter (fun m => !eqV n m)
theorem dropAll_nil (l : List Int) : dropAll [] l = l := by
  unfold dropAll
  rw [List.filter_eq_self]
  intro a _
  rfl
theorem dropAll_snoc (vs : List Int) (v : Int) (l : List Int) : dropAll (vs ++ [v]) l = dropV v (dropAll vs l) := by
  unfold dropAll dropV
  rw [List.filter_filter]
  refine List.filter_congr fun x _ => ?_
  rw [Bool.eq_iff_iff]
  simp [eqV]
  grind
theorem taskVals_snoc (q : List W) (w : W) (t : Int) : taskVals (q ++ [w]) t = taskVals q t ++ (if w.2.1 = 64 ∧ w.1 = t then [val w] else []) := by
  unfold taskVals senders
  rw [List.filter_append, List.filter_append, List.map_append]
  congr 1
  by_cases h1 : w.2.1 = 64
  · by_cases h2 : w.1 = t
    · simp [isOp, isT, h1, h2]
    · simp [isOp, isT, h1, h2]
  · simp [isOp, isT, h1]
theorem take_snoc {α : Type} {l : List α} {i : Nat} (d : α) (h : i < l.length) : l.take (i + 1) = l.take i ++ [l.getD i d] := by
  rw [List.take_add_one, List.getD_eq_getElem?_getD, List.getElem?_eq_getElem h]
  rfl
theorem drop_len (n : Int) (l : List Int) : (dropV n l).length ≤ l.length := List.length_filter_le _ _
/-- The first one of a list that is to be dropped. -/
theorem fst_none {α : Type} (p : α → Bool) : ∀ (l : List α) (i : Int), 0 ≤ i → firstAt p l i = -1 → l.filter (fun x => !p x) = l
  | [], _, _, _ => rfl
  | x :: l, i, h0, h => by
    unfold firstAt at h
    split at h
    · omega
    · rename_i hp
      rw [List.filter_cons_of_pos (by simpa using hp), fst_none p l (i + 1) (by omega) h]
theorem fst_some {α : Type} (p : α → Bool) : ∀ (l : List α) (i : Int), 0 ≤ i → firstAt p l i ≠ -1 →
    ∃ k : Nat, firstAt p l i = i + k ∧ k < l.length ∧ (l.take (k + 1)).filter (fun x => !p x) = l.take k
  | [], _, _, h => absurd rfl h
  | x :: l, i, h0, h => by
    unfold firstAt at h ⊢
    split
    · rename_i hp
      exact ⟨0, by simp, by simp, by simp [hp]⟩
    · rename_i hp
      rw [if_neg hp] at h
      obtain ⟨k, e1, e2, e3⟩ := fst_some p l (i + 1) (by omega) h
      refine ⟨k + 1, by rw [e1]; push_cast; omega, by simpa using e2, ?_⟩
      rw [List.take_succ_cons, List.filter_cons_of_pos (by simpa using hp), e3, List.take_succ_cons]
/-- The loop of DeleteFunc: x so far, kept i of the first j. -/
structure Del (n : Int) (l : List Int) (p : Int × Int × List Int) : Prop where
  i0 : 0 ≤ p.1
  ij : p.1 < p.2.1
  jl : p.2.1 ≤ l.length
  len : p.2.2.length = l.length
  kept : p.2.2.take p.1.toNat = dropV n (l.take p.2.1.toNat)
  rest : p.2.2.drop p.2.1.toNat = l.drop p.2.1.toNat
theorem del_start {n : Int} {l : List Int} (h : firstAt (eqV n) l 0 ≠ -1) : Del n l (firstAt (eqV n) l 0, firstAt (eqV n) l 0 + 1, l) := by
  obtain ⟨k, e1, e2, e3⟩ := fst_some (eqV n) l 0 (by omega) h
  rw [e1]
  refine ⟨by simp, by simp; omega, by simp; omega, rfl, ?_, rfl⟩
  show l.take ((0 : Int) + k).toNat = dropV n (l.take ((0 : Int) + k + 1).toNat)
  rw [show ((0 : Int) + k).toNat = k by omega, show ((0 : Int) + k + 1).toNat = k + 1 by omega, dropV, e3]
theorem del_get {n : Int} {l : List Int} {p : Int × Int × List Int} (h : Del n l p) (hj : p.2.1 < l.length) : p.2.2.getD p.2.1.toNat 0 = l.getD p.2.1.toNat 0 := by
  have h1 : (p.2.2.drop p.2.1.toNat)[0]? = (l.drop p.2.1.toNat)[0]? := by rw [h.rest]
  rw [List.getElem?_drop, List.getElem?_drop] at h1
  simpa using congrArg (Option.getD · 0) h1
theorem drop_succ_eq {a b : List Int} {k : Nat} (h : a.drop k = b.drop k) : a.drop (k + 1) = b.drop (k + 1) := by
  rw [← List.drop_drop (i := 1) (j := k), ← List.drop_drop (i := 1) (j := k), h]
theorem del_skip {n : Int} {l : List Int} {p : Int × Int × List Int} (h : Del n l p) (hj : p.2.1 < l.length) (hv : l.getD p.2.1.toNat 0 = n) : Del n l (p.1, p.2.1 + 1, p.2.2) := by
  have h0 := h.i0
  have h1 := h.ij
  have e : (p.2.1 + 1).toNat = p.2.1.toNat + 1 := by omega
  refine ⟨h.i0, by show p.1 < p.2.1 + 1; omega, by show p.2.1 + 1 ≤ _; omega, h.len, ?_, ?_⟩
  · show p.2.2.take p.1.toNat = dropV n (l.take (p.2.1 + 1).toNat)
    rw [h.kept, e, take_snoc 0 (by omega), hv, dropV, dropV, List.filter_append]
    simp [eqV]
  · show p.2.2.drop (p.2.1 + 1).toNat = l.drop (p.2.1 + 1).toNat
    rw [e]
    exact drop_succ_eq h.rest
theorem del_keep {n : Int} {l : List Int} {p : Int × Int × List Int} (h : Del n l p) (hj : p.2.1 < l.length) (hv : l.getD p.2.1.toNat 0 ≠ n) : Del n l (p.1 + 1, p.2.1 + 1, p.2.2.set p.1.toNat (l.getD p.2.1.toNat 0)) := by
  have h0 := h.i0
  have h1 := h.ij
  have h2 := h.len
  have e : (p.2.1 + 1).toNat = p.2.1.toNat + 1 := by omega
  have e' : (p.1 + 1).toNat = p.1.toNat + 1 := by omega
  refine ⟨by show 0 ≤ p.1 + 1; omega, by show p.1 + 1 < p.2.1 + 1; omega, by show p.2.1 + 1 ≤ _; omega, by show (p.2.2.set _ _).length = _; rw [List.length_set, h.len], ?_, ?_⟩
  · show (p.2.2.set p.1.toNat _).take (p.1 + 1).toNat = dropV n (l.take (p.2.1 + 1).toNat)
    rw [e, e', take_snoc 0 (by rw [List.length_set]; omega), take_snoc 0 (by omega), List.take_set_of_le (Nat.le_refl _), h.kept, dropV, dropV, List.filter_append]
    congr 1
    rw [List.filter_cons_of_pos (by simpa [eqV] using hv)]
    rw [List.getD_eq_getElem?_getD, List.getElem?_set_self (by omega)]
    rfl
  · show (p.2.2.set p.1.toNat _).drop (p.2.1 + 1).toNat = l.drop (p.2.1 + 1).toNat
    rw [e, List.drop_set_of_lt (by omega)]
    exact drop_succ_eq h.rest
theorem del_end {n : Int} {l : List Int} {p : Int × Int × List Int} (h : Del n l p) (hj : ¬ p.2.1 < l.length) : p.2.2.take p.1.toNat = dropV n l := by
  have h1 := h.jl
  rw [h.kept, List.take_of_length_le (by omega)]
theorem del_fin {n : Int} {l : List Int} {p : Int × Int × List Int} (h : Del n l p) (hj : ¬ p.2.1 < l.length) (y : List Int) (a b : Nat) (ha : a = p.1.toNat) (hb : b = p.1.toNat) : (p.2.2.take a ++ y).take b = dropV n l := by
  have h0 := h.i0
  have h1 := h.ij
  have h2 := h.jl
  have h3 := h.len
  subst ha hb
  rw [List.take_append_of_le_length (by rw [List.length_take]; omega), List.take_take, Nat.min_self, del_end h hj]
/-- The loop over those who wait. -/
structure Drp (q : List W) (t : Int) (s0 : List Int) (p : Nat × List Int) : Prop where
  jl : p.1 ≤ q.length
  eq : p.2 = dropAll (taskVals (q.take p.1) t) s0
theorem drp_start (q : List W) (t : Int) (s0 : List Int) : Drp q t s0 (0, s0) := ⟨Nat.zero_le _, (dropAll_nil s0).symm⟩
theorem drp_next {q : List W} {t : Int} {s0 : List Int} {p : Nat × List Int} (h : Drp q t s0 p) (hj : p.1 < q.length) (hv : ¬ ((q.getD p.1 (dflt tW)).1 = t ∧ (q.getD p.1 (dflt tW)).2.1 = 64)) : Drp q t s0 (p.1 + 1, p.2) := by
  refine ⟨hj, ?_⟩
  show p.2 = dropAll (taskVals (q.take (p.1 + 1)) t) s0
  rw [take_snoc (dflt tW) hj, taskVals_snoc, if_neg (fun hh => hv ⟨hh.2, hh.1⟩), List.append_nil]
  exact h.eq
theorem drp_drop {q : List W} {t : Int} {s0 : List Int} {p : Nat × List Int} (h : Drp q t s0 p) (hj : p.1 < q.length) (hv : (q.getD p.1 (dflt tW)).1 = t) (ho : (q.getD p.1 (dflt tW)).2.1 = 64) : Drp q t s0 (p.1 + 1, dropV (q.getD p.1 (dflt tW)).2.2.1 p.2) := by
  refine ⟨hj, ?_⟩
  show dropV _ p.2 = dropAll (taskVals (q.take (p.1 + 1)) t) s0
  rw [take_snoc (dflt tW) hj, taskVals_snoc, if_pos ⟨ho, hv⟩, dropAll_snoc, h.eq]
  rfl
theorem drp_end {q : List W} {t : Int} {s0 : List Int} {p : Nat × List Int} (h : Drp q t s0 p) (hj : ¬ p.1 < q.length) : p.2 = dropAll (taskVals q t) s0 := by
  rw [h.eq, List.take_of_length_le (by omega)]
theorem drp_len {q : List W} {t : Int} {s0 : List Int} {p : Nat × List Int} (h : Drp q t s0 p) : p.2.length ≤ s0.length := by
  rw [h.eq]
  exact List.length_filter_le _ _
/-- The loop over those who are woken. -/
structure Wok (q : List W) (ws : List Wk) (g : List Int × List Int) (p : Nat × List Int × List Int) : Prop where
  kl : p.1 ≤ ws.length
  eq : p.2 = wokenS q (ws.take p.1) g
  l1 : p.2.1.length ≤ g.1.length
  l2 : p.2.2.length ≤ g.2.length + p.1
theorem wok_start (q : List W) (ws : List Wk) (g : List Int × List Int) : Wok q ws g (0, g) := ⟨Nat.zero_le _, rfl, Nat.le_refl _, Nat.le_refl _⟩
theorem woken_append (q : List W) (b : List Wk) : ∀ (a : List Wk) (g : List Int × List Int), wokenS q (a ++ b) g = wokenS q b (wokenS q a g)
  | [], _ => rfl
  | w :: a, g => woken_append q b a _
/-- What one who is woken changes. -/
def wokOne (q : List W) (w : Wk) (g : List Int × List Int) : List Int × List Int :=
  (if w.2.1 = 65 ∨ w.2.2.2.1 = false then dropAll (taskVals q w.1) g.1 else g.1, if w.2.1 = 65 ∧ w.2.2.2.1 = true then g.2 ++ [w.2.2.1] else g.2)
theorem wok_next {q : List W} {ws : List Wk} {g : List Int × List Int} {p : Nat × List Int × List Int} (h : Wok q ws g p) (hk : p.1 < ws.length) {w : Wk} (hw : ws.getD p.1 (dflt tWk) = w) {s r : List Int} (e : (s, r) = wokOne q w p.2) : Wok q ws g (p.1 + 1, s, r) := by
  have h1 := h.l1
  have h2 := h.l2
  refine ⟨hk, ?_, ?_, ?_⟩
  · show (s, r) = wokenS q (ws.take (p.1 + 1)) g
    rw [take_snoc (dflt tWk) hk, woken_append, ← h.eq, hw, e]
    rfl
  · show s.length ≤ g.1.length
    rw [show s = (wokOne q w p.2).1 from congrArg (·.1) e]
    show (if _ then _ else _ : List Int).length ≤ _
    split
    · exact Nat.le_trans (List.length_filter_le _ _) h1
    · exact h1
  · show r.length ≤ g.2.length + (p.1 + 1)
    rw [show r = (wokOne q w p.2).2 from congrArg (·.2) e]
    show (if _ then _ else _ : List Int).length ≤ _
    split
    · rw [List.length_append, List.length_cons, List.length_nil]; omega
    · omega
theorem wok_end {q : List W} {ws : List Wk} {g : List Int × List Int} {p : Nat × List Int × List Int} (h : Wok q ws g p) (hk : ¬ p.1 < ws.length) : p.2 = wokenS q ws g := by
  rw [h.eq, List.take_of_length_le (by omega)]
def c90 : Ctr := fnC [dIs, .fn 94 [] [.eptr tI]] [(false, tI)] (fun _ => True) (fun y => (firstAt (eqV y.2.1.2.1) y.1 0, ()))
theorem good90 : GoodC Try.prog 90 c90 := by
  refine goodF cx0_good 3 _ _ _ _ ⟨_, Try.func90, rfl, rfl⟩ fun (⟨xs, ⟨_, ⟨n, _⟩⟩, _⟩ : List Int × (Unit × (Int × Unit)) × Unit) _ => ?_
  refine (And.intro (by first | kernel_rfl | rfl) (fun h0 => ?_))
  refine ex4 _ (fun i : Nat => ⟨[.sl (.int .i64) xs, .fn (Fn.func 94) [] [.eptr [PV.int .i64 n]], .any, .any, .any, .any, .sl (.int .i64) xs, .int .i64 (↑xs.length : Int), .int .i64 (i : Int), .any, .any, .any, .any, .any, .any, .any, .any, .any, .any], [], 0⟩) (fun i => i ≤ xs.length ∧ firstAt (eqV n) xs 0 = firstAt (eqV n) (xs.drop i) i) (fun i => xs.length - i) (And.intro (Exists.intro (0) (Exists.intro ([]) (And.intro ?_ (And.intro (by rfl) (And.intro (by rfl) (And.intro True.intro (by rfl))))))) ?_)
  · exact ⟨Nat.zero_le _, rfl⟩
  rintro i ⟨hi, ht⟩
  refine (And.intro (fun k0 => (And.intro (by intros; (try subst_vars); (try simp only [Bool.cond_true_left, Bool.cond_false_right, Bool.or_eq_true, Bool.or_eq_false_iff, Bool.and_eq_true, Bool.not_eq_true', Bool.not_eq_false', decide_eq_true_eq, decide_eq_false_iff_not, Int.not_lt, Int.not_le] at *); (try simp only [inK, big, lim, List.length_cons, List.length_nil, List.length_append, List.length_drop, List.length_take, List.length_replicate] at *); omega) (And.intro (by first | kernel_rfl | rfl) (And.intro (fun k1 => (fin_of rfl ?_)) (fun k1 => (And.intro (by intros; (try subst_vars); (try simp only [Bool.cond_true_left, Bool.cond_false_right, Bool.or_eq_true, Bool.or_eq_false_iff, Bool.and_eq_true, Bool.not_eq_true', Bool.not_eq_false', decide_eq_true_eq, decide_eq_false_iff_not, Int.not_lt, Int.not_le] at *); (try simp only [inK, big, lim, List.length_cons, List.length_nil, List.length_append, List.length_drop, List.length_take, List.length_replicate] at *); omega) ?_)))))) (fun k0 => (fin_of rfl ?_)))
  · have hi' : i < xs.length := by simpa using k0
    have e : firstAt (eqV n) xs 0 = i := by rw [ht, firstAt_drop (eqV n) 0 xs i hi', if_pos (by simpa [eqV] using k1)]
    show (firstAt (eqV n) xs 0, ()) = (_, ())
    rw [e]
  · have hi' : i < xs.length := by simpa using k0
    refine Exists.intro (i + 1) (Exists.intro ([]) (And.intro ?_ (And.intro ?_ (And.intro (by rfl) (And.intro (by rfl) (And.intro True.intro (by rfl)))))))
    · exact ⟨hi', by rw [ht, firstAt_drop (eqV n) 0 xs i hi', if_neg (by simpa [eqV] using k1)]⟩
    · show xs.length - (i + 1) < xs.length - i
      omega
  · have e : firstAt (eqV n) xs 0 = -1 := by rw [ht, List.drop_of_length_le (by simpa using k0)]; rfl
    show (firstAt (eqV n) xs 0, ()) = (_, ())
    rw [e]
end Go.Proofs.Ytnaejponobbahaa
/- Channel: the order of the values: what is called. -/
namespace Go.Proofs.Ytnaejponobbahaa
open Go.Sx

def tStep : Ty := .pair (.int .u8) (.int .u8)
def tysU : List (TypeId × Ty) := (95, tStep) :: tys1
theorem cxy_good : GoodCtx Try.prog ⟨tysU, []⟩ := fun _ _ _ h => by simp [lookL] at h
def tabU : List (FuncId × (List Sh × Ctr)) := (90, ([], c90)) :: (35, ([], c35)) :: (36, ([], c36)) :: tab4
def cxU : Ctx := ⟨tysU, tabU⟩
theorem cxU_good : GoodCtx Try.prog cxU := cx_cons good90 (cx_cons good35 (cx_cons good36 (cx_cons good10 (cx_cons good11 (cx_cons good19 (cx_cons good20 (cx_cons good16 (cx_cons good21 (cx_cons good22 (cx_cons good23 (cx_cons good12 (cx_cons good24 (cx_cons good25 (cx_cons good26 (cx_cons good30 (cx_cons good31 (cx_cons good29 (cx_cons good32 (cx_cons good13 cxy_good)))))))))))))))))))
end Go.Proofs.Ytnaejponobbahaa
/- Channel: the order of the values: plain facts of a step. -/
namespace Go.Proofs.Ytnaejponobbahaa
open Go.Sx

theorem shut_len : ∀ (k : Nat) (l : List W), l.length ≤ k → (shutW l).length ≤ l.length
  | _, [], _ => by rw [shut_nil]; exact Nat.le_refl 0
  | k + 1, w :: l, h => by
    rw [List.length_cons] at h
    have h1 := sRemove_len l w.1
    have h2 := shut_len k (sRemove l w.1) (by omega)
    rw [shutW, List.length_cons, List.length_cons]
    omega
theorem wk_len {o : ObT} {s : OS} {c : Cl} : (sApply o s c).1.2.2.2.2.length ≤ (qu s).length + 1 := by
  rw [sApply_err]
  split
  · exact Nat.zero_le _
  · show (sDo o s c).2.2.2.2.length ≤ _
    unfold sDo
    split
    · unfold sSend
      split
      · exact Nat.succ_le_succ (Nat.zero_le _)
      · split
        · exact Nat.zero_le _
        · exact Nat.zero_le _
    · split
      · unfold sRecv
        split
        · split
          · exact Nat.succ_le_succ (Nat.zero_le _)
          · exact Nat.zero_le _
        · split
          · exact Nat.succ_le_succ (Nat.zero_le _)
          · split
            · exact Nat.zero_le _
            · exact Nat.zero_le _
      · exact Nat.le_succ_of_le (shut_len _ (qu s) (Nat.le_refl _))
theorem g_send {o : ObT} {n t k : Int} {g : Gm} (hk : k = 0 ∨ k = 1) (h : (sApply o g.1 (t, 64, n, 0, 0)).2 = 0) : gStep o n t k g = ((sApply o g.1 (t, 64, n, 0, 0)).1.1, wokenS (qu g.1) (sApply o g.1 (t, 64, n, 0, 0)).1.2.2.2.2 (g.2.1 ++ [n], g.2.2)) := by
  unfold gStep
  rw [if_pos hk, if_pos h]
theorem g_send' {o : ObT} {n t k : Int} {g : Gm} (hk : k = 0 ∨ k = 1) (h : ¬ (sApply o g.1 (t, 64, n, 0, 0)).2 = 0) : gStep o n t k g = g := by
  unfold gStep
  rw [if_pos hk, if_neg h]
theorem g_recv {o : ObT} {n t k : Int} {g : Gm} (hk : k = 2 ∨ k = 3) (h : (sApply o g.1 (t, 65, 0, 0, 0)).2 = 0) : gStep o n t k g = ((sApply o g.1 (t, 65, 0, 0, 0)).1.1, wokenS (qu g.1) (sApply o g.1 (t, 65, 0, 0, 0)).1.2.2.2.2 (g.2.1, recvS (sApply o g.1 (t, 65, 0, 0, 0)).1 g.2.2)) := by
  unfold gStep
  rw [if_neg (by omega), if_pos hk, if_pos h]
theorem g_recv' {o : ObT} {n t k : Int} {g : Gm} (hk : k = 2 ∨ k = 3) (h : ¬ (sApply o g.1 (t, 65, 0, 0, 0)).2 = 0) : gStep o n t k g = g := by
  unfold gStep
  rw [if_neg (by omega), if_pos hk, if_neg h]
theorem g_with {o : ObT} {n t k : Int} {g : Gm} (hk : k = 4) (h : (sWith o g.1 t).2 = 0) : gStep o n t k g = ((sWith o g.1 t).1.1, dropAll (taskVals (qu g.1) t) g.2.1, g.2.2) := by
  unfold gStep
  rw [if_neg (by omega), if_neg (by omega), if_pos hk, if_pos h]
theorem g_with' {o : ObT} {n t k : Int} {g : Gm} (hk : k = 4) (h : ¬ (sWith o g.1 t).2 = 0) : gStep o n t k g = g := by
  unfold gStep
  rw [if_neg (by omega), if_neg (by omega), if_pos hk, if_neg h]
def gFive (o : ObT) (n t : Int) (g : Gm) : Gm := if (sOffer o g.1 (t, 64, n, 0, 0)).2 = 0 then ((sOffer o g.1 (t, 64, n, 0, 0)).1, g.2.1 ++ [n], g.2.2) else g
theorem g_five {o : ObT} {n t k : Int} {g g1 : Gm} (hk : k = 5) (e : gFive o n t g = g1) (h : (sOffer o g1.1 (t, 65, 0, 0, 1)).2 = 0) : gStep o n t k g = ((sOffer o g1.1 (t, 65, 0, 0, 1)).1, g1.2) := by
  subst e
  unfold gStep
  rw [if_neg (by omega), if_neg (by omega), if_neg (by omega), if_pos hk]
  exact if_pos h
theorem g_five' {o : ObT} {n t k : Int} {g g1 : Gm} (hk : k = 5) (e : gFive o n t g = g1) (h : ¬ (sOffer o g1.1 (t, 65, 0, 0, 1)).2 = 0) : gStep o n t k g = g1 := by
  subst e
  unfold gStep
  rw [if_neg (by omega), if_neg (by omega), if_neg (by omega), if_pos hk]
  exact if_neg h
theorem g_shut {o : ObT} {n t k : Int} {g : Gm} (hk : k = 6) (h : (sApply o g.1 (t, 66, 0, 0, 0)).2 = 0) : gStep o n t k g = ((sApply o g.1 (t, 66, 0, 0, 0)).1.1, wokenS (qu g.1) (sApply o g.1 (t, 66, 0, 0, 0)).1.2.2.2.2 g.2) := by
  unfold gStep
  rw [if_neg (by omega), if_neg (by omega), if_neg (by omega), if_neg (by omega), if_pos h]
theorem g_shut' {o : ObT} {n t k : Int} {g : Gm} (hk : k = 6) (h : ¬ (sApply o g.1 (t, 66, 0, 0, 0)).2 = 0) : gStep o n t k g = g := by
  unfold gStep
  rw [if_neg (by omega), if_neg (by omega), if_neg (by omega), if_neg (by omega), if_neg h]
theorem play_snoc (o : ObT) (x : Int × Int) : ∀ (a : List (Int × Int)) (n : Int) (g : Gm), gPlay o n (a ++ [x]) g = gStep o (n + a.length) x.1 x.2 (gPlay o n a g)
  | [], n, g => by simp [gPlay]
  | y :: a, n, g => by
    show gPlay o (n + 1) (a ++ [x]) _ = _
    rw [play_snoc o x a (n + 1) _, List.length_cons, show n + ((a.length + 1 : Nat) : Int) = n + 1 + a.length by omega]
    rfl
def mapStep (x : Int × Int) : Int × Int := (x.1.tmod 4, x.2.tmod 7)
def gAt (o : ObT) (l : List (Int × Int)) (n : Nat) : Gm := gPlay o 0 ((l.take n).map mapStep) ((sNew o).1, [], [])
theorem at_next {o : ObT} {l : List (Int × Int)} {n : Nat} (h : n < l.length) : gAt o l (n + 1) = gStep o n ((l.getD n (0, 0)).1.tmod 4) ((l.getD n (0, 0)).2.tmod 7) (gAt o l n) := by
  unfold gAt
  rw [take_snoc (0, 0) h, List.map_append, List.map_cons, List.map_nil, play_snoc, List.length_map, List.length_take, Nat.min_eq_left (Nat.le_of_lt h)]
  simp [mapStep]
end Go.Proofs.Ytnaejponobbahaa
/- Channel: the order of the values: plain facts of a game. -/
namespace Go.Proofs.Ytnaejponobbahaa
open Go.Sx

theorem woken_len (q : List W) : ∀ (ws : List Wk) (g : List Int × List Int), (wokenS q ws g).1.length ≤ g.1.length
  | [], g => Nat.le_refl _
  | w :: ws, g => by
    refine Nat.le_trans (woken_len q ws _) ?_
    show (if _ then _ else _ : List Int).length ≤ _
    split
    · exact List.length_filter_le _ _
    · exact Nat.le_refl _
theorem sent_len {o : ObT} {g : Gm} {n t k : Int} : (gStep o n t k g).2.1.length ≤ g.2.1.length + 1 := by
  have ha : (g.2.1 ++ [n]).length = g.2.1.length + 1 := by simp
  unfold gStep
  split
  · split
    · exact Nat.le_trans (woken_len _ _ _) (Nat.le_of_eq ha)
    · exact Nat.le_succ _
  · split
    · split
      · exact Nat.le_succ_of_le (woken_len _ _ _)
      · exact Nat.le_succ _
    · split
      · split
        · exact Nat.le_succ_of_le (List.length_filter_le _ _)
        · exact Nat.le_succ _
      · split
        · have h1 : (if (sOffer o g.1 (t, 64, n, 0, 0)).2 = 0 then ((sOffer o g.1 (t, 64, n, 0, 0)).1, g.2.1 ++ [n], g.2.2) else g : Gm).2.1.length ≤ g.2.1.length + 1 := by
            split
            · exact Nat.le_of_eq ha
            · exact Nat.le_succ _
          generalize (if (sOffer o g.1 (t, 64, n, 0, 0)).2 = 0 then ((sOffer o g.1 (t, 64, n, 0, 0)).1, g.2.1 ++ [n], g.2.2) else g : Gm) = g1 at h1
          simp only
          split
          · exact h1
          · exact h1
        · split
          · exact Nat.le_succ_of_le (woken_len _ _ _)
          · exact Nat.le_succ _
/-- A game after n steps. -/
structure At (o : ObT) (l : List (Int × Int)) (n : Nat) (g : Gm) : Prop where
  le : n ≤ l.length
  eq : g = gAt o l n
  inv : InvG o g n
  q : (qu g.1).length ≤ 2 * n
  s : g.2.1.length ≤ n
theorem at_zero {z : Int} (h : z = 0 ∨ z = 1 ∨ z = 2 ∨ z = 3) (l : List (Int × Int)) : At (objQ z) l 0 ((sNew (objQ z)).1, [], []) := by
  refine ⟨Nat.zero_le _, rfl, inv_new h, ?_, Nat.le_refl 0⟩
  rcases h with rfl | rfl | rfl | rfl <;> exact Nat.le_refl 0
theorem at_step {o : ObT} {l : List (Int × Int)} {n : Nat} {g : Gm} (h : At o l n g) (hn : n < l.length) (hl : l.length ≤ 24) {g' : Gm} (e : g' = gStep o n ((l.getD n (0, 0)).1.tmod 4) ((l.getD n (0, 0)).2.tmod 7) g) : At o l (n + 1) g' := by
  subst e
  have h1 := h.q
  have h2 := h.s
  refine ⟨hn, ?_, ?_, ?_, ?_⟩
  · rw [at_next hn, ← h.eq]
  · have := step_inv (t := (l.getD n (0, 0)).1.tmod 4) (k := (l.getD n (0, 0)).2.tmod 7) h.inv (by omega)
    rw [show ((n + 1 : Nat) : Int) = n + 1 from rfl]
    exact this
  · have := step_len (o := o) (g := g) (n := n) (t := (l.getD n (0, 0)).1.tmod 4) (k := (l.getD n (0, 0)).2.tmod 7)
    omega
  · have := sent_len (o := o) (g := g) (n := n) (t := (l.getD n (0, 0)).1.tmod 4) (k := (l.getD n (0, 0)).2.tmod 7)
    omega
theorem at_recv {o : ObT} {l : List (Int × Int)} {n : Nat} {g : Gm} (h : At o l n g) : g.2.2.length ≤ n := by
  have h1 := congrArg List.length h.inv.eq
  have h2 := h.s
  rw [List.length_append, List.length_append] at h1
  omega
theorem val_few {o : ObT} {s : OS} (h : Val o s) (hq : (qu s).length ≤ 90) (ho : o.2.2.1 ≤ 1000) : few s ∧ ((bu s).length : Int) ≤ o.2.2.1 := by
  have hp := h.plain
  simp only [plainB, Bool.and_eq_true, decide_eq_true_eq] at hp
  simp only [few]
  omega
/-- The values of those who wait to send, so far. -/
def upTo (q : List W) (i : Nat) : List Int := sendVals (q.take i)
theorem up_end {q : List W} {i : Nat} (h : ¬ i < q.length) : upTo q i = sendVals q := by
  rw [upTo, List.take_of_length_le (by omega)]
theorem up_send {q : List W} {i : Nat} (h : i < q.length) (hw : (q.getD i (dflt tW)).2.1 = 64) : upTo q (i + 1) = upTo q i ++ [(q.getD i (dflt tW)).2.2.1] := by
  rw [upTo, take_snoc (dflt tW) h, send_add hw]
  rfl
theorem up_other {q : List W} {i : Nat} (h : i < q.length) (hw : ¬ (q.getD i (dflt tW)).2.1 = 64) : upTo q (i + 1) = upTo q i := by
  rw [upTo, take_snoc (dflt tW) h, send_other hw]
  rfl
theorem up_len (q : List W) (i : Nat) : (upTo q i).length ≤ q.length := by
  rw [upTo, sendVals, List.length_map, senders]
  refine Nat.le_trans (List.length_filter_le _ _) ?_
  rw [List.length_take]
  exact Nat.min_le_right _ _
end Go.Proofs.Ytnaejponobbahaa
/- Channel: the order of the values: a value dropped. -/
namespace Go.Proofs.Ytnaejponobbahaa
open Go.Sx

/-- The game as a block, what was sent being block j, what was received block k. -/
@[reducible] def gameC (o : ObT) (s : OS) (j k : Nat) : List AV := [.str o.1, .int .i64 o.2.1, .int .i64 o.2.2.1, .int .i64 o.2.2.2, .int .i64 s.1, .int .i64 s.2.1, .int .i64 s.2.2.1, .sl (.int .i64) s.2.2.2.1, .sl tW s.2.2.2.2.1, .sl (.int .i64) s.2.2.2.2.2.1, .sl tCu s.2.2.2.2.2.2.1, .bool s.2.2.2.2.2.2.2.1, .int .i64 s.2.2.2.2.2.2.2.2, .own j, .own k, .bool true]
@[reducible] def osC (s : OS) : List AV := [.int .i64 s.1, .int .i64 s.2.1, .int .i64 s.2.2.1, .sl (.int .i64) s.2.2.2.1, .sl tW s.2.2.2.2.1, .sl (.int .i64) s.2.2.2.2.2.1, .sl tCu s.2.2.2.2.2.2.1, .bool s.2.2.2.2.2.2.2.1, .int .i64 s.2.2.2.2.2.2.2.2]
@[reducible] def wC (w : W) : List AV := [.int .i64 w.1, .int .i64 w.2.1, .int .i64 w.2.2.1, .int .i64 w.2.2.2.1, .int .i64 w.2.2.2.2]
@[reducible] def wkC (w : Wk) : List AV := [.int .i64 w.1, .int .i64 w.2.1, .int .i64 w.2.2.1, .bool w.2.2.2.1, .int .i64 w.2.2.2.2]
abbrev KT := AV → List Ob → Nat → Prop
/-- What a call to drop owes. -/
def DropAS (sem : CallSem) : Prop := ∀ (o : ObT) (s : OS) (sent recv : List Int) (v : Int) (s9 : OS) (w12 : Wk) (x15 : W) (K : KT), sent.length ≤ 1000 → (∀ H' n' j, getOb H' 0 = .cells (gameC o s j 11) → getOb H' j = .rows tI (dropV v sent) → getOb H' 11 = .rows tI recv → getOb H' 9 = .cells (osC s9) → getOb H' 12 = .cells (wkC w12) → j ≠ 0 → j ≠ 11 → j ≠ 9 → j ≠ 12 → 16 ≤ n' → K (.tup []) H' n') →
    sem 83 [.ptr 0 0, .int .i64 v] [.cells (gameC o s 10 11), .dead, .dead, .dead, .dead, .dead, .dead, .dead, .dead, .cells (osC s9), .rows tI sent, .rows tI recv, .cells (wkC w12), .dead, .dead, .cells (wC x15)] 16 K
theorem dropA (d : Nat) : DropAS (callN cxU Try.prog (d + 3)) := by
  intro o s sent recv v s9 w12 x15 K hl hK
  refine (And.intro (by first | kernel_rfl | rfl) (And.intro (by first | kernel_rfl | rfl) (And.intro True.intro (And.intro (fun h0 => ?_) (fun h0 => (And.intro ?_ ?_))))))
  · have e : dropV v sent = sent := fst_none (eqV v) sent 0 (Int.le_refl 0) (by simpa using h0)
    exact hK _ _ 10 rfl (by rw [e]; rfl) rfl rfl rfl (by decide) (by decide) (by decide) (by decide) (by decide)
  · obtain ⟨k, e, e2, _⟩ := fst_some (eqV v) sent 0 (Int.le_refl 0) (by simpa using h0)
    show -9223372036854775808 ≤ firstAt (eqV v) sent 0 + 1 ∧ firstAt (eqV v) sent 0 + 1 ≤ 9223372036854775807
    omega
  refine ex4 _ (fun p : Int × Int × List Int => ⟨[.own 10, .fn (Fn.func 94) [] [.ptr 16 0], .any, .any, .cap0, .int .i64 p.1, .int .i64 p.2.1, .any, .own 10, .fn (Fn.func 94) [] [.ptr 16 0], .int .i64 (firstAt (eqV v) sent 0), .int .i64 (firstAt (eqV v) sent 0), .bool (decide (firstAt (eqV v) sent 0 = -1)), .any, .int .i64 (firstAt (eqV v) sent 0), .int .i64 (firstAt (eqV v) sent 0 + 1), .any, .any, .any, .any, .any, .any, .any, .any, .any, .any, .any, .any, .any, .any, .any, .any, .any, .any, .any, .any, .any, .any, .any, .any, .any, .any], [.cells   [.str o.1, .int .i64 o.2.1, .int .i64 o.2.2.1, .int .i64 o.2.2.2, .int .i64 s.1,     .int .i64 s.2.1, .int .i64 s.2.2.1, .sl (.int .i64) s.2.2.2.1, .sl tW s.2.2.2.2.1,     .sl (.int .i64) s.2.2.2.2.2.1, .sl tCu s.2.2.2.2.2.2.1, .bool s.2.2.2.2.2.2.2.1,     .int .i64 s.2.2.2.2.2.2.2.2, .own 10, .own 11, .bool true], .dead, .dead, .dead, .dead, .dead, .dead, .dead, .dead, .cells   [.int .i64 s9.1, .int .i64 s9.2.1, .int .i64 s9.2.2.1,     .sl (.int .i64) s9.2.2.2.1, .sl tW s9.2.2.2.2.1, .sl (.int .i64) s9.2.2.2.2.2.1,     .sl tCu s9.2.2.2.2.2.2.1, .bool s9.2.2.2.2.2.2.2.1, .int .i64 s9.2.2.2.2.2.2.2.2], .rows tI p.2.2, .rows tI recv, .cells   [.int .i64 w12.1, .int .i64 w12.2.1, .int .i64 w12.2.2.1, .bool w12.2.2.2.1,     .int .i64 w12.2.2.2.2], .dead, .dead, .cells   [.int .i64 x15.1, .int .i64 x15.2.1, .int .i64 x15.2.2.1, .int .i64 x15.2.2.2.1,     .int .i64 x15.2.2.2.2], .cells [.int .i64 v]], 17⟩) (fun p => Del v sent p) (fun p => sent.length - p.2.1.toNat) (And.intro (Exists.intro ((firstAt (eqV v) sent 0, firstAt (eqV v) sent 0 + 1, sent)) (Exists.intro ([some 0, some 1, some 2, some 3, some 4, some 5, some 6, some 7, some 8, some 9, some 10, some 11, some 12, some 13, some 14, some 15, some 16]) (And.intro ?_ (And.intro (by rfl) (And.intro (by rfl) (And.intro (And.intro (And.intro (by rfl) (by rfl)) (And.intro (And.intro (by rfl) (by rfl)) (And.intro (by rfl) (And.intro (by rfl) (And.intro (And.intro (by rfl) (by rfl)) (And.intro (And.intro (by rfl) (by rfl)) (And.intro (And.intro (by rfl) (by rfl)) True.intro))))))) (by rfl))))))) ?_)
  · exact del_start (by simpa using h0)
  rintro ⟨i, j, x⟩ hp
  obtain ⟨p1, p2, p3, p4, p5, p6⟩ := id hp
  simp only at p1 p2 p3 p4 p5 p6
  refine (fun k0 => (And.intro (fun k1 => (And.intro (by intros; (try subst_vars); (try simp only [Bool.cond_true_left, Bool.cond_false_right, Bool.or_eq_true, Bool.or_eq_false_iff, Bool.and_eq_true, Bool.not_eq_true', Bool.not_eq_false', decide_eq_true_eq, decide_eq_false_iff_not, Int.not_lt, Int.not_le] at *); (try simp only [inK, big, lim, List.length_cons, List.length_nil, List.length_append, List.length_drop, List.length_take, List.length_replicate] at *); omega) (And.intro (by first | kernel_rfl | rfl) (And.intro (fun k2 => (And.intro (by intros; (try subst_vars); (try simp only [Bool.cond_true_left, Bool.cond_false_right, Bool.or_eq_true, Bool.or_eq_false_iff, Bool.and_eq_true, Bool.not_eq_true', Bool.not_eq_false', decide_eq_true_eq, decide_eq_false_iff_not, Int.not_lt, Int.not_le] at *); (try simp only [inK, big, lim, List.length_cons, List.length_nil, List.length_append, List.length_drop, List.length_take, List.length_replicate] at *); omega) (And.intro (by intros; (try subst_vars); (try simp only [Bool.cond_true_left, Bool.cond_false_right, Bool.or_eq_true, Bool.or_eq_false_iff, Bool.and_eq_true, Bool.not_eq_true', Bool.not_eq_false', decide_eq_true_eq, decide_eq_false_iff_not, Int.not_lt, Int.not_le] at *); (try simp only [inK, big, lim, List.length_cons, List.length_nil, List.length_append, List.length_drop, List.length_take, List.length_replicate] at *); omega) (And.intro (by intros; (try subst_vars); (try simp only [Bool.cond_true_left, Bool.cond_false_right, Bool.or_eq_true, Bool.or_eq_false_iff, Bool.and_eq_true, Bool.not_eq_true', Bool.not_eq_false', decide_eq_true_eq, decide_eq_false_iff_not, Int.not_lt, Int.not_le] at *); (try simp only [inK, big, lim, List.length_cons, List.length_nil, List.length_append, List.length_drop, List.length_take, List.length_replicate] at *); omega) ?_)))) (fun k2 => (And.intro (by intros; (try subst_vars); (try simp only [Bool.cond_true_left, Bool.cond_false_right, Bool.or_eq_true, Bool.or_eq_false_iff, Bool.and_eq_true, Bool.not_eq_true', Bool.not_eq_false', decide_eq_true_eq, decide_eq_false_iff_not, Int.not_lt, Int.not_le] at *); (try simp only [inK, big, lim, List.length_cons, List.length_nil, List.length_append, List.length_drop, List.length_take, List.length_replicate] at *); omega) ?_)))))) (fun k1 => (And.intro (by intros; (try subst_vars); (try simp only [Bool.cond_true_left, Bool.cond_false_right, Bool.or_eq_true, Bool.or_eq_false_iff, Bool.and_eq_true, Bool.not_eq_true', Bool.not_eq_false', decide_eq_true_eq, decide_eq_false_iff_not, Int.not_lt, Int.not_le] at *); (try simp only [inK, big, lim, List.length_cons, List.length_nil, List.length_append, List.length_drop, List.length_take, List.length_replicate] at *); omega) (And.intro (by intros; (try subst_vars); (try simp only [Bool.cond_true_left, Bool.cond_false_right, Bool.or_eq_true, Bool.or_eq_false_iff, Bool.and_eq_true, Bool.not_eq_true', Bool.not_eq_false', decide_eq_true_eq, decide_eq_false_iff_not, Int.not_lt, Int.not_le] at *); (try simp only [inK, big, lim, List.length_cons, List.length_nil, List.length_append, List.length_drop, List.length_take, List.length_replicate] at *); omega) ?_)))))
  · have hj : j < sent.length := by rw [← p4]; simpa using k1
    have e := del_get (p := (i, j, x)) hp hj
    have hx : x.getD j.toNat (dflt tI) = sent.getD j.toNat 0 := e
    refine Exists.intro ((i + 1, j + 1, x.set i.toNat (sent.getD j.toNat 0))) (Exists.intro ([some 0, some 1, some 2, some 3, some 4, some 5, some 6, some 7, some 8, some 9, some 10, some 11, some 12, some 13, some 14, some 15, some 16]) (And.intro ?_ (And.intro ?_ (And.intro (by rfl) (And.intro (by rfl) (And.intro (And.intro (And.intro (by rfl) (by rfl)) (And.intro (And.intro (by rfl) (by rfl)) (And.intro ?_ (And.intro (by rfl) (And.intro (And.intro (by rfl) (by rfl)) (And.intro (And.intro (by rfl) (by rfl)) (And.intro (And.intro (by rfl) (by rfl)) True.intro))))))) (by rfl)))))))
    · exact del_keep (p := (i, j, x)) hp hj (by rw [← hx]; simpa using k2)
    · show sent.length - (j + 1).toNat < sent.length - j.toNat
      omega
    · show Ob.rows tI _ = Ob.rows tI _
      rw [← hx]
  · have hj : j < sent.length := by rw [← p4]; simpa using k1
    have hx : x.getD j.toNat (dflt tI) = sent.getD j.toNat 0 := del_get (p := (i, j, x)) hp hj
    refine Exists.intro ((i, j + 1, x)) (Exists.intro ([some 0, some 1, some 2, some 3, some 4, some 5, some 6, some 7, some 8, some 9, some 10, some 11, some 12, some 13, some 14, some 15, some 16]) (And.intro ?_ (And.intro ?_ (And.intro (by rfl) (And.intro (by rfl) (And.intro (And.intro (And.intro (by rfl) (by rfl)) (And.intro (And.intro (by rfl) (by rfl)) (And.intro (by rfl) (And.intro (by rfl) (And.intro (And.intro (by rfl) (by rfl)) (And.intro (And.intro (by rfl) (by rfl)) (And.intro (And.intro (by rfl) (by rfl)) True.intro))))))) (by rfl)))))))
    · exact del_skip (p := (i, j, x)) hp hj (by rw [← hx]; simpa using k2)
    · show sent.length - (j + 1).toNat < sent.length - j.toNat
      omega
  · have hj : ¬ j < sent.length := by rw [← p4]; simpa using k1
    exact hK _ _ 17 rfl (congrArg (Ob.rows tI) (del_fin (p := (i, j, x)) hp hj _ _ _ rfl rfl)) rfl rfl rfl (by decide) (by decide) (by decide) (by decide) (by decide)
/-- What a call to drop owes. -/
def DropBS (sem : CallSem) : Prop := ∀ (o : ObT) (s : OS) (sent recv : List Int) (v : Int) (s9 : OS) (x15 : W) (K : KT), sent.length ≤ 1000 → (∀ H' n' j, getOb H' 0 = .cells (gameC o s j 11) → getOb H' j = .rows tI (dropV v sent) → getOb H' 11 = .rows tI recv → getOb H' 9 = .cells (osC s9) → j ≠ 0 → j ≠ 11 → j ≠ 9 → j ≠ 12 → 16 ≤ n' → K (.tup []) H' n') →
    sem 83 [.ptr 0 0, .int .i64 v] [.cells (gameC o s 10 11), .dead, .dead, .dead, .dead, .dead, .dead, .dead, .dead, .cells (osC s9), .rows tI sent, .rows tI recv, .dead, .dead, .dead, .cells (wC x15)] 16 K
theorem dropB (d : Nat) : DropBS (callN cxU Try.prog (d + 3)) := by
  intro o s sent recv v s9 x15 K hl hK
  refine (And.intro (by first | kernel_rfl | rfl) (And.intro (by first | kernel_rfl | rfl) (And.intro True.intro (And.intro (fun h0 => ?_) (fun h0 => (And.intro ?_ ?_))))))
  · have e : dropV v sent = sent := fst_none (eqV v) sent 0 (Int.le_refl 0) (by simpa using h0)
    exact hK _ _ 10 rfl (by rw [e]; rfl) rfl rfl (by decide) (by decide) (by decide) (by decide) (by decide)
  · obtain ⟨k, e, e2, _⟩ := fst_some (eqV v) sent 0 (Int.le_refl 0) (by simpa using h0)
    show -9223372036854775808 ≤ firstAt (eqV v) sent 0 + 1 ∧ firstAt (eqV v) sent 0 + 1 ≤ 9223372036854775807
    omega
  refine ex4 _ (fun p : Int × Int × List Int => ⟨[.own 10, .fn (Fn.func 94) [] [.ptr 16 0], .any, .any, .cap0, .int .i64 p.1, .int .i64 p.2.1, .any, .own 10, .fn (Fn.func 94) [] [.ptr 16 0], .int .i64 (firstAt (eqV v) sent 0), .int .i64 (firstAt (eqV v) sent 0), .bool (decide (firstAt (eqV v) sent 0 = -1)), .any, .int .i64 (firstAt (eqV v) sent 0), .int .i64 (firstAt (eqV v) sent 0 + 1), .any, .any, .any, .any, .any, .any, .any, .any, .any, .any, .any, .any, .any, .any, .any, .any, .any, .any, .any, .any, .any, .any, .any, .any, .any, .any], [.cells   [.str o.1, .int .i64 o.2.1, .int .i64 o.2.2.1, .int .i64 o.2.2.2, .int .i64 s.1,     .int .i64 s.2.1, .int .i64 s.2.2.1, .sl (.int .i64) s.2.2.2.1, .sl tW s.2.2.2.2.1,     .sl (.int .i64) s.2.2.2.2.2.1, .sl tCu s.2.2.2.2.2.2.1, .bool s.2.2.2.2.2.2.2.1,     .int .i64 s.2.2.2.2.2.2.2.2, .own 10, .own 11, .bool true], .dead, .dead, .dead, .dead, .dead, .dead, .dead, .dead, .cells   [.int .i64 s9.1, .int .i64 s9.2.1, .int .i64 s9.2.2.1,     .sl (.int .i64) s9.2.2.2.1, .sl tW s9.2.2.2.2.1, .sl (.int .i64) s9.2.2.2.2.2.1,     .sl tCu s9.2.2.2.2.2.2.1, .bool s9.2.2.2.2.2.2.2.1, .int .i64 s9.2.2.2.2.2.2.2.2], .rows tI p.2.2, .rows tI recv, .dead, .dead, .dead, .cells   [.int .i64 x15.1, .int .i64 x15.2.1, .int .i64 x15.2.2.1, .int .i64 x15.2.2.2.1,     .int .i64 x15.2.2.2.2], .cells [.int .i64 v]], 17⟩) (fun p => Del v sent p) (fun p => sent.length - p.2.1.toNat) (And.intro (Exists.intro ((firstAt (eqV v) sent 0, firstAt (eqV v) sent 0 + 1, sent)) (Exists.intro ([some 0, some 1, some 2, some 3, some 4, some 5, some 6, some 7, some 8, some 9, some 10, some 11, some 12, some 13, some 14, some 15, some 16]) (And.intro ?_ (And.intro (by rfl) (And.intro (by rfl) (And.intro (And.intro (And.intro (by rfl) (by rfl)) (And.intro (And.intro (by rfl) (by rfl)) (And.intro (by rfl) (And.intro (by rfl) (And.intro (And.intro (by rfl) (by rfl)) (And.intro (And.intro (by rfl) (by rfl)) True.intro)))))) (by rfl))))))) ?_)
  · exact del_start (by simpa using h0)
  rintro ⟨i, j, x⟩ hp
  obtain ⟨p1, p2, p3, p4, p5, p6⟩ := id hp
  simp only at p1 p2 p3 p4 p5 p6
  refine (fun k0 => (And.intro (fun k1 => (And.intro (by intros; (try subst_vars); (try simp only [Bool.cond_true_left, Bool.cond_false_right, Bool.or_eq_true, Bool.or_eq_false_iff, Bool.and_eq_true, Bool.not_eq_true', Bool.not_eq_false', decide_eq_true_eq, decide_eq_false_iff_not, Int.not_lt, Int.not_le] at *); (try simp only [inK, big, lim, List.length_cons, List.length_nil, List.length_append, List.length_drop, List.length_take, List.length_replicate] at *); omega) (And.intro (by first | kernel_rfl | rfl) (And.intro (fun k2 => (And.intro (by intros; (try subst_vars); (try simp only [Bool.cond_true_left, Bool.cond_false_right, Bool.or_eq_true, Bool.or_eq_false_iff, Bool.and_eq_true, Bool.not_eq_true', Bool.not_eq_false', decide_eq_true_eq, decide_eq_false_iff_not, Int.not_lt, Int.not_le] at *); (try simp only [inK, big, lim, List.length_cons, List.length_nil, List.length_append, List.length_drop, List.length_take, List.length_replicate] at *); omega) (And.intro (by intros; (try subst_vars); (try simp only [Bool.cond_true_left, Bool.cond_false_right, Bool.or_eq_true, Bool.or_eq_false_iff, Bool.and_eq_true, Bool.not_eq_true', Bool.not_eq_false', decide_eq_true_eq, decide_eq_false_iff_not, Int.not_lt, Int.not_le] at *); (try simp only [inK, big, lim, List.length_cons, List.length_nil, List.length_append, List.length_drop, List.length_take, List.length_replicate] at *); omega) (And.intro (by intros; (try subst_vars); (try simp only [Bool.cond_true_left, Bool.cond_false_right, Bool.or_eq_true, Bool.or_eq_false_iff, Bool.and_eq_true, Bool.not_eq_true', Bool.not_eq_false', decide_eq_true_eq, decide_eq_false_iff_not, Int.not_lt, Int.not_le] at *); (try simp only [inK, big, lim, List.length_cons, List.length_nil, List.length_append, List.length_drop, List.length_take, List.length_replicate] at *); omega) ?_)))) (fun k2 => (And.intro (by intros; (try subst_vars); (try simp only [Bool.cond_true_left, Bool.cond_false_right, Bool.or_eq_true, Bool.or_eq_false_iff, Bool.and_eq_true, Bool.not_eq_true', Bool.not_eq_false', decide_eq_true_eq, decide_eq_false_iff_not, Int.not_lt, Int.not_le] at *); (try simp only [inK, big, lim, List.length_cons, List.length_nil, List.length_append, List.length_drop, List.length_take, List.length_replicate] at *); omega) ?_)))))) (fun k1 => (And.intro (by intros; (try subst_vars); (try simp only [Bool.cond_true_left, Bool.cond_false_right, Bool.or_eq_true, Bool.or_eq_false_iff, Bool.and_eq_true, Bool.not_eq_true', Bool.not_eq_false', decide_eq_true_eq, decide_eq_false_iff_not, Int.not_lt, Int.not_le] at *); (try simp only [inK, big, lim, List.length_cons, List.length_nil, List.length_append, List.length_drop, List.length_take, List.length_replicate] at *); omega) (And.intro (by intros; (try subst_vars); (try simp only [Bool.cond_true_left, Bool.cond_false_right, Bool.or_eq_true, Bool.or_eq_false_iff, Bool.and_eq_true, Bool.not_eq_true', Bool.not_eq_false', decide_eq_true_eq, decide_eq_false_iff_not, Int.not_lt, Int.not_le] at *); (try simp only [inK, big, lim, List.length_cons, List.length_nil, List.length_append, List.length_drop, List.length_take, List.length_replicate] at *); omega) ?_)))))
  · have hj : j < sent.length := by rw [← p4]; simpa using k1
    have e := del_get (p := (i, j, x)) hp hj
    have hx : x.getD j.toNat (dflt tI) = sent.getD j.toNat 0 := e
    refine Exists.intro ((i + 1, j + 1, x.set i.toNat (sent.getD j.toNat 0))) (Exists.intro ([some 0, some 1, some 2, some 3, some 4, some 5, some 6, some 7, some 8, some 9, some 10, some 11, some 12, some 13, some 14, some 15, some 16]) (And.intro ?_ (And.intro ?_ (And.intro (by rfl) (And.intro (by rfl) (And.intro (And.intro (And.intro (by rfl) (by rfl)) (And.intro (And.intro (by rfl) (by rfl)) (And.intro ?_ (And.intro (by rfl) (And.intro (And.intro (by rfl) (by rfl)) (And.intro (And.intro (by rfl) (by rfl)) True.intro)))))) (by rfl)))))))
    · exact del_keep (p := (i, j, x)) hp hj (by rw [← hx]; simpa using k2)
    · show sent.length - (j + 1).toNat < sent.length - j.toNat
      omega
    · show Ob.rows tI _ = Ob.rows tI _
      rw [← hx]
  · have hj : j < sent.length := by rw [← p4]; simpa using k1
    have hx : x.getD j.toNat (dflt tI) = sent.getD j.toNat 0 := del_get (p := (i, j, x)) hp hj
    refine Exists.intro ((i, j + 1, x)) (Exists.intro ([some 0, some 1, some 2, some 3, some 4, some 5, some 6, some 7, some 8, some 9, some 10, some 11, some 12, some 13, some 14, some 15, some 16]) (And.intro ?_ (And.intro ?_ (And.intro (by rfl) (And.intro (by rfl) (And.intro (And.intro (And.intro (by rfl) (by rfl)) (And.intro (And.intro (by rfl) (by rfl)) (And.intro (by rfl) (And.intro (by rfl) (And.intro (And.intro (by rfl) (by rfl)) (And.intro (And.intro (by rfl) (by rfl)) True.intro)))))) (by rfl)))))))
    · exact del_skip (p := (i, j, x)) hp hj (by rw [← hx]; simpa using k2)
    · show sent.length - (j + 1).toNat < sent.length - j.toNat
      omega
  · have hj : ¬ j < sent.length := by rw [← p4]; simpa using k1
    exact hK _ _ 17 rfl (congrArg (Ob.rows tI) (del_fin (p := (i, j, x)) hp hj _ _ _ rfl rfl)) rfl rfl (by decide) (by decide) (by decide) (by decide) (by decide)
end Go.Proofs.Ytnaejponobbahaa
/- Channel: the order of the values: those who are woken. -/
namespace Go.Proofs.Ytnaejponobbahaa
open Go.Sx

@[reducible] def rpC (r : Rp) : List AV := [.int .i64 r.1.1, .int .i64 r.1.2.1, .int .i64 r.1.2.2.1, .sl (.int .i64) r.1.2.2.2.1, .sl tW r.1.2.2.2.2.1, .sl (.int .i64) r.1.2.2.2.2.2.1, .sl tCu r.1.2.2.2.2.2.2.1, .bool r.1.2.2.2.2.2.2.2.1, .int .i64 r.1.2.2.2.2.2.2.2.2, .bool r.2.1, .int .i64 r.2.2.1, .bool r.2.2.2.1, .sl tWk r.2.2.2.2]
theorem call_at {sem : CallSem} {g : FuncId} {a : List AV} {H : List Ob} {n : Nat} {K : KT} (a' : List AV) (H' : List Ob) (n' : Nat) (h : sem g a' H' n' K) (e1 : a = a') (e2 : H = H') (e3 : n = n') : sem g a H n K := by
  subst e1 e2 e3
  exact h
theorem ob_cells {H : List Ob} {σ τ : List (Option Nat)} {l : List Ob} {j : Nat} {cs ds : List AV} (h : getOb H j = .cells ds) (e : mask cs ds = renL σ cs) (e2 : cs.length = ds.length) (r : okObs σ H τ l) : okObs σ H (some j :: τ) (.cells cs :: l) := by
  unfold okObs
  rw [h]
  exact ⟨⟨e, e2⟩, r⟩
theorem ob_rows {H : List Ob} {σ τ : List (Option Nat)} {l : List Ob} {j : Nat} {t : Ty} {xs : List t.den} (h : getOb H j = .rows t xs) (r : okObs σ H τ l) : okObs σ H (some j :: τ) (.rows t xs :: l) := by
  unfold okObs
  exact ⟨h, r⟩
theorem ob_dead {H : List Ob} {σ τ : List (Option Nat)} {l : List Ob} {x : Option Nat} (r : okObs σ H τ l) : okObs σ H (x :: τ) (.dead :: l) := by
  cases x <;> exact r
theorem di_dead {τ : List (Option Nat)} {l : List Ob} {x : Option Nat} {seen : List Nat} (r : Go.Sx.distinct τ l seen = true) : Go.Sx.distinct (x :: τ) (.dead :: l) seen = true := by
  cases x <;> exact r
theorem di_cells {τ : List (Option Nat)} {l : List Ob} {j : Nat} {cs : List AV} {seen : List Nat} (h : seen.contains j = false) (r : Go.Sx.distinct τ l (j :: seen) = true) : Go.Sx.distinct (some j :: τ) (.cells cs :: l) seen = true := by
  show (!seen.contains j && Go.Sx.distinct τ l (j :: seen)) = true
  rw [h, r]
  rfl
theorem di_rows {τ : List (Option Nat)} {l : List Ob} {j : Nat} {t : Ty} {xs : List t.den} {seen : List Nat} (h : seen.contains j = false) (r : Go.Sx.distinct τ l (j :: seen) = true) : Go.Sx.distinct (some j :: τ) (.rows t xs :: l) seen = true := by
  show (!seen.contains j && Go.Sx.distinct τ l (j :: seen)) = true
  rw [h, r]
  rfl
theorem not2 {a b : Prop} [Decidable a] [Decidable b] (h : (bif decide a then decide b else false) = false) : ¬ (a ∧ b) := by
  rintro ⟨ha, hb⟩
  rw [decide_eq_true ha, decide_eq_true hb] at h
  cases h
theorem and5 {a b c d e : Bool} (h1 : a = true) (h2 : b = true) (h3 : c = true) (h4 : d = true) (h5 : e = true) : (a && b && c && d && e) = true := by
  rw [h1, h2, h3, h4, h5]
  rfl
def WokenAS (sem : CallSem) : Prop := ∀ (o : ObT) (s : OS) (sent recv : List Int) (b : OS) (ws : List Wk) (x3 x4 : Int × Int) (s5 : OS) (r6 : Rp) (n7 : Int) (K : KT), sent.length ≤ 1000 → recv.length + ws.length ≤ 1000 → (qu b).length ≤ 1000 →
    (∀ H' n' j k s' r', (s', r') = wokenS (qu b) ws (sent, recv) → getOb H' 0 = .cells (gameC o s j k) → getOb H' j = .rows tI s' → getOb H' k = .rows tI r' → j ≠ 0 → k ≠ 0 → j ≠ k → K (.tup []) H' n') →
    sem 82 [.ptr 0 0, .agg (osC b), .sl tWk ws] [.cells (gameC o s 8 2), .dead, .rows tI recv, .cells [.int .u8 x3.1, .int .u8 x3.2], .cells [.int .u8 x4.1, .int .u8 x4.2], .cells (osC s5), .cells (rpC r6), .rows tI [n7], .rows tI sent] 9 K
theorem wokenA (sem : CallSem) (hd : DropAS sem) : WokenAS (callS cxU Try.prog sem) := by
  intro o s sent recv b ws x3 x4 s5 r6 n7 K h1 h2 h3 hK
  obtain ⟨ow, ct, tm, hs, q, bf, cs, cl, vl⟩ := b
  simp only [qu] at h3 hK
  refine (And.intro (by first | kernel_rfl | rfl) (fun h0 => ?_))
  refine ex4 _ (fun p : Nat × List Int × List Int => ⟨[.ptr 0 0, .any, .any, .any, .ptr 9 0, .any, .any, .any, .any, .any, .sl tWk ws, .int .i64 (↑ws.length : Int), .int .i64 (p.1 : Int), .any, .any, .any, .any, .any, .any, .any, .any, .any, .any, .any, .any, .any, .any, .any, .any, .any, .any, .any, .any, .any, .any, .any, .any, .any, .any, .any, .any, .any, .any, .any, .any, .any, .any, .any, .any, .any, .any, .any, .any, .any, .any, .any, .any, .any, .any, .any, .any, .any, .any, .any, .any], [.cells (gameC o s 10 11), .dead, .dead, .dead, .dead, .dead, .dead, .dead, .dead, .cells   [.int .i64 ow, .int .i64 ct, .int .i64 tm, .sl (.int .i64) hs, .sl tW q,     .sl (.int .i64) bf, .sl tCu cs, .bool cl, .int .i64 vl], .rows tI p.2.1, .rows tI p.2.2], 12⟩) (fun p => Wok q ws (sent, recv) p) (fun p => ws.length - p.1) (And.intro (Exists.intro ((0, sent, recv)) (Exists.intro ([some 0, some 1, some 2, some 3, some 4, some 5, some 6, some 7, some 8, some 9, some 8, some 2]) (And.intro ?_ (And.intro (by rfl) (And.intro (by rfl) (And.intro (And.intro (And.intro (by rfl) (by rfl)) (And.intro (And.intro (by rfl) (by rfl)) (And.intro (by rfl) (And.intro (by rfl) True.intro)))) (by rfl))))))) ?_)
  · exact wok_start q ws (sent, recv)
  rintro ⟨n, st, rc⟩ hp
  obtain ⟨p1, p2, p3, p4⟩ := id hp
  simp only at p1 p2 p3 p4
  refine (And.intro (fun k0 => (And.intro (by intros; (try subst_vars); (try simp only [Bool.cond_true_left, Bool.cond_false_right, Bool.or_eq_true, Bool.or_eq_false_iff, Bool.and_eq_true, Bool.not_eq_true', Bool.not_eq_false', decide_eq_true_eq, decide_eq_false_iff_not, Int.not_lt, Int.not_le] at *); (try simp only [inK, big, lim, List.length_cons, List.length_nil, List.length_append, List.length_drop, List.length_take, List.length_replicate] at *); omega) (And.intro (fun k1 => (And.intro (by first | kernel_rfl | rfl) (And.intro (by intros; (try subst_vars); (try simp only [Bool.cond_true_left, Bool.cond_false_right, Bool.or_eq_true, Bool.or_eq_false_iff, Bool.and_eq_true, Bool.not_eq_true', Bool.not_eq_false', decide_eq_true_eq, decide_eq_false_iff_not, Int.not_lt, Int.not_le] at *); (try simp only [inK, big, lim, List.length_cons, List.length_nil, List.length_append, List.length_drop, List.length_take, List.length_replicate] at *); omega) (And.intro (fun k2 => (fun k3 => ?_)) (fun k2 => (And.intro (by intros; (try subst_vars); (try simp only [Bool.cond_true_left, Bool.cond_false_right, Bool.or_eq_true, Bool.or_eq_false_iff, Bool.and_eq_true, Bool.not_eq_true', Bool.not_eq_false', decide_eq_true_eq, decide_eq_false_iff_not, Int.not_lt, Int.not_le] at *); (try simp only [inK, big, lim, List.length_cons, List.length_nil, List.length_append, List.length_drop, List.length_take, List.length_replicate] at *); omega) ?_)))))) (fun k1 => (And.intro (fun k4 => (fun k5 => ?_)) (fun k4 => (And.intro (by intros; (try subst_vars); (try simp only [Bool.cond_true_left, Bool.cond_false_right, Bool.or_eq_true, Bool.or_eq_false_iff, Bool.and_eq_true, Bool.not_eq_true', Bool.not_eq_false', decide_eq_true_eq, decide_eq_false_iff_not, Int.not_lt, Int.not_le] at *); (try simp only [inK, big, lim, List.length_cons, List.length_nil, List.length_append, List.length_drop, List.length_take, List.length_replicate] at *); omega) ?_))))))) (fun k0 => ?_))
  · have hn : n < ws.length := by simpa using k0
    refine ex4 _ (fun p : Nat × List Int => ⟨[.ptr 0 0, .any, .any, .any, .ptr 9 0, .any, .any, .ptr 12 0, .any, .any, .sl tWk ws, .int .i64 (ws.length : Int), .int .i64 (↑n : Int), .any, .eptr   [PV.int .i64 (ws.getD (↑n : Int).toNat (dflt tWk)).1,     PV.int .i64 (ws.getD (↑n : Int).toNat (dflt tWk)).2.1,     PV.int .i64 (ws.getD (↑n : Int).toNat (dflt tWk)).2.2.1,     PV.bool (ws.getD (↑n : Int).toNat (dflt tWk)).2.2.2.1,     PV.int .i64 (ws.getD (↑n : Int).toNat (dflt tWk)).2.2.2.2], .agg   [.int .i64 (ws.getD (↑n : Int).toNat (dflt tWk)).1,     .int .i64 (ws.getD (↑n : Int).toNat (dflt tWk)).2.1,     .int .i64 (ws.getD (↑n : Int).toNat (dflt tWk)).2.2.1,     .bool (ws.getD (↑n : Int).toNat (dflt tWk)).2.2.2.1,     .int .i64 (ws.getD (↑n : Int).toNat (dflt tWk)).2.2.2.2], .ptr 12 1, .int .i64 (ws.getD (↑n : Int).toNat (dflt tWk)).2.1, .bool (decide ((ws.getD (↑n : Int).toNat (dflt tWk)).2.1 = 65)), .bool (decide ((ws.getD (↑n : Int).toNat (dflt tWk)).2.1 = 65)), .any, .any, .bool   (bif decide ((ws.getD (↑n : Int).toNat (dflt tWk)).2.1 = 65) then (ws.getD (↑n : Int).toNat (dflt tWk)).2.2.2.1   else false), .ptr 0 0, .ptr 0 0, .any, .any, .any, .ptr 12 2, .int .i64 (ws.getD (↑n : Int).toNat (dflt tWk)).2.2.1, .any, .any, .ptr 0 0, .any, .ptr 12 1, .int .i64 (ws.getD (↑n : Int).toNat (dflt tWk)).2.1, .bool (decide ((ws.getD (↑n : Int).toNat (dflt tWk)).2.1 = 65)), .bool (decide ((ws.getD (↑n : Int).toNat (dflt tWk)).2.1 = 65)), .any, .any, .any, .bool   (bif decide ((ws.getD (↑n : Int).toNat (dflt tWk)).2.1 = 65) then true   else !(ws.getD (↑n : Int).toNat (dflt tWk)).2.2.2.1), .ptr 9 4, .sl tW q, .int .i64 (↑q.length : Int), .int .i64 (p.1 : Int), .any, .any, .any, .any, .any, .any, .any, .any, .any, .any, .any, .any, .any, .any, .any, .any, .any, .any, .any], [.cells (gameC o s 10 11), .dead, .dead, .dead, .dead, .dead, .dead, .dead, .dead, .cells   [.int .i64 ow, .int .i64 ct, .int .i64 tm, .sl (.int .i64) hs, .sl tW q,     .sl (.int .i64) bf, .sl tCu cs, .bool cl, .int .i64 vl], .rows tI p.2, .rows tI (rc ++ [(ws.getD n (dflt tWk)).2.2.1]), .cells   [.int .i64 (ws.getD (↑n : Int).toNat (dflt tWk)).1,     .int .i64 (ws.getD (↑n : Int).toNat (dflt tWk)).2.1,     .int .i64 (ws.getD (↑n : Int).toNat (dflt tWk)).2.2.1,     .bool (ws.getD (↑n : Int).toNat (dflt tWk)).2.2.2.1,     .int .i64 (ws.getD (↑n : Int).toNat (dflt tWk)).2.2.2.2], .dead, .dead], 15⟩) (fun p => Drp q (ws.getD n (dflt tWk)).1 st p) (fun p => q.length - p.1) (And.intro (Exists.intro ((0, st)) (Exists.intro ([some 0, some 1, some 2, some 3, some 4, some 5, some 6, some 7, some 8, some 9, some 10, some 14, some 12, some 13, some 14]) (And.intro ?_ (And.intro (by rfl) (And.intro (by rfl) (And.intro (And.intro (And.intro (by rfl) (by rfl)) (And.intro (And.intro (by rfl) (by rfl)) (And.intro (by rfl) (And.intro (by rfl) (And.intro (And.intro (by rfl) (by rfl)) True.intro))))) (by rfl))))))) ?_)
    · exact drp_start q _ st
    rintro ⟨i, s'⟩ hq
    obtain ⟨q1, q2⟩ := id hq
    simp only at q1 q2
    have hsl : s'.length ≤ 1000 := Nat.le_trans (drp_len hq) (Nat.le_trans p3 h1)
    refine (And.intro (fun m0 => (And.intro (by intros; (try subst_vars); (try simp only [Bool.cond_true_left, Bool.cond_false_right, Bool.or_eq_true, Bool.or_eq_false_iff, Bool.and_eq_true, Bool.not_eq_true', Bool.not_eq_false', decide_eq_true_eq, decide_eq_false_iff_not, Int.not_lt, Int.not_le] at *); (try simp only [inK, big, lim, List.length_cons, List.length_nil, List.length_append, List.length_drop, List.length_take, List.length_replicate] at *); omega) (And.intro (fun m1 => ?_) (fun m1 => (And.intro (by intros; (try subst_vars); (try simp only [Bool.cond_true_left, Bool.cond_false_right, Bool.or_eq_true, Bool.or_eq_false_iff, Bool.and_eq_true, Bool.not_eq_true', Bool.not_eq_false', decide_eq_true_eq, decide_eq_false_iff_not, Int.not_lt, Int.not_le] at *); (try simp only [inK, big, lim, List.length_cons, List.length_nil, List.length_append, List.length_drop, List.length_take, List.length_replicate] at *); omega) ?_))))) (fun m0 => (And.intro (by intros; (try subst_vars); (try simp only [Bool.cond_true_left, Bool.cond_false_right, Bool.or_eq_true, Bool.or_eq_false_iff, Bool.and_eq_true, Bool.not_eq_true', Bool.not_eq_false', decide_eq_true_eq, decide_eq_false_iff_not, Int.not_lt, Int.not_le] at *); (try simp only [inK, big, lim, List.length_cons, List.length_nil, List.length_append, List.length_drop, List.length_take, List.length_replicate] at *); omega) ?_)))
    · have hi : i < q.length := by simpa using m0
      refine call_at _ _ _ (hd o s s' (rc ++ [(ws.getD n (dflt tWk)).2.2.1]) (q.getD i (dflt tW)).2.2.1 (ow, ct, tm, hs, q, bf, cs, cl, vl) (ws.getD n (dflt tWk)) (q.getD i (dflt tW)) _ hsl ?_) (by kernel_rfl) (by kernel_rfl) rfl
      intro H' n' j e0 ej e11 e9 e12 d0 d11 d9 d12 hn'
      refine (And.intro (by intros; (try subst_vars); (try simp only [Bool.cond_true_left, Bool.cond_false_right, Bool.or_eq_true, Bool.or_eq_false_iff, Bool.and_eq_true, Bool.not_eq_true', Bool.not_eq_false', decide_eq_true_eq, decide_eq_false_iff_not, Int.not_lt, Int.not_le] at *); (try simp only [inK, big, lim, List.length_cons, List.length_nil, List.length_append, List.length_drop, List.length_take, List.length_replicate] at *); omega) ?_)
      refine Exists.intro (i + 1, dropV (q.getD i (dflt tW)).2.2.1 s') (Exists.intro ([some 0, some 1, some 2, some 3, some 4, some 5, some 6, some 7, some 8, some 9, some j, some 11, some 12, some 13, some 14]) (And.intro ?_ (And.intro ?_ (And.intro (by rfl) (And.intro (by rfl) (And.intro ?_ ?_))))))
      · obtain ⟨t1, t2⟩ : (q.getD i (dflt tW)).1 = (ws.getD n (dflt tWk)).1 ∧ (q.getD i (dflt tW)).2.1 = 64 := by simpa [Bool.cond_eq_ite] using m1
        exact drp_drop hq hi t1 t2
      · show q.length - (i + 1) < q.length - i
        omega
      · exact ob_cells e0 (by rfl) (by rfl) (ob_dead (ob_dead (ob_dead (ob_dead (ob_dead (ob_dead (ob_dead (ob_dead (ob_cells e9 (by rfl) (by rfl) (ob_rows ej (ob_rows e11 (ob_cells e12 (by rfl) (by rfl) (ob_dead (ob_dead trivial)))))))))))))) 
      · exact and5 (di_cells rfl (di_dead (di_dead (di_dead (di_dead (di_dead (di_dead (di_dead (di_dead (di_cells rfl (di_rows (by simp [d0, d9]) (di_rows (by simp [Ne.symm d11]) (di_cells (by simp [Ne.symm d12]) (di_dead (di_dead rfl))))))))))))))) (by rfl) (by rfl) (by rfl) (Nat.ble_eq_true_of_le (by omega))
    · have hi : i < q.length := by simpa using m0
      have hx : ¬ ((q.getD i (dflt tW)).1 = (ws.getD n (dflt tWk)).1 ∧ (q.getD i (dflt tW)).2.1 = 64) := by
        exact not2 m1
      refine Exists.intro ((i + 1, s')) (Exists.intro ([some 0, some 1, some 2, some 3, some 4, some 5, some 6, some 7, some 8, some 9, some 10, some 11, some 12, some 13, some 14]) (And.intro ?_ (And.intro ?_ (And.intro (by rfl) (And.intro (by rfl) (And.intro (And.intro (And.intro (by rfl) (by rfl)) (And.intro (And.intro (by rfl) (by rfl)) (And.intro (by rfl) (And.intro (by rfl) (And.intro (And.intro (by rfl) (by rfl)) True.intro))))) (by rfl)))))))
      · exact drp_next hq hi hx
      · show q.length - (i + 1) < q.length - i
        omega
    · have hi : ¬ i < q.length := by simpa using m0
      refine Exists.intro ((n + 1, s', (rc ++ [(ws.getD n (dflt tWk)).2.2.1]))) (Exists.intro ([some 0, some 1, some 2, some 3, some 4, some 5, some 6, some 7, some 8, some 9, some 10, some 11]) (And.intro ?_ (And.intro ?_ (And.intro (by rfl) (And.intro (by rfl) (And.intro (And.intro (And.intro (by rfl) (by rfl)) (And.intro (And.intro (by rfl) (by rfl)) (And.intro (by rfl) (And.intro (by rfl) True.intro)))) (by rfl)))))))
      · refine wok_next hp hn rfl ?_
        rw [show s' = dropAll (taskVals q (ws.getD n (dflt tWk)).1) st from drp_end hq hi]
        show (_, _) = (if _ then _ else _, if _ then _ else _)
        rw [if_pos (by simpa [Bool.cond_eq_ite] using k2), if_pos (by simpa [Bool.cond_eq_ite] using k1)]
      · show ws.length - (n + 1) < ws.length - n
        omega
  · exfalso
    simp only [Bool.cond_eq_ite] at k1 k2
    grind
  · have hn : n < ws.length := by simpa using k0
    refine ex4 _ (fun p : Nat × List Int => ⟨[.ptr 0 0, .any, .any, .any, .ptr 9 0, .any, .any, .ptr 12 0, .any, .any, .sl tWk ws, .int .i64 (ws.length : Int), .int .i64 (↑n : Int), .any, .eptr   [PV.int .i64 (ws.getD (↑n : Int).toNat (dflt tWk)).1,     PV.int .i64 (ws.getD (↑n : Int).toNat (dflt tWk)).2.1,     PV.int .i64 (ws.getD (↑n : Int).toNat (dflt tWk)).2.2.1,     PV.bool (ws.getD (↑n : Int).toNat (dflt tWk)).2.2.2.1,     PV.int .i64 (ws.getD (↑n : Int).toNat (dflt tWk)).2.2.2.2], .agg   [.int .i64 (ws.getD (↑n : Int).toNat (dflt tWk)).1,     .int .i64 (ws.getD (↑n : Int).toNat (dflt tWk)).2.1,     .int .i64 (ws.getD (↑n : Int).toNat (dflt tWk)).2.2.1,     .bool (ws.getD (↑n : Int).toNat (dflt tWk)).2.2.2.1,     .int .i64 (ws.getD (↑n : Int).toNat (dflt tWk)).2.2.2.2], .ptr 12 1, .int .i64 (ws.getD (↑n : Int).toNat (dflt tWk)).2.1, .bool (decide ((ws.getD (↑n : Int).toNat (dflt tWk)).2.1 = 65)), .bool (decide ((ws.getD (↑n : Int).toNat (dflt tWk)).2.1 = 65)), .any, .any, .bool   (bif decide ((ws.getD (↑n : Int).toNat (dflt tWk)).2.1 = 65) then (ws.getD (↑n : Int).toNat (dflt tWk)).2.2.2.1   else false), .any, .any, .any, .any, .any, .any, .any, .any, .any, .any, .any, .ptr 12 1, .int .i64 (ws.getD (↑n : Int).toNat (dflt tWk)).2.1, .bool (decide ((ws.getD (↑n : Int).toNat (dflt tWk)).2.1 = 65)), .bool (decide ((ws.getD (↑n : Int).toNat (dflt tWk)).2.1 = 65)), .any, .any, .any, .bool   (bif decide ((ws.getD (↑n : Int).toNat (dflt tWk)).2.1 = 65) then true   else !(ws.getD (↑n : Int).toNat (dflt tWk)).2.2.2.1), .ptr 9 4, .sl tW q, .int .i64 (↑q.length : Int), .int .i64 (p.1 : Int), .any, .any, .any, .any, .any, .any, .any, .any, .any, .any, .any, .any, .any, .any, .any, .any, .any, .any, .any], [.cells (gameC o s 10 11), .dead, .dead, .dead, .dead, .dead, .dead, .dead, .dead, .cells   [.int .i64 ow, .int .i64 ct, .int .i64 tm, .sl (.int .i64) hs, .sl tW q,     .sl (.int .i64) bf, .sl tCu cs, .bool cl, .int .i64 vl], .rows tI p.2, .rows tI rc, .cells   [.int .i64 (ws.getD (↑n : Int).toNat (dflt tWk)).1,     .int .i64 (ws.getD (↑n : Int).toNat (dflt tWk)).2.1,     .int .i64 (ws.getD (↑n : Int).toNat (dflt tWk)).2.2.1,     .bool (ws.getD (↑n : Int).toNat (dflt tWk)).2.2.2.1,     .int .i64 (ws.getD (↑n : Int).toNat (dflt tWk)).2.2.2.2], .dead, .dead], 15⟩) (fun p => Drp q (ws.getD n (dflt tWk)).1 st p) (fun p => q.length - p.1) (And.intro (Exists.intro ((0, st)) (Exists.intro ([some 0, some 1, some 2, some 3, some 4, some 5, some 6, some 7, some 8, some 9, some 10, some 11, some 12, some 13, some 14]) (And.intro ?_ (And.intro (by rfl) (And.intro (by rfl) (And.intro (And.intro (And.intro (by rfl) (by rfl)) (And.intro (And.intro (by rfl) (by rfl)) (And.intro (by rfl) (And.intro (by rfl) (And.intro (And.intro (by rfl) (by rfl)) True.intro))))) (by rfl))))))) ?_)
    · exact drp_start q _ st
    rintro ⟨i, s'⟩ hq
    obtain ⟨q1, q2⟩ := id hq
    simp only at q1 q2
    have hsl : s'.length ≤ 1000 := Nat.le_trans (drp_len hq) (Nat.le_trans p3 h1)
    refine (And.intro (fun m0 => (And.intro (by intros; (try subst_vars); (try simp only [Bool.cond_true_left, Bool.cond_false_right, Bool.or_eq_true, Bool.or_eq_false_iff, Bool.and_eq_true, Bool.not_eq_true', Bool.not_eq_false', decide_eq_true_eq, decide_eq_false_iff_not, Int.not_lt, Int.not_le] at *); (try simp only [inK, big, lim, List.length_cons, List.length_nil, List.length_append, List.length_drop, List.length_take, List.length_replicate] at *); omega) (And.intro (fun m1 => ?_) (fun m1 => (And.intro (by intros; (try subst_vars); (try simp only [Bool.cond_true_left, Bool.cond_false_right, Bool.or_eq_true, Bool.or_eq_false_iff, Bool.and_eq_true, Bool.not_eq_true', Bool.not_eq_false', decide_eq_true_eq, decide_eq_false_iff_not, Int.not_lt, Int.not_le] at *); (try simp only [inK, big, lim, List.length_cons, List.length_nil, List.length_append, List.length_drop, List.length_take, List.length_replicate] at *); omega) ?_))))) (fun m0 => (And.intro (by intros; (try subst_vars); (try simp only [Bool.cond_true_left, Bool.cond_false_right, Bool.or_eq_true, Bool.or_eq_false_iff, Bool.and_eq_true, Bool.not_eq_true', Bool.not_eq_false', decide_eq_true_eq, decide_eq_false_iff_not, Int.not_lt, Int.not_le] at *); (try simp only [inK, big, lim, List.length_cons, List.length_nil, List.length_append, List.length_drop, List.length_take, List.length_replicate] at *); omega) ?_)))
    · have hi : i < q.length := by simpa using m0
      refine call_at _ _ _ (hd o s s' rc (q.getD i (dflt tW)).2.2.1 (ow, ct, tm, hs, q, bf, cs, cl, vl) (ws.getD n (dflt tWk)) (q.getD i (dflt tW)) _ hsl ?_) (by kernel_rfl) (by kernel_rfl) rfl
      intro H' n' j e0 ej e11 e9 e12 d0 d11 d9 d12 hn'
      refine (And.intro (by intros; (try subst_vars); (try simp only [Bool.cond_true_left, Bool.cond_false_right, Bool.or_eq_true, Bool.or_eq_false_iff, Bool.and_eq_true, Bool.not_eq_true', Bool.not_eq_false', decide_eq_true_eq, decide_eq_false_iff_not, Int.not_lt, Int.not_le] at *); (try simp only [inK, big, lim, List.length_cons, List.length_nil, List.length_append, List.length_drop, List.length_take, List.length_replicate] at *); omega) ?_)
      refine Exists.intro (i + 1, dropV (q.getD i (dflt tW)).2.2.1 s') (Exists.intro ([some 0, some 1, some 2, some 3, some 4, some 5, some 6, some 7, some 8, some 9, some j, some 11, some 12, some 13, some 14]) (And.intro ?_ (And.intro ?_ (And.intro (by rfl) (And.intro (by rfl) (And.intro ?_ ?_))))))
      · obtain ⟨t1, t2⟩ : (q.getD i (dflt tW)).1 = (ws.getD n (dflt tWk)).1 ∧ (q.getD i (dflt tW)).2.1 = 64 := by simpa [Bool.cond_eq_ite] using m1
        exact drp_drop hq hi t1 t2
      · show q.length - (i + 1) < q.length - i
        omega
      · exact ob_cells e0 (by rfl) (by rfl) (ob_dead (ob_dead (ob_dead (ob_dead (ob_dead (ob_dead (ob_dead (ob_dead (ob_cells e9 (by rfl) (by rfl) (ob_rows ej (ob_rows e11 (ob_cells e12 (by rfl) (by rfl) (ob_dead (ob_dead trivial)))))))))))))) 
      · exact and5 (di_cells rfl (di_dead (di_dead (di_dead (di_dead (di_dead (di_dead (di_dead (di_dead (di_cells rfl (di_rows (by simp [d0, d9]) (di_rows (by simp [Ne.symm d11]) (di_cells (by simp [Ne.symm d12]) (di_dead (di_dead rfl))))))))))))))) (by rfl) (by rfl) (by rfl) (Nat.ble_eq_true_of_le (by omega))
    · have hi : i < q.length := by simpa using m0
      have hx : ¬ ((q.getD i (dflt tW)).1 = (ws.getD n (dflt tWk)).1 ∧ (q.getD i (dflt tW)).2.1 = 64) := by
        exact not2 m1
      refine Exists.intro ((i + 1, s')) (Exists.intro ([some 0, some 1, some 2, some 3, some 4, some 5, some 6, some 7, some 8, some 9, some 10, some 11, some 12, some 13, some 14]) (And.intro ?_ (And.intro ?_ (And.intro (by rfl) (And.intro (by rfl) (And.intro (And.intro (And.intro (by rfl) (by rfl)) (And.intro (And.intro (by rfl) (by rfl)) (And.intro (by rfl) (And.intro (by rfl) (And.intro (And.intro (by rfl) (by rfl)) True.intro))))) (by rfl)))))))
      · exact drp_next hq hi hx
      · show q.length - (i + 1) < q.length - i
        omega
    · have hi : ¬ i < q.length := by simpa using m0
      refine Exists.intro ((n + 1, s', rc)) (Exists.intro ([some 0, some 1, some 2, some 3, some 4, some 5, some 6, some 7, some 8, some 9, some 10, some 11]) (And.intro ?_ (And.intro ?_ (And.intro (by rfl) (And.intro (by rfl) (And.intro (And.intro (And.intro (by rfl) (by rfl)) (And.intro (And.intro (by rfl) (by rfl)) (And.intro (by rfl) (And.intro (by rfl) True.intro)))) (by rfl)))))))
      · refine wok_next hp hn rfl ?_
        rw [show s' = dropAll (taskVals q (ws.getD n (dflt tWk)).1) st from drp_end hq hi]
        show (_, _) = (if _ then _ else _, if _ then _ else _)
        rw [if_pos (by simpa [Bool.cond_eq_ite] using k4), if_neg (by simpa [Bool.cond_eq_ite] using k1)]
      · show ws.length - (n + 1) < ws.length - n
        omega
  · have hn : n < ws.length := by simpa using k0
    have c1 : ¬ ((ws.getD n (dflt tWk)).2.1 = 65 ∨ (ws.getD n (dflt tWk)).2.2.2.1 = false) := by
      have := k4
      simp only [Bool.cond_eq_ite] at this
      simp only [Int.toNat_natCast] at this
      grind
    have c2 : ¬ ((ws.getD n (dflt tWk)).2.1 = 65 ∧ (ws.getD n (dflt tWk)).2.2.2.1 = true) := by grind
    refine Exists.intro ((n + 1, st, rc)) (Exists.intro ([some 0, some 1, some 2, some 3, some 4, some 5, some 6, some 7, some 8, some 9, some 10, some 11]) (And.intro ?_ (And.intro ?_ (And.intro (by rfl) (And.intro (by rfl) (And.intro (And.intro (And.intro (by rfl) (by rfl)) (And.intro (And.intro (by rfl) (by rfl)) (And.intro (by rfl) (And.intro (by rfl) True.intro)))) (by rfl)))))))
    · refine wok_next hp hn rfl ?_
      show (_, _) = (if _ then _ else _, if _ then _ else _)
      rw [if_neg c1, if_neg c2]
    · show ws.length - (n + 1) < ws.length - n
      omega
  · have hn : ¬ n < ws.length := by simpa using k0
    exact hK _ _ 10 11 st rc (wok_end hp hn) rfl rfl rfl (by decide) (by decide) (by decide)
def WokenCS (sem : CallSem) : Prop := ∀ (o : ObT) (s : OS) (sent recv : List Int) (b : OS) (ws : List Wk) (x3 x4 : Int × Int) (s5 : OS) (r6 : Rp) (n7 : Int) (K : KT), sent.length ≤ 1000 → recv.length + ws.length ≤ 1000 → (qu b).length ≤ 1000 →
    (∀ H' n' j k s' r', (s', r') = wokenS (qu b) ws (sent, recv) → getOb H' 0 = .cells (gameC o s j k) → getOb H' j = .rows tI s' → getOb H' k = .rows tI r' → j ≠ 0 → k ≠ 0 → j ≠ k → K (.tup []) H' n') →
    sem 82 [.ptr 0 0, .agg (osC b), .sl tWk ws] [.cells (gameC o s 1 8), .rows tI sent, .dead, .cells [.int .u8 x3.1, .int .u8 x3.2], .cells [.int .u8 x4.1, .int .u8 x4.2], .cells (osC s5), .cells (rpC r6), .rows tI [n7], .rows tI recv] 9 K
theorem wokenC (sem : CallSem) (hd : DropAS sem) : WokenCS (callS cxU Try.prog sem) := by
  intro o s sent recv b ws x3 x4 s5 r6 n7 K h1 h2 h3 hK
  obtain ⟨ow, ct, tm, hs, q, bf, cs, cl, vl⟩ := b
  simp only [qu] at h3 hK
  refine (And.intro (by first | kernel_rfl | rfl) (fun h0 => ?_))
  refine ex4 _ (fun p : Nat × List Int × List Int => ⟨[.ptr 0 0, .any, .any, .any, .ptr 9 0, .any, .any, .any, .any, .any, .sl tWk ws, .int .i64 (↑ws.length : Int), .int .i64 (p.1 : Int), .any, .any, .any, .any, .any, .any, .any, .any, .any, .any, .any, .any, .any, .any, .any, .any, .any, .any, .any, .any, .any, .any, .any, .any, .any, .any, .any, .any, .any, .any, .any, .any, .any, .any, .any, .any, .any, .any, .any, .any, .any, .any, .any, .any, .any, .any, .any, .any, .any, .any, .any, .any], [.cells (gameC o s 10 11), .dead, .dead, .dead, .dead, .dead, .dead, .dead, .dead, .cells   [.int .i64 ow, .int .i64 ct, .int .i64 tm, .sl (.int .i64) hs, .sl tW q,     .sl (.int .i64) bf, .sl tCu cs, .bool cl, .int .i64 vl], .rows tI p.2.1, .rows tI p.2.2], 12⟩) (fun p => Wok q ws (sent, recv) p) (fun p => ws.length - p.1) (And.intro (Exists.intro ((0, sent, recv)) (Exists.intro ([some 0, some 1, some 2, some 3, some 4, some 5, some 6, some 7, some 8, some 9, some 1, some 8]) (And.intro ?_ (And.intro (by rfl) (And.intro (by rfl) (And.intro (And.intro (And.intro (by rfl) (by rfl)) (And.intro (And.intro (by rfl) (by rfl)) (And.intro (by rfl) (And.intro (by rfl) True.intro)))) (by rfl))))))) ?_)
  · exact wok_start q ws (sent, recv)
  rintro ⟨n, st, rc⟩ hp
  obtain ⟨p1, p2, p3, p4⟩ := id hp
  simp only at p1 p2 p3 p4
  refine (And.intro (fun k0 => (And.intro (by intros; (try subst_vars); (try simp only [Bool.cond_true_left, Bool.cond_false_right, Bool.or_eq_true, Bool.or_eq_false_iff, Bool.and_eq_true, Bool.not_eq_true', Bool.not_eq_false', decide_eq_true_eq, decide_eq_false_iff_not, Int.not_lt, Int.not_le] at *); (try simp only [inK, big, lim, List.length_cons, List.length_nil, List.length_append, List.length_drop, List.length_take, List.length_replicate] at *); omega) (And.intro (fun k1 => (And.intro (by first | kernel_rfl | rfl) (And.intro (by intros; (try subst_vars); (try simp only [Bool.cond_true_left, Bool.cond_false_right, Bool.or_eq_true, Bool.or_eq_false_iff, Bool.and_eq_true, Bool.not_eq_true', Bool.not_eq_false', decide_eq_true_eq, decide_eq_false_iff_not, Int.not_lt, Int.not_le] at *); (try simp only [inK, big, lim, List.length_cons, List.length_nil, List.length_append, List.length_drop, List.length_take, List.length_replicate] at *); omega) (And.intro (fun k2 => (fun k3 => ?_)) (fun k2 => (And.intro (by intros; (try subst_vars); (try simp only [Bool.cond_true_left, Bool.cond_false_right, Bool.or_eq_true, Bool.or_eq_false_iff, Bool.and_eq_true, Bool.not_eq_true', Bool.not_eq_false', decide_eq_true_eq, decide_eq_false_iff_not, Int.not_lt, Int.not_le] at *); (try simp only [inK, big, lim, List.length_cons, List.length_nil, List.length_append, List.length_drop, List.length_take, List.length_replicate] at *); omega) ?_)))))) (fun k1 => (And.intro (fun k4 => (fun k5 => ?_)) (fun k4 => (And.intro (by intros; (try subst_vars); (try simp only [Bool.cond_true_left, Bool.cond_false_right, Bool.or_eq_true, Bool.or_eq_false_iff, Bool.and_eq_true, Bool.not_eq_true', Bool.not_eq_false', decide_eq_true_eq, decide_eq_false_iff_not, Int.not_lt, Int.not_le] at *); (try simp only [inK, big, lim, List.length_cons, List.length_nil, List.length_append, List.length_drop, List.length_take, List.length_replicate] at *); omega) ?_))))))) (fun k0 => ?_))
  · have hn : n < ws.length := by simpa using k0
    refine ex4 _ (fun p : Nat × List Int => ⟨[.ptr 0 0, .any, .any, .any, .ptr 9 0, .any, .any, .ptr 12 0, .any, .any, .sl tWk ws, .int .i64 (ws.length : Int), .int .i64 (↑n : Int), .any, .eptr   [PV.int .i64 (ws.getD (↑n : Int).toNat (dflt tWk)).1,     PV.int .i64 (ws.getD (↑n : Int).toNat (dflt tWk)).2.1,     PV.int .i64 (ws.getD (↑n : Int).toNat (dflt tWk)).2.2.1,     PV.bool (ws.getD (↑n : Int).toNat (dflt tWk)).2.2.2.1,     PV.int .i64 (ws.getD (↑n : Int).toNat (dflt tWk)).2.2.2.2], .agg   [.int .i64 (ws.getD (↑n : Int).toNat (dflt tWk)).1,     .int .i64 (ws.getD (↑n : Int).toNat (dflt tWk)).2.1,     .int .i64 (ws.getD (↑n : Int).toNat (dflt tWk)).2.2.1,     .bool (ws.getD (↑n : Int).toNat (dflt tWk)).2.2.2.1,     .int .i64 (ws.getD (↑n : Int).toNat (dflt tWk)).2.2.2.2], .ptr 12 1, .int .i64 (ws.getD (↑n : Int).toNat (dflt tWk)).2.1, .bool (decide ((ws.getD (↑n : Int).toNat (dflt tWk)).2.1 = 65)), .bool (decide ((ws.getD (↑n : Int).toNat (dflt tWk)).2.1 = 65)), .any, .any, .bool   (bif decide ((ws.getD (↑n : Int).toNat (dflt tWk)).2.1 = 65) then (ws.getD (↑n : Int).toNat (dflt tWk)).2.2.2.1   else false), .ptr 0 0, .ptr 0 0, .any, .any, .any, .ptr 12 2, .int .i64 (ws.getD (↑n : Int).toNat (dflt tWk)).2.2.1, .any, .any, .ptr 0 0, .any, .ptr 12 1, .int .i64 (ws.getD (↑n : Int).toNat (dflt tWk)).2.1, .bool (decide ((ws.getD (↑n : Int).toNat (dflt tWk)).2.1 = 65)), .bool (decide ((ws.getD (↑n : Int).toNat (dflt tWk)).2.1 = 65)), .any, .any, .any, .bool   (bif decide ((ws.getD (↑n : Int).toNat (dflt tWk)).2.1 = 65) then true   else !(ws.getD (↑n : Int).toNat (dflt tWk)).2.2.2.1), .ptr 9 4, .sl tW q, .int .i64 (↑q.length : Int), .int .i64 (p.1 : Int), .any, .any, .any, .any, .any, .any, .any, .any, .any, .any, .any, .any, .any, .any, .any, .any, .any, .any, .any], [.cells (gameC o s 10 11), .dead, .dead, .dead, .dead, .dead, .dead, .dead, .dead, .cells   [.int .i64 ow, .int .i64 ct, .int .i64 tm, .sl (.int .i64) hs, .sl tW q,     .sl (.int .i64) bf, .sl tCu cs, .bool cl, .int .i64 vl], .rows tI p.2, .rows tI (rc ++ [(ws.getD n (dflt tWk)).2.2.1]), .cells   [.int .i64 (ws.getD (↑n : Int).toNat (dflt tWk)).1,     .int .i64 (ws.getD (↑n : Int).toNat (dflt tWk)).2.1,     .int .i64 (ws.getD (↑n : Int).toNat (dflt tWk)).2.2.1,     .bool (ws.getD (↑n : Int).toNat (dflt tWk)).2.2.2.1,     .int .i64 (ws.getD (↑n : Int).toNat (dflt tWk)).2.2.2.2], .dead, .dead], 15⟩) (fun p => Drp q (ws.getD n (dflt tWk)).1 st p) (fun p => q.length - p.1) (And.intro (Exists.intro ((0, st)) (Exists.intro ([some 0, some 1, some 2, some 3, some 4, some 5, some 6, some 7, some 8, some 9, some 10, some 14, some 12, some 13, some 14]) (And.intro ?_ (And.intro (by rfl) (And.intro (by rfl) (And.intro (And.intro (And.intro (by rfl) (by rfl)) (And.intro (And.intro (by rfl) (by rfl)) (And.intro (by rfl) (And.intro (by rfl) (And.intro (And.intro (by rfl) (by rfl)) True.intro))))) (by rfl))))))) ?_)
    · exact drp_start q _ st
    rintro ⟨i, s'⟩ hq
    obtain ⟨q1, q2⟩ := id hq
    simp only at q1 q2
    have hsl : s'.length ≤ 1000 := Nat.le_trans (drp_len hq) (Nat.le_trans p3 h1)
    refine (And.intro (fun m0 => (And.intro (by intros; (try subst_vars); (try simp only [Bool.cond_true_left, Bool.cond_false_right, Bool.or_eq_true, Bool.or_eq_false_iff, Bool.and_eq_true, Bool.not_eq_true', Bool.not_eq_false', decide_eq_true_eq, decide_eq_false_iff_not, Int.not_lt, Int.not_le] at *); (try simp only [inK, big, lim, List.length_cons, List.length_nil, List.length_append, List.length_drop, List.length_take, List.length_replicate] at *); omega) (And.intro (fun m1 => ?_) (fun m1 => (And.intro (by intros; (try subst_vars); (try simp only [Bool.cond_true_left, Bool.cond_false_right, Bool.or_eq_true, Bool.or_eq_false_iff, Bool.and_eq_true, Bool.not_eq_true', Bool.not_eq_false', decide_eq_true_eq, decide_eq_false_iff_not, Int.not_lt, Int.not_le] at *); (try simp only [inK, big, lim, List.length_cons, List.length_nil, List.length_append, List.length_drop, List.length_take, List.length_replicate] at *); omega) ?_))))) (fun m0 => (And.intro (by intros; (try subst_vars); (try simp only [Bool.cond_true_left, Bool.cond_false_right, Bool.or_eq_true, Bool.or_eq_false_iff, Bool.and_eq_true, Bool.not_eq_true', Bool.not_eq_false', decide_eq_true_eq, decide_eq_false_iff_not, Int.not_lt, Int.not_le] at *); (try simp only [inK, big, lim, List.length_cons, List.length_nil, List.length_append, List.length_drop, List.length_take, List.length_replicate] at *); omega) ?_)))
    · have hi : i < q.length := by simpa using m0
      refine call_at _ _ _ (hd o s s' (rc ++ [(ws.getD n (dflt tWk)).2.2.1]) (q.getD i (dflt tW)).2.2.1 (ow, ct, tm, hs, q, bf, cs, cl, vl) (ws.getD n (dflt tWk)) (q.getD i (dflt tW)) _ hsl ?_) (by kernel_rfl) (by kernel_rfl) rfl
      intro H' n' j e0 ej e11 e9 e12 d0 d11 d9 d12 hn'
      refine (And.intro (by intros; (try subst_vars); (try simp only [Bool.cond_true_left, Bool.cond_false_right, Bool.or_eq_true, Bool.or_eq_false_iff, Bool.and_eq_true, Bool.not_eq_true', Bool.not_eq_false', decide_eq_true_eq, decide_eq_false_iff_not, Int.not_lt, Int.not_le] at *); (try simp only [inK, big, lim, List.length_cons, List.length_nil, List.length_append, List.length_drop, List.length_take, List.length_replicate] at *); omega) ?_)
      refine Exists.intro (i + 1, dropV (q.getD i (dflt tW)).2.2.1 s') (Exists.intro ([some 0, some 1, some 2, some 3, some 4, some 5, some 6, some 7, some 8, some 9, some j, some 11, some 12, some 13, some 14]) (And.intro ?_ (And.intro ?_ (And.intro (by rfl) (And.intro (by rfl) (And.intro ?_ ?_))))))
      · obtain ⟨t1, t2⟩ : (q.getD i (dflt tW)).1 = (ws.getD n (dflt tWk)).1 ∧ (q.getD i (dflt tW)).2.1 = 64 := by simpa [Bool.cond_eq_ite] using m1
        exact drp_drop hq hi t1 t2
      · show q.length - (i + 1) < q.length - i
        omega
      · exact ob_cells e0 (by rfl) (by rfl) (ob_dead (ob_dead (ob_dead (ob_dead (ob_dead (ob_dead (ob_dead (ob_dead (ob_cells e9 (by rfl) (by rfl) (ob_rows ej (ob_rows e11 (ob_cells e12 (by rfl) (by rfl) (ob_dead (ob_dead trivial)))))))))))))) 
      · exact and5 (di_cells rfl (di_dead (di_dead (di_dead (di_dead (di_dead (di_dead (di_dead (di_dead (di_cells rfl (di_rows (by simp [d0, d9]) (di_rows (by simp [Ne.symm d11]) (di_cells (by simp [Ne.symm d12]) (di_dead (di_dead rfl))))))))))))))) (by rfl) (by rfl) (by rfl) (Nat.ble_eq_true_of_le (by omega))
    · have hi : i < q.length := by simpa using m0
      have hx : ¬ ((q.getD i (dflt tW)).1 = (ws.getD n (dflt tWk)).1 ∧ (q.getD i (dflt tW)).2.1 = 64) := by
        exact not2 m1
      refine Exists.intro ((i + 1, s')) (Exists.intro ([some 0, some 1, some 2, some 3, some 4, some 5, some 6, some 7, some 8, some 9, some 10, some 11, some 12, some 13, some 14]) (And.intro ?_ (And.intro ?_ (And.intro (by rfl) (And.intro (by rfl) (And.intro (And.intro (And.intro (by rfl) (by rfl)) (And.intro (And.intro (by rfl) (by rfl)) (And.intro (by rfl) (And.intro (by rfl) (And.intro (And.intro (by rfl) (by rfl)) True.intro))))) (by rfl)))))))
      · exact drp_next hq hi hx
      · show q.length - (i + 1) < q.length - i
        omega
    · have hi : ¬ i < q.length := by simpa using m0
      refine Exists.intro ((n + 1, s', (rc ++ [(ws.getD n (dflt tWk)).2.2.1]))) (Exists.intro ([some 0, some 1, some 2, some 3, some 4, some 5, some 6, some 7, some 8, some 9, some 10, some 11]) (And.intro ?_ (And.intro ?_ (And.intro (by rfl) (And.intro (by rfl) (And.intro (And.intro (And.intro (by rfl) (by rfl)) (And.intro (And.intro (by rfl) (by rfl)) (And.intro (by rfl) (And.intro (by rfl) True.intro)))) (by rfl)))))))
      · refine wok_next hp hn rfl ?_
        rw [show s' = dropAll (taskVals q (ws.getD n (dflt tWk)).1) st from drp_end hq hi]
        show (_, _) = (if _ then _ else _, if _ then _ else _)
        rw [if_pos (by simpa [Bool.cond_eq_ite] using k2), if_pos (by simpa [Bool.cond_eq_ite] using k1)]
      · show ws.length - (n + 1) < ws.length - n
        omega
  · exfalso
    simp only [Bool.cond_eq_ite] at k1 k2
    grind
  · have hn : n < ws.length := by simpa using k0
    refine ex4 _ (fun p : Nat × List Int => ⟨[.ptr 0 0, .any, .any, .any, .ptr 9 0, .any, .any, .ptr 12 0, .any, .any, .sl tWk ws, .int .i64 (ws.length : Int), .int .i64 (↑n : Int), .any, .eptr   [PV.int .i64 (ws.getD (↑n : Int).toNat (dflt tWk)).1,     PV.int .i64 (ws.getD (↑n : Int).toNat (dflt tWk)).2.1,     PV.int .i64 (ws.getD (↑n : Int).toNat (dflt tWk)).2.2.1,     PV.bool (ws.getD (↑n : Int).toNat (dflt tWk)).2.2.2.1,     PV.int .i64 (ws.getD (↑n : Int).toNat (dflt tWk)).2.2.2.2], .agg   [.int .i64 (ws.getD (↑n : Int).toNat (dflt tWk)).1,     .int .i64 (ws.getD (↑n : Int).toNat (dflt tWk)).2.1,     .int .i64 (ws.getD (↑n : Int).toNat (dflt tWk)).2.2.1,     .bool (ws.getD (↑n : Int).toNat (dflt tWk)).2.2.2.1,     .int .i64 (ws.getD (↑n : Int).toNat (dflt tWk)).2.2.2.2], .ptr 12 1, .int .i64 (ws.getD (↑n : Int).toNat (dflt tWk)).2.1, .bool (decide ((ws.getD (↑n : Int).toNat (dflt tWk)).2.1 = 65)), .bool (decide ((ws.getD (↑n : Int).toNat (dflt tWk)).2.1 = 65)), .any, .any, .bool   (bif decide ((ws.getD (↑n : Int).toNat (dflt tWk)).2.1 = 65) then (ws.getD (↑n : Int).toNat (dflt tWk)).2.2.2.1   else false), .any, .any, .any, .any, .any, .any, .any, .any, .any, .any, .any, .ptr 12 1, .int .i64 (ws.getD (↑n : Int).toNat (dflt tWk)).2.1, .bool (decide ((ws.getD (↑n : Int).toNat (dflt tWk)).2.1 = 65)), .bool (decide ((ws.getD (↑n : Int).toNat (dflt tWk)).2.1 = 65)), .any, .any, .any, .bool   (bif decide ((ws.getD (↑n : Int).toNat (dflt tWk)).2.1 = 65) then true   else !(ws.getD (↑n : Int).toNat (dflt tWk)).2.2.2.1), .ptr 9 4, .sl tW q, .int .i64 (↑q.length : Int), .int .i64 (p.1 : Int), .any, .any, .any, .any, .any, .any, .any, .any, .any, .any, .any, .any, .any, .any, .any, .any, .any, .any, .any], [.cells (gameC o s 10 11), .dead, .dead, .dead, .dead, .dead, .dead, .dead, .dead, .cells   [.int .i64 ow, .int .i64 ct, .int .i64 tm, .sl (.int .i64) hs, .sl tW q,     .sl (.int .i64) bf, .sl tCu cs, .bool cl, .int .i64 vl], .rows tI p.2, .rows tI rc, .cells   [.int .i64 (ws.getD (↑n : Int).toNat (dflt tWk)).1,     .int .i64 (ws.getD (↑n : Int).toNat (dflt tWk)).2.1,     .int .i64 (ws.getD (↑n : Int).toNat (dflt tWk)).2.2.1,     .bool (ws.getD (↑n : Int).toNat (dflt tWk)).2.2.2.1,     .int .i64 (ws.getD (↑n : Int).toNat (dflt tWk)).2.2.2.2], .dead, .dead], 15⟩) (fun p => Drp q (ws.getD n (dflt tWk)).1 st p) (fun p => q.length - p.1) (And.intro (Exists.intro ((0, st)) (Exists.intro ([some 0, some 1, some 2, some 3, some 4, some 5, some 6, some 7, some 8, some 9, some 10, some 11, some 12, some 13, some 14]) (And.intro ?_ (And.intro (by rfl) (And.intro (by rfl) (And.intro (And.intro (And.intro (by rfl) (by rfl)) (And.intro (And.intro (by rfl) (by rfl)) (And.intro (by rfl) (And.intro (by rfl) (And.intro (And.intro (by rfl) (by rfl)) True.intro))))) (by rfl))))))) ?_)
    · exact drp_start q _ st
    rintro ⟨i, s'⟩ hq
    obtain ⟨q1, q2⟩ := id hq
    simp only at q1 q2
    have hsl : s'.length ≤ 1000 := Nat.le_trans (drp_len hq) (Nat.le_trans p3 h1)
    refine (And.intro (fun m0 => (And.intro (by intros; (try subst_vars); (try simp only [Bool.cond_true_left, Bool.cond_false_right, Bool.or_eq_true, Bool.or_eq_false_iff, Bool.and_eq_true, Bool.not_eq_true', Bool.not_eq_false', decide_eq_true_eq, decide_eq_false_iff_not, Int.not_lt, Int.not_le] at *); (try simp only [inK, big, lim, List.length_cons, List.length_nil, List.length_append, List.length_drop, List.length_take, List.length_replicate] at *); omega) (And.intro (fun m1 => ?_) (fun m1 => (And.intro (by intros; (try subst_vars); (try simp only [Bool.cond_true_left, Bool.cond_false_right, Bool.or_eq_true, Bool.or_eq_false_iff, Bool.and_eq_true, Bool.not_eq_true', Bool.not_eq_false', decide_eq_true_eq, decide_eq_false_iff_not, Int.not_lt, Int.not_le] at *); (try simp only [inK, big, lim, List.length_cons, List.length_nil, List.length_append, List.length_drop, List.length_take, List.length_replicate] at *); omega) ?_))))) (fun m0 => (And.intro (by intros; (try subst_vars); (try simp only [Bool.cond_true_left, Bool.cond_false_right, Bool.or_eq_true, Bool.or_eq_false_iff, Bool.and_eq_true, Bool.not_eq_true', Bool.not_eq_false', decide_eq_true_eq, decide_eq_false_iff_not, Int.not_lt, Int.not_le] at *); (try simp only [inK, big, lim, List.length_cons, List.length_nil, List.length_append, List.length_drop, List.length_take, List.length_replicate] at *); omega) ?_)))
    · have hi : i < q.length := by simpa using m0
      refine call_at _ _ _ (hd o s s' rc (q.getD i (dflt tW)).2.2.1 (ow, ct, tm, hs, q, bf, cs, cl, vl) (ws.getD n (dflt tWk)) (q.getD i (dflt tW)) _ hsl ?_) (by kernel_rfl) (by kernel_rfl) rfl
      intro H' n' j e0 ej e11 e9 e12 d0 d11 d9 d12 hn'
      refine (And.intro (by intros; (try subst_vars); (try simp only [Bool.cond_true_left, Bool.cond_false_right, Bool.or_eq_true, Bool.or_eq_false_iff, Bool.and_eq_true, Bool.not_eq_true', Bool.not_eq_false', decide_eq_true_eq, decide_eq_false_iff_not, Int.not_lt, Int.not_le] at *); (try simp only [inK, big, lim, List.length_cons, List.length_nil, List.length_append, List.length_drop, List.length_take, List.length_replicate] at *); omega) ?_)
      refine Exists.intro (i + 1, dropV (q.getD i (dflt tW)).2.2.1 s') (Exists.intro ([some 0, some 1, some 2, some 3, some 4, some 5, some 6, some 7, some 8, some 9, some j, some 11, some 12, some 13, some 14]) (And.intro ?_ (And.intro ?_ (And.intro (by rfl) (And.intro (by rfl) (And.intro ?_ ?_))))))
      · obtain ⟨t1, t2⟩ : (q.getD i (dflt tW)).1 = (ws.getD n (dflt tWk)).1 ∧ (q.getD i (dflt tW)).2.1 = 64 := by simpa [Bool.cond_eq_ite] using m1
        exact drp_drop hq hi t1 t2
      · show q.length - (i + 1) < q.length - i
        omega
      · exact ob_cells e0 (by rfl) (by rfl) (ob_dead (ob_dead (ob_dead (ob_dead (ob_dead (ob_dead (ob_dead (ob_dead (ob_cells e9 (by rfl) (by rfl) (ob_rows ej (ob_rows e11 (ob_cells e12 (by rfl) (by rfl) (ob_dead (ob_dead trivial)))))))))))))) 
      · exact and5 (di_cells rfl (di_dead (di_dead (di_dead (di_dead (di_dead (di_dead (di_dead (di_dead (di_cells rfl (di_rows (by simp [d0, d9]) (di_rows (by simp [Ne.symm d11]) (di_cells (by simp [Ne.symm d12]) (di_dead (di_dead rfl))))))))))))))) (by rfl) (by rfl) (by rfl) (Nat.ble_eq_true_of_le (by omega))
    · have hi : i < q.length := by simpa using m0
      have hx : ¬ ((q.getD i (dflt tW)).1 = (ws.getD n (dflt tWk)).1 ∧ (q.getD i (dflt tW)).2.1 = 64) := by
        exact not2 m1
      refine Exists.intro ((i + 1, s')) (Exists.intro ([some 0, some 1, some 2, some 3, some 4, some 5, some 6, some 7, some 8, some 9, some 10, some 11, some 12, some 13, some 14]) (And.intro ?_ (And.intro ?_ (And.intro (by rfl) (And.intro (by rfl) (And.intro (And.intro (And.intro (by rfl) (by rfl)) (And.intro (And.intro (by rfl) (by rfl)) (And.intro (by rfl) (And.intro (by rfl) (And.intro (And.intro (by rfl) (by rfl)) True.intro))))) (by rfl)))))))
      · exact drp_next hq hi hx
      · show q.length - (i + 1) < q.length - i
        omega
    · have hi : ¬ i < q.length := by simpa using m0
      refine Exists.intro ((n + 1, s', rc)) (Exists.intro ([some 0, some 1, some 2, some 3, some 4, some 5, some 6, some 7, some 8, some 9, some 10, some 11]) (And.intro ?_ (And.intro ?_ (And.intro (by rfl) (And.intro (by rfl) (And.intro (And.intro (And.intro (by rfl) (by rfl)) (And.intro (And.intro (by rfl) (by rfl)) (And.intro (by rfl) (And.intro (by rfl) True.intro)))) (by rfl)))))))
      · refine wok_next hp hn rfl ?_
        rw [show s' = dropAll (taskVals q (ws.getD n (dflt tWk)).1) st from drp_end hq hi]
        show (_, _) = (if _ then _ else _, if _ then _ else _)
        rw [if_pos (by simpa [Bool.cond_eq_ite] using k4), if_neg (by simpa [Bool.cond_eq_ite] using k1)]
      · show ws.length - (n + 1) < ws.length - n
        omega
  · have hn : n < ws.length := by simpa using k0
    have c1 : ¬ ((ws.getD n (dflt tWk)).2.1 = 65 ∨ (ws.getD n (dflt tWk)).2.2.2.1 = false) := by
      have := k4
      simp only [Bool.cond_eq_ite] at this
      simp only [Int.toNat_natCast] at this
      grind
    have c2 : ¬ ((ws.getD n (dflt tWk)).2.1 = 65 ∧ (ws.getD n (dflt tWk)).2.2.2.1 = true) := by grind
    refine Exists.intro ((n + 1, st, rc)) (Exists.intro ([some 0, some 1, some 2, some 3, some 4, some 5, some 6, some 7, some 8, some 9, some 10, some 11]) (And.intro ?_ (And.intro ?_ (And.intro (by rfl) (And.intro (by rfl) (And.intro (And.intro (And.intro (by rfl) (by rfl)) (And.intro (And.intro (by rfl) (by rfl)) (And.intro (by rfl) (And.intro (by rfl) True.intro)))) (by rfl)))))))
    · refine wok_next hp hn rfl ?_
      show (_, _) = (if _ then _ else _, if _ then _ else _)
      rw [if_neg c1, if_neg c2]
    · show ws.length - (n + 1) < ws.length - n
      omega
  · have hn : ¬ n < ws.length := by simpa using k0
    exact hK _ _ 10 11 st rc (wok_end hp hn) rfl rfl rfl (by decide) (by decide) (by decide)
def WokenBS (sem : CallSem) : Prop := ∀ (o : ObT) (s : OS) (sent recv : List Int) (b : OS) (ws : List Wk) (x3 x4 : Int × Int) (s5 : OS) (r6 : Rp) (K : KT), sent.length ≤ 1000 → recv.length + ws.length ≤ 1000 → (qu b).length ≤ 1000 →
    (∀ H' n' j k s' r', (s', r') = wokenS (qu b) ws (sent, recv) → getOb H' 0 = .cells (gameC o s j k) → getOb H' j = .rows tI s' → getOb H' k = .rows tI r' → j ≠ 0 → k ≠ 0 → j ≠ k → K (.tup []) H' n') →
    sem 82 [.ptr 0 0, .agg (osC b), .sl tWk ws] [.cells (gameC o s 1 2), .rows tI sent, .rows tI recv, .cells [.int .u8 x3.1, .int .u8 x3.2], .cells [.int .u8 x4.1, .int .u8 x4.2], .cells (osC s5), .cells (rpC r6)] 7 K
theorem wokenB (sem : CallSem) (hd : DropAS sem) : WokenBS (callS cxU Try.prog sem) := by
  intro o s sent recv b ws x3 x4 s5 r6 K h1 h2 h3 hK
  obtain ⟨ow, ct, tm, hs, q, bf, cs, cl, vl⟩ := b
  simp only [qu] at h3 hK
  refine (And.intro (by first | kernel_rfl | rfl) (fun h0 => ?_))
  refine ex4 _ (fun p : Nat × List Int × List Int => ⟨[.ptr 0 0, .any, .any, .any, .ptr 9 0, .any, .any, .any, .any, .any, .sl tWk ws, .int .i64 (↑ws.length : Int), .int .i64 (p.1 : Int), .any, .any, .any, .any, .any, .any, .any, .any, .any, .any, .any, .any, .any, .any, .any, .any, .any, .any, .any, .any, .any, .any, .any, .any, .any, .any, .any, .any, .any, .any, .any, .any, .any, .any, .any, .any, .any, .any, .any, .any, .any, .any, .any, .any, .any, .any, .any, .any, .any, .any, .any, .any], [.cells (gameC o s 10 11), .dead, .dead, .dead, .dead, .dead, .dead, .dead, .dead, .cells (osC (ow, ct, tm, hs, q, bf, cs, cl, vl)), .rows tI p.2.1, .rows tI p.2.2], 12⟩) (fun p => Wok q ws (sent, recv) p) (fun p => ws.length - p.1) (And.intro (Exists.intro ((0, sent, recv)) (Exists.intro ([some 0, some 1, some 2, some 3, some 4, some 5, some 6, some 7, some 8, some 7, some 1, some 2]) (And.intro ?_ (And.intro (by rfl) (And.intro (by rfl) (And.intro (And.intro (And.intro (by rfl) (by rfl)) (And.intro (And.intro (by rfl) (by rfl)) (And.intro (by rfl) (And.intro (by rfl) True.intro)))) (by rfl))))))) ?_)
  · exact wok_start q ws (sent, recv)
  rintro ⟨n, st, rc⟩ hp
  obtain ⟨p1, p2, p3, p4⟩ := id hp
  simp only at p1 p2 p3 p4
  refine (And.intro (fun k0 => (And.intro (by intros; (try subst_vars); (try simp only [Bool.cond_true_left, Bool.cond_false_right, Bool.or_eq_true, Bool.or_eq_false_iff, Bool.and_eq_true, Bool.not_eq_true', Bool.not_eq_false', decide_eq_true_eq, decide_eq_false_iff_not, Int.not_lt, Int.not_le] at *); (try simp only [inK, big, lim, List.length_cons, List.length_nil, List.length_append, List.length_drop, List.length_take, List.length_replicate] at *); omega) (And.intro (fun k1 => (And.intro (by first | kernel_rfl | rfl) (And.intro (by intros; (try subst_vars); (try simp only [Bool.cond_true_left, Bool.cond_false_right, Bool.or_eq_true, Bool.or_eq_false_iff, Bool.and_eq_true, Bool.not_eq_true', Bool.not_eq_false', decide_eq_true_eq, decide_eq_false_iff_not, Int.not_lt, Int.not_le] at *); (try simp only [inK, big, lim, List.length_cons, List.length_nil, List.length_append, List.length_drop, List.length_take, List.length_replicate] at *); omega) (And.intro (fun k2 => (fun k3 => ?_)) (fun k2 => (And.intro (by intros; (try subst_vars); (try simp only [Bool.cond_true_left, Bool.cond_false_right, Bool.or_eq_true, Bool.or_eq_false_iff, Bool.and_eq_true, Bool.not_eq_true', Bool.not_eq_false', decide_eq_true_eq, decide_eq_false_iff_not, Int.not_lt, Int.not_le] at *); (try simp only [inK, big, lim, List.length_cons, List.length_nil, List.length_append, List.length_drop, List.length_take, List.length_replicate] at *); omega) ?_)))))) (fun k1 => (And.intro (fun k4 => (fun k5 => ?_)) (fun k4 => (And.intro (by intros; (try subst_vars); (try simp only [Bool.cond_true_left, Bool.cond_false_right, Bool.or_eq_true, Bool.or_eq_false_iff, Bool.and_eq_true, Bool.not_eq_true', Bool.not_eq_false', decide_eq_true_eq, decide_eq_false_iff_not, Int.not_lt, Int.not_le] at *); (try simp only [inK, big, lim, List.length_cons, List.length_nil, List.length_append, List.length_drop, List.length_take, List.length_replicate] at *); omega) ?_))))))) (fun k0 => ?_))
  · have hn : n < ws.length := by simpa using k0
    refine ex4 _ (fun p : Nat × List Int => ⟨[.ptr 0 0, .any, .any, .any, .ptr 9 0, .any, .any, .ptr 12 0, .any, .any, .sl tWk ws, .int .i64 (ws.length : Int), .int .i64 (↑n : Int), .any, .eptr   [PV.int .i64 (ws.getD (↑n : Int).toNat (dflt tWk)).1,     PV.int .i64 (ws.getD (↑n : Int).toNat (dflt tWk)).2.1,     PV.int .i64 (ws.getD (↑n : Int).toNat (dflt tWk)).2.2.1,     PV.bool (ws.getD (↑n : Int).toNat (dflt tWk)).2.2.2.1,     PV.int .i64 (ws.getD (↑n : Int).toNat (dflt tWk)).2.2.2.2], .agg   [.int .i64 (ws.getD (↑n : Int).toNat (dflt tWk)).1,     .int .i64 (ws.getD (↑n : Int).toNat (dflt tWk)).2.1,     .int .i64 (ws.getD (↑n : Int).toNat (dflt tWk)).2.2.1,     .bool (ws.getD (↑n : Int).toNat (dflt tWk)).2.2.2.1,     .int .i64 (ws.getD (↑n : Int).toNat (dflt tWk)).2.2.2.2], .ptr 12 1, .int .i64 (ws.getD (↑n : Int).toNat (dflt tWk)).2.1, .bool (decide ((ws.getD (↑n : Int).toNat (dflt tWk)).2.1 = 65)), .bool (decide ((ws.getD (↑n : Int).toNat (dflt tWk)).2.1 = 65)), .any, .any, .bool   (bif decide ((ws.getD (↑n : Int).toNat (dflt tWk)).2.1 = 65) then (ws.getD (↑n : Int).toNat (dflt tWk)).2.2.2.1   else false), .ptr 0 0, .ptr 0 0, .any, .any, .any, .ptr 12 2, .int .i64 (ws.getD (↑n : Int).toNat (dflt tWk)).2.2.1, .any, .any, .ptr 0 0, .any, .ptr 12 1, .int .i64 (ws.getD (↑n : Int).toNat (dflt tWk)).2.1, .bool (decide ((ws.getD (↑n : Int).toNat (dflt tWk)).2.1 = 65)), .bool (decide ((ws.getD (↑n : Int).toNat (dflt tWk)).2.1 = 65)), .any, .any, .any, .bool   (bif decide ((ws.getD (↑n : Int).toNat (dflt tWk)).2.1 = 65) then true   else !(ws.getD (↑n : Int).toNat (dflt tWk)).2.2.2.1), .ptr 9 4, .sl tW q, .int .i64 (↑q.length : Int), .int .i64 (p.1 : Int), .any, .any, .any, .any, .any, .any, .any, .any, .any, .any, .any, .any, .any, .any, .any, .any, .any, .any, .any], [.cells (gameC o s 10 11), .dead, .dead, .dead, .dead, .dead, .dead, .dead, .dead, .cells   [.int .i64 ow, .int .i64 ct, .int .i64 tm, .sl (.int .i64) hs, .sl tW q,     .sl (.int .i64) bf, .sl tCu cs, .bool cl, .int .i64 vl], .rows tI p.2, .rows tI (rc ++ [(ws.getD n (dflt tWk)).2.2.1]), .cells   [.int .i64 (ws.getD (↑n : Int).toNat (dflt tWk)).1,     .int .i64 (ws.getD (↑n : Int).toNat (dflt tWk)).2.1,     .int .i64 (ws.getD (↑n : Int).toNat (dflt tWk)).2.2.1,     .bool (ws.getD (↑n : Int).toNat (dflt tWk)).2.2.2.1,     .int .i64 (ws.getD (↑n : Int).toNat (dflt tWk)).2.2.2.2], .dead, .dead], 15⟩) (fun p => Drp q (ws.getD n (dflt tWk)).1 st p) (fun p => q.length - p.1) (And.intro (Exists.intro ((0, st)) (Exists.intro ([some 0, some 1, some 2, some 3, some 4, some 5, some 6, some 7, some 8, some 9, some 10, some 14, some 12, some 13, some 14]) (And.intro ?_ (And.intro (by rfl) (And.intro (by rfl) (And.intro (And.intro (And.intro (by rfl) (by rfl)) (And.intro (And.intro (by rfl) (by rfl)) (And.intro (by rfl) (And.intro (by rfl) (And.intro (And.intro (by rfl) (by rfl)) True.intro))))) (by rfl))))))) ?_)
    · exact drp_start q _ st
    rintro ⟨i, s'⟩ hq
    obtain ⟨q1, q2⟩ := id hq
    simp only at q1 q2
    have hsl : s'.length ≤ 1000 := Nat.le_trans (drp_len hq) (Nat.le_trans p3 h1)
    refine (And.intro (fun m0 => (And.intro (by intros; (try subst_vars); (try simp only [Bool.cond_true_left, Bool.cond_false_right, Bool.or_eq_true, Bool.or_eq_false_iff, Bool.and_eq_true, Bool.not_eq_true', Bool.not_eq_false', decide_eq_true_eq, decide_eq_false_iff_not, Int.not_lt, Int.not_le] at *); (try simp only [inK, big, lim, List.length_cons, List.length_nil, List.length_append, List.length_drop, List.length_take, List.length_replicate] at *); omega) (And.intro (fun m1 => ?_) (fun m1 => (And.intro (by intros; (try subst_vars); (try simp only [Bool.cond_true_left, Bool.cond_false_right, Bool.or_eq_true, Bool.or_eq_false_iff, Bool.and_eq_true, Bool.not_eq_true', Bool.not_eq_false', decide_eq_true_eq, decide_eq_false_iff_not, Int.not_lt, Int.not_le] at *); (try simp only [inK, big, lim, List.length_cons, List.length_nil, List.length_append, List.length_drop, List.length_take, List.length_replicate] at *); omega) ?_))))) (fun m0 => (And.intro (by intros; (try subst_vars); (try simp only [Bool.cond_true_left, Bool.cond_false_right, Bool.or_eq_true, Bool.or_eq_false_iff, Bool.and_eq_true, Bool.not_eq_true', Bool.not_eq_false', decide_eq_true_eq, decide_eq_false_iff_not, Int.not_lt, Int.not_le] at *); (try simp only [inK, big, lim, List.length_cons, List.length_nil, List.length_append, List.length_drop, List.length_take, List.length_replicate] at *); omega) ?_)))
    · have hi : i < q.length := by simpa using m0
      refine call_at _ _ _ (hd o s s' (rc ++ [(ws.getD n (dflt tWk)).2.2.1]) (q.getD i (dflt tW)).2.2.1 (ow, ct, tm, hs, q, bf, cs, cl, vl) (ws.getD n (dflt tWk)) (q.getD i (dflt tW)) _ hsl ?_) (by kernel_rfl) (by kernel_rfl) rfl
      intro H' n' j e0 ej e11 e9 e12 d0 d11 d9 d12 hn'
      refine (And.intro (by intros; (try subst_vars); (try simp only [Bool.cond_true_left, Bool.cond_false_right, Bool.or_eq_true, Bool.or_eq_false_iff, Bool.and_eq_true, Bool.not_eq_true', Bool.not_eq_false', decide_eq_true_eq, decide_eq_false_iff_not, Int.not_lt, Int.not_le] at *); (try simp only [inK, big, lim, List.length_cons, List.length_nil, List.length_append, List.length_drop, List.length_take, List.length_replicate] at *); omega) ?_)
      refine Exists.intro (i + 1, dropV (q.getD i (dflt tW)).2.2.1 s') (Exists.intro ([some 0, some 1, some 2, some 3, some 4, some 5, some 6, some 7, some 8, some 9, some j, some 11, some 12, some 13, some 14]) (And.intro ?_ (And.intro ?_ (And.intro (by rfl) (And.intro (by rfl) (And.intro ?_ ?_))))))
      · obtain ⟨t1, t2⟩ : (q.getD i (dflt tW)).1 = (ws.getD n (dflt tWk)).1 ∧ (q.getD i (dflt tW)).2.1 = 64 := by simpa [Bool.cond_eq_ite] using m1
        exact drp_drop hq hi t1 t2
      · show q.length - (i + 1) < q.length - i
        omega
      · exact ob_cells e0 (by rfl) (by rfl) (ob_dead (ob_dead (ob_dead (ob_dead (ob_dead (ob_dead (ob_dead (ob_dead (ob_cells e9 (by rfl) (by rfl) (ob_rows ej (ob_rows e11 (ob_cells e12 (by rfl) (by rfl) (ob_dead (ob_dead trivial)))))))))))))) 
      · exact and5 (di_cells rfl (di_dead (di_dead (di_dead (di_dead (di_dead (di_dead (di_dead (di_dead (di_cells rfl (di_rows (by simp [d0, d9]) (di_rows (by simp [Ne.symm d11]) (di_cells (by simp [Ne.symm d12]) (di_dead (di_dead rfl))))))))))))))) (by rfl) (by rfl) (by rfl) (Nat.ble_eq_true_of_le (by omega))
    · have hi : i < q.length := by simpa using m0
      have hx : ¬ ((q.getD i (dflt tW)).1 = (ws.getD n (dflt tWk)).1 ∧ (q.getD i (dflt tW)).2.1 = 64) := by
        exact not2 m1
      refine Exists.intro ((i + 1, s')) (Exists.intro ([some 0, some 1, some 2, some 3, some 4, some 5, some 6, some 7, some 8, some 9, some 10, some 11, some 12, some 13, some 14]) (And.intro ?_ (And.intro ?_ (And.intro (by rfl) (And.intro (by rfl) (And.intro (And.intro (And.intro (by rfl) (by rfl)) (And.intro (And.intro (by rfl) (by rfl)) (And.intro (by rfl) (And.intro (by rfl) (And.intro (And.intro (by rfl) (by rfl)) True.intro))))) (by rfl)))))))
      · exact drp_next hq hi hx
      · show q.length - (i + 1) < q.length - i
        omega
    · have hi : ¬ i < q.length := by simpa using m0
      refine Exists.intro ((n + 1, s', (rc ++ [(ws.getD n (dflt tWk)).2.2.1]))) (Exists.intro ([some 0, some 1, some 2, some 3, some 4, some 5, some 6, some 7, some 8, some 9, some 10, some 11]) (And.intro ?_ (And.intro ?_ (And.intro (by rfl) (And.intro (by rfl) (And.intro (And.intro (And.intro (by rfl) (by rfl)) (And.intro (And.intro (by rfl) (by rfl)) (And.intro (by rfl) (And.intro (by rfl) True.intro)))) (by rfl)))))))
      · refine wok_next hp hn rfl ?_
        rw [show s' = dropAll (taskVals q (ws.getD n (dflt tWk)).1) st from drp_end hq hi]
        show (_, _) = (if _ then _ else _, if _ then _ else _)
        rw [if_pos (by simpa [Bool.cond_eq_ite] using k2), if_pos (by simpa [Bool.cond_eq_ite] using k1)]
      · show ws.length - (n + 1) < ws.length - n
        omega
  · exfalso
    simp only [Bool.cond_eq_ite] at k1 k2
    grind
  · have hn : n < ws.length := by simpa using k0
    refine ex4 _ (fun p : Nat × List Int => ⟨[.ptr 0 0, .any, .any, .any, .ptr 9 0, .any, .any, .ptr 12 0, .any, .any, .sl tWk ws, .int .i64 (ws.length : Int), .int .i64 (↑n : Int), .any, .eptr   [PV.int .i64 (ws.getD (↑n : Int).toNat (dflt tWk)).1,     PV.int .i64 (ws.getD (↑n : Int).toNat (dflt tWk)).2.1,     PV.int .i64 (ws.getD (↑n : Int).toNat (dflt tWk)).2.2.1,     PV.bool (ws.getD (↑n : Int).toNat (dflt tWk)).2.2.2.1,     PV.int .i64 (ws.getD (↑n : Int).toNat (dflt tWk)).2.2.2.2], .agg   [.int .i64 (ws.getD (↑n : Int).toNat (dflt tWk)).1,     .int .i64 (ws.getD (↑n : Int).toNat (dflt tWk)).2.1,     .int .i64 (ws.getD (↑n : Int).toNat (dflt tWk)).2.2.1,     .bool (ws.getD (↑n : Int).toNat (dflt tWk)).2.2.2.1,     .int .i64 (ws.getD (↑n : Int).toNat (dflt tWk)).2.2.2.2], .ptr 12 1, .int .i64 (ws.getD (↑n : Int).toNat (dflt tWk)).2.1, .bool (decide ((ws.getD (↑n : Int).toNat (dflt tWk)).2.1 = 65)), .bool (decide ((ws.getD (↑n : Int).toNat (dflt tWk)).2.1 = 65)), .any, .any, .bool   (bif decide ((ws.getD (↑n : Int).toNat (dflt tWk)).2.1 = 65) then (ws.getD (↑n : Int).toNat (dflt tWk)).2.2.2.1   else false), .any, .any, .any, .any, .any, .any, .any, .any, .any, .any, .any, .ptr 12 1, .int .i64 (ws.getD (↑n : Int).toNat (dflt tWk)).2.1, .bool (decide ((ws.getD (↑n : Int).toNat (dflt tWk)).2.1 = 65)), .bool (decide ((ws.getD (↑n : Int).toNat (dflt tWk)).2.1 = 65)), .any, .any, .any, .bool   (bif decide ((ws.getD (↑n : Int).toNat (dflt tWk)).2.1 = 65) then true   else !(ws.getD (↑n : Int).toNat (dflt tWk)).2.2.2.1), .ptr 9 4, .sl tW q, .int .i64 (↑q.length : Int), .int .i64 (p.1 : Int), .any, .any, .any, .any, .any, .any, .any, .any, .any, .any, .any, .any, .any, .any, .any, .any, .any, .any, .any], [.cells (gameC o s 10 11), .dead, .dead, .dead, .dead, .dead, .dead, .dead, .dead, .cells   [.int .i64 ow, .int .i64 ct, .int .i64 tm, .sl (.int .i64) hs, .sl tW q,     .sl (.int .i64) bf, .sl tCu cs, .bool cl, .int .i64 vl], .rows tI p.2, .rows tI rc, .cells   [.int .i64 (ws.getD (↑n : Int).toNat (dflt tWk)).1,     .int .i64 (ws.getD (↑n : Int).toNat (dflt tWk)).2.1,     .int .i64 (ws.getD (↑n : Int).toNat (dflt tWk)).2.2.1,     .bool (ws.getD (↑n : Int).toNat (dflt tWk)).2.2.2.1,     .int .i64 (ws.getD (↑n : Int).toNat (dflt tWk)).2.2.2.2], .dead, .dead], 15⟩) (fun p => Drp q (ws.getD n (dflt tWk)).1 st p) (fun p => q.length - p.1) (And.intro (Exists.intro ((0, st)) (Exists.intro ([some 0, some 1, some 2, some 3, some 4, some 5, some 6, some 7, some 8, some 9, some 10, some 11, some 12, some 13, some 14]) (And.intro ?_ (And.intro (by rfl) (And.intro (by rfl) (And.intro (And.intro (And.intro (by rfl) (by rfl)) (And.intro (And.intro (by rfl) (by rfl)) (And.intro (by rfl) (And.intro (by rfl) (And.intro (And.intro (by rfl) (by rfl)) True.intro))))) (by rfl))))))) ?_)
    · exact drp_start q _ st
    rintro ⟨i, s'⟩ hq
    obtain ⟨q1, q2⟩ := id hq
    simp only at q1 q2
    have hsl : s'.length ≤ 1000 := Nat.le_trans (drp_len hq) (Nat.le_trans p3 h1)
    refine (And.intro (fun m0 => (And.intro (by intros; (try subst_vars); (try simp only [Bool.cond_true_left, Bool.cond_false_right, Bool.or_eq_true, Bool.or_eq_false_iff, Bool.and_eq_true, Bool.not_eq_true', Bool.not_eq_false', decide_eq_true_eq, decide_eq_false_iff_not, Int.not_lt, Int.not_le] at *); (try simp only [inK, big, lim, List.length_cons, List.length_nil, List.length_append, List.length_drop, List.length_take, List.length_replicate] at *); omega) (And.intro (fun m1 => ?_) (fun m1 => (And.intro (by intros; (try subst_vars); (try simp only [Bool.cond_true_left, Bool.cond_false_right, Bool.or_eq_true, Bool.or_eq_false_iff, Bool.and_eq_true, Bool.not_eq_true', Bool.not_eq_false', decide_eq_true_eq, decide_eq_false_iff_not, Int.not_lt, Int.not_le] at *); (try simp only [inK, big, lim, List.length_cons, List.length_nil, List.length_append, List.length_drop, List.length_take, List.length_replicate] at *); omega) ?_))))) (fun m0 => (And.intro (by intros; (try subst_vars); (try simp only [Bool.cond_true_left, Bool.cond_false_right, Bool.or_eq_true, Bool.or_eq_false_iff, Bool.and_eq_true, Bool.not_eq_true', Bool.not_eq_false', decide_eq_true_eq, decide_eq_false_iff_not, Int.not_lt, Int.not_le] at *); (try simp only [inK, big, lim, List.length_cons, List.length_nil, List.length_append, List.length_drop, List.length_take, List.length_replicate] at *); omega) ?_)))
    · have hi : i < q.length := by simpa using m0
      refine call_at _ _ _ (hd o s s' rc (q.getD i (dflt tW)).2.2.1 (ow, ct, tm, hs, q, bf, cs, cl, vl) (ws.getD n (dflt tWk)) (q.getD i (dflt tW)) _ hsl ?_) (by kernel_rfl) (by kernel_rfl) rfl
      intro H' n' j e0 ej e11 e9 e12 d0 d11 d9 d12 hn'
      refine (And.intro (by intros; (try subst_vars); (try simp only [Bool.cond_true_left, Bool.cond_false_right, Bool.or_eq_true, Bool.or_eq_false_iff, Bool.and_eq_true, Bool.not_eq_true', Bool.not_eq_false', decide_eq_true_eq, decide_eq_false_iff_not, Int.not_lt, Int.not_le] at *); (try simp only [inK, big, lim, List.length_cons, List.length_nil, List.length_append, List.length_drop, List.length_take, List.length_replicate] at *); omega) ?_)
      refine Exists.intro (i + 1, dropV (q.getD i (dflt tW)).2.2.1 s') (Exists.intro ([some 0, some 1, some 2, some 3, some 4, some 5, some 6, some 7, some 8, some 9, some j, some 11, some 12, some 13, some 14]) (And.intro ?_ (And.intro ?_ (And.intro (by rfl) (And.intro (by rfl) (And.intro ?_ ?_))))))
      · obtain ⟨t1, t2⟩ : (q.getD i (dflt tW)).1 = (ws.getD n (dflt tWk)).1 ∧ (q.getD i (dflt tW)).2.1 = 64 := by simpa [Bool.cond_eq_ite] using m1
        exact drp_drop hq hi t1 t2
      · show q.length - (i + 1) < q.length - i
        omega
      · exact ob_cells e0 (by rfl) (by rfl) (ob_dead (ob_dead (ob_dead (ob_dead (ob_dead (ob_dead (ob_dead (ob_dead (ob_cells e9 (by rfl) (by rfl) (ob_rows ej (ob_rows e11 (ob_cells e12 (by rfl) (by rfl) (ob_dead (ob_dead trivial)))))))))))))) 
      · exact and5 (di_cells rfl (di_dead (di_dead (di_dead (di_dead (di_dead (di_dead (di_dead (di_dead (di_cells rfl (di_rows (by simp [d0, d9]) (di_rows (by simp [Ne.symm d11]) (di_cells (by simp [Ne.symm d12]) (di_dead (di_dead rfl))))))))))))))) (by rfl) (by rfl) (by rfl) (Nat.ble_eq_true_of_le (by omega))
    · have hi : i < q.length := by simpa using m0
      have hx : ¬ ((q.getD i (dflt tW)).1 = (ws.getD n (dflt tWk)).1 ∧ (q.getD i (dflt tW)).2.1 = 64) := by
        exact not2 m1
      refine Exists.intro ((i + 1, s')) (Exists.intro ([some 0, some 1, some 2, some 3, some 4, some 5, some 6, some 7, some 8, some 9, some 10, some 11, some 12, some 13, some 14]) (And.intro ?_ (And.intro ?_ (And.intro (by rfl) (And.intro (by rfl) (And.intro (And.intro (And.intro (by rfl) (by rfl)) (And.intro (And.intro (by rfl) (by rfl)) (And.intro (by rfl) (And.intro (by rfl) (And.intro (And.intro (by rfl) (by rfl)) True.intro))))) (by rfl)))))))
      · exact drp_next hq hi hx
      · show q.length - (i + 1) < q.length - i
        omega
    · have hi : ¬ i < q.length := by simpa using m0
      refine Exists.intro ((n + 1, s', rc)) (Exists.intro ([some 0, some 1, some 2, some 3, some 4, some 5, some 6, some 7, some 8, some 9, some 10, some 11]) (And.intro ?_ (And.intro ?_ (And.intro (by rfl) (And.intro (by rfl) (And.intro (And.intro (And.intro (by rfl) (by rfl)) (And.intro (And.intro (by rfl) (by rfl)) (And.intro (by rfl) (And.intro (by rfl) True.intro)))) (by rfl)))))))
      · refine wok_next hp hn rfl ?_
        rw [show s' = dropAll (taskVals q (ws.getD n (dflt tWk)).1) st from drp_end hq hi]
        show (_, _) = (if _ then _ else _, if _ then _ else _)
        rw [if_pos (by simpa [Bool.cond_eq_ite] using k4), if_neg (by simpa [Bool.cond_eq_ite] using k1)]
      · show ws.length - (n + 1) < ws.length - n
        omega
  · have hn : n < ws.length := by simpa using k0
    have c1 : ¬ ((ws.getD n (dflt tWk)).2.1 = 65 ∨ (ws.getD n (dflt tWk)).2.2.2.1 = false) := by
      have := k4
      simp only [Bool.cond_eq_ite] at this
      simp only [Int.toNat_natCast] at this
      grind
    have c2 : ¬ ((ws.getD n (dflt tWk)).2.1 = 65 ∧ (ws.getD n (dflt tWk)).2.2.2.1 = true) := by grind
    refine Exists.intro ((n + 1, st, rc)) (Exists.intro ([some 0, some 1, some 2, some 3, some 4, some 5, some 6, some 7, some 8, some 9, some 10, some 11]) (And.intro ?_ (And.intro ?_ (And.intro (by rfl) (And.intro (by rfl) (And.intro (And.intro (And.intro (by rfl) (by rfl)) (And.intro (And.intro (by rfl) (by rfl)) (And.intro (by rfl) (And.intro (by rfl) True.intro)))) (by rfl)))))))
    · refine wok_next hp hn rfl ?_
      show (_, _) = (if _ then _ else _, if _ then _ else _)
      rw [if_neg c1, if_neg c2]
    · show ws.length - (n + 1) < ws.length - n
      omega
  · have hn : ¬ n < ws.length := by simpa using k0
    exact hK _ _ 10 11 st rc (wok_end hp hn) rfl rfl rfl (by decide) (by decide) (by decide)
end Go.Proofs.Ytnaejponobbahaa
