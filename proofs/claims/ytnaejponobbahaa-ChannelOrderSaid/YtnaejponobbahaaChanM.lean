/- Channel: plain facts: what an operation leaves is valid. -/
import Derived.Test.YtnaejponobbahaaChanL
set_option linter.unusedSimpArgs false
set_option linter.unusedVariables false
set_option maxRecDepth 100000
namespace Go.Proofs.Ytnaejponobbahaa
open Go.Sx

/-- Waiters that fit together. -/
def Fit (l : List W) : Prop := (∀ w ∈ l, wKind w = true) ∧ l.Pairwise (fun x w => clash w x = false)
theorem getD_mem {α : Type} {l : List α} {i : Nat} {d : α} (h : i < l.length) : l.getD i d ∈ l := by
  simp [List.getD_eq_getElem?_getD, List.getElem?_eq_getElem h]
theorem fine_fit {l : List W} (h : fineN l l.length = true) : Fit l := by
  refine ⟨fun w hw => fineN_mem h hw, ?_⟩
  rw [List.pairwise_iff_getElem]
  intro i j hi hj hij
  have := fineN_kind h j hj
  simp only [fineAt, Bool.and_eq_true, Bool.not_eq_true'] at this
  have h2 := this.2
  rw [List.any_eq_false] at h2
  have h3 := h2 l[i] (by
    rw [List.mem_take_iff_getElem]
    exact ⟨i, by omega, rfl⟩)
  simpa [List.getD_eq_getElem?_getD, List.getElem?_eq_getElem hj] using h3
theorem fit_fine {l : List W} (h : Fit l) : fineN l l.length = true := by
  have key : ∀ n, n ≤ l.length → fineN l n = true := by
    intro n
    induction n with
    | zero => intro _; rfl
    | succ n ih =>
      intro hn
      have hn' : n < l.length := hn
      rw [fineN, ih (by omega), fineAt, h.1 _ (getD_mem hn')]
      simp only [Bool.true_and, Bool.not_eq_true']
      rw [List.any_eq_false]
      intro x hx
      rw [List.mem_take_iff_getElem] at hx
      obtain ⟨i, hi, rfl⟩ := hx
      have := (List.pairwise_iff_getElem.1 h.2) i n (by omega) hn' (by omega)
      simp [List.getD_eq_getElem?_getD, List.getElem?_eq_getElem hn', this]
  exact key _ (Nat.le_refl _)
theorem fit_filter {l : List W} (p : W → Bool) (h : Fit l) : Fit (l.filter p) :=
  ⟨fun w hw => h.1 w (List.mem_filter.1 hw).1, h.2.filter p⟩
theorem fit_add {l : List W} {w : W} (h : Fit l) (hk : wKind w = true) (hc : ∀ x ∈ l, clash w x = false) : Fit (l ++ [w]) := by
  refine ⟨fun x hx => ?_, ?_⟩
  · rcases List.mem_append.1 hx with hx | hx
    · exact h.1 x hx
    · simp at hx; rw [hx]; exact hk
  · rw [List.pairwise_append]
    refine ⟨h.2, by simp, fun x hx y hy => ?_⟩
    simp at hy
    rw [hy]
    exact hc x hx

/-- A valid state, said plainly. -/
structure Val (o : ObT) (s : OS) : Prop where
  new : (sNew o).2 = 0
  plain : plainB o s = true
  nums : ∀ n ∈ bu s, num n = true
  short : (qu s).length ≤ 96
  oks : ∀ w ∈ qu s, wOk w = true
  fit : Fit (qu s)
  clo : clo s = true → qu s = []
  send : ∀ w ∈ qu s, w.2.1 = 64 → ((bu s).length : Int) = o.2.2.1 ∧ ∀ x ∈ qu s, x.2.1 = 65 → x.1 = w.1
  recv : ∀ w ∈ qu s, w.2.1 = 65 → bu s = [] ∧ ∀ x ∈ qu s, x.2.1 = 64 → x.1 = w.1
theorem foreign_iff {l : List W} {op t : Int} : foreign l op t = false ↔ ∀ x ∈ l, x.2.1 = op → x.1 = t := by
  rw [foreign, List.any_eq_false]
  constructor
  · intro h x hx he
    have := h x hx
    simp [pFor, he] at this
    exact this
  · intro h x hx
    simp only [pFor, Bool.and_eq_true, decide_eq_true_eq]
    intro ⟨h1, h2⟩
    exact h2 (h x hx h1)
theorem kind_or {w : W} (h : wKind w = true) : w.2.1 = 64 ∨ w.2.1 = 65 := by
  simp only [wKind, Bool.or_eq_true, Bool.and_eq_true, decide_eq_true_eq] at h
  rcases h with h | h
  · exact .inl h
  · exact .inr h.1
theorem check_val {o : ObT} {s : OS} (h : sCheck o s = 0) : Val o s := by
  obtain ⟨hn, hv⟩ := check_valid h
  obtain ⟨p1, p2, p3, p4, p5, p6⟩ := valid_parts hv
  have hf := fine_fit p4
  have hv' : ∀ w ∈ qu s, vainP o s w = false := by
    rw [vain, List.any_eq_false] at p6
    intro w hw
    simpa using p6 w hw
  refine ⟨hn, p1, fun n hn' => ?_, ?_, fun w hw => wl_task p3 hw, hf, p5, fun w hw he => ?_, fun w hw he => ?_⟩
  · rw [List.any_eq_false] at p2
    have := p2 n hn'
    simpa using this
  · unfold wlCheck at p3
    split at p3
    · simp at p3
    · omega
  · have := hv' w hw
    simp only [vainP, he, if_true, Bool.or_eq_false_iff, Bool.not_eq_false', decide_eq_true_eq] at this
    exact ⟨this.1, foreign_iff.1 this.2⟩
  · have := hv' w hw
    rw [vainP, if_neg (by omega)] at this
    simp only [Bool.or_eq_false_iff, decide_eq_false_iff_not] at this
    refine ⟨?_, foreign_iff.1 this.2⟩
    have h1 := this.1
    exact List.length_eq_zero_iff.1 (by omega)
theorem val_check {o : ObT} {s : OS} (h : Val o s) : sCheck o s = 0 := by
  have p2 : (bu s).any (fun n => !num n) = false := by
    rw [List.any_eq_false]
    intro n hn
    simp [h.nums n hn]
  have p3 : wlCheck (qu s) = 0 := by
    have h2 : (qu s).any (fun w => !wOk w) = false := by
      rw [List.any_eq_false]
      intro w hw
      simp [h.oks w hw]
    have := h.short
    rw [wlCheck, if_neg (by omega), h2]
    simp
  have p5 : (!clo s || decide ((qu s).length = 0)) = true := by
    cases hc : clo s
    · rfl
    · simp [h.clo hc]
  have p6 : vain o s = false := by
    rw [vain, List.any_eq_false]
    intro w hw
    rcases kind_or (h.fit.1 w hw) with he | he
    · have := h.send w hw he
      simp only [vainP, he, if_true, Bool.or_eq_true, Bool.not_eq_true', decide_eq_false_iff_not, not_or]
      exact ⟨not_not_intro this.1, by rw [foreign_iff.2 this.2]; simp⟩
    · have := h.recv w hw he
      rw [vainP, if_neg (by omega)]
      simp only [Bool.or_eq_true, decide_eq_true_eq, not_or]
      exact ⟨by rw [this.1]; simp, by rw [foreign_iff.2 this.2]; simp⟩
  rw [sCheck, if_neg (by rw [h.new]; simp), if_neg]
  rw [sValid, h.plain, p2, p3, fit_fine h.fit, p5, p6]
  simp

theorem find_none {l : List W} {op : Int} (h : l.find? (isOp op) = none) : ∀ x ∈ l, x.2.1 ≠ op := by
  rw [List.find?_eq_none] at h
  intro x hx he
  exact h x hx (by simp [isOp, he])
theorem find_mem {l : List W} {op : Int} {w : W} (h : l.find? (isOp op) = some w) : w ∈ l ∧ w.2.1 = op := by
  refine ⟨List.mem_of_find?_eq_some h, ?_⟩
  have := List.find?_some h
  simpa [isOp] using this
/-- Waiters taken out. -/
theorem val_filter {o : ObT} {s : OS} (h : Val o s) (p : W → Bool) : Val o (setQ s ((qu s).filter p)) := by
  have hm : ∀ w, w ∈ (qu s).filter p → w ∈ qu s := fun w hw => (List.mem_filter.1 hw).1
  refine ⟨h.new, h.plain, h.nums, ?_, fun w hw => h.oks w (hm w hw), fit_filter p h.fit, fun hc => ?_, fun w hw he => ?_, fun w hw he => ?_⟩
  · exact Nat.le_trans (List.length_filter_le _ _) h.short
  · show (qu s).filter p = []
    rw [h.clo hc]; rfl
  · exact ⟨(h.send w (hm w hw) he).1, fun x hx => (h.send w (hm w hw) he).2 x (hm x hx)⟩
  · exact ⟨(h.recv w (hm w hw) he).1, fun x hx => (h.recv w (hm w hw) he).2 x (hm x hx)⟩
theorem plain_set {o : ObT} {s : OS} {b : List Int} (h : plainB o s = true) (hb : (b.length : Int) ≤ o.2.2.1) : plainB o (setB s b) = true := by
  simp only [plainB, Bool.and_eq_true, decide_eq_true_eq] at h ⊢
  exact ⟨h.1, h.2.1, h.2.2.1, h.2.2.2.1, h.2.2.2.2.1, h.2.2.2.2.2.1, hb⟩
theorem val_empty {o : ObT} {s : OS} (h : Val o s) (hq : qu s = []) {b : List Int} (hb : (b.length : Int) ≤ o.2.2.1) (hn : ∀ n ∈ b, num n = true) : Val o (setB s b) := by
  have e : qu (setB s b) = [] := hq
  refine ⟨h.new, plain_set h.plain hb, hn, by rw [e]; simp, by rw [e]; simp, by rw [e]; exact ⟨by simp, .nil⟩, fun _ => e, by rw [e]; simp, by rw [e]; simp⟩
theorem val_short {o : ObT} {s : OS} (h : Val o s) : ((bu s).length : Int) ≤ o.2.2.1 := plain_size h.plain
theorem val_send {o : ObT} {s : OS} {c : Cl} (h : Val o s) (hl : (qu s).length ≤ 95) (hc : c.2.1 = 64) (hk : callOk c = true) (hn : num c.2.2.1 = true) (hw : ∀ x ∈ qu s, x.1 ≠ c.1) (ho : clo s = false) :
    Val o (sSend o s c).1 := by
  unfold sSend
  split
  · exact val_filter h _
  · rename_i hf
    have hno := find_none hf
    split
    · rename_i hlt
      have hq : qu s = [] := by
        cases hq : qu s with
        | nil => rfl
        | cons w l =>
          have hw' : w ∈ qu s := by rw [hq]; simp
          rcases kind_or (h.fit.1 w hw') with he | he
          · have := (h.send w hw' he).1
            omega
          · exact absurd he (hno w hw')
      refine val_empty h hq ?_ fun n hn' => ?_
      · rw [List.length_append, List.length_cons, List.length_nil]
        omega
      · rcases List.mem_append.1 hn' with hn' | hn'
        · exact h.nums n hn'
        · simp at hn'
          rw [hn']
          exact hn
    · rename_i hlt
      have hfull : ((bu s).length : Int) = o.2.2.1 := by have := val_short h; omega
      simp only [callOk, isTask, isPrio, inR, Bool.and_eq_true, decide_eq_true_eq] at hk
      have hx : ∀ x ∈ qu s ++ [(c.1, c.2.1, c.2.2.1, c.2.2.2.1, -1)], x.2.1 = 64 := by
        intro x hx
        rcases List.mem_append.1 hx with hx | hx
        · rcases kind_or (h.fit.1 x hx) with he | he
          · exact he
          · exact absurd he (hno x hx)
        · simp at hx
          rw [hx]
          exact hc
      refine ⟨h.new, h.plain, h.nums, ?_, ?_, fit_add h.fit ?_ ?_, ?_, fun w hw' he => ⟨hfull, fun x hx' he' => ?_⟩, fun w hw' he => ?_⟩
      · show (qu s ++ [_]).length ≤ 96
        rw [List.length_append, List.length_cons, List.length_nil]
        omega
      · intro w hw'
        rcases List.mem_append.1 hw' with hw' | hw'
        · exact h.oks w hw'
        · simp at hw'
          subst hw'
          simp only [wOk, inR, Bool.and_eq_true, decide_eq_true_eq, hc]
          exact ⟨hk.1, by omega, hn, hk.2.1, by omega⟩
      · simp [wKind, hc]
      · intro x hx'
        simp [clash, hw x hx']
      · intro hc'
        have : clo s = true := hc'
        rw [ho] at this
        cases this
      · have := hx x hx'
        omega
      · have := hx w hw'
        omega
theorem val_recv {o : ObT} {s : OS} {c : Cl} (h : Val o s) (hl : (qu s).length ≤ 95) (hc : c.2.1 = 65) (hk : callOk c = true) (hw : ∀ x ∈ qu s, x.1 ≠ c.1) :
    Val o (sRecv s c).1 := by
  unfold sRecv
  split
  · rename_i v b hb
    have hnr : ∀ x ∈ qu s, x.2.1 = 64 := by
      intro x hx
      rcases kind_or (h.fit.1 x hx) with he | he
      · exact he
      · have := (h.recv x hx he).1
        rw [hb] at this
        cases this
    have hnum : ∀ n ∈ b, num n = true := fun n hn => h.nums n (by rw [hb]; simp [hn])
    split
    · rename_i w hf
      obtain ⟨hm, he⟩ := find_mem hf
      have hlen : (b ++ [w.2.2.1]).length = (bu s).length := by rw [hb]; simp
      have hmem : ∀ x, x ∈ sRemove (qu s) w.1 → x ∈ qu s := fun x hx => (List.mem_filter.1 hx).1
      have hwn : num w.2.2.1 = true := by
        have := h.oks w hm
        simp only [wOk, Bool.and_eq_true] at this
        exact this.2.2.1
      refine ⟨h.new, plain_set (s := s) h.plain (by rw [hlen]; exact val_short h), fun n hn => ?_, ?_, fun x hx => h.oks x (hmem x hx), fit_filter _ h.fit, fun hc' => ?_, fun x hx he' => ⟨?_, fun y hy he2 => ?_⟩, fun x hx he' => ?_⟩
      · rcases List.mem_append.1 hn with hn | hn
        · exact hnum n hn
        · simp at hn
          rw [hn]
          exact hwn
      · exact Nat.le_trans (List.length_filter_le _ _) h.short
      · have hq := h.clo hc'
        rw [hq] at hm
        cases hm
      · show ((b ++ [w.2.2.1]).length : Int) = o.2.2.1
        rw [hlen]
        exact (h.send x (hmem x hx) he').1
      · have := hnr y (hmem y hy)
        omega
      · have := hnr x (hmem x hx)
        omega
    · rename_i hf
      have hno := find_none hf
      have hq : qu s = [] := by
        cases hq : qu s with
        | nil => rfl
        | cons w l =>
          have hw' : w ∈ qu s := by rw [hq]; simp
          exact absurd (hnr w hw') (hno w hw')
      refine val_empty h hq ?_ hnum
      have := val_short h
      rw [hb, List.length_cons] at this
      omega
  · rename_i hb
    split
    · exact val_filter h _
    · rename_i hf
      have hno := find_none hf
      split
      · exact h
      · rename_i ho
        simp only [callOk, isTask, isPrio, inR, Bool.and_eq_true, decide_eq_true_eq] at hk
        have hx : ∀ x ∈ qu s ++ [(c.1, c.2.1, 0, c.2.2.2.1, -1)], x.2.1 = 65 := by
          intro x hx
          rcases List.mem_append.1 hx with hx | hx
          · rcases kind_or (h.fit.1 x hx) with he | he
            · exact absurd he (hno x hx)
            · exact he
          · simp at hx
            rw [hx]
            exact hc
        refine ⟨h.new, h.plain, h.nums, ?_, ?_, fit_add h.fit ?_ ?_, ?_, fun w hw' he => ?_, fun w hw' he => ⟨hb, fun x hx' he' => ?_⟩⟩
        · show (qu s ++ [_]).length ≤ 96
          rw [List.length_append, List.length_cons, List.length_nil]
          omega
        · intro w hw'
          rcases List.mem_append.1 hw' with hw' | hw'
          · exact h.oks w hw'
          · simp at hw'
            subst hw'
            simp only [wOk, num, inR, Bool.and_eq_true, decide_eq_true_eq, hc]
            exact ⟨hk.1, by omega, by omega, hk.2.1, by omega⟩
        · simp [wKind, hc]
        · intro x hx'
          simp [clash, hw x hx']
        · intro hc'
          exact absurd hc' ho
        · have := hx w hw'
          omega
        · have := hx x hx'
          omega
theorem val_shut {o : ObT} {s : OS} (h : Val o s) : Val o (sShut s).1 :=
  ⟨h.new, h.plain, h.nums, Nat.zero_le _, (fun w hw => by cases hw), ⟨(fun w hw => by cases hw), .nil⟩, fun _ => rfl, (fun w hw => by cases hw), (fun w hw => by cases hw)⟩
theorem any_not {l : List W} {t : Int} (h : ¬ l.any (isT t) = true) : ∀ x ∈ l, x.1 ≠ t := by
  intro x hx he
  exact h (List.any_eq_true.2 ⟨x, hx, by simp [isT, he]⟩)
/-- What Apply leaves is valid. -/
theorem apply_ok {o : ObT} {s : OS} {c : Cl} (hl : (qu s).length ≤ 95) (h : (sApply o s c).2 = 0) : sCheck o s = 0 ∧ Val o (sApply o s c).1.1 := by
  have hlt : sCheck o s = 0 ∧ callOk c = true ∧ (c.2.1 = 64 ∨ c.2.1 = 65 ∨ c.2.1 = 66) ∧ ¬ (c.2.1 = 64 ∧ num c.2.2.1 = false) ∧ ¬ (qu s).any (isT c.1) = true ∧ ¬ (clo s = true ∧ c.2.1 = 64) ∧ sApply o s c = (sDo o s c, 0) := by
    unfold sApply at h ⊢
    repeat' split at h
    all_goals first | (simp at h; done) | skip
    rename_i h1 h2 h3 h4 h5 h6 h7
    refine ⟨by simpa using h1, by simpa using h2, Decidable.not_not.1 h3, h4, h5, h6, ?_⟩
    rw [if_neg h1, if_neg h2, if_neg h3, if_neg h4, if_neg h5, if_neg h6, if_neg h7]
  obtain ⟨h1, h2, h3, h4, h5, h6, h7⟩ := hlt
  refine ⟨h1, ?_⟩
  have hv := check_val h1
  rw [h7]
  show Val o (sDo o s c).1
  unfold sDo
  split
  · rename_i e
    refine val_send hv hl e h2 ?_ (any_not h5) ?_
    · cases hn : num c.2.2.1
      · exact absurd ⟨e, hn⟩ h4
      · rfl
    · cases hn : clo s
      · rfl
      · exact absurd ⟨hn, e⟩ h6
  · split
    · rename_i e
      exact val_recv hv hl e h2 (any_not h5)
    · exact val_shut hv
theorem with_ok {o : ObT} {s : OS} {t : Int} (h : (sWith o s t).2 = 0) : sCheck o s = 0 ∧ Val o (sWith o s t).1.1 := by
  unfold sWith at h ⊢
  split at h
  · simp at h
  · split at h
    · simp at h
    · rename_i h1 h2
      rw [if_neg h1, if_neg h2]
      have h1' : sCheck o s = 0 := by simpa using h1
      exact ⟨h1', val_filter (check_val h1') _⟩
theorem offer_ok {o : ObT} {s : OS} {w : W} (hl : (qu s).length ≤ 95) (h : (sOffer o s w).2 = 0) : sCheck o s = 0 ∧ (sOffer o s w).1 = setQ s (qu s ++ [w]) ∧ Val o (sOffer o s w).1 := by
  have hlt : sCheck o s = 0 ∧ offOk w = true ∧ (w.2.1 = 64 ∨ w.2.1 = 65) ∧ ¬ (num w.2.2.1 = false ∨ (w.2.1 = 65 ∧ w.2.2.1 ≠ 0)) := by
    unfold sOffer at h
    repeat' split at h
    all_goals first | (simp at h; done) | skip
    rename_i h1 h2 h3 h4 h5 h6
    exact ⟨by simpa using h1, by simpa using h2, Decidable.not_not.1 h3, h4⟩
  obtain ⟨h1, h2, h3, h4⟩ := hlt
  have e := sOffer_ref h1 hl h2 h3 h4
  rw [e] at h ⊢
  split at h
  · simp at h
  · split at h
    · simp at h
    · rename_i h5 h6
      rw [if_neg h5, if_neg h6]
      exact ⟨h1, rfl, check_val (by simpa using h6)⟩

abbrev small (s : OS) : Prop := s.2.2.2.1.length ≤ 17 ∧ (qu s).length ≤ 17 ∧ (bu s).length ≤ 17 ∧ s.2.2.2.2.2.2.1.length ≤ 17
theorem great_small {s : OS} (h : great s = false) : small s := by
  simp only [great, Bool.or_eq_false_iff, decide_eq_false_iff_not] at h
  simp only [small]
  omega
theorem remove_le (l : List W) (t : Int) : (sRemove l t).length ≤ l.length := List.length_filter_le _ _
theorem apply_few {o : ObT} {s : OS} {c : Cl} (h : few s) (hq : (qu s).length ≤ 95) (hb : (bu s).length ≤ 95) : few (sApply o s c).1.1 := by
  rw [sApply_err]
  split
  · exact ⟨Nat.zero_le _, Nat.zero_le _, Nat.zero_le _, Nat.zero_le _⟩
  · show few (sDo o s c).1
    have hp : ∀ v, few (sPark s c v).1 := fun v => ⟨h.1, by show (qu s ++ [_]).length ≤ _; rw [List.length_append, List.length_cons, List.length_nil]; omega, h.2.2⟩
    have hr : ∀ t, few (setQ s (sRemove (qu s) t)) := fun t => ⟨h.1, Nat.le_trans (remove_le _ _) h.2.1, h.2.2⟩
    unfold sDo
    split
    · unfold sSend
      split
      · exact hr _
      · split
        · exact ⟨h.1, h.2.1, by show (bu s ++ [_]).length ≤ _; rw [List.length_append, List.length_cons, List.length_nil]; omega, h.2.2.2⟩
        · exact hp _
    · split
      · unfold sRecv
        split
        · rename_i v b e
          rw [e, List.length_cons] at hb
          split
          · exact ⟨h.1, Nat.le_trans (remove_le _ _) h.2.1, by show (b ++ [_]).length ≤ _; rw [List.length_append, List.length_cons, List.length_nil]; omega, h.2.2.2⟩
          · exact ⟨h.1, h.2.1, by show b.length ≤ _; omega, h.2.2.2⟩
        · split
          · exact hr _
          · split
            · exact h
            · exact hp _
      · exact ⟨h.1, Nat.zero_le _, h.2.2⟩
theorem with_few {o : ObT} {s : OS} {t : Int} (h : few s) : few (sWith o s t).1.1 := by
  unfold sWith
  split
  · exact ⟨Nat.zero_le _, Nat.zero_le _, Nat.zero_le _, Nat.zero_le _⟩
  · split
    · exact ⟨Nat.zero_le _, Nat.zero_le _, Nat.zero_le _, Nat.zero_le _⟩
    · exact ⟨h.1, Nat.le_trans (remove_le _ _) h.2.1, h.2.2⟩
theorem offer_few {o : ObT} {s : OS} {w : W} (h : few s) (hq : (qu s).length ≤ 95) : few (sOffer o s w).1 := by
  unfold sOffer
  repeat' split
  all_goals first | exact ⟨Nat.zero_le _, Nat.zero_le _, Nat.zero_le _, Nat.zero_le _⟩ | skip
  exact ⟨h.1, by show (qu s ++ [_]).length ≤ _; rw [List.length_append, List.length_cons, List.length_nil]; omega, h.2.2⟩
theorem apply_bad {o : ObT} {s : OS} {c : Cl} (h : sCheck o s ≠ 0) : (sApply o s c).2 = 1 := by rw [sApply, if_pos h]
theorem with_bad {o : ObT} {s : OS} {t : Int} (h : sCheck o s ≠ 0) : (sWith o s t).2 = 1 := by rw [sWith, if_pos h]
theorem offer_bad {o : ObT} {s : OS} {w : W} (h : sCheck o s ≠ 0) : (sOffer o s w).2 = 1 := by rw [sOffer, if_pos h]
theorem with_none {o : ObT} {s : OS} {t : Int} : (sWith o s t).1.2.2.2.2 = [] := by
  unfold sWith
  repeat' split
  all_goals rfl
theorem do_park {o : ObT} {s : OS} {c : Cl} (h : (sDo o s c).2.1 = true) : ∃ v, sDo o s c = sPark s c v := by
  unfold sDo at h ⊢
  by_cases h1 : c.2.1 = 64
  · rw [if_pos h1] at h ⊢
    unfold sSend at h ⊢
    cases hf : (qu s).find? (isOp 65) with
    | some w => simp only [hf] at h; cases h
    | none =>
      simp only [hf] at h ⊢
      by_cases h2 : ((bu s).length : Int) < o.2.2.1
      · rw [if_pos h2] at h; cases h
      · rw [if_neg h2]; exact ⟨_, rfl⟩
  · rw [if_neg h1] at h ⊢
    by_cases h2 : c.2.1 = 65
    · rw [if_pos h2] at h ⊢
      unfold sRecv at h ⊢
      cases hb : bu s with
      | cons v b =>
        cases hf : (qu s).find? (isOp 64) with
        | some w => simp only [hb, hf] at h; cases h
        | none => simp only [hb, hf] at h; cases h
      | nil =>
        cases hf : (qu s).find? (isOp 64) with
        | some w => simp only [hb, hf] at h; cases h
        | none =>
          simp only [hb, hf] at h ⊢
          by_cases h3 : clo s = true
          · rw [if_pos h3] at h; cases h
          · rw [if_neg h3]; exact ⟨_, rfl⟩
    · rw [if_neg h2] at h; cases h
theorem apply_do {o : ObT} {s : OS} {c : Cl} (h : (sApply o s c).2 = 0) : sApply o s c = (sDo o s c, 0) ∧ sErr o s c = 0 := by
  rw [sApply_err] at h ⊢
  split at h
  · rename_i h1
    exact absurd h h1
  · rename_i h1
    exact ⟨by rw [if_neg h1], by simpa using h1⟩
theorem apply_park {o : ObT} {s : OS} {c : Cl} (h : (sApply o s c).1.2.1 = true) : (sApply o s c).1.2.2 = (0, false, []) := by
  rw [sApply_err] at h ⊢
  by_cases he : sErr o s c ≠ 0
  · rw [if_pos he] at h; cases h
  · rw [if_neg he] at h ⊢
    obtain ⟨v, e⟩ := do_park h
    show (sDo o s c).2.2 = _
    rw [e]
    rfl
theorem pair_eta {α β : Type} (p : α × β) : (p.1, p.2) = p := rfl
theorem bif3 {a b c : Bool} (h : (bif (bif a then true else b) then true else c) = false) : a = false := by
  cases a
  · rfl
  · cases h
theorem few_apply {o : ObT} {s : OS} {c : Cl} (h : great s = false) : few (sApply o s c).1.1 := by
  have := great_small h
  simp only [small] at this
  exact apply_few (not_great h).1 (by omega) (by omega)
theorem few_with {o : ObT} {s : OS} {t : Int} (h : great s = false) : few (sWith o s t).1.1 := with_few (not_great h).1
theorem few_offer {o : ObT} {s : OS} {w : W} (h : great s = false) : few (sOffer o s w).1 := offer_few (not_great h).1 (not_great h).2
theorem few_new {o : ObT} : few (sNew o).1 := by
  unfold sNew
  repeat' split
  all_goals exact ⟨Nat.zero_le _, Nat.zero_le _, Nat.zero_le _, Nat.zero_le _⟩
theorem new_ok {n : Int} (h : 0 ≤ n) : (sNew (objQ (n.tmod 4))).2 = 0 := by
  rw [Int.tmod_eq_emod_of_nonneg h]
  have h1 : 0 ≤ n % 4 := by omega
  have h2 : n % 4 ≤ 3 := by omega
  unfold sNew
  split
  · rename_i h3
    exact absurd rfl h3
  · split
    · rename_i h3
      exfalso
      simp only [objQ] at h3
      omega
    · rfl
theorem v1 (o : ObT) {s : OS} (c : Cl) (h : great s = false) (h1 : (sApply o s c).2 = 0) : sCheck o (sApply o s c).1.1 = 0 := val_check (apply_ok (not_great h).2 h1).2
theorem v2 (o : ObT) (s : OS) (t : Int) (h1 : (sWith o s t).2 = 0) : sCheck o (sWith o s t).1.1 = 0 := val_check (with_ok h1).2
theorem v3 (o : ObT) {s : OS} (w : W) (h : great s = false) (h1 : (sOffer o s w).2 = 0) : sCheck o (sOffer o s w).1 = 0 := val_check (offer_ok (not_great h).2 h1).2.2
set_option maxRecDepth 100000 in
set_option maxHeartbeats 4000000 in
theorem law7 : LawOk Try.prog 7 [.int .u8, tOS, tCl, tW] [false, true, true, true] := by
  refine ⟨cxL, 3, cxL_good, fun (⟨size, ⟨ow, ct, tm, hs, q, bf, cs, cl, vl⟩, ⟨tk, op, va, pr, nw⟩, ⟨wt, wo, wv, wp, wc⟩, _⟩ : Int × OS × Cl × W × Unit) fine => ?_⟩
  obtain ⟨hz, _⟩ := fine
  have z0 : 0 ≤ size := hz.1
  have z1 : size ≤ 255 := hz.2
  clear hz
  refine (And.intro (by first | kernel_rfl | rfl) (And.intro (by first | (subst h1 h3; exact few_new) | exact (not_great (bif3 h5)).1 | (subst h8; exact few_apply (bif3 h5)) | (subst h10; exact few_with (bif3 h5)) | (subst h12; exact few_offer (bif3 h5)) | (intros; (try subst_vars); (try simp only [Bool.cond_true_left, Bool.cond_false_right, Bool.or_eq_true, Bool.or_eq_false_iff, Bool.and_eq_true, Bool.not_eq_true', Bool.not_eq_false', decide_eq_true_eq, decide_eq_false_iff_not, Int.not_lt, Int.not_le] at *); (try simp only [inK, big, lim, List.length_cons, List.length_nil, List.length_append, List.length_drop, List.length_take, List.length_replicate] at *); omega)) (And.intro (by first | (subst h1 h3; exact few_new) | exact (not_great (bif3 h5)).1 | (subst h8; exact few_apply (bif3 h5)) | (subst h10; exact few_with (bif3 h5)) | (subst h12; exact few_offer (bif3 h5)) | (intros; (try subst_vars); (try simp only [Bool.cond_true_left, Bool.cond_false_right, Bool.or_eq_true, Bool.or_eq_false_iff, Bool.and_eq_true, Bool.not_eq_true', Bool.not_eq_false', decide_eq_true_eq, decide_eq_false_iff_not, Int.not_lt, Int.not_le] at *); (try simp only [inK, big, lim, List.length_cons, List.length_nil, List.length_append, List.length_drop, List.length_take, List.length_replicate] at *); omega)) (And.intro True.intro (fun (h0 : (ByteArray × Int × Int × Int) × PUnit) => (fun h1 => (And.intro True.intro (fun (h2 : (Int × Int × Int × List Int × List (Int × Int × Int × Int × Int) × List Int × List (Int × List Int) × Bool × Int) ×   Int × PUnit) => (fun h3 => (And.intro True.intro (And.intro (fun h4 => (by first | (subst h1 h3; exact few_new) | exact (not_great (bif3 h5)).1 | (subst h8; exact few_apply (bif3 h5)) | (subst h10; exact few_with (bif3 h5)) | (subst h12; exact few_offer (bif3 h5)) | (intros; (try subst_vars); (try simp only [Bool.cond_true_left, Bool.cond_false_right, Bool.or_eq_true, Bool.or_eq_false_iff, Bool.and_eq_true, Bool.not_eq_true', Bool.not_eq_false', decide_eq_true_eq, decide_eq_false_iff_not, Int.not_lt, Int.not_le] at *); (try simp only [inK, big, lim, List.length_cons, List.length_nil, List.length_append, List.length_drop, List.length_take, List.length_replicate] at *); omega))) (And.intro (fun h5 => (And.intro (fun h6 => True.intro) (fin_of rfl ?_))) (fun h5 => (And.intro (by first | (subst h1 h3; exact few_new) | exact (not_great (bif3 h5)).1 | (subst h8; exact few_apply (bif3 h5)) | (subst h10; exact few_with (bif3 h5)) | (subst h12; exact few_offer (bif3 h5)) | (intros; (try subst_vars); (try simp only [Bool.cond_true_left, Bool.cond_false_right, Bool.or_eq_true, Bool.or_eq_false_iff, Bool.and_eq_true, Bool.not_eq_true', Bool.not_eq_false', decide_eq_true_eq, decide_eq_false_iff_not, Int.not_lt, Int.not_le] at *); (try simp only [inK, big, lim, List.length_cons, List.length_nil, List.length_append, List.length_drop, List.length_take, List.length_replicate] at *); omega)) (fun (h7 : ((Int × Int × Int × List Int × List (Int × Int × Int × Int × Int) × List Int × List (Int × List Int) × Bool × Int) ×     Bool × Int × Bool × List (Int × Int × Int × Bool × Int)) ×   Int × PUnit) => (fun h8 => (And.intro (by first | (subst h1 h3; exact few_new) | exact (not_great (bif3 h5)).1 | (subst h8; exact few_apply (bif3 h5)) | (subst h10; exact few_with (bif3 h5)) | (subst h12; exact few_offer (bif3 h5)) | (intros; (try subst_vars); (try simp only [Bool.cond_true_left, Bool.cond_false_right, Bool.or_eq_true, Bool.or_eq_false_iff, Bool.and_eq_true, Bool.not_eq_true', Bool.not_eq_false', decide_eq_true_eq, decide_eq_false_iff_not, Int.not_lt, Int.not_le] at *); (try simp only [inK, big, lim, List.length_cons, List.length_nil, List.length_append, List.length_drop, List.length_take, List.length_replicate] at *); omega)) (fun (h9 : ((Int × Int × Int × List Int × List (Int × Int × Int × Int × Int) × List Int × List (Int × List Int) × Bool × Int) ×     Bool × Int × Bool × List (Int × Int × Int × Bool × Int)) ×   Int × PUnit) => (fun h10 => (And.intro (by first | (subst h1 h3; exact few_new) | exact (not_great (bif3 h5)).1 | (subst h8; exact few_apply (bif3 h5)) | (subst h10; exact few_with (bif3 h5)) | (subst h12; exact few_offer (bif3 h5)) | (intros; (try subst_vars); (try simp only [Bool.cond_true_left, Bool.cond_false_right, Bool.or_eq_true, Bool.or_eq_false_iff, Bool.and_eq_true, Bool.not_eq_true', Bool.not_eq_false', decide_eq_true_eq, decide_eq_false_iff_not, Int.not_lt, Int.not_le] at *); (try simp only [inK, big, lim, List.length_cons, List.length_nil, List.length_append, List.length_drop, List.length_take, List.length_replicate] at *); omega)) (fun (h11 : (Int × Int × Int × List Int × List (Int × Int × Int × Int × Int) × List Int × List (Int × List Int) × Bool × Int) ×   Int × PUnit) => (fun h12 => (And.intro (fun h13 => (by first | (subst h1 h3; exact few_new) | exact (not_great (bif3 h5)).1 | (subst h8; exact few_apply (bif3 h5)) | (subst h10; exact few_with (bif3 h5)) | (subst h12; exact few_offer (bif3 h5)) | (intros; (try subst_vars); (try simp only [Bool.cond_true_left, Bool.cond_false_right, Bool.or_eq_true, Bool.or_eq_false_iff, Bool.and_eq_true, Bool.not_eq_true', Bool.not_eq_false', decide_eq_true_eq, decide_eq_false_iff_not, Int.not_lt, Int.not_le] at *); (try simp only [inK, big, lim, List.length_cons, List.length_nil, List.length_append, List.length_drop, List.length_take, List.length_replicate] at *); omega))) (And.intro (fun h14 => (by first | (subst h1 h3; exact few_new) | exact (not_great (bif3 h5)).1 | (subst h8; exact few_apply (bif3 h5)) | (subst h10; exact few_with (bif3 h5)) | (subst h12; exact few_offer (bif3 h5)) | (intros; (try subst_vars); (try simp only [Bool.cond_true_left, Bool.cond_false_right, Bool.or_eq_true, Bool.or_eq_false_iff, Bool.and_eq_true, Bool.not_eq_true', Bool.not_eq_false', decide_eq_true_eq, decide_eq_false_iff_not, Int.not_lt, Int.not_le] at *); (try simp only [inK, big, lim, List.length_cons, List.length_nil, List.length_append, List.length_drop, List.length_take, List.length_replicate] at *); omega))) (And.intro (fun h15 => (by first | (subst h1 h3; exact few_new) | exact (not_great (bif3 h5)).1 | (subst h8; exact few_apply (bif3 h5)) | (subst h10; exact few_with (bif3 h5)) | (subst h12; exact few_offer (bif3 h5)) | (intros; (try subst_vars); (try simp only [Bool.cond_true_left, Bool.cond_false_right, Bool.or_eq_true, Bool.or_eq_false_iff, Bool.and_eq_true, Bool.not_eq_true', Bool.not_eq_false', decide_eq_true_eq, decide_eq_false_iff_not, Int.not_lt, Int.not_le] at *); (try simp only [inK, big, lim, List.length_cons, List.length_nil, List.length_append, List.length_drop, List.length_take, List.length_replicate] at *); omega))) (And.intro (fun h16 => (fin_of rfl ?_)) (fun h16 => (And.intro (by first | (subst h1 h3; exact few_new) | exact (not_great (bif3 h5)).1 | (subst h8; exact few_apply (bif3 h5)) | (subst h10; exact few_with (bif3 h5)) | (subst h12; exact few_offer (bif3 h5)) | (intros; (try subst_vars); (try simp only [Bool.cond_true_left, Bool.cond_false_right, Bool.or_eq_true, Bool.or_eq_false_iff, Bool.and_eq_true, Bool.not_eq_true', Bool.not_eq_false', decide_eq_true_eq, decide_eq_false_iff_not, Int.not_lt, Int.not_le] at *); (try simp only [inK, big, lim, List.length_cons, List.length_nil, List.length_append, List.length_drop, List.length_take, List.length_replicate] at *); omega)) (fun h17 => (fun h18 => (And.intro (fun h19 => True.intro) (fin_of rfl ?_))))))))))))))))))))))))))))))))
  · subst h1 h3
    have e := new_ok z0
    show (true, ()) = (bif decide ((sNew (objQ (size.tmod 4))).2 = 0) then true else false, ())
    rw [e]; rfl
  · have hg : great (ow, ct, tm, hs, q, bf, cs, cl, vl) = false := bif3 h5
    subst h1 h3 h8 h10 h12
    have a1 := v1 (objQ (size.tmod 4)) (tk, op, va, pr, nw) hg
    have a2 := v2 (objQ (size.tmod 4)) (ow, ct, tm, hs, q, bf, cs, cl, vl) wt
    have a3 := v3 (objQ (size.tmod 4)) (wt, wo, wv, wp, wc) hg
    clear h5
    simp only [pair_eta] at *
    exfalso
    grind
  · have hg : great (ow, ct, tm, hs, q, bf, cs, cl, vl) = false := bif3 h5
    subst h1 h3 h8 h10 h12
    have b1 := fun h => apply_bad (o := objQ (size.tmod 4)) (s := (ow, ct, tm, hs, q, bf, cs, cl, vl)) (c := (tk, op, va, pr, nw)) h
    have b2 := fun h => with_bad (o := objQ (size.tmod 4)) (s := (ow, ct, tm, hs, q, bf, cs, cl, vl)) (t := wt) h
    have b3 := fun h => offer_bad (o := objQ (size.tmod 4)) (s := (ow, ct, tm, hs, q, bf, cs, cl, vl)) (w := (wt, wo, wv, wp, wc)) h
    have b4 := fun h => apply_park (o := objQ (size.tmod 4)) (s := (ow, ct, tm, hs, q, bf, cs, cl, vl)) (c := (tk, op, va, pr, nw)) h
    have b5 := with_none (o := objQ (size.tmod 4)) (s := (ow, ct, tm, hs, q, bf, cs, cl, vl)) (t := wt)
    clear h5
    simp only [pair_eta] at *
    grind
end Go.Proofs.Ytnaejponobbahaa
