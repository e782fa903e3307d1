/- Channel: the law ChannelMeets, walked. -/
import Derived.Test.YtnaejponobbahaaChanM
set_option linter.unusedSimpArgs false
set_option linter.unusedVariables false
set_option maxRecDepth 100000
namespace Go.Proofs.Ytnaejponobbahaa
open Go.Sx

def c27 : Ctr := fnC [dOS, dI] rB (fun _ => True) (fun y => ((qu y.1).any (isT y.2.1), ()))
theorem good27 : GoodC Try.prog 27 c27 := by
  refine goodF cx0_good 6 _ _ _ _ ⟨_, Try.func27, rfl, rfl⟩ fun (⟨⟨ow, ct, tm, hs, q, bf, cs, cl, vl⟩, t, _⟩ : OS × Int × Unit) _ => ?_
  refine (And.intro (by first | kernel_rfl | rfl) (And.intro (by first | kernel_rfl | rfl) (And.intro (by first | kernel_rfl | rfl) (fun h0 => ?_))))
  refine ex4 _ (fun i : Nat => ⟨[.sl tW q, .fn (Fn.func 28) [] [.ptr 1 0], .any, .any, .any, .any, .sl tW q, .int .i64 (↑q.length : Int), .int .i64 (i : Int), .any, .any, .any, .any, .any, .any, .any, .any, .any, .any], [.cells   [.int .i64 ow, .int .i64 ct, .int .i64 tm, .sl (.int .i64) hs, .sl tW q,     .sl (.int .i64) bf, .sl tCu cs, .bool cl, .int .i64 vl], .cells [.int .i64 t]], 2⟩) (fun i => i ≤ q.length ∧ (q.take i).any (isT t) = false) (fun i => q.length - i) (And.intro (Exists.intro (0) (Exists.intro ([some 0, some 1]) (And.intro ?_ (And.intro (by rfl) (And.intro (by rfl) (And.intro (And.intro (And.intro (by rfl) (by rfl)) (And.intro (And.intro (by rfl) (by rfl)) True.intro)) (by rfl))))))) ?_)
  · simp
  rintro i ⟨hi, ht⟩
  refine (And.intro (fun k0 => (And.intro (by intros; (try subst_vars); (try simp only [Bool.cond_true_left, Bool.cond_false_right, Bool.or_eq_true, Bool.or_eq_false_iff, Bool.and_eq_true, Bool.not_eq_true', Bool.not_eq_false', decide_eq_true_eq, decide_eq_false_iff_not, Int.not_lt, Int.not_le] at *); (try simp only [inK, big, lim, List.length_cons, List.length_nil, List.length_append, List.length_drop, List.length_take, List.length_replicate] at *); omega) (And.intro (by first | kernel_rfl | rfl) (And.intro (fun k1 => (fin_of rfl ?_)) (fun k1 => (And.intro (by intros; (try subst_vars); (try simp only [Bool.cond_true_left, Bool.cond_false_right, Bool.or_eq_true, Bool.or_eq_false_iff, Bool.and_eq_true, Bool.not_eq_true', Bool.not_eq_false', decide_eq_true_eq, decide_eq_false_iff_not, Int.not_lt, Int.not_le] at *); (try simp only [inK, big, lim, List.length_cons, List.length_nil, List.length_append, List.length_drop, List.length_take, List.length_replicate] at *); omega) ?_)))))) (fun k0 => (fin_of rfl ?_)))
  · have e : q.any (isT t) = true := any_hit (i := i) (d := dflt tW) (by simpa using k0) (by simpa [isT] using k1)
    simp [qu, e]
  · refine Exists.intro (i + 1) (Exists.intro ([some 0, some 1]) (And.intro ?_ (And.intro ?_ (And.intro (by rfl) (And.intro (by rfl) (And.intro (And.intro (And.intro (by rfl) (by rfl)) (And.intro (And.intro (by rfl) (by rfl)) True.intro)) (by rfl)))))))
    · exact ⟨Nat.succ_le_of_lt (by simpa using k0), any_next (d := dflt tW) (by simpa using k0) ht (by simpa [isT] using k1)⟩
    · have hi' : i < q.length := by simpa using k0
      show q.length - (i + 1) < q.length - i
      omega
  · have e : q.any (isT t) = false := any_end (by simpa using k0) ht
    simp [qu, e]
def cxQ : Ctx := ⟨tys1, (27, ([], c27)) :: tab4⟩
theorem cxQ_good : GoodCtx Try.prog cxQ := cx_cons good27 cxL_good

theorem no_clash {l : List W} {w : W} (h : ∀ x ∈ l, x.1 = w.1 → clash w x = false) : l.any (clash w) = false := by
  rw [List.any_eq_false]
  intro x hx
  by_cases e : x.1 = w.1
  · simp [h x hx e]
  · simp [clash, e]
/-- Offer, where nothing is wrong with the waiter by itself. -/
theorem offer_fit {o : ObT} {s : OS} {w : W} (hv : Val o s) (ho : clo s = false) (h0 : 0 ≤ w.1) (h1 : w.1 ≤ 15) (hp : w.2.2.2.1 = 0) (hc : 0 ≤ w.2.2.2.2 ∧ w.2.2.2.2 < 6) (hk : w.2.1 = 64 ∧ num w.2.2.1 = true ∨ w.2.1 = 65 ∧ w.2.2.1 = 0)
    (hx : ∀ x ∈ qu s, x.1 = w.1 → clash w x = false) :
    sOffer o s w = if vain o (setQ s (qu s ++ [w])) = true then (zOS, 17) else (setQ s (qu s ++ [w]), 0) := by
  have a1 : offOk w = true := by
    simp only [offOk, isTask, isPrio, inR, Bool.and_eq_true, decide_eq_true_eq, hp]
    omega
  have a2 : w.2.1 = 64 ∨ w.2.1 = 65 := by
    rcases hk with h | h
    · exact .inl h.1
    · exact .inr h.1
  have a3 : ¬ (num w.2.2.1 = false ∨ (w.2.1 = 65 ∧ w.2.2.1 ≠ 0)) := by
    rcases hk with h | h
    · rw [h.1, h.2]
      simp
    · rw [h.2]
      simp [num, inR]
  have a4 : wKind w = true := by
    rcases hk with h | h
    · simp [wKind, h.1]
    · simp [wKind, h.1, h.2]
  have a5 : fineAt (qu s ++ [w]) (qu s).length = true := by
    rw [fineAt_last a4, no_clash hx]
    rfl
  rw [sOffer, if_neg (by rw [val_check hv]; simp), if_neg (by rw [a1]; simp), if_neg (not_not_intro a2), if_neg a3, if_neg (by rw [ho]; simp), a5]
  by_cases hvn : vain o (setQ s (qu s ++ [w])) = true
  · rw [if_pos hvn, if_pos (.inr hvn)]
  · rw [if_neg hvn, if_neg (by simp [hvn])]
/-- Apply of a task that does not wait, at an open channel. -/
theorem apply_open {o : ObT} {s : OS} {t op v : Int} (hv : Val o s) (ho : clo s = false) (h0 : 0 ≤ t) (h1 : t ≤ 15) (hop : op = 64 ∧ num v = true ∨ op = 65) (hq : ∀ x ∈ qu s, x.1 ≠ t) :
    sApply o s (t, op, v, 0, 0) = (sDo o s (t, op, v, 0, 0), 0) := by
  have a1 : callOk (t, op, v, 0, 0) = true := by
    simp only [callOk, isTask, isPrio, inR, Bool.and_eq_true, decide_eq_true_eq]
    omega
  have a2 : ¬ (qu s).any (isT t) = true := by
    intro h
    obtain ⟨x, hx, he⟩ := List.any_eq_true.1 h
    exact hq x hx (by simpa [isT] using he)
  have a3 : op = 64 ∨ op = 65 ∨ op = 66 := by omega
  have a4 : ¬ (op = 64 ∧ num v = false) := by
    rcases hop with h | h
    · rw [h.2]
      simp
    · omega
  unfold sApply
  rw [if_neg (by rw [val_check hv]; simp), if_neg (by rw [a1]; simp), if_neg (not_not_intro a3), if_neg a4, if_neg a2, if_neg (by rw [ho]; simp), if_neg (by rw [ho]; simp)]
theorem find_some {l : List W} {op : Int} {w : W} (hw : w ∈ l) (he : w.2.1 = op) : ∃ y, l.find? (isOp op) = some y := by
  cases h : l.find? (isOp op) with
  | some y => exact ⟨y, rfl⟩
  | none => exact absurd he (find_none h w hw)
/-- Somebody waits in vain: why. -/
theorem vain_why {o : ObT} {s : OS} (h : vain o s = true) : ∃ w ∈ qu s, (w.2.1 = 64 ∧ (((bu s).length : Int) ≠ o.2.2.1 ∨ ∃ x ∈ qu s, x.2.1 = 65 ∧ x.1 ≠ w.1)) ∨ (w.2.1 ≠ 64 ∧ (bu s ≠ [] ∨ ∃ x ∈ qu s, x.2.1 = 64 ∧ x.1 ≠ w.1)) := by
  rw [vain] at h
  obtain ⟨w, hw, hp⟩ := List.any_eq_true.1 h
  refine ⟨w, hw, ?_⟩
  have hf : ∀ {op t : Int}, foreign (qu s) op t = true → ∃ x ∈ qu s, x.2.1 = op ∧ x.1 ≠ t := by
    intro op t hf
    obtain ⟨x, hx, hx2⟩ := List.any_eq_true.1 hf
    simp only [pFor, Bool.and_eq_true, decide_eq_true_eq] at hx2
    exact ⟨x, hx, hx2⟩
  by_cases e : w.2.1 = 64
  · left
    simp only [vainP, e, if_true, Bool.or_eq_true, Bool.not_eq_true', decide_eq_false_iff_not] at hp
    exact ⟨e, hp.imp id hf⟩
  · right
    rw [vainP, if_neg e] at hp
    simp only [Bool.or_eq_true, decide_eq_true_eq] at hp
    refine ⟨e, hp.imp (fun h hb => ?_) hf⟩
    rw [hb] at h
    simp at h
theorem vain_pos {o : ObT} {s : OS} {w x : W} (hw : w ∈ qu s) (hx : x ∈ qu s) (h1 : w.2.1 = 64 ∧ x.2.1 = 65 ∨ w.2.1 = 65 ∧ x.2.1 = 64) (hne : x.1 ≠ w.1) : vain o s = true := by
  rw [vain]
  refine List.any_eq_true.2 ⟨w, hw, ?_⟩
  rcases h1 with ⟨e1, e2⟩ | ⟨e1, e2⟩
  · have : foreign (qu s) 65 w.1 = true := List.any_eq_true.2 ⟨x, hx, by simp [pFor, e2, hne]⟩
    simp [vainP, e1, this]
  · have : foreign (qu s) 64 w.1 = true := List.any_eq_true.2 ⟨x, hx, by simp [pFor, e2, hne]⟩
    simp [vainP, e1, this]

section meets
variable {o : ObT} {s : OS} {p q v : Int}
/-- Offering to send: it waits, or sending is possible at once. -/
theorem meet1 (hv : Val o s) (ho : clo s = false) (p0 : 0 ≤ p) (p1 : p ≤ 15) (hn : num v = true) (hl : (qu s).length ≤ 17) (hp : ∀ x ∈ qu s, x.1 ≠ p) :
    (sOffer o s (p, 64, v, 0, 0) = (zOS, 17) ∧ ∃ r, sApply o s (p, 64, v, 0, 0) = (r, 0) ∧ r.2.1 = false) ∨ (sOffer o s (p, 64, v, 0, 0) = (setQ s (qu s ++ [(p, 64, v, 0, 0)]), 0) ∧ Val o (setQ s (qu s ++ [(p, 64, v, 0, 0)]))) := by
  have e := offer_fit (w := (p, 64, v, 0, 0)) hv ho p0 p1 rfl ⟨by simp, by simp⟩ (.inl ⟨rfl, hn⟩) (fun x hx he => absurd he (hp x hx))
  by_cases hvn : vain o (setQ s (qu s ++ [(p, 64, v, 0, 0)])) = true
  · left
    rw [if_pos hvn] at e
    refine ⟨e, _, apply_open hv ho p0 p1 (.inl ⟨rfl, hn⟩) hp, ?_⟩
    show (sSend o s (p, 64, v, 0, 0)).2.1 = false
    unfold sSend
    cases hf : (qu s).find? (isOp 65) with
    | some w => rfl
    | none =>
      have hno := find_none hf
      have hno' : ∀ x ∈ qu s ++ [(p, (64 : Int), v, (0 : Int), (0 : Int))], x.2.1 ≠ 65 := by
        intro x hx
        rcases List.mem_append.1 hx with hx | hx
        · exact hno x hx
        · simp at hx; rw [hx]; simp
      obtain ⟨w, hw, ⟨h1, h2 | ⟨x, hx, hx2, _⟩⟩ | ⟨h1, _⟩⟩ := vain_why hvn
      · have hlt : ((bu s).length : Int) < o.2.2.1 := by
          have := val_short hv
          have h2' : ((bu s).length : Int) ≠ o.2.2.1 := h2
          omega
        simp only [if_pos hlt]
      · exact absurd hx2 (hno' x hx)
      · exfalso
        rcases List.mem_append.1 hw with hw | hw
        · rcases kind_or (hv.fit.1 w hw) with he | he
          · exact h1 he
          · exact hno w hw he
        · simp at hw; rw [hw] at h1; exact h1 rfl
  · right
    rw [if_neg hvn] at e
    refine ⟨e, ?_⟩
    have h2 : (sOffer o s (p, 64, v, 0, 0)).2 = 0 := by rw [e]
    have h3 := (offer_ok (by omega) h2).2.2
    rw [e] at h3
    exact h3
theorem recv_now {s : OS} {c : Cl} (h : bu s ≠ [] ∨ ∃ x ∈ qu s, x.2.1 = 64) : (sRecv s c).2.1 = false := by
  unfold sRecv
  cases hb : bu s with
  | cons v b =>
    cases hf : (qu s).find? (isOp 64) with
    | some w => rfl
    | none => rfl
  | nil =>
    rcases h with h | ⟨x, hx, he⟩
    · exact absurd hb h
    · obtain ⟨y, hy⟩ := find_some hx he
      simp only [hy]
abbrev mt (s : OS) (p v : Int) : OS := setQ s (qu s ++ [(p, 64, v, 0, 0)])
abbrev mu (s : OS) (p v : Int) : OS := setQ s ((qu s ++ [(p, 64, v, 0, 0)]) ++ [(p, 65, 0, 0, 1)])
theorem mem_t {x : W} (hx : x ∈ qu (mt s p v)) : x ∈ qu s ∨ x = (p, 64, v, 0, 0) := by
  rcases List.mem_append.1 hx with hx | hx
  · exact .inl hx
  · simp at hx; exact .inr hx
theorem mem_u {x : W} (hx : x ∈ qu (mu s p v)) : x ∈ qu s ∨ x = (p, 64, v, 0, 0) ∨ x = (p, 65, 0, 0, 1) := by
  rcases List.mem_append.1 hx with hx | hx
  · rcases mem_t (s := s) hx with h | h
    · exact .inl h
    · exact .inr (.inl h)
  · simp at hx; exact .inr (.inr hx)
theorem meet2 (hv : Val o s) (hvt : Val o (mt s p v)) (ho : clo s = false) (p0 : 0 ≤ p) (p1 : p ≤ 15) (hl : (qu s).length ≤ 17) (hp : ∀ x ∈ qu s, x.1 ≠ p) :
    (sOffer o (mt s p v) (p, 65, 0, 0, 1) = (zOS, 17) ∧ ∃ r, sApply o s (p, 65, 0, 0, 0) = (r, 0) ∧ r.2.1 = false) ∨ (sOffer o (mt s p v) (p, 65, 0, 0, 1) = (mu s p v, 0) ∧ Val o (mu s p v)) := by
  have e := offer_fit (w := (p, 65, 0, 0, 1)) hvt ho p0 p1 rfl ⟨by simp, by simp⟩ (.inr ⟨rfl, rfl⟩) (fun x hx he => by
    rcases mem_t hx with h | h
    · exact absurd he (hp x h)
    · rw [h]; simp [clash])
  by_cases hvn : vain o (mu s p v) = true
  · left
    rw [if_pos hvn] at e
    refine ⟨e, _, apply_open hv ho p0 p1 (.inr rfl) hp, ?_⟩
    show (sRecv s (p, 65, 0, 0, 0)).2.1 = false
    refine recv_now ?_
    obtain ⟨w, hw, ⟨h1, h2 | ⟨x, hx, hx2, hx3⟩⟩ | ⟨h1, h2 | ⟨x, hx, hx2, hx3⟩⟩⟩ := vain_why hvn
    · exfalso
      rcases mem_u hw with h | h | h
      · exact h2 (hvt.send w (List.mem_append.2 (.inl h)) h1).1
      · exact h2 (hvt.send w (List.mem_append.2 (.inr (by rw [h]; simp))) h1).1
      · rw [h] at h1; exact absurd h1 (by simp)
    · rcases mem_u hw with h | h | h
      · exact .inr ⟨w, h, h1⟩
      · exfalso
        have hwt : w ∈ qu (mt s p v) := List.mem_append.2 (.inr (by rw [h]; simp))
        rcases mem_u hx with k | k | k
        · exact hx3 ((hvt.send w hwt h1).2 x (List.mem_append.2 (.inl k)) hx2)
        · rw [k] at hx2; exact absurd hx2 (by simp)
        · rw [k, h] at hx3; exact hx3 rfl
      · rw [h] at h1; exact absurd h1 (by simp)
    · exact .inl h2
    · rcases mem_u hx with k | k | k
      · exact .inr ⟨x, k, hx2⟩
      · exfalso
        have hxt : x ∈ qu (mt s p v) := List.mem_append.2 (.inr (by rw [k]; simp))
        rcases mem_u hw with h | h | h
        · rcases kind_or (hv.fit.1 w h) with he | he
          · exact h1 he
          · exact hx3 ((hvt.recv w (List.mem_append.2 (.inl h)) he).2 x hxt hx2)
        · rw [h] at h1; exact h1 rfl
        · rw [k, h] at hx3; exact hx3 rfl
      · rw [k] at hx2; exact absurd hx2 (by simp)
  · right
    rw [if_neg hvn] at e
    refine ⟨e, ?_⟩
    have h2 : (sOffer o (mt s p v) (p, 65, 0, 0, 1)).2 = 0 := by rw [e]
    have h3 := (offer_ok (by show (qu s ++ [_]).length ≤ 95; rw [List.length_append, List.length_cons, List.length_nil]; omega) h2).2.2
    rw [e] at h3
    exact h3
theorem other_u (hq : ∀ x ∈ qu s, x.1 ≠ q) (hpq : p ≠ q) : ∀ x ∈ qu (mu s p v), x.1 ≠ q := by
  intro x hx
  rcases mem_u hx with h | h | h
  · exact hq x h
  · rw [h]; exact hpq
  · rw [h]; exact hpq
theorem snd_u : ((p, 64, v, 0, 0) : W) ∈ qu (mu s p v) := List.mem_append.2 (.inl (List.mem_append.2 (.inr (by simp))))
theorem rcv_u : ((p, 65, 0, 0, 1) : W) ∈ qu (mu s p v) := List.mem_append.2 (.inr (by simp))
theorem meet3 (hvu : Val o (mu s p v)) (ho : clo s = false) (q0 : 0 ≤ q) (q1 : q ≤ 15) (hq : ∀ x ∈ qu s, x.1 ≠ q) (hpq : p ≠ q) :
    ∃ r, sApply o (mu s p v) (q, 65, 0, 0, 0) = (r, 0) ∧ r.2.1 = false :=
  ⟨_, apply_open hvu ho q0 q1 (.inr rfl) (other_u hq hpq), recv_now (.inr ⟨_, snd_u, rfl⟩)⟩
theorem meet4 (hvu : Val o (mu s p v)) (ho : clo s = false) (q0 : 0 ≤ q) (q1 : q ≤ 15) (hq : ∀ x ∈ qu s, x.1 ≠ q) (hpq : p ≠ q) :
    ∃ r, sApply o (mu s p v) (q, 64, 1, 0, 0) = (r, 0) ∧ r.2.1 = false ∧ (qu r.1).any (isT p) = false := by
  refine ⟨_, apply_open hvu ho q0 q1 (.inl ⟨rfl, by simp [num, inR]⟩) (other_u hq hpq), ?_⟩
  show (sSend o (mu s p v) (q, 64, 1, 0, 0)).2.1 = false ∧ (qu (sSend o (mu s p v) (q, 64, 1, 0, 0)).1).any (isT p) = false
  unfold sSend
  cases hf : (qu (mu s p v)).find? (isOp 65) with
  | none => exact absurd rfl (find_none hf _ rcv_u)
  | some w =>
    obtain ⟨hm, he⟩ := find_mem hf
    have hw : w.1 = p := (hvu.send _ snd_u rfl).2 w hm he
    refine ⟨rfl, ?_⟩
    show (sRemove (qu (mu s p v)) w.1).any (isT p) = false
    rw [hw, List.any_eq_false]
    intro x hx
    have := (List.mem_filter.1 hx).2
    simp only [keep, decide_eq_true_eq] at this
    simp [isT, this]
theorem meet5 (hvu : Val o (mu s p v)) (ho : clo s = false) (q0 : 0 ≤ q) (q1 : q ≤ 15) (hq : ∀ x ∈ qu s, x.1 ≠ q) (hpq : p ≠ q) :
    sOffer o (mu s p v) (q, 64, 0, 0, 0) = (zOS, 17) := by
  have e := offer_fit (w := (q, 64, 0, 0, 0)) hvu ho q0 q1 rfl ⟨by simp, by simp⟩ (.inl ⟨rfl, by simp [num, inR]⟩) (fun x hx he => absurd he (other_u hq hpq x hx))
  rw [e, if_pos]
  exact vain_pos (w := (q, 64, 0, 0, 0)) (x := (p, 65, 0, 0, 1)) (List.mem_append.2 (.inr (by simp))) (List.mem_append.2 (.inl rcv_u)) (.inl ⟨rfl, rfl⟩) hpq
theorem meet6 (hvu : Val o (mu s p v)) (ho : clo s = false) (q0 : 0 ≤ q) (q1 : q ≤ 15) (hq : ∀ x ∈ qu s, x.1 ≠ q) (hpq : p ≠ q) :
    sOffer o (mu s p v) (q, 65, 0, 0, 0) = (zOS, 17) := by
  have e := offer_fit (w := (q, 65, 0, 0, 0)) hvu ho q0 q1 rfl ⟨by simp, by simp⟩ (.inr ⟨rfl, rfl⟩) (fun x hx he => absurd he (other_u hq hpq x hx))
  rw [e, if_pos]
  exact vain_pos (w := (q, 65, 0, 0, 0)) (x := (p, 64, v, 0, 0)) (List.mem_append.2 (.inr (by simp))) (List.mem_append.2 (.inl snd_u)) (.inr ⟨rfl, rfl⟩) hpq
end meets
theorem bif6 {a b c d e f : Bool} (h : (bif (bif (bif (bif (bif a then true else b) then true else c) then true else d) then true else e) then true else f) = false) :
    a = false ∧ b = false ∧ c = false ∧ d = false ∧ e = false ∧ f = false := by
  cases a <;> cases b <;> cases c <;> cases d <;> cases e <;> simp_all
theorem offer_len {o : ObT} {s : OS} {w : W} : (qu (sOffer o s w).1).length ≤ (qu s).length + 1 := by
  unfold sOffer
  repeat' split
  all_goals first | exact Nat.zero_le _ | skip
  show (qu s ++ [w]).length ≤ _
  rw [List.length_append, List.length_cons, List.length_nil]
  omega
theorem few12 {o : ObT} {s : OS} {w w' : W} (h : great s = false) : few (sOffer o (sOffer o s w).1 w').1 := by
  refine offer_few (few_offer h) ?_
  have h1 := offer_len (o := o) (s := s) (w := w)
  have h2 := great_small h
  simp only [small] at h2
  omega
set_option maxRecDepth 100000 in
set_option maxHeartbeats 4000000 in
theorem law5 : LawOk Try.prog 5 [.int .u8, tOS, .int .u8, .int .u8, .int .i16] [false, true, false, false, false] := by
  refine ⟨cxQ, 6, cxQ_good, fun (⟨size, ⟨ow, ct, tm, hs, qq, bf, cs, cl, vl⟩, a, b, v, _⟩ : Int × OS × Int × Int × Int × Unit) fine => ?_⟩
  obtain ⟨hz, _, ha, hb, hvv, _⟩ := fine
  have z0 : 0 ≤ size := hz.1
  have z1 : size ≤ 255 := hz.2
  have a0 : 0 ≤ a := ha.1
  have a1 : a ≤ 255 := ha.2
  have b0 : 0 ≤ b := hb.1
  have b1 : b ≤ 255 := hb.2
  have v0 : -32768 ≤ v := hvv.1
  have v1 : v ≤ 32767 := hvv.2
  clear hz ha hb hvv
  refine (And.intro (by first | kernel_rfl | rfl) (And.intro (by first | exact (not_great h2).1 | exact (not_great (bif6 h5).1).1 | (subst h7; exact few_offer (bif6 h5).1) | (subst h13 h7; exact few12 (bif6 h5).1) | (intros; (try subst_vars); (try simp only [Bool.cond_true_left, Bool.cond_false_right, Bool.or_eq_true, Bool.or_eq_false_iff, Bool.and_eq_true, Bool.not_eq_true', Bool.not_eq_false', decide_eq_true_eq, decide_eq_false_iff_not, Int.not_lt, Int.not_le] at *); (try simp only [inK, big, lim, List.length_cons, List.length_nil, List.length_append, List.length_drop, List.length_take, List.length_replicate] at *); omega)) (And.intro (by first | exact (not_great h2).1 | exact (not_great (bif6 h5).1).1 | (subst h7; exact few_offer (bif6 h5).1) | (subst h13 h7; exact few12 (bif6 h5).1) | (intros; (try subst_vars); (try simp only [Bool.cond_true_left, Bool.cond_false_right, Bool.or_eq_true, Bool.or_eq_false_iff, Bool.and_eq_true, Bool.not_eq_true', Bool.not_eq_false', decide_eq_true_eq, decide_eq_false_iff_not, Int.not_lt, Int.not_le] at *); (try simp only [inK, big, lim, List.length_cons, List.length_nil, List.length_append, List.length_drop, List.length_take, List.length_replicate] at *); omega)) (And.intro True.intro (fun (h0 : (ByteArray × Int × Int × Int) × PUnit) => (fun h1 => (And.intro (by first | exact (not_great h2).1 | exact (not_great (bif6 h5).1).1 | (subst h7; exact few_offer (bif6 h5).1) | (subst h13 h7; exact few12 (bif6 h5).1) | (intros; (try subst_vars); (try simp only [Bool.cond_true_left, Bool.cond_false_right, Bool.or_eq_true, Bool.or_eq_false_iff, Bool.and_eq_true, Bool.not_eq_true', Bool.not_eq_false', decide_eq_true_eq, decide_eq_false_iff_not, Int.not_lt, Int.not_le] at *); (try simp only [inK, big, lim, List.length_cons, List.length_nil, List.length_append, List.length_drop, List.length_take, List.length_replicate] at *); omega)) (And.intro (by first | exact (not_great h2).1 | exact (not_great (bif6 h5).1).1 | (subst h7; exact few_offer (bif6 h5).1) | (subst h13 h7; exact few12 (bif6 h5).1) | (intros; (try subst_vars); (try simp only [Bool.cond_true_left, Bool.cond_false_right, Bool.or_eq_true, Bool.or_eq_false_iff, Bool.and_eq_true, Bool.not_eq_true', Bool.not_eq_false', decide_eq_true_eq, decide_eq_false_iff_not, Int.not_lt, Int.not_le] at *); (try simp only [inK, big, lim, List.length_cons, List.length_nil, List.length_append, List.length_drop, List.length_take, List.length_replicate] at *); omega)) (And.intro (by first | exact (not_great h2).1 | exact (not_great (bif6 h5).1).1 | (subst h7; exact few_offer (bif6 h5).1) | (subst h13 h7; exact few12 (bif6 h5).1) | (intros; (try subst_vars); (try simp only [Bool.cond_true_left, Bool.cond_false_right, Bool.or_eq_true, Bool.or_eq_false_iff, Bool.and_eq_true, Bool.not_eq_true', Bool.not_eq_false', decide_eq_true_eq, decide_eq_false_iff_not, Int.not_lt, Int.not_le] at *); (try simp only [inK, big, lim, List.length_cons, List.length_nil, List.length_append, List.length_drop, List.length_take, List.length_replicate] at *); omega)) (And.intro (by first | exact (not_great h2).1 | exact (not_great (bif6 h5).1).1 | (subst h7; exact few_offer (bif6 h5).1) | (subst h13 h7; exact few12 (bif6 h5).1) | (intros; (try subst_vars); (try simp only [Bool.cond_true_left, Bool.cond_false_right, Bool.or_eq_true, Bool.or_eq_false_iff, Bool.and_eq_true, Bool.not_eq_true', Bool.not_eq_false', decide_eq_true_eq, decide_eq_false_iff_not, Int.not_lt, Int.not_le] at *); (try simp only [inK, big, lim, List.length_cons, List.length_nil, List.length_append, List.length_drop, List.length_take, List.length_replicate] at *); omega)) (And.intro True.intro (And.intro (fun h2 => (by first | exact (not_great h2).1 | exact (not_great (bif6 h5).1).1 | (subst h7; exact few_offer (bif6 h5).1) | (subst h13 h7; exact few12 (bif6 h5).1) | (intros; (try subst_vars); (try simp only [Bool.cond_true_left, Bool.cond_false_right, Bool.or_eq_true, Bool.or_eq_false_iff, Bool.and_eq_true, Bool.not_eq_true', Bool.not_eq_false', decide_eq_true_eq, decide_eq_false_iff_not, Int.not_lt, Int.not_le] at *); (try simp only [inK, big, lim, List.length_cons, List.length_nil, List.length_append, List.length_drop, List.length_take, List.length_replicate] at *); omega))) (And.intro (fun h3 => True.intro) (And.intro (fun h4 => True.intro) (And.intro (fun h5 => (And.intro True.intro (fin_of rfl (by first | rfl | fail)))) (fun h5 => (And.intro (by first | exact (not_great h2).1 | exact (not_great (bif6 h5).1).1 | (subst h7; exact few_offer (bif6 h5).1) | (subst h13 h7; exact few12 (bif6 h5).1) | (intros; (try subst_vars); (try simp only [Bool.cond_true_left, Bool.cond_false_right, Bool.or_eq_true, Bool.or_eq_false_iff, Bool.and_eq_true, Bool.not_eq_true', Bool.not_eq_false', decide_eq_true_eq, decide_eq_false_iff_not, Int.not_lt, Int.not_le] at *); (try simp only [inK, big, lim, List.length_cons, List.length_nil, List.length_append, List.length_drop, List.length_take, List.length_replicate] at *); omega)) (And.intro (by first | exact (not_great h2).1 | exact (not_great (bif6 h5).1).1 | (subst h7; exact few_offer (bif6 h5).1) | (subst h13 h7; exact few12 (bif6 h5).1) | (intros; (try subst_vars); (try simp only [Bool.cond_true_left, Bool.cond_false_right, Bool.or_eq_true, Bool.or_eq_false_iff, Bool.and_eq_true, Bool.not_eq_true', Bool.not_eq_false', decide_eq_true_eq, decide_eq_false_iff_not, Int.not_lt, Int.not_le] at *); (try simp only [inK, big, lim, List.length_cons, List.length_nil, List.length_append, List.length_drop, List.length_take, List.length_replicate] at *); omega)) (fun (h6 : (Int × Int × Int × List Int × List (Int × Int × Int × Int × Int) × List Int × List (Int × List Int) × Bool × Int) ×   Int × PUnit) => (fun h7 => (And.intro (fun h8 => (And.intro (fun h9 => (by first | exact (not_great h2).1 | exact (not_great (bif6 h5).1).1 | (subst h7; exact few_offer (bif6 h5).1) | (subst h13 h7; exact few12 (bif6 h5).1) | (intros; (try subst_vars); (try simp only [Bool.cond_true_left, Bool.cond_false_right, Bool.or_eq_true, Bool.or_eq_false_iff, Bool.and_eq_true, Bool.not_eq_true', Bool.not_eq_false', decide_eq_true_eq, decide_eq_false_iff_not, Int.not_lt, Int.not_le] at *); (try simp only [inK, big, lim, List.length_cons, List.length_nil, List.length_append, List.length_drop, List.length_take, List.length_replicate] at *); omega))) (And.intro (fun h10 => (by first | exact (not_great h2).1 | exact (not_great (bif6 h5).1).1 | (subst h7; exact few_offer (bif6 h5).1) | (subst h13 h7; exact few12 (bif6 h5).1) | (intros; (try subst_vars); (try simp only [Bool.cond_true_left, Bool.cond_false_right, Bool.or_eq_true, Bool.or_eq_false_iff, Bool.and_eq_true, Bool.not_eq_true', Bool.not_eq_false', decide_eq_true_eq, decide_eq_false_iff_not, Int.not_lt, Int.not_le] at *); (try simp only [inK, big, lim, List.length_cons, List.length_nil, List.length_append, List.length_drop, List.length_take, List.length_replicate] at *); omega))) (And.intro (fun h11 => True.intro) (fin_of rfl ?_))))) (fun h8 => (And.intro (by first | exact (not_great h2).1 | exact (not_great (bif6 h5).1).1 | (subst h7; exact few_offer (bif6 h5).1) | (subst h13 h7; exact few12 (bif6 h5).1) | (intros; (try subst_vars); (try simp only [Bool.cond_true_left, Bool.cond_false_right, Bool.or_eq_true, Bool.or_eq_false_iff, Bool.and_eq_true, Bool.not_eq_true', Bool.not_eq_false', decide_eq_true_eq, decide_eq_false_iff_not, Int.not_lt, Int.not_le] at *); (try simp only [inK, big, lim, List.length_cons, List.length_nil, List.length_append, List.length_drop, List.length_take, List.length_replicate] at *); omega)) (fun (h12 : (Int × Int × Int × List Int × List (Int × Int × Int × Int × Int) × List Int × List (Int × List Int) × Bool × Int) ×   Int × PUnit) => (fun h13 => (And.intro (fun h14 => (And.intro (fun h15 => (by first | exact (not_great h2).1 | exact (not_great (bif6 h5).1).1 | (subst h7; exact few_offer (bif6 h5).1) | (subst h13 h7; exact few12 (bif6 h5).1) | (intros; (try subst_vars); (try simp only [Bool.cond_true_left, Bool.cond_false_right, Bool.or_eq_true, Bool.or_eq_false_iff, Bool.and_eq_true, Bool.not_eq_true', Bool.not_eq_false', decide_eq_true_eq, decide_eq_false_iff_not, Int.not_lt, Int.not_le] at *); (try simp only [inK, big, lim, List.length_cons, List.length_nil, List.length_append, List.length_drop, List.length_take, List.length_replicate] at *); omega))) (And.intro (fun h16 => True.intro) (fin_of rfl ?_)))) (fun h14 => (And.intro (by first | exact (not_great h2).1 | exact (not_great (bif6 h5).1).1 | (subst h7; exact few_offer (bif6 h5).1) | (subst h13 h7; exact few12 (bif6 h5).1) | (intros; (try subst_vars); (try simp only [Bool.cond_true_left, Bool.cond_false_right, Bool.or_eq_true, Bool.or_eq_false_iff, Bool.and_eq_true, Bool.not_eq_true', Bool.not_eq_false', decide_eq_true_eq, decide_eq_false_iff_not, Int.not_lt, Int.not_le] at *); (try simp only [inK, big, lim, List.length_cons, List.length_nil, List.length_append, List.length_drop, List.length_take, List.length_replicate] at *); omega)) (fun (h17 : ((Int × Int × Int × List Int × List (Int × Int × Int × Int × Int) × List Int × List (Int × List Int) × Bool × Int) ×     Bool × Int × Bool × List (Int × Int × Int × Bool × Int)) ×   Int × PUnit) => (fun h18 => (And.intro (by first | exact (not_great h2).1 | exact (not_great (bif6 h5).1).1 | (subst h7; exact few_offer (bif6 h5).1) | (subst h13 h7; exact few12 (bif6 h5).1) | (intros; (try subst_vars); (try simp only [Bool.cond_true_left, Bool.cond_false_right, Bool.or_eq_true, Bool.or_eq_false_iff, Bool.and_eq_true, Bool.not_eq_true', Bool.not_eq_false', decide_eq_true_eq, decide_eq_false_iff_not, Int.not_lt, Int.not_le] at *); (try simp only [inK, big, lim, List.length_cons, List.length_nil, List.length_append, List.length_drop, List.length_take, List.length_replicate] at *); omega)) (fun (h19 : ((Int × Int × Int × List Int × List (Int × Int × Int × Int × Int) × List Int × List (Int × List Int) × Bool × Int) ×     Bool × Int × Bool × List (Int × Int × Int × Bool × Int)) ×   Int × PUnit) => (fun h20 => (And.intro (by first | exact (not_great h2).1 | exact (not_great (bif6 h5).1).1 | (subst h7; exact few_offer (bif6 h5).1) | (subst h13 h7; exact few12 (bif6 h5).1) | (intros; (try subst_vars); (try simp only [Bool.cond_true_left, Bool.cond_false_right, Bool.or_eq_true, Bool.or_eq_false_iff, Bool.and_eq_true, Bool.not_eq_true', Bool.not_eq_false', decide_eq_true_eq, decide_eq_false_iff_not, Int.not_lt, Int.not_le] at *); (try simp only [inK, big, lim, List.length_cons, List.length_nil, List.length_append, List.length_drop, List.length_take, List.length_replicate] at *); omega)) (fun (h21 : (Int × Int × Int × List Int × List (Int × Int × Int × Int × Int) × List Int × List (Int × List Int) × Bool × Int) ×   Int × PUnit) => (fun h22 => (And.intro (by first | exact (not_great h2).1 | exact (not_great (bif6 h5).1).1 | (subst h7; exact few_offer (bif6 h5).1) | (subst h13 h7; exact few12 (bif6 h5).1) | (intros; (try subst_vars); (try simp only [Bool.cond_true_left, Bool.cond_false_right, Bool.or_eq_true, Bool.or_eq_false_iff, Bool.and_eq_true, Bool.not_eq_true', Bool.not_eq_false', decide_eq_true_eq, decide_eq_false_iff_not, Int.not_lt, Int.not_le] at *); (try simp only [inK, big, lim, List.length_cons, List.length_nil, List.length_append, List.length_drop, List.length_take, List.length_replicate] at *); omega)) (fun (h23 : (Int × Int × Int × List Int × List (Int × Int × Int × Int × Int) × List Int × List (Int × List Int) × Bool × Int) ×   Int × PUnit) => (fun h24 => (And.intro (fun h25 => True.intro) (And.intro (fun h26 => True.intro) (fin_of rfl ?_))))))))))))))))))))))))))))))))))))))))))
  · have x : 1 = 1 := rfl
    have g := bif6 h5
    have hg : great (ow, ct, tm, hs, qq, bf, cs, cl, vl) = false := g.1
    have ho : clo (ow, ct, tm, hs, qq, bf, cs, cl, vl) = false := g.2.2.1
    have hpq : (a.tmod 16) ≠ (b.tmod 16) := of_decide_eq_false g.2.2.2.1
    have hp : ∀ x ∈ qu (ow, ct, tm, hs, qq, bf, cs, cl, vl), x.1 ≠ (a.tmod 16) := any_not (by rw [show (qu (ow, ct, tm, hs, qq, bf, cs, cl, vl)).any (isT (a.tmod 16)) = false from g.2.2.2.2.1]; simp)
    have hq : ∀ x ∈ qu (ow, ct, tm, hs, qq, bf, cs, cl, vl), x.1 ≠ (b.tmod 16) := any_not (by rw [show (qu (ow, ct, tm, hs, qq, bf, cs, cl, vl)).any (isT (b.tmod 16)) = false from g.2.2.2.2.2]; simp)
    have hc : sCheck (objQ (size.tmod 4)) (ow, ct, tm, hs, qq, bf, cs, cl, vl) = 0 := by
      have := g.2.1
      subst h1
      simpa using this
    have hv := check_val hc
    have hl : (qu (ow, ct, tm, hs, qq, bf, cs, cl, vl)).length ≤ 17 := (great_small hg).2.1
    have p0 : 0 ≤ (a.tmod 16) ∧ (a.tmod 16) ≤ 15 := by rw [Int.tmod_eq_emod_of_nonneg a0]; omega
    have q0 : 0 ≤ (b.tmod 16) ∧ (b.tmod 16) ≤ 15 := by rw [Int.tmod_eq_emod_of_nonneg b0]; omega
    have hn : num v = true := by simp only [num, inR, Bool.and_eq_true, decide_eq_true_eq]; omega
    clear g h5
    subst h1
    have m1 := meet1 hv ho p0.1 p0.2 hn hl hp
    rcases m1 with ⟨e, r, ea, er⟩ | ⟨e, _⟩
    · have e6 : h6.2.1 = 17 := (congrArg (fun z => z.2.1) h7).trans (congrArg Prod.snd e)
      show (true, ()) = (bif (bif decide (h6.2.1 = 17) then (decide ((sApply (objQ (size.tmod 4)) (ow, ct, tm, hs, qq, bf, cs, cl, vl) ((a.tmod 16), 64, v, 0, 0)).2 = 0) && !(sApply (objQ (size.tmod 4)) (ow, ct, tm, hs, qq, bf, cs, cl, vl) ((a.tmod 16), 64, v, 0, 0)).1.2.1) else false) then true else false, ())
      rw [e6, ea]
      show (true, ()) = (bif (bif decide ((17 : Int) = 17) then (decide ((0 : Int) = 0) && !r.2.1) else false) then true else false, ())
      rw [er]
      rfl
    · have e6 : h6.2.1 = 0 := (congrArg (fun z => z.2.1) h7).trans (congrArg Prod.snd e)
      simp [e6] at h8
  · have x : 1 = 1 := rfl
    have g := bif6 h5
    have hg : great (ow, ct, tm, hs, qq, bf, cs, cl, vl) = false := g.1
    have ho : clo (ow, ct, tm, hs, qq, bf, cs, cl, vl) = false := g.2.2.1
    have hpq : (a.tmod 16) ≠ (b.tmod 16) := of_decide_eq_false g.2.2.2.1
    have hp : ∀ x ∈ qu (ow, ct, tm, hs, qq, bf, cs, cl, vl), x.1 ≠ (a.tmod 16) := any_not (by rw [show (qu (ow, ct, tm, hs, qq, bf, cs, cl, vl)).any (isT (a.tmod 16)) = false from g.2.2.2.2.1]; simp)
    have hq : ∀ x ∈ qu (ow, ct, tm, hs, qq, bf, cs, cl, vl), x.1 ≠ (b.tmod 16) := any_not (by rw [show (qu (ow, ct, tm, hs, qq, bf, cs, cl, vl)).any (isT (b.tmod 16)) = false from g.2.2.2.2.2]; simp)
    have hc : sCheck (objQ (size.tmod 4)) (ow, ct, tm, hs, qq, bf, cs, cl, vl) = 0 := by
      have := g.2.1
      subst h1
      simpa using this
    have hv := check_val hc
    have hl : (qu (ow, ct, tm, hs, qq, bf, cs, cl, vl)).length ≤ 17 := (great_small hg).2.1
    have p0 : 0 ≤ (a.tmod 16) ∧ (a.tmod 16) ≤ 15 := by rw [Int.tmod_eq_emod_of_nonneg a0]; omega
    have q0 : 0 ≤ (b.tmod 16) ∧ (b.tmod 16) ≤ 15 := by rw [Int.tmod_eq_emod_of_nonneg b0]; omega
    have hn : num v = true := by simp only [num, inR, Bool.and_eq_true, decide_eq_true_eq]; omega
    clear g h5
    subst h1
    have m1 := meet1 hv ho p0.1 p0.2 hn hl hp
    rcases m1 with ⟨e, r, ea, er⟩ | ⟨e, hvt⟩
    · have e6 : h6.2.1 = 17 := (congrArg (fun z => z.2.1) h7).trans (congrArg Prod.snd e)
      simp [e6] at h8
    · have e6 : h6 = ((mt (ow, ct, tm, hs, qq, bf, cs, cl, vl) (a.tmod 16) v), 0, ()) := h7.trans (show ((sOffer (objQ (size.tmod 4)) (ow, ct, tm, hs, qq, bf, cs, cl, vl) ((a.tmod 16), 64, v, 0, 0)).1, (sOffer (objQ (size.tmod 4)) (ow, ct, tm, hs, qq, bf, cs, cl, vl) ((a.tmod 16), 64, v, 0, 0)).2, ()) = _ by rw [e])
      subst e6
      rcases meet2 hv hvt ho p0.1 p0.2 hl hp with ⟨e2, r, ea, er⟩ | ⟨e2, _⟩
      · have e12 : h12.2.1 = 17 := (congrArg (fun z => z.2.1) h13).trans (congrArg Prod.snd e2)
        show (true, ()) = (bif (bif decide (h12.2.1 = 17) then (decide ((sApply (objQ (size.tmod 4)) (ow, ct, tm, hs, qq, bf, cs, cl, vl) ((a.tmod 16), 65, 0, 0, 0)).2 = 0) && !(sApply (objQ (size.tmod 4)) (ow, ct, tm, hs, qq, bf, cs, cl, vl) ((a.tmod 16), 65, 0, 0, 0)).1.2.1) else false) then true else false, ())
        rw [e12, ea]
        show (true, ()) = (bif (bif decide ((17 : Int) = 17) then (decide ((0 : Int) = 0) && !r.2.1) else false) then true else false, ())
        rw [er]
        rfl
      · have e12 : h12.2.1 = 0 := (congrArg (fun z => z.2.1) h13).trans (congrArg Prod.snd e2)
        simp [e12] at h14
  · have x : 1 = 1 := rfl
    have g := bif6 h5
    have hg : great (ow, ct, tm, hs, qq, bf, cs, cl, vl) = false := g.1
    have ho : clo (ow, ct, tm, hs, qq, bf, cs, cl, vl) = false := g.2.2.1
    have hpq : (a.tmod 16) ≠ (b.tmod 16) := of_decide_eq_false g.2.2.2.1
    have hp : ∀ x ∈ qu (ow, ct, tm, hs, qq, bf, cs, cl, vl), x.1 ≠ (a.tmod 16) := any_not (by rw [show (qu (ow, ct, tm, hs, qq, bf, cs, cl, vl)).any (isT (a.tmod 16)) = false from g.2.2.2.2.1]; simp)
    have hq : ∀ x ∈ qu (ow, ct, tm, hs, qq, bf, cs, cl, vl), x.1 ≠ (b.tmod 16) := any_not (by rw [show (qu (ow, ct, tm, hs, qq, bf, cs, cl, vl)).any (isT (b.tmod 16)) = false from g.2.2.2.2.2]; simp)
    have hc : sCheck (objQ (size.tmod 4)) (ow, ct, tm, hs, qq, bf, cs, cl, vl) = 0 := by
      have := g.2.1
      subst h1
      simpa using this
    have hv := check_val hc
    have hl : (qu (ow, ct, tm, hs, qq, bf, cs, cl, vl)).length ≤ 17 := (great_small hg).2.1
    have p0 : 0 ≤ (a.tmod 16) ∧ (a.tmod 16) ≤ 15 := by rw [Int.tmod_eq_emod_of_nonneg a0]; omega
    have q0 : 0 ≤ (b.tmod 16) ∧ (b.tmod 16) ≤ 15 := by rw [Int.tmod_eq_emod_of_nonneg b0]; omega
    have hn : num v = true := by simp only [num, inR, Bool.and_eq_true, decide_eq_true_eq]; omega
    clear g h5
    subst h1
    have m1 := meet1 hv ho p0.1 p0.2 hn hl hp
    rcases m1 with ⟨e, r, ea, er⟩ | ⟨e, hvt⟩
    · have e6 : h6.2.1 = 17 := (congrArg (fun z => z.2.1) h7).trans (congrArg Prod.snd e)
      simp [e6] at h8
    · have e6 : h6 = ((mt (ow, ct, tm, hs, qq, bf, cs, cl, vl) (a.tmod 16) v), 0, ()) := h7.trans (show ((sOffer (objQ (size.tmod 4)) (ow, ct, tm, hs, qq, bf, cs, cl, vl) ((a.tmod 16), 64, v, 0, 0)).1, (sOffer (objQ (size.tmod 4)) (ow, ct, tm, hs, qq, bf, cs, cl, vl) ((a.tmod 16), 64, v, 0, 0)).2, ()) = _ by rw [e])
      subst e6
      rcases meet2 hv hvt ho p0.1 p0.2 hl hp with ⟨e2, r, ea, er⟩ | ⟨e2, hvu⟩
      · have e12 : h12.2.1 = 17 := (congrArg (fun z => z.2.1) h13).trans (congrArg Prod.snd e2)
        simp [e12] at h14
      · have e12 : h12 = ((mu (ow, ct, tm, hs, qq, bf, cs, cl, vl) (a.tmod 16) v), 0, ()) := h13.trans (show ((sOffer (objQ (size.tmod 4)) (mt (ow, ct, tm, hs, qq, bf, cs, cl, vl) (a.tmod 16) v) ((a.tmod 16), 65, 0, 0, 1)).1, (sOffer (objQ (size.tmod 4)) (mt (ow, ct, tm, hs, qq, bf, cs, cl, vl) (a.tmod 16) v) ((a.tmod 16), 65, 0, 0, 1)).2, ()) = _ by rw [e2])
        subst e12
        obtain ⟨r3, e3, k3⟩ := meet3 hvu ho q0.1 q0.2 hq hpq
        obtain ⟨r4, e4, k4, k4'⟩ := meet4 hvu ho q0.1 q0.2 hq hpq
        have e5 := meet5 hvu ho q0.1 q0.2 hq hpq
        have e6 := meet6 hvu ho q0.1 q0.2 hq hpq
        have f3 : h17 = (r3, 0, ()) := h18.trans (show ((sApply (objQ (size.tmod 4)) (mu (ow, ct, tm, hs, qq, bf, cs, cl, vl) (a.tmod 16) v) ((b.tmod 16), 65, 0, 0, 0)).1, (sApply (objQ (size.tmod 4)) (mu (ow, ct, tm, hs, qq, bf, cs, cl, vl) (a.tmod 16) v) ((b.tmod 16), 65, 0, 0, 0)).2, ()) = _ by rw [e3])
        have f4 : h19 = (r4, 0, ()) := h20.trans (show ((sApply (objQ (size.tmod 4)) (mu (ow, ct, tm, hs, qq, bf, cs, cl, vl) (a.tmod 16) v) ((b.tmod 16), 64, 1, 0, 0)).1, (sApply (objQ (size.tmod 4)) (mu (ow, ct, tm, hs, qq, bf, cs, cl, vl) (a.tmod 16) v) ((b.tmod 16), 64, 1, 0, 0)).2, ()) = _ by rw [e4])
        have f5 : h21.2.1 = 17 := (congrArg (fun z => z.2.1) h22).trans (congrArg Prod.snd e5)
        have f6 : h23.2.1 = 17 := (congrArg (fun z => z.2.1) h24).trans (congrArg Prod.snd e6)
        subst f3 f4
        show (true, ()) = (bif (bif (bif (bif (bif (bif (bif decide ((0 : Int) = 0) then decide ((0 : Int) = 0) else false) then !r3.2.1 else false) then !r4.2.1 else false) then decide (h21.2.1 = 17) else false) then decide (h23.2.1 = 17) else false) then !((qu r4.1).any (isT (a.tmod 16))) else false) then true else false, ())
        rw [k3, k4, k4', f5, f6]
        rfl
end Go.Proofs.Ytnaejponobbahaa
