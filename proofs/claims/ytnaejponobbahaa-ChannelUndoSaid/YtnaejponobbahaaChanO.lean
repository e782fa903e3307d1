/- Channel: the law ChannelUndo, walked. -/
import Derived.Test.YtnaejponobbahaaChanM
set_option linter.unusedSimpArgs false
set_option linter.unusedVariables false
set_option maxRecDepth 100000
namespace Go.Proofs.Ytnaejponobbahaa
open Go.Sx

theorem remove_none {l : List W} {t : Int} (h : ∀ x ∈ l, x.1 ≠ t) : sRemove l t = l := by
  rw [sRemove, List.filter_eq_self]
  intro x hx
  simp [keep, h x hx]
theorem remove_all {l : List W} {t : Int} (h : ∀ x ∈ l, x.1 = t) : sRemove l t = [] := by
  rw [sRemove, List.filter_eq_nil_iff]
  intro x hx
  simp [keep, h x hx]
theorem remove_append {l m : List W} {t : Int} (h : ∀ x ∈ l, x.1 ≠ t) (h' : ∀ x ∈ m, x.1 = t) : sRemove (l ++ m) t = l := by
  have e : sRemove (l ++ m) t = sRemove l t ++ sRemove m t := List.filter_append ..
  rw [e, remove_none h, remove_all h', List.append_nil]
/-- An operation that waits has put its task at the end of the queue. -/
theorem apply_parks {o : ObT} {s : OS} {c : Cl} (h : (sApply o s c).2 = 0) (hp : (sApply o s c).1.2.1 = true) : ∃ v, (sApply o s c).1 = sPark s c v ∧ ¬ (qu s).any (isT c.1) = true := by
  obtain ⟨e, he⟩ := apply_do h
  rw [e] at hp ⊢
  obtain ⟨v, e2⟩ := do_park hp
  refine ⟨v, e2, ?_⟩
  unfold sErr at he
  repeat' split at he
  all_goals first | (simp at he; done) | assumption
theorem with_add {o : ObT} {s : OS} {m : List W} {t : Int} (hc : sCheck o (setQ s (qu s ++ m)) = 0) (hs : ¬ (qu s).any (isT t) = true) (hm : ∀ x ∈ m, x.1 = t) (hne : m ≠ []) :
    sWith o (setQ s (qu s ++ m)) t = ((s, false, 0, false, []), 0) := by
  have e1 : (qu (setQ s (qu s ++ m))).any (isT t) = true := by
    obtain ⟨x, hx⟩ := List.exists_mem_of_ne_nil m hne
    show (qu s ++ m).any (isT t) = true
    exact List.any_eq_true.2 ⟨x, List.mem_append.2 (.inr hx), by simp [isT, hm x hx]⟩
  have e2 : sRemove (qu (setQ s (qu s ++ m))) t = qu s := remove_append (any_not hs) hm
  rw [sWith, if_neg (by rw [hc]; simp), if_neg (by rw [e1]; simp), e2]
theorem undo_park {o : ObT} {s : OS} {c : Cl} (hl : (qu s).length ≤ 95) (h : (sApply o s c).2 = 0) (hp : (sApply o s c).1.2.1 = true) :
    sWith o (sApply o s c).1.1 c.1 = ((s, false, 0, false, []), 0) := by
  obtain ⟨v, e, hn⟩ := apply_parks h hp
  have hv := val_check (apply_ok hl h).2
  rw [e] at hv ⊢
  exact with_add hv hn (by intro x hx; simp at hx; rw [hx]) (by simp)
theorem with_absent {o : ObT} {s : OS} {t : Int} (hc : sCheck o s = 0) (hs : ¬ (qu s).any (isT t) = true) : sWith o s t = (zRp, 7) := by
  rw [sWith, if_neg (by rw [hc]; simp), if_pos (by simpa using hs)]
theorem bifs {a b c : Bool} (h : (bif (bif a then true else b) then true else c) = false) : a = false ∧ b = false ∧ c = false := by
  cases a <;> cases b <;> simp_all
theorem bif2 {a b : Bool} (h : (bif a then true else b) = false) : a = false ∧ b = false := by
  cases a <;> simp_all
theorem und {o : ObT} {s : OS} {c : Cl} (hg : great s = false) (h : (bif decide ((sApply o s c).2 = 0) then (sApply o s c).1.2.1 else false) = true) :
    sWith o (sApply o s c).1.1 c.1 = ((s, false, 0, false, []), 0) := by
  have h1 : (sApply o s c).2 = 0 ∧ (sApply o s c).1.2.1 = true := by
    by_cases e : (sApply o s c).2 = 0
    · rw [decide_eq_true e] at h
      exact ⟨e, h⟩
    · rw [decide_eq_false e] at h
      cases h
  exact undo_park (not_great hg).2 h1.1 h1.2
set_option maxRecDepth 100000 in
set_option maxHeartbeats 4000000 in
theorem law8 : LawOk Try.prog 8 [.int .u8, tOS, tCl, tWs] [false, true, true, false] := by
  refine ⟨cxL, 6, cxL_good, fun (⟨size, ⟨ow, ct, tm, hs, q, bf, cs, cl, vl⟩, ⟨tk, op, va, pr, nw⟩, l, _⟩ : Int × OS × Cl × List W × Unit) fine => ?_⟩
  obtain ⟨hz, _⟩ := fine
  have z0 : 0 ≤ size := hz.1
  have z1 : size ≤ 255 := hz.2
  clear hz
  refine (And.intro (by first | kernel_rfl | rfl) (And.intro (by first | (subst h1; exact (not_great (bif2 h3).1).1) | exact (not_great (bif3 h4)).1 | (subst h6; exact few_apply (bif3 h4)) | (subst h1 h6 h9; exact congrArg (fun z => z.1.1) (und (bif3 h4) h7)) | (intros; (try subst_vars); (try simp only [Bool.cond_true_left, Bool.cond_false_right, Bool.or_eq_true, Bool.or_eq_false_iff, Bool.and_eq_true, Bool.not_eq_true', Bool.not_eq_false', decide_eq_true_eq, decide_eq_false_iff_not, Int.not_lt, Int.not_le] at *); (try simp only [inK, big, lim, List.length_cons, List.length_nil, List.length_append, List.length_drop, List.length_take, List.length_replicate] at *); omega)) (And.intro (by first | (subst h1; exact (not_great (bif2 h3).1).1) | exact (not_great (bif3 h4)).1 | (subst h6; exact few_apply (bif3 h4)) | (subst h1 h6 h9; exact congrArg (fun z => z.1.1) (und (bif3 h4) h7)) | (intros; (try subst_vars); (try simp only [Bool.cond_true_left, Bool.cond_false_right, Bool.or_eq_true, Bool.or_eq_false_iff, Bool.and_eq_true, Bool.not_eq_true', Bool.not_eq_false', decide_eq_true_eq, decide_eq_false_iff_not, Int.not_lt, Int.not_le] at *); (try simp only [inK, big, lim, List.length_cons, List.length_nil, List.length_append, List.length_drop, List.length_take, List.length_replicate] at *); omega)) (And.intro True.intro (fun (h0 : (ByteArray × Int × Int × Int) × PUnit) => (fun h1 => (And.intro True.intro (fun h2 => (And.intro (fun h3 => (by first | (subst h1; exact (not_great (bif2 h3).1).1) | exact (not_great (bif3 h4)).1 | (subst h6; exact few_apply (bif3 h4)) | (subst h1 h6 h9; exact congrArg (fun z => z.1.1) (und (bif3 h4) h7)) | (intros; (try subst_vars); (try simp only [Bool.cond_true_left, Bool.cond_false_right, Bool.or_eq_true, Bool.or_eq_false_iff, Bool.and_eq_true, Bool.not_eq_true', Bool.not_eq_false', decide_eq_true_eq, decide_eq_false_iff_not, Int.not_lt, Int.not_le] at *); (try simp only [inK, big, lim, List.length_cons, List.length_nil, List.length_append, List.length_drop, List.length_take, List.length_replicate] at *); omega))) (And.intro (fun h4 => (And.intro True.intro (fin_of rfl (by first | rfl | fail)))) (fun h4 => (And.intro (by first | (subst h1; exact (not_great (bif2 h3).1).1) | exact (not_great (bif3 h4)).1 | (subst h6; exact few_apply (bif3 h4)) | (subst h1 h6 h9; exact congrArg (fun z => z.1.1) (und (bif3 h4) h7)) | (intros; (try subst_vars); (try simp only [Bool.cond_true_left, Bool.cond_false_right, Bool.or_eq_true, Bool.or_eq_false_iff, Bool.and_eq_true, Bool.not_eq_true', Bool.not_eq_false', decide_eq_true_eq, decide_eq_false_iff_not, Int.not_lt, Int.not_le] at *); (try simp only [inK, big, lim, List.length_cons, List.length_nil, List.length_append, List.length_drop, List.length_take, List.length_replicate] at *); omega)) (fun (h5 : ((Int × Int × Int × List Int × List (Int × Int × Int × Int × Int) × List Int × List (Int × List Int) × Bool × Int) ×     Bool × Int × Bool × List (Int × Int × Int × Bool × Int)) ×   Int × PUnit) => (fun h6 => (And.intro (fun h7 => (And.intro (by first | (subst h1; exact (not_great (bif2 h3).1).1) | exact (not_great (bif3 h4)).1 | (subst h6; exact few_apply (bif3 h4)) | (subst h1 h6 h9; exact congrArg (fun z => z.1.1) (und (bif3 h4) h7)) | (intros; (try subst_vars); (try simp only [Bool.cond_true_left, Bool.cond_false_right, Bool.or_eq_true, Bool.or_eq_false_iff, Bool.and_eq_true, Bool.not_eq_true', Bool.not_eq_false', decide_eq_true_eq, decide_eq_false_iff_not, Int.not_lt, Int.not_le] at *); (try simp only [inK, big, lim, List.length_cons, List.length_nil, List.length_append, List.length_drop, List.length_take, List.length_replicate] at *); omega)) (fun (h8 : ((Int × Int × Int × List Int × List (Int × Int × Int × Int × Int) × List Int × List (Int × List Int) × Bool × Int) ×     Bool × Int × Bool × List (Int × Int × Int × Bool × Int)) ×   Int × PUnit) => (fun h9 => (And.intro (fun h10 => (by first | (subst h1; exact (not_great (bif2 h3).1).1) | exact (not_great (bif3 h4)).1 | (subst h6; exact few_apply (bif3 h4)) | (subst h1 h6 h9; exact congrArg (fun z => z.1.1) (und (bif3 h4) h7)) | (intros; (try subst_vars); (try simp only [Bool.cond_true_left, Bool.cond_false_right, Bool.or_eq_true, Bool.or_eq_false_iff, Bool.and_eq_true, Bool.not_eq_true', Bool.not_eq_false', decide_eq_true_eq, decide_eq_false_iff_not, Int.not_lt, Int.not_le] at *); (try simp only [inK, big, lim, List.length_cons, List.length_nil, List.length_append, List.length_drop, List.length_take, List.length_replicate] at *); omega))) (And.intro (fun h11 => (fin_of rfl ?_)) (fun h11 => (And.intro (by first | kernel_rfl | rfl) (And.intro (by first | kernel_rfl | rfl) (fun h12 => ?_)))))))))) (fun h7 => (And.intro (by first | kernel_rfl | rfl) (And.intro (by first | kernel_rfl | rfl) (fun h13 => ?_)))))))))))))))))))
  · have e2 : h8.2.1 = 0 := by
      subst h1 h6 h9
      exact congrArg (fun z => z.2) (und (bif3 h4) h7)
    simp [e2] at h11
  · have ex : 1 = 1 := rfl
    refine ex4 _ (fun i : Nat => ⟨[.sl tW q, .fn (Fn.func 33) [] [.ptr 1 0], .any, .any, .any, .any, .sl tW q, .int .i64 (↑q.length : Int), .int .i64 (i : Int), .any, .any, .any, .any, .any, .any, .any, .any, .any, .any], [.cells   [.int .i64 ow, .int .i64 ct, .int .i64 tm, .sl (.int .i64) hs, .sl tW q,     .sl (.int .i64) bf, .sl tCu cs, .bool cl, .int .i64 vl], .cells   [.int .i64 tk, .int .i64 op, .int .i64 va, .int .i64 pr, .int .i64 nw], .cells [.str h0.1.1, .int .i64 h0.1.2.1, .int .i64 h0.1.2.2.1, .int .i64 h0.1.2.2.2], .cells   [.int .i64 h5.1.1.1, .int .i64 h5.1.1.2.1, .int .i64 h5.1.1.2.2.1,     .sl (.int .i64) h5.1.1.2.2.2.1, .sl tW h5.1.1.2.2.2.2.1, .sl (.int .i64) h5.1.1.2.2.2.2.2.1,     .sl tCu h5.1.1.2.2.2.2.2.2.1, .bool h5.1.1.2.2.2.2.2.2.2.1, .int .i64 h5.1.1.2.2.2.2.2.2.2.2,     .bool h5.1.2.1, .int .i64 h5.1.2.2.1, .bool h5.1.2.2.2.1, .sl tWk h5.1.2.2.2.2], .cells   [.int .i64 h8.1.1.1, .int .i64 h8.1.1.2.1, .int .i64 h8.1.1.2.2.1,     .sl (.int .i64) h8.1.1.2.2.2.1, .sl tW h8.1.1.2.2.2.2.1, .sl (.int .i64) h8.1.1.2.2.2.2.2.1,     .sl tCu h8.1.1.2.2.2.2.2.2.1, .bool h8.1.1.2.2.2.2.2.2.2.1, .int .i64 h8.1.1.2.2.2.2.2.2.2.2,     .bool h8.1.2.1, .int .i64 h8.1.2.2.1, .bool h8.1.2.2.2.1, .sl tWk h8.1.2.2.2.2]], 5⟩) (fun i => i ≤ q.length ∧ (q.take i).any (isT tk) = false) (fun i => q.length - i) (And.intro (Exists.intro (0) (Exists.intro ([some 0, some 1, some 2, some 3, some 4]) (And.intro ?_ (And.intro (by rfl) (And.intro (by rfl) (And.intro (And.intro (And.intro (by rfl) (by rfl)) (And.intro (And.intro (by rfl) (by rfl)) (And.intro (And.intro (by rfl) (by rfl)) (And.intro (And.intro (by rfl) (by rfl)) (And.intro (And.intro (by rfl) (by rfl)) True.intro))))) (by rfl))))))) ?_)
    · simp
    rintro i ⟨hi, ht⟩
    refine (And.intro (fun k0 => (And.intro (by intros; (try subst_vars); (try simp only [Bool.cond_true_left, Bool.cond_false_right, Bool.or_eq_true, Bool.or_eq_false_iff, Bool.and_eq_true, Bool.not_eq_true', Bool.not_eq_false', decide_eq_true_eq, decide_eq_false_iff_not, Int.not_lt, Int.not_le] at *); (try simp only [inK, big, lim, List.length_cons, List.length_nil, List.length_append, List.length_drop, List.length_take, List.length_replicate] at *); omega) (And.intro (by first | kernel_rfl | rfl) (And.intro (fun k1 => (And.intro (fun k2 => (And.intro True.intro (fin_of rfl (by first | rfl | fail)))) (fun k2 => False.elim (Bool.false_ne_true (Eq.symm (Eq.trans (by kernel_rfl) k2)))))) (fun k1 => (And.intro (by intros; (try subst_vars); (try simp only [Bool.cond_true_left, Bool.cond_false_right, Bool.or_eq_true, Bool.or_eq_false_iff, Bool.and_eq_true, Bool.not_eq_true', Bool.not_eq_false', decide_eq_true_eq, decide_eq_false_iff_not, Int.not_lt, Int.not_le] at *); (try simp only [inK, big, lim, List.length_cons, List.length_nil, List.length_append, List.length_drop, List.length_take, List.length_replicate] at *); omega) ?_)))))) (fun k0 => (And.intro (fun k3 => False.elim (Bool.false_ne_true (Eq.trans (by kernel_rfl) k3))) (fun k3 => (fun k4 => ?_)))))
    · refine Exists.intro (i + 1) (Exists.intro ([some 0, some 1, some 2, some 3, some 4]) (And.intro ?_ (And.intro ?_ (And.intro (by rfl) (And.intro (by rfl) (And.intro (And.intro (And.intro (by rfl) (by rfl)) (And.intro (And.intro (by rfl) (by rfl)) (And.intro (And.intro (by rfl) (by rfl)) (And.intro (And.intro (by rfl) (by rfl)) (And.intro (And.intro (by rfl) (by rfl)) True.intro))))) (by rfl)))))))
      · exact ⟨Nat.succ_le_of_lt (by simpa using k0), any_next (d := dflt tW) (by simpa using k0) ht (by simpa [isT] using k1)⟩
      · have hi' : i < q.length := by simpa using k0
        show q.length - (i + 1) < q.length - i
        omega
    have hnot : q.any (isT tk) = false := any_end (by simpa using k0) ht
    have hg := (bifs h4).1
    have hsm := great_small hg
    simp only [small, qu, bu] at hsm
    have hl8 : l.length ≤ 8 := by
      have := (bifs h4).2.1
      simp at this
      omega
    have hc : sCheck (objQ (size.tmod 4)) (ow, ct, tm, hs, q, bf, cs, cl, vl) = 0 := by
      have := (bifs h4).2.2
      subst h1
      simpa using this
    refine ex4 _ (fun p : Nat × List W × Bool => ⟨[.any, .any, .any, .sl tW l, .any, .ptr 0 0, .ptr 1 0, .any, .any, .ptr 2 0, .any, .any, .any, .any, .ptr 5 0, .bool p.2.2, .any, .any, .any, .any, .any, .any, .any, .any, .any, .any, .any, .any, .any, .any, .any, .any, .any, .any, .any, .any, .any, .any, .any, .any, .any, .any, .any, .any, .any, .any, .any, .any, .any, .any, .any, .any, .any, .any, .any, .any, .any, .any, .any, .any, .any, .any, .any, .any, .any, .any, .any, .any, .any, .any, .any, .any, .any, .any, .any, .any, .any, .sl tW l, .int .i64 (↑l.length : Int), .int .i64 (p.1 : Int), .any, .any, .any, .any, .any, .any, .any, .any, .any, .any, .any, .any, .any, .any, .any, .any, .any, .any, .any, .any, .any, .any, .any, .any, .any, .any, .any, .any, .any, .any, .any, .any, .any, .any, .any, .any, .any, .any, .any, .any, .any, .any, .any], [.cells   [.int .i64 ow, .int .i64 ct, .int .i64 tm, .sl (.int .i64) hs, .sl tW q,     .sl (.int .i64) bf, .sl tCu cs, .bool cl, .int .i64 vl], .cells   [.int .i64 tk, .int .i64 op, .int .i64 va, .int .i64 pr, .int .i64 nw], .cells [.str h0.1.1, .int .i64 h0.1.2.1, .int .i64 h0.1.2.2.1, .int .i64 h0.1.2.2.2], .cells   [.int .i64 h5.1.1.1, .int .i64 h5.1.1.2.1, .int .i64 h5.1.1.2.2.1,     .sl (.int .i64) h5.1.1.2.2.2.1, .sl tW h5.1.1.2.2.2.2.1, .sl (.int .i64) h5.1.1.2.2.2.2.2.1,     .sl tCu h5.1.1.2.2.2.2.2.2.1, .bool h5.1.1.2.2.2.2.2.2.2.1, .int .i64 h5.1.1.2.2.2.2.2.2.2.2,     .bool h5.1.2.1, .int .i64 h5.1.2.2.1, .bool h5.1.2.2.2.1, .sl tWk h5.1.2.2.2.2], .cells   [.int .i64 h8.1.1.1, .int .i64 h8.1.1.2.1, .int .i64 h8.1.1.2.2.1,     .sl (.int .i64) h8.1.1.2.2.2.1, .sl tW h8.1.1.2.2.2.2.1, .sl (.int .i64) h8.1.1.2.2.2.2.2.1,     .sl tCu h8.1.1.2.2.2.2.2.2.1, .bool h8.1.1.2.2.2.2.2.2.2.1, .int .i64 h8.1.1.2.2.2.2.2.2.2.2,     .bool h8.1.2.1, .int .i64 h8.1.2.2.1, .bool h8.1.2.2.2.1, .sl tWk h8.1.2.2.2.2], .cells [.int .i64 ow, .int .i64 ct, .int .i64 tm, .sl (.int .i64) hs, .sl tW p.2.1, .sl (.int .i64) bf, .sl tCu cs, .bool cl, .int .i64 vl]], 6⟩) (fun p => p.1 ≤ l.length ∧ ∃ m, p.2.1 = q ++ m ∧ (∀ x ∈ m, x.1 = tk) ∧ m.length ≤ p.1 ∧ p.2.2 = !decide (m = []) ∧ sCheck (objQ (size.tmod 4)) (ow, ct, tm, hs, p.2.1, bf, cs, cl, vl) = 0) (fun p => l.length - p.1) (And.intro (Exists.intro ((0, q, false)) (Exists.intro ([some 0, some 1, some 2, some 3, some 4, some 5]) (And.intro ?_ (And.intro (by rfl) (And.intro (by rfl) (And.intro (And.intro (And.intro (by rfl) (by rfl)) (And.intro (And.intro (by rfl) (by rfl)) (And.intro (And.intro (by rfl) (by rfl)) (And.intro (And.intro (by rfl) (by rfl)) (And.intro (And.intro (by rfl) (by rfl)) (And.intro (And.intro (by rfl) (by rfl)) True.intro)))))) (by rfl))))))) ?_)
    · exact ⟨Nat.zero_le _, [], by simp, by simp, by simp, by simp, hc⟩
    rintro ⟨j, Q, b⟩ ⟨hj, m, hQ, hmt, hml, hb, hcm⟩
    simp only at hj hQ hmt hml hb hcm
    subst hQ hb
    have fewt : few (ow, ct, tm, hs, q ++ m, bf, cs, cl, vl) := by
      simp only [few, qu, bu, List.length_append]
      omega
    refine (And.intro (fun n0 => (And.intro (by first | exact fewt | (subst h1 n5; exact congrArg (fun z => z.1.1) (with_add (s := (ow, ct, tm, hs, q, bf, cs, cl, vl)) hcm (by show ¬ q.any (isT tk) = true; rw [hnot]; simp) hmt (by simpa using n6))) | (intros; (try subst_vars); (try simp only [Bool.cond_true_left, Bool.cond_false_right, Bool.or_eq_true, Bool.or_eq_false_iff, Bool.and_eq_true, Bool.not_eq_true', Bool.not_eq_false', decide_eq_true_eq, decide_eq_false_iff_not, Int.not_lt, Int.not_le] at *); (try simp only [inK, big, lim, List.length_cons, List.length_nil, List.length_append, List.length_drop, List.length_take, List.length_replicate] at *); omega)) (And.intro (by first | exact fewt | (subst h1 n5; exact congrArg (fun z => z.1.1) (with_add (s := (ow, ct, tm, hs, q, bf, cs, cl, vl)) hcm (by show ¬ q.any (isT tk) = true; rw [hnot]; simp) hmt (by simpa using n6))) | (intros; (try subst_vars); (try simp only [Bool.cond_true_left, Bool.cond_false_right, Bool.or_eq_true, Bool.or_eq_false_iff, Bool.and_eq_true, Bool.not_eq_true', Bool.not_eq_false', decide_eq_true_eq, decide_eq_false_iff_not, Int.not_lt, Int.not_le] at *); (try simp only [inK, big, lim, List.length_cons, List.length_nil, List.length_append, List.length_drop, List.length_take, List.length_replicate] at *); omega)) (fun (n1 : (Int × Int × Int × List Int × List (Int × Int × Int × Int × Int) × List Int × List (Int × List Int) × Bool × Int) ×   Int × PUnit) => (fun n2 => (And.intro (fun n3 => (And.intro (by first | exact fewt | (subst h1 n5; exact congrArg (fun z => z.1.1) (with_add (s := (ow, ct, tm, hs, q, bf, cs, cl, vl)) hcm (by show ¬ q.any (isT tk) = true; rw [hnot]; simp) hmt (by simpa using n6))) | (intros; (try subst_vars); (try simp only [Bool.cond_true_left, Bool.cond_false_right, Bool.or_eq_true, Bool.or_eq_false_iff, Bool.and_eq_true, Bool.not_eq_true', Bool.not_eq_false', decide_eq_true_eq, decide_eq_false_iff_not, Int.not_lt, Int.not_le] at *); (try simp only [inK, big, lim, List.length_cons, List.length_nil, List.length_append, List.length_drop, List.length_take, List.length_replicate] at *); omega)) ?_)) (fun n3 => (And.intro (by first | exact fewt | (subst h1 n5; exact congrArg (fun z => z.1.1) (with_add (s := (ow, ct, tm, hs, q, bf, cs, cl, vl)) hcm (by show ¬ q.any (isT tk) = true; rw [hnot]; simp) hmt (by simpa using n6))) | (intros; (try subst_vars); (try simp only [Bool.cond_true_left, Bool.cond_false_right, Bool.or_eq_true, Bool.or_eq_false_iff, Bool.and_eq_true, Bool.not_eq_true', Bool.not_eq_false', decide_eq_true_eq, decide_eq_false_iff_not, Int.not_lt, Int.not_le] at *); (try simp only [inK, big, lim, List.length_cons, List.length_nil, List.length_append, List.length_drop, List.length_take, List.length_replicate] at *); omega)) ?_)))))))) (fun n0 => (And.intro (by first | exact fewt | (subst h1 n5; exact congrArg (fun z => z.1.1) (with_add (s := (ow, ct, tm, hs, q, bf, cs, cl, vl)) hcm (by show ¬ q.any (isT tk) = true; rw [hnot]; simp) hmt (by simpa using n6))) | (intros; (try subst_vars); (try simp only [Bool.cond_true_left, Bool.cond_false_right, Bool.or_eq_true, Bool.or_eq_false_iff, Bool.and_eq_true, Bool.not_eq_true', Bool.not_eq_false', decide_eq_true_eq, decide_eq_false_iff_not, Int.not_lt, Int.not_le] at *); (try simp only [inK, big, lim, List.length_cons, List.length_nil, List.length_append, List.length_drop, List.length_take, List.length_replicate] at *); omega)) (fun (n4 : ((Int × Int × Int × List Int × List (Int × Int × Int × Int × Int) × List Int × List (Int × List Int) × Bool × Int) ×     Bool × Int × Bool × List (Int × Int × Int × Bool × Int)) ×   Int × PUnit) => (fun n5 => (And.intro (fun n6 => (And.intro (fun n7 => True.intro) (fin_of rfl ?_))) (fun n6 => (And.intro (fun n8 => (by first | exact fewt | (subst h1 n5; exact congrArg (fun z => z.1.1) (with_add (s := (ow, ct, tm, hs, q, bf, cs, cl, vl)) hcm (by show ¬ q.any (isT tk) = true; rw [hnot]; simp) hmt (by simpa using n6))) | (intros; (try subst_vars); (try simp only [Bool.cond_true_left, Bool.cond_false_right, Bool.or_eq_true, Bool.or_eq_false_iff, Bool.and_eq_true, Bool.not_eq_true', Bool.not_eq_false', decide_eq_true_eq, decide_eq_false_iff_not, Int.not_lt, Int.not_le] at *); (try simp only [inK, big, lim, List.length_cons, List.length_nil, List.length_append, List.length_drop, List.length_take, List.length_replicate] at *); omega))) (And.intro (fun n9 => True.intro) (fin_of rfl ?_))))))))))
    · subst h1
      have e0 : (sOffer (objQ (size.tmod 4)) (ow, ct, tm, hs, q ++ m, bf, cs, cl, vl) (tk, (l.getD (j : Int).toNat (dflt tW)).2)).2 = 0 := (congrArg (fun z => z.2.1) n2).symm.trans (of_decide_eq_true n3)
      obtain ⟨_, e1, hv⟩ := offer_ok (by show (q ++ m).length ≤ 95; rw [List.length_append]; omega) e0
      have e : n1 = ((ow, ct, tm, hs, (q ++ m) ++ [(tk, (l.getD (j : Int).toNat (dflt tW)).2)], bf, cs, cl, vl), 0, ()) := n2.trans (show ((sOffer (objQ (size.tmod 4)) (ow, ct, tm, hs, q ++ m, bf, cs, cl, vl) (tk, (l.getD (j : Int).toNat (dflt tW)).2)).1, (sOffer (objQ (size.tmod 4)) (ow, ct, tm, hs, q ++ m, bf, cs, cl, vl) (tk, (l.getD (j : Int).toNat (dflt tW)).2)).2, ()) = _ by rw [e1, e0])
      rw [e1] at hv
      subst e
      refine Exists.intro ((j + 1, (q ++ m) ++ [(tk, (l.getD (j : Int).toNat (dflt tW)).2)], true)) (Exists.intro ([some 0, some 1, some 2, some 3, some 4, some 5]) (And.intro ?_ (And.intro ?_ (And.intro (by rfl) (And.intro (by rfl) (And.intro (And.intro (And.intro (by rfl) (by rfl)) (And.intro (And.intro (by rfl) (by rfl)) (And.intro (And.intro (by rfl) (by rfl)) (And.intro (And.intro (by rfl) (by rfl)) (And.intro (And.intro (by rfl) (by rfl)) (And.intro (And.intro (by rfl) (by rfl)) True.intro)))))) (by rfl)))))))
      · refine ⟨Nat.succ_le_of_lt (by simpa using n0), m ++ [(tk, (l.getD (j : Int).toNat (dflt tW)).2)], by simp, ?_, ?_, ?_, val_check hv⟩
        · intro x hx
          rcases List.mem_append.1 hx with hx | hx
          · exact hmt x hx
          · simp only [List.mem_cons, List.not_mem_nil, or_false] at hx
            rw [hx]
        · rw [List.length_append, List.length_cons, List.length_nil]
          show m.length + 1 ≤ j + 1
          omega
        · simp
      · have hj' : j < l.length := by simpa using n0
        show l.length - (j + 1) < l.length - j
        omega
    · refine Exists.intro ((j + 1, q ++ m, !decide (m = []))) (Exists.intro ([some 0, some 1, some 2, some 3, some 4, some 5]) (And.intro ?_ (And.intro ?_ (And.intro (by rfl) (And.intro (by rfl) (And.intro (And.intro (And.intro (by rfl) (by rfl)) (And.intro (And.intro (by rfl) (by rfl)) (And.intro (And.intro (by rfl) (by rfl)) (And.intro (And.intro (by rfl) (by rfl)) (And.intro (And.intro (by rfl) (by rfl)) (And.intro (And.intro (by rfl) (by rfl)) True.intro)))))) (by rfl)))))))
      · exact ⟨Nat.succ_le_of_lt (by simpa using n0), m, rfl, hmt, Nat.le_succ_of_le hml, rfl, hcm⟩
      · have hj' : j < l.length := by simpa using n0
        show l.length - (j + 1) < l.length - j
        omega
    · have hm0 : m = [] := by simpa using n6
      subst hm0
      have e7 : n4.2.1 = 7 := by
        subst h1
        exact (congrArg (fun z => z.2.1) n5).trans (congrArg Prod.snd (with_absent (t := tk) hcm (by show ¬ (q ++ []).any (isT tk) = true; rw [List.append_nil, hnot]; simp)))
      simp [e7]
    · have e7 : n4.2.1 = 0 := by
        subst h1
        exact (congrArg (fun z => z.2.1) n5).trans (congrArg Prod.snd (with_add (s := (ow, ct, tm, hs, q, bf, cs, cl, vl)) hcm (by show ¬ q.any (isT tk) = true; rw [hnot]; simp) hmt (by simpa using n6)))
      simp [e7]
  · have ex : 1 = 1 := rfl
    refine ex4 _ (fun i : Nat => ⟨[.sl tW q, .fn (Fn.func 33) [] [.ptr 1 0], .any, .any, .any, .any, .sl tW q, .int .i64 (↑q.length : Int), .int .i64 (i : Int), .any, .any, .any, .any, .any, .any, .any, .any, .any, .any], [.cells   [.int .i64 ow, .int .i64 ct, .int .i64 tm, .sl (.int .i64) hs, .sl tW q,     .sl (.int .i64) bf, .sl tCu cs, .bool cl, .int .i64 vl], .cells   [.int .i64 tk, .int .i64 op, .int .i64 va, .int .i64 pr, .int .i64 nw], .cells [.str h0.1.1, .int .i64 h0.1.2.1, .int .i64 h0.1.2.2.1, .int .i64 h0.1.2.2.2], .cells   [.int .i64 h5.1.1.1, .int .i64 h5.1.1.2.1, .int .i64 h5.1.1.2.2.1,     .sl (.int .i64) h5.1.1.2.2.2.1, .sl tW h5.1.1.2.2.2.2.1, .sl (.int .i64) h5.1.1.2.2.2.2.2.1,     .sl tCu h5.1.1.2.2.2.2.2.2.1, .bool h5.1.1.2.2.2.2.2.2.2.1, .int .i64 h5.1.1.2.2.2.2.2.2.2.2,     .bool h5.1.2.1, .int .i64 h5.1.2.2.1, .bool h5.1.2.2.2.1, .sl tWk h5.1.2.2.2.2]], 4⟩) (fun i => i ≤ q.length ∧ (q.take i).any (isT tk) = false) (fun i => q.length - i) (And.intro (Exists.intro (0) (Exists.intro ([some 0, some 1, some 2, some 3]) (And.intro ?_ (And.intro (by rfl) (And.intro (by rfl) (And.intro (And.intro (And.intro (by rfl) (by rfl)) (And.intro (And.intro (by rfl) (by rfl)) (And.intro (And.intro (by rfl) (by rfl)) (And.intro (And.intro (by rfl) (by rfl)) True.intro)))) (by rfl))))))) ?_)
    · simp
    rintro i ⟨hi, ht⟩
    refine (And.intro (fun k0 => (And.intro (by intros; (try subst_vars); (try simp only [Bool.cond_true_left, Bool.cond_false_right, Bool.or_eq_true, Bool.or_eq_false_iff, Bool.and_eq_true, Bool.not_eq_true', Bool.not_eq_false', decide_eq_true_eq, decide_eq_false_iff_not, Int.not_lt, Int.not_le] at *); (try simp only [inK, big, lim, List.length_cons, List.length_nil, List.length_append, List.length_drop, List.length_take, List.length_replicate] at *); omega) (And.intro (by first | kernel_rfl | rfl) (And.intro (fun k1 => (And.intro (fun k2 => (And.intro True.intro (fin_of rfl (by first | rfl | fail)))) (fun k2 => False.elim (Bool.false_ne_true (Eq.symm (Eq.trans (by kernel_rfl) k2)))))) (fun k1 => (And.intro (by intros; (try subst_vars); (try simp only [Bool.cond_true_left, Bool.cond_false_right, Bool.or_eq_true, Bool.or_eq_false_iff, Bool.and_eq_true, Bool.not_eq_true', Bool.not_eq_false', decide_eq_true_eq, decide_eq_false_iff_not, Int.not_lt, Int.not_le] at *); (try simp only [inK, big, lim, List.length_cons, List.length_nil, List.length_append, List.length_drop, List.length_take, List.length_replicate] at *); omega) ?_)))))) (fun k0 => (And.intro (fun k3 => False.elim (Bool.false_ne_true (Eq.trans (by kernel_rfl) k3))) (fun k3 => (fun k4 => ?_)))))
    · refine Exists.intro (i + 1) (Exists.intro ([some 0, some 1, some 2, some 3]) (And.intro ?_ (And.intro ?_ (And.intro (by rfl) (And.intro (by rfl) (And.intro (And.intro (And.intro (by rfl) (by rfl)) (And.intro (And.intro (by rfl) (by rfl)) (And.intro (And.intro (by rfl) (by rfl)) (And.intro (And.intro (by rfl) (by rfl)) True.intro)))) (by rfl)))))))
      · exact ⟨Nat.succ_le_of_lt (by simpa using k0), any_next (d := dflt tW) (by simpa using k0) ht (by simpa [isT] using k1)⟩
      · have hi' : i < q.length := by simpa using k0
        show q.length - (i + 1) < q.length - i
        omega
    have hnot : q.any (isT tk) = false := any_end (by simpa using k0) ht
    have hg := (bifs h4).1
    have hsm := great_small hg
    simp only [small, qu, bu] at hsm
    have hl8 : l.length ≤ 8 := by
      have := (bifs h4).2.1
      simp at this
      omega
    have hc : sCheck (objQ (size.tmod 4)) (ow, ct, tm, hs, q, bf, cs, cl, vl) = 0 := by
      have := (bifs h4).2.2
      subst h1
      simpa using this
    refine ex4 _ (fun p : Nat × List W × Bool => ⟨[.any, .any, .any, .sl tW l, .any, .ptr 0 0, .ptr 1 0, .any, .any, .ptr 2 0, .any, .any, .any, .any, .ptr 4 0, .bool p.2.2, .any, .any, .any, .any, .any, .any, .any, .any, .any, .any, .any, .any, .any, .any, .any, .any, .any, .any, .any, .any, .any, .any, .any, .any, .any, .any, .any, .any, .any, .any, .any, .any, .any, .any, .any, .any, .any, .any, .any, .any, .any, .any, .any, .any, .any, .any, .any, .any, .any, .any, .any, .any, .any, .any, .any, .any, .any, .any, .any, .any, .any, .sl tW l, .int .i64 (↑l.length : Int), .int .i64 (p.1 : Int), .any, .any, .any, .any, .any, .any, .any, .any, .any, .any, .any, .any, .any, .any, .any, .any, .any, .any, .any, .any, .any, .any, .any, .any, .any, .any, .any, .any, .any, .any, .any, .any, .any, .any, .any, .any, .any, .any, .any, .any, .any, .any, .any], [.cells   [.int .i64 ow, .int .i64 ct, .int .i64 tm, .sl (.int .i64) hs, .sl tW q,     .sl (.int .i64) bf, .sl tCu cs, .bool cl, .int .i64 vl], .cells   [.int .i64 tk, .int .i64 op, .int .i64 va, .int .i64 pr, .int .i64 nw], .cells [.str h0.1.1, .int .i64 h0.1.2.1, .int .i64 h0.1.2.2.1, .int .i64 h0.1.2.2.2], .cells   [.int .i64 h5.1.1.1, .int .i64 h5.1.1.2.1, .int .i64 h5.1.1.2.2.1,     .sl (.int .i64) h5.1.1.2.2.2.1, .sl tW h5.1.1.2.2.2.2.1, .sl (.int .i64) h5.1.1.2.2.2.2.2.1,     .sl tCu h5.1.1.2.2.2.2.2.2.1, .bool h5.1.1.2.2.2.2.2.2.2.1, .int .i64 h5.1.1.2.2.2.2.2.2.2.2,     .bool h5.1.2.1, .int .i64 h5.1.2.2.1, .bool h5.1.2.2.2.1, .sl tWk h5.1.2.2.2.2], .cells [.int .i64 ow, .int .i64 ct, .int .i64 tm, .sl (.int .i64) hs, .sl tW p.2.1, .sl (.int .i64) bf, .sl tCu cs, .bool cl, .int .i64 vl]], 5⟩) (fun p => p.1 ≤ l.length ∧ ∃ m, p.2.1 = q ++ m ∧ (∀ x ∈ m, x.1 = tk) ∧ m.length ≤ p.1 ∧ p.2.2 = !decide (m = []) ∧ sCheck (objQ (size.tmod 4)) (ow, ct, tm, hs, p.2.1, bf, cs, cl, vl) = 0) (fun p => l.length - p.1) (And.intro (Exists.intro ((0, q, false)) (Exists.intro ([some 0, some 1, some 2, some 3, some 4]) (And.intro ?_ (And.intro (by rfl) (And.intro (by rfl) (And.intro (And.intro (And.intro (by rfl) (by rfl)) (And.intro (And.intro (by rfl) (by rfl)) (And.intro (And.intro (by rfl) (by rfl)) (And.intro (And.intro (by rfl) (by rfl)) (And.intro (And.intro (by rfl) (by rfl)) True.intro))))) (by rfl))))))) ?_)
    · exact ⟨Nat.zero_le _, [], by simp, by simp, by simp, by simp, hc⟩
    rintro ⟨j, Q, b⟩ ⟨hj, m, hQ, hmt, hml, hb, hcm⟩
    simp only at hj hQ hmt hml hb hcm
    subst hQ hb
    have fewt : few (ow, ct, tm, hs, q ++ m, bf, cs, cl, vl) := by
      simp only [few, qu, bu, List.length_append]
      omega
    refine (And.intro (fun n0 => (And.intro (by first | exact fewt | (subst h1 n5; exact congrArg (fun z => z.1.1) (with_add (s := (ow, ct, tm, hs, q, bf, cs, cl, vl)) hcm (by show ¬ q.any (isT tk) = true; rw [hnot]; simp) hmt (by simpa using n6))) | (intros; (try subst_vars); (try simp only [Bool.cond_true_left, Bool.cond_false_right, Bool.or_eq_true, Bool.or_eq_false_iff, Bool.and_eq_true, Bool.not_eq_true', Bool.not_eq_false', decide_eq_true_eq, decide_eq_false_iff_not, Int.not_lt, Int.not_le] at *); (try simp only [inK, big, lim, List.length_cons, List.length_nil, List.length_append, List.length_drop, List.length_take, List.length_replicate] at *); omega)) (And.intro (by first | exact fewt | (subst h1 n5; exact congrArg (fun z => z.1.1) (with_add (s := (ow, ct, tm, hs, q, bf, cs, cl, vl)) hcm (by show ¬ q.any (isT tk) = true; rw [hnot]; simp) hmt (by simpa using n6))) | (intros; (try subst_vars); (try simp only [Bool.cond_true_left, Bool.cond_false_right, Bool.or_eq_true, Bool.or_eq_false_iff, Bool.and_eq_true, Bool.not_eq_true', Bool.not_eq_false', decide_eq_true_eq, decide_eq_false_iff_not, Int.not_lt, Int.not_le] at *); (try simp only [inK, big, lim, List.length_cons, List.length_nil, List.length_append, List.length_drop, List.length_take, List.length_replicate] at *); omega)) (fun (n1 : (Int × Int × Int × List Int × List (Int × Int × Int × Int × Int) × List Int × List (Int × List Int) × Bool × Int) ×   Int × PUnit) => (fun n2 => (And.intro (fun n3 => (And.intro (by first | exact fewt | (subst h1 n5; exact congrArg (fun z => z.1.1) (with_add (s := (ow, ct, tm, hs, q, bf, cs, cl, vl)) hcm (by show ¬ q.any (isT tk) = true; rw [hnot]; simp) hmt (by simpa using n6))) | (intros; (try subst_vars); (try simp only [Bool.cond_true_left, Bool.cond_false_right, Bool.or_eq_true, Bool.or_eq_false_iff, Bool.and_eq_true, Bool.not_eq_true', Bool.not_eq_false', decide_eq_true_eq, decide_eq_false_iff_not, Int.not_lt, Int.not_le] at *); (try simp only [inK, big, lim, List.length_cons, List.length_nil, List.length_append, List.length_drop, List.length_take, List.length_replicate] at *); omega)) ?_)) (fun n3 => (And.intro (by first | exact fewt | (subst h1 n5; exact congrArg (fun z => z.1.1) (with_add (s := (ow, ct, tm, hs, q, bf, cs, cl, vl)) hcm (by show ¬ q.any (isT tk) = true; rw [hnot]; simp) hmt (by simpa using n6))) | (intros; (try subst_vars); (try simp only [Bool.cond_true_left, Bool.cond_false_right, Bool.or_eq_true, Bool.or_eq_false_iff, Bool.and_eq_true, Bool.not_eq_true', Bool.not_eq_false', decide_eq_true_eq, decide_eq_false_iff_not, Int.not_lt, Int.not_le] at *); (try simp only [inK, big, lim, List.length_cons, List.length_nil, List.length_append, List.length_drop, List.length_take, List.length_replicate] at *); omega)) ?_)))))))) (fun n0 => (And.intro (by first | exact fewt | (subst h1 n5; exact congrArg (fun z => z.1.1) (with_add (s := (ow, ct, tm, hs, q, bf, cs, cl, vl)) hcm (by show ¬ q.any (isT tk) = true; rw [hnot]; simp) hmt (by simpa using n6))) | (intros; (try subst_vars); (try simp only [Bool.cond_true_left, Bool.cond_false_right, Bool.or_eq_true, Bool.or_eq_false_iff, Bool.and_eq_true, Bool.not_eq_true', Bool.not_eq_false', decide_eq_true_eq, decide_eq_false_iff_not, Int.not_lt, Int.not_le] at *); (try simp only [inK, big, lim, List.length_cons, List.length_nil, List.length_append, List.length_drop, List.length_take, List.length_replicate] at *); omega)) (fun (n4 : ((Int × Int × Int × List Int × List (Int × Int × Int × Int × Int) × List Int × List (Int × List Int) × Bool × Int) ×     Bool × Int × Bool × List (Int × Int × Int × Bool × Int)) ×   Int × PUnit) => (fun n5 => (And.intro (fun n6 => (And.intro (fun n7 => True.intro) (fin_of rfl ?_))) (fun n6 => (And.intro (fun n8 => (by first | exact fewt | (subst h1 n5; exact congrArg (fun z => z.1.1) (with_add (s := (ow, ct, tm, hs, q, bf, cs, cl, vl)) hcm (by show ¬ q.any (isT tk) = true; rw [hnot]; simp) hmt (by simpa using n6))) | (intros; (try subst_vars); (try simp only [Bool.cond_true_left, Bool.cond_false_right, Bool.or_eq_true, Bool.or_eq_false_iff, Bool.and_eq_true, Bool.not_eq_true', Bool.not_eq_false', decide_eq_true_eq, decide_eq_false_iff_not, Int.not_lt, Int.not_le] at *); (try simp only [inK, big, lim, List.length_cons, List.length_nil, List.length_append, List.length_drop, List.length_take, List.length_replicate] at *); omega))) (And.intro (fun n9 => True.intro) (fin_of rfl ?_))))))))))
    · subst h1
      have e0 : (sOffer (objQ (size.tmod 4)) (ow, ct, tm, hs, q ++ m, bf, cs, cl, vl) (tk, (l.getD (j : Int).toNat (dflt tW)).2)).2 = 0 := (congrArg (fun z => z.2.1) n2).symm.trans (of_decide_eq_true n3)
      obtain ⟨_, e1, hv⟩ := offer_ok (by show (q ++ m).length ≤ 95; rw [List.length_append]; omega) e0
      have e : n1 = ((ow, ct, tm, hs, (q ++ m) ++ [(tk, (l.getD (j : Int).toNat (dflt tW)).2)], bf, cs, cl, vl), 0, ()) := n2.trans (show ((sOffer (objQ (size.tmod 4)) (ow, ct, tm, hs, q ++ m, bf, cs, cl, vl) (tk, (l.getD (j : Int).toNat (dflt tW)).2)).1, (sOffer (objQ (size.tmod 4)) (ow, ct, tm, hs, q ++ m, bf, cs, cl, vl) (tk, (l.getD (j : Int).toNat (dflt tW)).2)).2, ()) = _ by rw [e1, e0])
      rw [e1] at hv
      subst e
      refine Exists.intro ((j + 1, (q ++ m) ++ [(tk, (l.getD (j : Int).toNat (dflt tW)).2)], true)) (Exists.intro ([some 0, some 1, some 2, some 3, some 4]) (And.intro ?_ (And.intro ?_ (And.intro (by rfl) (And.intro (by rfl) (And.intro (And.intro (And.intro (by rfl) (by rfl)) (And.intro (And.intro (by rfl) (by rfl)) (And.intro (And.intro (by rfl) (by rfl)) (And.intro (And.intro (by rfl) (by rfl)) (And.intro (And.intro (by rfl) (by rfl)) True.intro))))) (by rfl)))))))
      · refine ⟨Nat.succ_le_of_lt (by simpa using n0), m ++ [(tk, (l.getD (j : Int).toNat (dflt tW)).2)], by simp, ?_, ?_, ?_, val_check hv⟩
        · intro x hx
          rcases List.mem_append.1 hx with hx | hx
          · exact hmt x hx
          · simp only [List.mem_cons, List.not_mem_nil, or_false] at hx
            rw [hx]
        · rw [List.length_append, List.length_cons, List.length_nil]
          show m.length + 1 ≤ j + 1
          omega
        · simp
      · have hj' : j < l.length := by simpa using n0
        show l.length - (j + 1) < l.length - j
        omega
    · refine Exists.intro ((j + 1, q ++ m, !decide (m = []))) (Exists.intro ([some 0, some 1, some 2, some 3, some 4]) (And.intro ?_ (And.intro ?_ (And.intro (by rfl) (And.intro (by rfl) (And.intro (And.intro (And.intro (by rfl) (by rfl)) (And.intro (And.intro (by rfl) (by rfl)) (And.intro (And.intro (by rfl) (by rfl)) (And.intro (And.intro (by rfl) (by rfl)) (And.intro (And.intro (by rfl) (by rfl)) True.intro))))) (by rfl)))))))
      · exact ⟨Nat.succ_le_of_lt (by simpa using n0), m, rfl, hmt, Nat.le_succ_of_le hml, rfl, hcm⟩
      · have hj' : j < l.length := by simpa using n0
        show l.length - (j + 1) < l.length - j
        omega
    · have hm0 : m = [] := by simpa using n6
      subst hm0
      have e7 : n4.2.1 = 7 := by
        subst h1
        exact (congrArg (fun z => z.2.1) n5).trans (congrArg Prod.snd (with_absent (t := tk) hcm (by show ¬ (q ++ []).any (isT tk) = true; rw [List.append_nil, hnot]; simp)))
      simp [e7]
    · have e7 : n4.2.1 = 0 := by
        subst h1
        exact (congrArg (fun z => z.2.1) n5).trans (congrArg Prod.snd (with_add (s := (ow, ct, tm, hs, q, bf, cs, cl, vl)) hcm (by show ¬ q.any (isT tk) = true; rw [hnot]; simp) hmt (by simpa using n6)))
      simp [e7]
end Go.Proofs.Ytnaejponobbahaa
