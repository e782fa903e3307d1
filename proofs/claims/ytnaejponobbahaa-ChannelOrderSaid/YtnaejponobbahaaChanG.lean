/- Channel: the reference's functions, as contracts. -/
import Derived.Test.YtnaejponobbahaaChanE
set_option linter.unusedSimpArgs false
set_option linter.unusedVariables false
set_option maxRecDepth 100000
namespace Go.Proofs.Ytnaejponobbahaa
open Go.Sx

@[reducible] def dB : AK := .dat false .bool
@[reducible] def rR : List (Bool × Ty) := [(true, tRp)]
def cx13 : Ctx := ⟨tys0, [(12, ([], c12)), (37, ([], c37)), (61, ([], c61)), (81, ([], c81)), (60, ([], c60)), (64, ([], c64))]⟩
theorem cx13_good : GoodCtx Try.prog cx13 := cx_cons good12 (cx_cons good37 (cx_cons good61 (cx_cons good81 (cx_cons good60 (cx_cons good64 cx0_good)))))
def c71 : Ctr := fnC [dCl] rB (fun _ => True) (fun y => (callOk y.1, ()))
theorem good71 : GoodC Try.prog 71 c71 := by
  refine goodF cx13_good 3 _ _ _ _ ⟨_, Try.func71, rfl, rfl⟩ fun (⟨⟨tk, op, va, pr, nw⟩, _⟩ : Cl × Unit) _ => ?_
  refine (And.intro (by rfl) (And.intro True.intro (fin_of rfl (by (simp only [callOk, isPrio, inR]; grind)))))
def c59 : Ctr := fnC [dOS, dI] rB (fun _ => True) (fun y => ((qu y.1).any (isT y.2.1), ()))
theorem good59 : GoodC Try.prog 59 c59 := by
  refine goodF cx13_good 3 _ _ _ _ ⟨_, Try.func59, rfl, rfl⟩ fun (⟨⟨ow, ct, tm, hs, q, bf, cs, cl, vl⟩, t, _⟩ : OS × Int × Unit) _ => ?_
  refine (And.intro (by rfl) (And.intro True.intro (fin_of rfl (by (simp only [sFind_any, qu])))))
def sErr (o : ObT) (s : OS) (c : Cl) : Int :=
  if sCheck o s ≠ 0 then 1 else if callOk c = false then 2 else if ¬ (c.2.1 = 64 ∨ c.2.1 = 65 ∨ c.2.1 = 66) then 8
  else if c.2.1 = 64 ∧ num c.2.2.1 = false then 2 else if (qu s).any (isT c.1) = true then 17
  else if clo s = true ∧ c.2.1 = 64 then 19 else if clo s = true ∧ c.2.1 = 66 then 17 else 0
theorem sApply_err (o : ObT) (s : OS) (c : Cl) : sApply o s c = if sErr o s c ≠ 0 then (zRp, sErr o s c) else (sDo o s c, 0) := by
  unfold sApply sErr
  repeat' split
  all_goals simp_all
def cx14 : Ctx := ⟨tys0, (71, ([], c71)) :: (59, ([], c59)) :: cx13.tab⟩
theorem cx14_good : GoodCtx Try.prog cx14 := cx_cons good71 (cx_cons good59 cx13_good)
def c48 : Ctr := fnC [dObj, dOS, dCl] [(false, tI)] (fun y => few y.2.1) (fun y => (sErr y.1 y.2.1 y.2.2.1, ()))
theorem good48 : GoodC Try.prog 48 c48 := by
  refine goodF cx14_good 3 _ _ _ _ ⟨_, Try.func48, rfl, rfl⟩ fun (⟨⟨nm, kd, sz, ot⟩, ⟨ow, ct, tm, hs, q, bf, cs, cl, vl⟩, ⟨tk, op, va, pr, nw⟩, _⟩ : ObT × OS × Cl × Unit) hfew => ?_
  simp only at hfew
  refine (And.intro (by rfl) (And.intro (by first | exact hfew | (intros; (try subst_vars); (try simp only [Bool.cond_true_left, Bool.cond_false_right, Bool.or_eq_true, Bool.or_eq_false_iff, Bool.and_eq_true, Bool.not_eq_true', Bool.not_eq_false', decide_eq_true_eq, decide_eq_false_iff_not, Int.not_lt, Int.not_le] at *); (try simp only [inK, big, lim, List.length_cons, List.length_nil, List.length_append, List.length_drop, List.length_take, List.length_replicate] at *); omega)) (And.intro (fun h0 => (fin_of rfl (by (simp only [sErr, qu, clo] at *; grind)))) (fun h0 => (And.intro True.intro (And.intro (fun h1 => (fin_of rfl (by (simp only [sErr, qu, clo] at *; grind)))) (fun h1 => (And.intro (fun h2 => (fin_of rfl (by (simp only [sErr, qu, clo] at *; grind)))) (fun h2 => (And.intro (fun h3 => True.intro) (And.intro (fun h4 => (fin_of rfl (by (simp only [sErr, qu, clo] at *; grind)))) (fun h4 => (And.intro True.intro (And.intro (fun h5 => (fin_of rfl (by (simp only [sErr, qu, clo] at *; grind)))) (fun h5 => (And.intro (fun h6 => (fin_of rfl (by (simp only [sErr, qu, clo] at *; grind)))) (fun h6 => (And.intro (fun h7 => (fin_of rfl (by (simp only [sErr, qu, clo] at *; grind)))) (fun h7 => (fin_of rfl (by (simp only [sErr, qu, clo] at *; grind))))))))))))))))))))))
def sComp (r : Rp) (i v : Int) (ok : Bool) : Rp := (setQ r.1 (sRemove (qu r.1) ((qu r.1).getD i.toNat (dflt tW)).1), r.2.1, r.2.2.1, r.2.2.2.1, r.2.2.2.2 ++ [wkOf ((qu r.1).getD i.toNat (dflt tW)) v ok])
def c51 : Ctr := fnC [dRp, dI, dI, dB] rR (fun y => (qu y.1.1).length ≤ 1000000 ∧ y.1.2.2.2.2.length ≤ 1000000 ∧ 0 ≤ y.2.1 ∧ y.2.1 < (qu y.1.1).length) (fun y => (sComp y.1 y.2.1 y.2.2.1 y.2.2.2.1, ()))
theorem good51 : GoodC Try.prog 51 c51 := by
  refine goodF cx13_good 3 _ _ _ _ ⟨_, Try.func51, rfl, rfl⟩ fun (⟨⟨⟨ow, ct, tm, hs, q, bf, cs, cl, vl⟩, pk, va, ok, wk⟩, i, v, b, _⟩ : Rp × Int × Int × Bool × Unit) hn => ?_
  simp only [qu] at hn
  obtain ⟨f1, f2, f3, f4⟩ := hn
  refine (And.intro (by rfl) (And.intro (by first | exact f1 | exact f2 | exact ⟨f3, f4⟩ | (intros; (try subst_vars); (try simp only [Bool.cond_true_left, Bool.cond_false_right, Bool.or_eq_true, Bool.or_eq_false_iff, Bool.and_eq_true, Bool.not_eq_true', Bool.not_eq_false', decide_eq_true_eq, decide_eq_false_iff_not, Int.not_lt, Int.not_le] at *); (try simp only [inK, big, lim, List.length_cons, List.length_nil, List.length_append, List.length_drop, List.length_take, List.length_replicate] at *); omega)) (And.intro (by first | exact f1 | exact f2 | exact ⟨f3, f4⟩ | (intros; (try subst_vars); (try simp only [Bool.cond_true_left, Bool.cond_false_right, Bool.or_eq_true, Bool.or_eq_false_iff, Bool.and_eq_true, Bool.not_eq_true', Bool.not_eq_false', decide_eq_true_eq, decide_eq_false_iff_not, Int.not_lt, Int.not_le] at *); (try simp only [inK, big, lim, List.length_cons, List.length_nil, List.length_append, List.length_drop, List.length_take, List.length_replicate] at *); omega)) (And.intro (by rfl) (And.intro (by first | exact f1 | exact f2 | exact ⟨f3, f4⟩ | (intros; (try subst_vars); (try simp only [Bool.cond_true_left, Bool.cond_false_right, Bool.or_eq_true, Bool.or_eq_false_iff, Bool.and_eq_true, Bool.not_eq_true', Bool.not_eq_false', decide_eq_true_eq, decide_eq_false_iff_not, Int.not_lt, Int.not_le] at *); (try simp only [inK, big, lim, List.length_cons, List.length_nil, List.length_append, List.length_drop, List.length_take, List.length_replicate] at *); omega)) (And.intro (by first | exact f1 | exact f2 | exact ⟨f3, f4⟩ | (intros; (try subst_vars); (try simp only [Bool.cond_true_left, Bool.cond_false_right, Bool.or_eq_true, Bool.or_eq_false_iff, Bool.and_eq_true, Bool.not_eq_true', Bool.not_eq_false', decide_eq_true_eq, decide_eq_false_iff_not, Int.not_lt, Int.not_le] at *); (try simp only [inK, big, lim, List.length_cons, List.length_nil, List.length_append, List.length_drop, List.length_take, List.length_replicate] at *); omega)) (fin_of rfl (by (simp only [sComp, qu, setQ, wkOf])))))))))
def c72 : Ctr := fnC [dOS, dCl, dI] rR (fun y => (qu y.1).length ≤ 1000000) (fun y => (sPark y.1 y.2.1 y.2.2.1, ()))
theorem good72 : GoodC Try.prog 72 c72 := by
  refine goodF cx13_good 3 _ _ _ _ ⟨_, Try.func72, rfl, rfl⟩ fun (⟨⟨ow, ct, tm, hs, q, bf, cs, cl, vl⟩, ⟨tk, op, va, pr, nw⟩, v, _⟩ : OS × Cl × Int × Unit) f1 => ?_
  simp only [qu] at f1
  refine (And.intro (by rfl) (And.intro (by rfl) (And.intro (by first | exact f1 | (intros; (try subst_vars); (try simp only [Bool.cond_true_left, Bool.cond_false_right, Bool.or_eq_true, Bool.or_eq_false_iff, Bool.and_eq_true, Bool.not_eq_true', Bool.not_eq_false', decide_eq_true_eq, decide_eq_false_iff_not, Int.not_lt, Int.not_le] at *); (try simp only [inK, big, lim, List.length_cons, List.length_nil, List.length_append, List.length_drop, List.length_take, List.length_replicate] at *); omega)) (And.intro (by first | exact f1 | (intros; (try subst_vars); (try simp only [Bool.cond_true_left, Bool.cond_false_right, Bool.or_eq_true, Bool.or_eq_false_iff, Bool.and_eq_true, Bool.not_eq_true', Bool.not_eq_false', decide_eq_true_eq, decide_eq_false_iff_not, Int.not_lt, Int.not_le] at *); (try simp only [inK, big, lim, List.length_cons, List.length_nil, List.length_append, List.length_drop, List.length_take, List.length_replicate] at *); omega)) (fin_of rfl (by rfl))))))
theorem firstAt_find {α : Type} (p : α → Bool) (d : α) : ∀ (xs : List α) (i : Int), 0 ≤ i →
    (firstAt p xs i = -1 ∧ xs.find? p = none) ∨ ∃ k : Nat, firstAt p xs i = i + k ∧ k < xs.length ∧ xs.find? p = some (xs.getD k d)
  | [], i, _ => .inl ⟨rfl, rfl⟩
  | x :: l, i, h => by
    cases hp : p x
    · rcases firstAt_find p d l (i + 1) (by omega) with ⟨h1, h2⟩ | ⟨k, h1, h2, h3⟩
      · exact .inl ⟨by simp [firstAt, hp, h1], by simp [hp, h2]⟩
      · exact .inr ⟨k + 1, by simp [firstAt, hp, h1]; omega, by simp; omega, by simp [hp, h3]⟩
    · exact .inr ⟨0, by simp [firstAt, hp], by simp, by simp [hp]⟩
theorem firstAt_congr {α : Type} {p r : α → Bool} : ∀ (xs : List α) (i : Int), (∀ x ∈ xs, p x = r x) → firstAt p xs i = firstAt r xs i
  | [], _, _ => rfl
  | x :: l, i, h => by
    rw [firstAt, firstAt, h x (by simp), firstAt_congr l (i + 1) fun y hy => h y (by simp [hy])]
theorem wl_task {q : List W} (h : wlCheck q = 0) {w : W} (hw : w ∈ q) : wOk w = true := by
  unfold wlCheck at h
  split at h
  · simp at h
  · split at h
    · simp at h
    · rename_i h2
      simp at h2
      exact h2 _ _ _ _ _ hw
theorem check_valid {o : ObT} {s : OS} (h : sCheck o s = 0) : (sNew o).2 = 0 ∧ sValid o s = true := by
  unfold sCheck at h
  split at h
  · exact absurd h (by assumption)
  · split at h
    · simp at h
    · rename_i h1 h2
      exact ⟨by simpa using h1, by simpa using h2⟩
theorem valid_parts {o : ObT} {s : OS} (h : sValid o s = true) : plainB o s = true ∧ (bu s).any (fun n => !num n) = false ∧ wlCheck (qu s) = 0 ∧ fineN (qu s) (qu s).length = true ∧ (clo s = true → qu s = []) ∧ vain o s = false := by
  simp only [sValid, Bool.and_eq_true, decide_eq_true_eq, Bool.not_eq_true', Bool.or_eq_true] at h
  obtain ⟨h1, h2, h3, h4, h5, h6⟩ := h
  refine ⟨h1, h2, h3, h4, fun hc => ?_, h6⟩
  rw [hc] at h5
  simpa using h5
theorem plain_size {o : ObT} {s : OS} (h : plainB o s = true) : ((bu s).length : Int) ≤ o.2.2.1 := by
  simp only [plainB, Bool.and_eq_true, decide_eq_true_eq] at h
  exact h.2.2.2.2.2.2
theorem first_any {o : ObT} {s : OS} (h : sCheck o s = 0) (op : Int) : firstAt (pFor op (-1)) (qu s) 0 = firstAt (isOp op) (qu s) 0 := by
  refine firstAt_congr _ _ fun w hw => ?_
  have h1 := wl_task (valid_parts (check_valid h).2).2.2.1 hw
  simp only [wOk, inR, Bool.and_eq_true, decide_eq_true_eq] at h1
  have : w.1 ≠ -1 := by omega
  simp [pFor, isOp, this]
theorem first_some {o : ObT} {s : OS} (hc : sCheck o s = 0) {op : Int} (h : 0 ≤ firstAt (pFor op (-1)) (qu s) 0) :
    (qu s).find? (isOp op) = some ((qu s).getD (firstAt (pFor op (-1)) (qu s) 0).toNat (dflt tW)) ∧ firstAt (pFor op (-1)) (qu s) 0 < (qu s).length := by
  rw [first_any hc] at h ⊢
  rcases firstAt_find (isOp op) (dflt tW) (qu s) 0 (by omega) with ⟨h1, _⟩ | ⟨k, h1, h2, h3⟩
  · omega
  · rw [h1, h3]
    exact ⟨by simp, by omega⟩
theorem first_need {o : ObT} {s : OS} (hc : sCheck o s = 0) {op : Int} (h : decide (0 ≤ firstAt (pFor op (-1)) (qu s) 0) = true) :
    0 ≤ firstAt (pFor op (-1)) (qu s) 0 ∧ firstAt (pFor op (-1)) (qu s) 0 < (qu s).length := ⟨of_decide_eq_true h, (first_some hc (of_decide_eq_true h)).2⟩
theorem first_none {o : ObT} {s : OS} (hc : sCheck o s = 0) {op : Int} (h : ¬ 0 ≤ firstAt (pFor op (-1)) (qu s) 0) : (qu s).find? (isOp op) = none := by
  rw [first_any hc] at h
  rcases firstAt_find (isOp op) (dflt tW) (qu s) 0 (by omega) with ⟨_, h2⟩ | ⟨k, h1, h2, h3⟩
  · exact h2
  · omega

def cx15 : Ctx := ⟨tys0, (51, ([], c51)) :: (72, ([], c72)) :: (48, ([], c48)) :: cx14.tab⟩
theorem cx15_good : GoodCtx Try.prog cx15 := cx_cons good51 (cx_cons good72 (cx_cons good48 cx14_good))
def c49 : Ctr := fnC [dObj, dOS, dCl] rR (fun y => few y.2.1 ∧ sCheck y.1 y.2.1 = 0) (fun y => (sSend y.1 y.2.1 y.2.2.1, ()))
theorem good49 : GoodC Try.prog 49 c49 := by
  refine goodF cx15_good 3 _ _ _ _ ⟨_, Try.func49, rfl, rfl⟩ fun (⟨⟨nm, kd, sz, ot⟩, ⟨ow, ct, tm, hs, q, bf, cs, cl, vl⟩, ⟨tk, op, va, pr, nw⟩, _⟩ : ObT × OS × Cl × Unit) hn => ?_
  obtain ⟨⟨f1, f2, f3, f4⟩, hc⟩ := hn
  have hs0 : (bf.length : Int) ≤ sz := plain_size (valid_parts (check_valid hc).2).1
  simp only [qu, bu] at f2 f3
  refine (And.intro (by rfl) (And.intro True.intro (And.intro (fun h0 => (And.intro (by first | exact f2 | exact first_need hc (by assumption) | exact ⟨f2, Nat.zero_le _, first_need hc (by assumption)⟩ | (intros; (try subst_vars); (try simp only [Bool.cond_true_left, Bool.cond_false_right, Bool.or_eq_true, Bool.or_eq_false_iff, Bool.and_eq_true, Bool.not_eq_true', Bool.not_eq_false', decide_eq_true_eq, decide_eq_false_iff_not, Int.not_lt, Int.not_le] at *); (try simp only [inK, big, lim, List.length_cons, List.length_nil, List.length_append, List.length_drop, List.length_take, List.length_replicate] at *); omega)) (fun (h1 : ((Int × Int × Int × List Int × List (Int × Int × Int × Int × Int) × List Int × List (Int × List Int) × Bool × Int) ×     Bool × Int × Bool × List (Int × Int × Int × Bool × Int)) ×   PUnit) => (fun h2 => (fin_of rfl ?_))))) (fun h0 => (fun h3 => (And.intro (fun h4 => (And.intro (by first | exact f2 | exact first_need hc (by assumption) | exact ⟨f2, Nat.zero_le _, first_need hc (by assumption)⟩ | (intros; (try subst_vars); (try simp only [Bool.cond_true_left, Bool.cond_false_right, Bool.or_eq_true, Bool.or_eq_false_iff, Bool.and_eq_true, Bool.not_eq_true', Bool.not_eq_false', decide_eq_true_eq, decide_eq_false_iff_not, Int.not_lt, Int.not_le] at *); (try simp only [inK, big, lim, List.length_cons, List.length_nil, List.length_append, List.length_drop, List.length_take, List.length_replicate] at *); omega)) (fun (h5 : ((Int × Int × Int × List Int × List (Int × Int × Int × Int × Int) × List Int × List (Int × List Int) × Bool × Int) ×     Bool × Int × Bool × List (Int × Int × Int × Bool × Int)) ×   PUnit) => (fun h6 => (fin_of rfl ?_))))) (fun h4 => (And.intro (by rfl) (And.intro (by first | exact f2 | exact first_need hc (by assumption) | exact ⟨f2, Nat.zero_le _, first_need hc (by assumption)⟩ | (intros; (try subst_vars); (try simp only [Bool.cond_true_left, Bool.cond_false_right, Bool.or_eq_true, Bool.or_eq_false_iff, Bool.and_eq_true, Bool.not_eq_true', Bool.not_eq_false', decide_eq_true_eq, decide_eq_false_iff_not, Int.not_lt, Int.not_le] at *); (try simp only [inK, big, lim, List.length_cons, List.length_nil, List.length_append, List.length_drop, List.length_take, List.length_replicate] at *); omega)) (And.intro (by first | exact f2 | exact first_need hc (by assumption) | exact ⟨f2, Nat.zero_le _, first_need hc (by assumption)⟩ | (intros; (try subst_vars); (try simp only [Bool.cond_true_left, Bool.cond_false_right, Bool.or_eq_true, Bool.or_eq_false_iff, Bool.and_eq_true, Bool.not_eq_true', Bool.not_eq_false', decide_eq_true_eq, decide_eq_false_iff_not, Int.not_lt, Int.not_le] at *); (try simp only [inK, big, lim, List.length_cons, List.length_nil, List.length_append, List.length_drop, List.length_take, List.length_replicate] at *); omega)) (fin_of rfl ?_)))))))))))
  · subst h2
    have e : q.find? (isOp 65) = some (q.getD (firstAt (pFor 65 (-1)) q 0).toNat (dflt tW)) := (first_some hc (of_decide_eq_true h0)).1
    simp only [sSend, qu, e]
    rfl
  · subst h6
    have e : q.find? (isOp 65) = none := first_none hc (of_decide_eq_false h0)
    simp only [sSend, qu, bu, e]
    have h4' : (bf.length : Int) = sz := of_decide_eq_true h4
    rw [if_neg (by omega)]
  · have e : q.find? (isOp 65) = none := first_none hc (of_decide_eq_false h0)
    simp only [sSend, qu, bu, e]
    have h4' : ¬ (bf.length : Int) = sz := of_decide_eq_false h4
    rw [if_pos (by omega)]
def c50 : Ctr := fnC [dOS, dCl] rR (fun y => few y.1 ∧ ∃ o, sCheck o y.1 = 0) (fun y => (sRecv y.1 y.2.1, ()))
set_option maxHeartbeats 4000000 in
theorem good50 : GoodC Try.prog 50 c50 := by
  refine goodF cx15_good 3 _ _ _ _ ⟨_, Try.func50, rfl, rfl⟩ fun (⟨⟨ow, ct, tm, hs, q, bf, cs, cl, vl⟩, ⟨tk, op, va, pr, nw⟩, _⟩ : OS × Cl × Unit) hn => ?_
  obtain ⟨⟨f1, f2, f3, f4⟩, o, hc⟩ := hn
  simp only [qu, bu] at f2 f3
  refine (And.intro (by rfl) (And.intro True.intro (fun h0 => (And.intro (fun h1 => (And.intro (by first | exact f2 | exact first_need hc (by assumption) | exact ⟨f2, Nat.zero_le _, first_need hc (by assumption)⟩ | (intros; (try subst_vars); (try simp only [Bool.cond_true_left, Bool.cond_false_right, Bool.or_eq_true, Bool.or_eq_false_iff, Bool.and_eq_true, Bool.not_eq_true', Bool.not_eq_false', decide_eq_true_eq, decide_eq_false_iff_not, Int.not_lt, Int.not_le] at *); (try simp only [inK, big, lim, List.length_cons, List.length_nil, List.length_append, List.length_drop, List.length_take, List.length_replicate] at *); omega)) (And.intro (by first | exact f2 | exact first_need hc (by assumption) | exact ⟨f2, Nat.zero_le _, first_need hc (by assumption)⟩ | (intros; (try subst_vars); (try simp only [Bool.cond_true_left, Bool.cond_false_right, Bool.or_eq_true, Bool.or_eq_false_iff, Bool.and_eq_true, Bool.not_eq_true', Bool.not_eq_false', decide_eq_true_eq, decide_eq_false_iff_not, Int.not_lt, Int.not_le] at *); (try simp only [inK, big, lim, List.length_cons, List.length_nil, List.length_append, List.length_drop, List.length_take, List.length_replicate] at *); omega)) (And.intro (by first | exact f2 | exact first_need hc (by assumption) | exact ⟨f2, Nat.zero_le _, first_need hc (by assumption)⟩ | (intros; (try subst_vars); (try simp only [Bool.cond_true_left, Bool.cond_false_right, Bool.or_eq_true, Bool.or_eq_false_iff, Bool.and_eq_true, Bool.not_eq_true', Bool.not_eq_false', decide_eq_true_eq, decide_eq_false_iff_not, Int.not_lt, Int.not_le] at *); (try simp only [inK, big, lim, List.length_cons, List.length_nil, List.length_append, List.length_drop, List.length_take, List.length_replicate] at *); omega)) (And.intro (fun h2 => (And.intro (by rfl) (And.intro (by first | exact f2 | exact first_need hc (by assumption) | exact ⟨f2, Nat.zero_le _, first_need hc (by assumption)⟩ | (intros; (try subst_vars); (try simp only [Bool.cond_true_left, Bool.cond_false_right, Bool.or_eq_true, Bool.or_eq_false_iff, Bool.and_eq_true, Bool.not_eq_true', Bool.not_eq_false', decide_eq_true_eq, decide_eq_false_iff_not, Int.not_lt, Int.not_le] at *); (try simp only [inK, big, lim, List.length_cons, List.length_nil, List.length_append, List.length_drop, List.length_take, List.length_replicate] at *); omega)) (And.intro (by first | exact f2 | exact first_need hc (by assumption) | exact ⟨f2, Nat.zero_le _, first_need hc (by assumption)⟩ | (intros; (try subst_vars); (try simp only [Bool.cond_true_left, Bool.cond_false_right, Bool.or_eq_true, Bool.or_eq_false_iff, Bool.and_eq_true, Bool.not_eq_true', Bool.not_eq_false', decide_eq_true_eq, decide_eq_false_iff_not, Int.not_lt, Int.not_le] at *); (try simp only [inK, big, lim, List.length_cons, List.length_nil, List.length_append, List.length_drop, List.length_take, List.length_replicate] at *); omega)) (And.intro (by first | exact f2 | exact first_need hc (by assumption) | exact ⟨f2, Nat.zero_le _, first_need hc (by assumption)⟩ | (intros; (try subst_vars); (try simp only [Bool.cond_true_left, Bool.cond_false_right, Bool.or_eq_true, Bool.or_eq_false_iff, Bool.and_eq_true, Bool.not_eq_true', Bool.not_eq_false', decide_eq_true_eq, decide_eq_false_iff_not, Int.not_lt, Int.not_le] at *); (try simp only [inK, big, lim, List.length_cons, List.length_nil, List.length_append, List.length_drop, List.length_take, List.length_replicate] at *); omega)) (fun (h3 : ((Int × Int × Int × List Int × List (Int × Int × Int × Int × Int) × List Int × List (Int × List Int) × Bool × Int) ×     Bool × Int × Bool × List (Int × Int × Int × Bool × Int)) ×   PUnit) => (fun h4 => (fin_of rfl ?_)))))))) (fun h2 => (fin_of rfl ?_))))))) (fun h1 => (And.intro (fun h5 => (And.intro (by first | exact f2 | exact first_need hc (by assumption) | exact ⟨f2, Nat.zero_le _, first_need hc (by assumption)⟩ | (intros; (try subst_vars); (try simp only [Bool.cond_true_left, Bool.cond_false_right, Bool.or_eq_true, Bool.or_eq_false_iff, Bool.and_eq_true, Bool.not_eq_true', Bool.not_eq_false', decide_eq_true_eq, decide_eq_false_iff_not, Int.not_lt, Int.not_le] at *); (try simp only [inK, big, lim, List.length_cons, List.length_nil, List.length_append, List.length_drop, List.length_take, List.length_replicate] at *); omega)) (And.intro (by first | exact f2 | exact first_need hc (by assumption) | exact ⟨f2, Nat.zero_le _, first_need hc (by assumption)⟩ | (intros; (try subst_vars); (try simp only [Bool.cond_true_left, Bool.cond_false_right, Bool.or_eq_true, Bool.or_eq_false_iff, Bool.and_eq_true, Bool.not_eq_true', Bool.not_eq_false', decide_eq_true_eq, decide_eq_false_iff_not, Int.not_lt, Int.not_le] at *); (try simp only [inK, big, lim, List.length_cons, List.length_nil, List.length_append, List.length_drop, List.length_take, List.length_replicate] at *); omega)) (fun (h6 : ((Int × Int × Int × List Int × List (Int × Int × Int × Int × Int) × List Int × List (Int × List Int) × Bool × Int) ×     Bool × Int × Bool × List (Int × Int × Int × Bool × Int)) ×   PUnit) => (fun h7 => (fin_of rfl ?_)))))) (fun h5 => (And.intro (fun h8 => (fin_of rfl ?_)) (fun h8 => (And.intro (by first | exact f2 | exact first_need hc (by assumption) | exact ⟨f2, Nat.zero_le _, first_need hc (by assumption)⟩ | (intros; (try subst_vars); (try simp only [Bool.cond_true_left, Bool.cond_false_right, Bool.or_eq_true, Bool.or_eq_false_iff, Bool.and_eq_true, Bool.not_eq_true', Bool.not_eq_false', decide_eq_true_eq, decide_eq_false_iff_not, Int.not_lt, Int.not_le] at *); (try simp only [inK, big, lim, List.length_cons, List.length_nil, List.length_append, List.length_drop, List.length_take, List.length_replicate] at *); omega)) (fun (h9 : ((Int × Int × Int × List Int × List (Int × Int × Int × Int × Int) × List Int × List (Int × List Int) × Bool × Int) ×     Bool × Int × Bool × List (Int × Int × Int × Bool × Int)) ×   PUnit) => (fun h10 => (fin_of rfl ?_)))))))))))))
  · subst h4
    have e : q.find? (isOp 64) = some (q.getD (firstAt (pFor 64 (-1)) q 0).toNat (dflt tW)) := (first_some hc (of_decide_eq_true h2)).1
    cases bf with
    | nil => simp at h1
    | cons v b =>
      simp only [sRecv, qu, bu, e]
      rfl
  · have e : q.find? (isOp 64) = none := first_none hc (of_decide_eq_false h2)
    cases bf with
    | nil => simp at h1
    | cons v b =>
      simp only [sRecv, qu, bu, e]
      rfl
  · subst h7
    have e : q.find? (isOp 64) = some (q.getD (firstAt (pFor 64 (-1)) q 0).toNat (dflt tW)) := (first_some hc (of_decide_eq_true h5)).1
    cases bf with
    | nil =>
      simp only [sRecv, qu, bu, e]
      rfl
    | cons v b => simp at h1
  · have e : q.find? (isOp 64) = none := first_none hc (of_decide_eq_false h5)
    have h8' : cl = true := h8
    cases bf with
    | nil =>
      simp only [sRecv, qu, bu, clo, e, h8']
      rfl
    | cons v b => simp at h1
  · subst h10
    have e : q.find? (isOp 64) = none := first_none hc (of_decide_eq_false h5)
    have h8' : cl = false := h8
    cases bf with
    | nil =>
      simp only [sRecv, qu, bu, clo, e, h8']
      rfl
    | cons v b => simp at h1
end Go.Proofs.Ytnaejponobbahaa
