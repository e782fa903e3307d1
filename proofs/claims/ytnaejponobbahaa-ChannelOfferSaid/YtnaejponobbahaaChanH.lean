/- Channel: the reference's Apply, as a contract. -/
import Derived.Test.YtnaejponobbahaaChanG
set_option linter.unusedSimpArgs false
set_option linter.unusedVariables false
set_option maxRecDepth 100000
namespace Go.Proofs.Ytnaejponobbahaa
open Go.Sx

def cx15 : Ctx := ⟨tys0, (51, ([], c51)) :: (72, ([], c72)) :: (48, ([], c48)) :: cx14.tab⟩
theorem cx15_good : GoodCtx Try.prog cx15 := cx_cons good51 (cx_cons good72 (cx_cons good48 cx14_good))
def c49 : Ctr := fnC [dObj, dOS, dCl] rR (fun y => few y.2.1 ∧ sCheck y.1 y.2.1 = 0) (fun y => (sSend y.1 y.2.1 y.2.2.1, ()))
theorem good49 : GoodC Try.prog 49 c49 := by
  refine goodF cx15_good 3 _ _ _ _ ⟨_, Try.func49, rfl, rfl⟩ fun (⟨⟨nm, kd, sz, ot⟩, ⟨ow, ct, tm, hs, q, bf, cs, cl, vl⟩, ⟨tk, op, va, pr, nw⟩, _⟩ : ObT × OS × Cl × Unit) hn => ?_
  obtain ⟨⟨f1, f2, f3, f4⟩, hc⟩ := hn
  have hs0 : (bf.length : Int) ≤ sz := plain_size (valid_parts (check_valid hc).2).1
  simp only [qu, bu] at f2 f3
  refine (And.intro (by rfl) (And.intro True.intro (And.intro (fun h0 => (And.intro (by first | exact f2 | exact first_need hc (by assumption) | exact ⟨f2, Nat.zero_le _, first_need hc (by assumption)⟩ | (intros; (try subst_vars); (try simp only [Bool.cond_true_left, Bool.cond_false_right, Bool.or_eq_true, Bool.or_eq_false_iff, Bool.and_eq_true, Bool.not_eq_true', Bool.not_eq_false', decide_eq_true_eq, decide_eq_false_iff_not, Int.not_lt, Int.not_le] at *); (try simp only [inK, big, lim, List.length_cons, List.length_nil, List.length_append, List.length_drop, List.length_take, List.length_replicate] at *); omega)) (fun (h1 : ((Int × Int × Int × List Int × List (Int × Int × Int × Int × Int) × List Int × List (Int × List Int) × Bool × Int) ×     Bool × Int × Bool × List (Int × Int × Int × Bool × Int)) ×   PUnit) => (fun h2 => (fin_of rfl ?_))))) (fun h0 => (fun h3 => (And.intro (fun h4 => (And.intro (by first | exact f2 | exact first_need hc (by assumption) | exact ⟨f2, Nat.zero_le _, first_need hc (by assumption)⟩ | (intros; (try subst_vars); (try simp only [Bool.cond_true_left, Bool.cond_false_right, Bool.or_eq_true, Bool.or_eq_false_iff, Bool.and_eq_true, Bool.not_eq_true', Bool.not_eq_false', decide_eq_true_eq, decide_eq_false_iff_not, Int.not_lt, Int.not_le] at *); (try simp only [inK, big, lim, List.length_cons, List.length_nil, List.length_append, List.length_drop, List.length_take, List.length_replicate] at *); omega)) (fun (h5 : ((Int × Int × Int × List Int × List (Int × Int × Int × Int × Int) × List Int × List (Int × List Int) × Bool × Int) ×     Bool × Int × Bool × List (Int × Int × Int × Bool × Int)) ×   PUnit) => (fun h6 => (fin_of rfl ?_))))) (fun h4 => (And.intro (by rfl) (And.intro (by first | exact f2 | exact first_need hc (by assumption) | exact ⟨f2, Nat.zero_le _, first_need hc (by assumption)⟩ | (intros; (try subst_vars); (try simp only [Bool.cond_true_left, Bool.cond_false_right, Bool.or_eq_true, Bool.or_eq_false_iff, Bool.and_eq_true, Bool.not_eq_true', Bool.not_eq_false', decide_eq_true_eq, decide_eq_false_iff_not, Int.not_lt, Int.not_le] at *); (try simp only [inK, big, lim, List.length_cons, List.length_nil, List.length_append, List.length_drop, List.length_take, List.length_replicate] at *); omega)) (And.intro (by first | exact f2 | exact first_need hc (by assumption) | exact ⟨f2, Nat.zero_le _, first_need hc (by assumption)⟩ | (intros; (try subst_vars); (try simp only [Bool.cond_true_left, Bool.cond_false_right, Bool.or_eq_true, Bool.or_eq_false_iff, Bool.and_eq_true, Bool.not_eq_true', Bool.not_eq_false', decide_eq_true_eq, decide_eq_false_iff_not, Int.not_lt, Int.not_le] at *); (try simp only [inK, big, lim, List.length_cons, List.length_nil, List.length_append, List.length_drop, List.length_take, List.length_replicate] at *); omega)) (fin_of rfl ?_)))))))))))
  · subst h2
    have e : q.find? (isOp 65) = some (q.getD (firstAt (pFor 65 (-1)) q 0).toNat (dflt tW)) := (first_some hc (of_decide_eq_true h0)).1
    simp only [sSend, qu, e]
    rfl
  · subst h6
    have e : q.find? (isOp 65) = none := first_none hc (of_decide_eq_false h0)
    simp only [sSend, qu, bu, e]
    have h4' : (bf.length : Int) = sz := of_decide_eq_true h4
    rw [if_neg (by omega)]
  · have e : q.find? (isOp 65) = none := first_none hc (of_decide_eq_false h0)
    simp only [sSend, qu, bu, e]
    have h4' : ¬ (bf.length : Int) = sz := of_decide_eq_false h4
    rw [if_pos (by omega)]
def c50 : Ctr := fnC [dOS, dCl] rR (fun y => few y.1 ∧ ∃ o, sCheck o y.1 = 0) (fun y => (sRecv y.1 y.2.1, ()))
set_option maxHeartbeats 4000000 in
theorem good50 : GoodC Try.prog 50 c50 := by
  refine goodF cx15_good 3 _ _ _ _ ⟨_, Try.func50, rfl, rfl⟩ fun (⟨⟨ow, ct, tm, hs, q, bf, cs, cl, vl⟩, ⟨tk, op, va, pr, nw⟩, _⟩ : OS × Cl × Unit) hn => ?_
  obtain ⟨⟨f1, f2, f3, f4⟩, o, hc⟩ := hn
  simp only [qu, bu] at f2 f3
  refine (And.intro (by rfl) (And.intro True.intro (fun h0 => (And.intro (fun h1 => (And.intro (by first | exact f2 | exact first_need hc (by assumption) | exact ⟨f2, Nat.zero_le _, first_need hc (by assumption)⟩ | (intros; (try subst_vars); (try simp only [Bool.cond_true_left, Bool.cond_false_right, Bool.or_eq_true, Bool.or_eq_false_iff, Bool.and_eq_true, Bool.not_eq_true', Bool.not_eq_false', decide_eq_true_eq, decide_eq_false_iff_not, Int.not_lt, Int.not_le] at *); (try simp only [inK, big, lim, List.length_cons, List.length_nil, List.length_append, List.length_drop, List.length_take, List.length_replicate] at *); omega)) (And.intro (by first | exact f2 | exact first_need hc (by assumption) | exact ⟨f2, Nat.zero_le _, first_need hc (by assumption)⟩ | (intros; (try subst_vars); (try simp only [Bool.cond_true_left, Bool.cond_false_right, Bool.or_eq_true, Bool.or_eq_false_iff, Bool.and_eq_true, Bool.not_eq_true', Bool.not_eq_false', decide_eq_true_eq, decide_eq_false_iff_not, Int.not_lt, Int.not_le] at *); (try simp only [inK, big, lim, List.length_cons, List.length_nil, List.length_append, List.length_drop, List.length_take, List.length_replicate] at *); omega)) (And.intro (by first | exact f2 | exact first_need hc (by assumption) | exact ⟨f2, Nat.zero_le _, first_need hc (by assumption)⟩ | (intros; (try subst_vars); (try simp only [Bool.cond_true_left, Bool.cond_false_right, Bool.or_eq_true, Bool.or_eq_false_iff, Bool.and_eq_true, Bool.not_eq_true', Bool.not_eq_false', decide_eq_true_eq, decide_eq_false_iff_not, Int.not_lt, Int.not_le] at *); (try simp only [inK, big, lim, List.length_cons, List.length_nil, List.length_append, List.length_drop, List.length_take, List.length_replicate] at *); omega)) (And.intro (fun h2 => (And.intro (by rfl) (And.intro (by first | exact f2 | exact first_need hc (by assumption) | exact ⟨f2, Nat.zero_le _, first_need hc (by assumption)⟩ | (intros; (try subst_vars); (try simp only [Bool.cond_true_left, Bool.cond_false_right, Bool.or_eq_true, Bool.or_eq_false_iff, Bool.and_eq_true, Bool.not_eq_true', Bool.not_eq_false', decide_eq_true_eq, decide_eq_false_iff_not, Int.not_lt, Int.not_le] at *); (try simp only [inK, big, lim, List.length_cons, List.length_nil, List.length_append, List.length_drop, List.length_take, List.length_replicate] at *); omega)) (And.intro (by first | exact f2 | exact first_need hc (by assumption) | exact ⟨f2, Nat.zero_le _, first_need hc (by assumption)⟩ | (intros; (try subst_vars); (try simp only [Bool.cond_true_left, Bool.cond_false_right, Bool.or_eq_true, Bool.or_eq_false_iff, Bool.and_eq_true, Bool.not_eq_true', Bool.not_eq_false', decide_eq_true_eq, decide_eq_false_iff_not, Int.not_lt, Int.not_le] at *); (try simp only [inK, big, lim, List.length_cons, List.length_nil, List.length_append, List.length_drop, List.length_take, List.length_replicate] at *); omega)) (And.intro (by first | exact f2 | exact first_need hc (by assumption) | exact ⟨f2, Nat.zero_le _, first_need hc (by assumption)⟩ | (intros; (try subst_vars); (try simp only [Bool.cond_true_left, Bool.cond_false_right, Bool.or_eq_true, Bool.or_eq_false_iff, Bool.and_eq_true, Bool.not_eq_true', Bool.not_eq_false', decide_eq_true_eq, decide_eq_false_iff_not, Int.not_lt, Int.not_le] at *); (try simp only [inK, big, lim, List.length_cons, List.length_nil, List.length_append, List.length_drop, List.length_take, List.length_replicate] at *); omega)) (fun (h3 : ((Int × Int × Int × List Int × List (Int × Int × Int × Int × Int) × List Int × List (Int × List Int) × Bool × Int) ×     Bool × Int × Bool × List (Int × Int × Int × Bool × Int)) ×   PUnit) => (fun h4 => (fin_of rfl ?_)))))))) (fun h2 => (fin_of rfl ?_))))))) (fun h1 => (And.intro (fun h5 => (And.intro (by first | exact f2 | exact first_need hc (by assumption) | exact ⟨f2, Nat.zero_le _, first_need hc (by assumption)⟩ | (intros; (try subst_vars); (try simp only [Bool.cond_true_left, Bool.cond_false_right, Bool.or_eq_true, Bool.or_eq_false_iff, Bool.and_eq_true, Bool.not_eq_true', Bool.not_eq_false', decide_eq_true_eq, decide_eq_false_iff_not, Int.not_lt, Int.not_le] at *); (try simp only [inK, big, lim, List.length_cons, List.length_nil, List.length_append, List.length_drop, List.length_take, List.length_replicate] at *); omega)) (And.intro (by first | exact f2 | exact first_need hc (by assumption) | exact ⟨f2, Nat.zero_le _, first_need hc (by assumption)⟩ | (intros; (try subst_vars); (try simp only [Bool.cond_true_left, Bool.cond_false_right, Bool.or_eq_true, Bool.or_eq_false_iff, Bool.and_eq_true, Bool.not_eq_true', Bool.not_eq_false', decide_eq_true_eq, decide_eq_false_iff_not, Int.not_lt, Int.not_le] at *); (try simp only [inK, big, lim, List.length_cons, List.length_nil, List.length_append, List.length_drop, List.length_take, List.length_replicate] at *); omega)) (fun (h6 : ((Int × Int × Int × List Int × List (Int × Int × Int × Int × Int) × List Int × List (Int × List Int) × Bool × Int) ×     Bool × Int × Bool × List (Int × Int × Int × Bool × Int)) ×   PUnit) => (fun h7 => (fin_of rfl ?_)))))) (fun h5 => (And.intro (fun h8 => (fin_of rfl ?_)) (fun h8 => (And.intro (by first | exact f2 | exact first_need hc (by assumption) | exact ⟨f2, Nat.zero_le _, first_need hc (by assumption)⟩ | (intros; (try subst_vars); (try simp only [Bool.cond_true_left, Bool.cond_false_right, Bool.or_eq_true, Bool.or_eq_false_iff, Bool.and_eq_true, Bool.not_eq_true', Bool.not_eq_false', decide_eq_true_eq, decide_eq_false_iff_not, Int.not_lt, Int.not_le] at *); (try simp only [inK, big, lim, List.length_cons, List.length_nil, List.length_append, List.length_drop, List.length_take, List.length_replicate] at *); omega)) (fun (h9 : ((Int × Int × Int × List Int × List (Int × Int × Int × Int × Int) × List Int × List (Int × List Int) × Bool × Int) ×     Bool × Int × Bool × List (Int × Int × Int × Bool × Int)) ×   PUnit) => (fun h10 => (fin_of rfl ?_)))))))))))))
  · subst h4
    have e : q.find? (isOp 64) = some (q.getD (firstAt (pFor 64 (-1)) q 0).toNat (dflt tW)) := (first_some hc (of_decide_eq_true h2)).1
    cases bf with
    | nil => simp at h1
    | cons v b =>
      simp only [sRecv, qu, bu, e]
      rfl
  · have e : q.find? (isOp 64) = none := first_none hc (of_decide_eq_false h2)
    cases bf with
    | nil => simp at h1
    | cons v b =>
      simp only [sRecv, qu, bu, e]
      rfl
  · subst h7
    have e : q.find? (isOp 64) = some (q.getD (firstAt (pFor 64 (-1)) q 0).toNat (dflt tW)) := (first_some hc (of_decide_eq_true h5)).1
    cases bf with
    | nil =>
      simp only [sRecv, qu, bu, e]
      rfl
    | cons v b => simp at h1
  · have e : q.find? (isOp 64) = none := first_none hc (of_decide_eq_false h5)
    have h8' : cl = true := h8
    cases bf with
    | nil =>
      simp only [sRecv, qu, bu, clo, e, h8']
      rfl
    | cons v b => simp at h1
  · subst h10
    have e : q.find? (isOp 64) = none := first_none hc (of_decide_eq_false h5)
    have h8' : cl = false := h8
    cases bf with
    | nil =>
      simp only [sRecv, qu, bu, clo, e, h8']
      rfl
    | cons v b => simp at h1
end Go.Proofs.Ytnaejponobbahaa
