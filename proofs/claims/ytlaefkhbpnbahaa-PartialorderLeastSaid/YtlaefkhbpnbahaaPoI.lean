/- Partial orders: comparing lists, and the example. -/
import Derived.Test.YtlaefkhbpnbahaaPoH
set_option linter.unusedSimpArgs false
set_option linter.unusedVariables false
set_option maxRecDepth 100000
namespace Go.Proofs.Ytlaefkhbpnbahaa
open Go.Sx

def cxS : Ctx := ⟨tys0, [(35, ([], c35)), (23, ([], c23))]⟩
theorem cxS_good : GoodCtx Try.prog cxS := cx_cons good35 (cx_cons good23 cx0_good)
def c16 : Ctr := fnC [dIss, dIss] rB (fun _ => True) (fun y => (decide (y.1 = y.2.1), ()))
theorem good16 : GoodC Try.prog 16 c16 := by
  refine goodF cxS_good 4 _ _ _ _ ⟨_, Try.func16, rfl, rfl⟩ fun (⟨xs, ys, _⟩ : List (List Int) × List (List Int) × Unit) _ => ?_
  refine (And.intro (by first | kernel_rfl | rfl) (fun h0 => (fun h1 => (And.intro (fun h2 => (fin_of rfl ?_)) (fun h2 => ?_)))))
  · have h2' : (!decide ((xs.length : Int) = ys.length)) = true := h2
    have e : ¬ xs = ys := by rintro rfl; simp at h2'
    show (decide (xs = ys), ()) = (false, ())
    rw [decide_eq_false e]
  have h2' : (!decide ((xs.length : Int) = ys.length)) = false := h2
  have hl : xs.length = ys.length := by
    have := of_decide_eq_true (Bool.not_eq_false' .. ▸ h2')
    omega
  refine ex4 _ (fun i : Nat => ⟨[.sl tIs xs, .sl tIs ys, .any, .any, .any, .int .i64 (i : Int), .any, .any, .any, .any, .any, .any, .any, .any, .any, .any, .any, .any, .any, .any, .any, .any, .any, .any, .any, .any, .any], [], 0⟩) (fun i => i ≤ xs.length ∧ xs.take i = ys.take i) (fun i => xs.length - i) (And.intro (Exists.intro (0) (Exists.intro ([]) (And.intro ?_ (And.intro (by rfl) (And.intro (by rfl) (And.intro True.intro (by rfl))))))) ?_)
  · exact ⟨Nat.zero_le _, by simp⟩
  rintro i ⟨hi, ht⟩
  refine (fun k0 => (And.intro (fun k1 => (And.intro (by first | kernel_rfl | rfl) (And.intro (by intros; (try subst_vars); (try simp only [Bool.cond_true_left, Bool.cond_false_right, Bool.or_eq_true, Bool.or_eq_false_iff, Bool.and_eq_true, Bool.not_eq_true', Bool.not_eq_false', decide_eq_true_eq, decide_eq_false_iff_not, Int.not_lt, Int.not_le] at *); (try simp only [inK, big, lim, List.length_cons, List.length_nil, List.length_append, List.length_drop, List.length_take, List.length_replicate] at *); omega) (And.intro (by intros; (try subst_vars); (try simp only [Bool.cond_true_left, Bool.cond_false_right, Bool.or_eq_true, Bool.or_eq_false_iff, Bool.and_eq_true, Bool.not_eq_true', Bool.not_eq_false', decide_eq_true_eq, decide_eq_false_iff_not, Int.not_lt, Int.not_le] at *); (try simp only [inK, big, lim, List.length_cons, List.length_nil, List.length_append, List.length_drop, List.length_take, List.length_replicate] at *); omega) (And.intro True.intro (And.intro (fun k2 => (fin_of rfl ?_)) (fun k2 => (And.intro (by intros; (try subst_vars); (try simp only [Bool.cond_true_left, Bool.cond_false_right, Bool.or_eq_true, Bool.or_eq_false_iff, Bool.and_eq_true, Bool.not_eq_true', Bool.not_eq_false', decide_eq_true_eq, decide_eq_false_iff_not, Int.not_lt, Int.not_le] at *); (try simp only [inK, big, lim, List.length_cons, List.length_nil, List.length_append, List.length_drop, List.length_take, List.length_replicate] at *); omega) ?_)))))))) (fun k1 => (fin_of rfl ?_))))
  · have hi' : i < xs.length := by simpa using k1
    have k2' : (!decide (xs.getD i (dflt tIs) = ys.getD i (dflt tIs))) = true := k2
    have e : ¬ xs = ys := by rintro rfl; simp at k2'
    show (decide (xs = ys), ()) = (false, ())
    rw [decide_eq_false e]
  · have hi' : i < xs.length := by simpa using k1
    have k2' : (!decide (xs.getD i (dflt tIs) = ys.getD i (dflt tIs))) = false := k2
    refine Exists.intro (i + 1) (Exists.intro ([]) (And.intro ?_ (And.intro ?_ (And.intro (by rfl) (And.intro (by rfl) (And.intro True.intro (by rfl)))))))
    · exact ⟨hi', take_ext_succ (d := dflt tIs) hi' (by omega) ht (by simpa using k2')⟩
    · show xs.length - (i + 1) < xs.length - i
      omega
  · have hi' : ¬ i < xs.length := by simpa using k1
    rw [List.take_of_length_le (by omega), List.take_of_length_le (by omega)] at ht
    show (decide (xs = ys), ()) = (true, ())
    rw [decide_eq_true ht]
def hasF (l : List Ed) (e : Ed) : Bool := l.any fun p => decide (p.1 = e.1) && decide (p.2 = e.2)
def c19 : Ctr := fnC [dEs, dEs] rB (fun _ => True) (fun y => (y.1.all (hasF y.2.1), ()))
theorem good19 : GoodC Try.prog 19 c19 := by
  refine goodF cxS_good 4 _ _ _ _ ⟨_, Try.func19, rfl, rfl⟩ fun (⟨xs, ys, _⟩ : List Ed × List Ed × Unit) _ => ?_
  refine (And.intro (by first | kernel_rfl | rfl) (fun h0 => ?_))
  refine ex4 _ (fun i : Nat => ⟨[.sl tE xs, .sl tE ys, .any, .any, .any, .any, .any, .sl tE xs, .int .i64 (↑xs.length : Int), .int .i64 (i : Int), .any, .any, .any, .any, .any, .any, .any, .any, .any, .any, .any], [], 0⟩) (fun i => i ≤ xs.length ∧ (xs.take i).any (fun e => !hasF ys e) = false) (fun i => xs.length - i) (And.intro (Exists.intro (0) (Exists.intro ([]) (And.intro ?_ (And.intro (by rfl) (And.intro (by rfl) (And.intro True.intro (by rfl))))))) ?_)
  · exact ⟨Nat.zero_le _, by simp⟩
  rintro i ⟨hi, ht⟩
  refine (And.intro (fun k0 => (And.intro (by intros; (try subst_vars); (try simp only [Bool.cond_true_left, Bool.cond_false_right, Bool.or_eq_true, Bool.or_eq_false_iff, Bool.and_eq_true, Bool.not_eq_true', Bool.not_eq_false', decide_eq_true_eq, decide_eq_false_iff_not, Int.not_lt, Int.not_le] at *); (try simp only [inK, big, lim, List.length_cons, List.length_nil, List.length_append, List.length_drop, List.length_take, List.length_replicate] at *); omega) (And.intro True.intro (And.intro (fun k1 => (fin_of rfl ?_)) (fun k1 => (And.intro (by intros; (try subst_vars); (try simp only [Bool.cond_true_left, Bool.cond_false_right, Bool.or_eq_true, Bool.or_eq_false_iff, Bool.and_eq_true, Bool.not_eq_true', Bool.not_eq_false', decide_eq_true_eq, decide_eq_false_iff_not, Int.not_lt, Int.not_le] at *); (try simp only [inK, big, lim, List.length_cons, List.length_nil, List.length_append, List.length_drop, List.length_take, List.length_replicate] at *); omega) ?_)))))) (fun k0 => (fin_of rfl ?_)))
  · have hi' : i < xs.length := by simpa using k0
    have k1' : (!hasF ys (xs.getD i (dflt tE))) = true := k1
    have e := any_hit (p := fun e => !hasF ys e) hi' k1'
    have e2 : xs.all (hasF ys) = false := by rw [List.all_eq_not_any_not, e]; rfl
    show (xs.all (hasF ys), ()) = (false, ())
    rw [e2]
  · have hi' : i < xs.length := by simpa using k0
    have k1' : (!hasF ys (xs.getD i (dflt tE))) = false := k1
    refine Exists.intro (i + 1) (Exists.intro ([]) (And.intro ?_ (And.intro ?_ (And.intro (by rfl) (And.intro (by rfl) (And.intro True.intro (by rfl)))))))
    · exact ⟨hi', any_next hi' ht k1'⟩
    · show xs.length - (i + 1) < xs.length - i
      omega
  · have hi' : ¬ i < xs.length := by simpa using k0
    have e := any_end (p := fun e => !hasF ys e) hi' ht
    have e2 : xs.all (hasF ys) = true := by rw [List.all_eq_not_any_not, e]; rfl
    show (xs.all (hasF ys), ()) = (true, ())
    rw [e2]
end Go.Proofs.Ytlaefkhbpnbahaa
