/- Stages: the law of steps. -/
import Derived.Test.YticmijfmgmkkcaaGreatVt
import Derived.Test.YticmijfmgmkkcaaGreatVZo
set_option linter.unusedSimpArgs false
set_option linter.unusedVariables false
set_option maxRecDepth 100000
namespace Go.Proofs.YticmijfmgmkkcaaGreat
open Go.Sx

def c15 : Ctr := fnC [dIs, dIs] rB (fun _ => True) (fun y => (decide (y.1 = y.2.1), ()))
theorem good15 : GoodC Tryz.prog 15 c15 := by
  refine goodF cx0_good 3 _ _ _ _ ⟨_, Tryz.func15, rfl, rfl⟩ fun (⟨xs, ys, _⟩ : List Int × List Int × Unit) _ => ?_
  refine (And.intro (by first | kernel_rfl | rfl) (fun h0 => (fun h1 => (And.intro (fun h2 => (fin_of rfl ?_)) (fun h2 => (fun h3 => ?_))))))
  · have hl : xs ≠ ys := fun e => by
      have h : (!decide ((xs.length : Int) = (ys.length : Int))) = true := h2
      rw [e] at h; simp at h
    show (decide (xs = ys), ()) = (false, ())
    rw [decide_eq_false hl]
  have hl : xs.length = ys.length := by
    have h : (!decide ((xs.length : Int) = (ys.length : Int))) = false := h2
    have : (xs.length : Int) = ys.length := by simpa using h
    omega
  refine ex4 _ (fun i : Nat => ⟨[.sl (.int .i64) xs, .sl (.int .i64) ys, .any, .any, .any, .any, .any, .any, .any, .any, .any, .sl (.int .i64) xs, .int .i64 (↑xs.length : Int), .int .i64 (i : Int), .any, .any, .any, .any, .any, .any, .any, .any, .any, .any, .any, .any], [], 0⟩) (fun i => i ≤ xs.length ∧ xs.take i = ys.take i) (fun i => xs.length - i) (And.intro (Exists.intro (0) (Exists.intro ([]) (And.intro ?_ (And.intro (by rfl) (And.intro (by rfl) (And.intro True.intro (by rfl))))))) ?_)
  · simp
  rintro i ⟨hi, ht⟩
  refine (And.intro (fun k0 => (And.intro (by first | kernel_rfl | rfl) (And.intro (by intros; (try subst_vars); (try simp only [Bool.cond_true_left, Bool.cond_false_right, Bool.or_eq_true, Bool.or_eq_false_iff, Bool.and_eq_true, Bool.not_eq_true', Bool.not_eq_false', decide_eq_true_eq, decide_eq_false_iff_not, Int.not_lt, Int.not_le] at *); (try simp only [inK, big, lim, List.length_cons, List.length_nil, List.length_append, List.length_drop, List.length_take, List.length_replicate] at *); omega) (And.intro (by intros; (try subst_vars); (try simp only [Bool.cond_true_left, Bool.cond_false_right, Bool.or_eq_true, Bool.or_eq_false_iff, Bool.and_eq_true, Bool.not_eq_true', Bool.not_eq_false', decide_eq_true_eq, decide_eq_false_iff_not, Int.not_lt, Int.not_le] at *); (try simp only [inK, big, lim, List.length_cons, List.length_nil, List.length_append, List.length_drop, List.length_take, List.length_replicate] at *); omega) (And.intro (fun k1 => (fin_of rfl ?_)) (fun k1 => (And.intro (by intros; (try subst_vars); (try simp only [Bool.cond_true_left, Bool.cond_false_right, Bool.or_eq_true, Bool.or_eq_false_iff, Bool.and_eq_true, Bool.not_eq_true', Bool.not_eq_false', decide_eq_true_eq, decide_eq_false_iff_not, Int.not_lt, Int.not_le] at *); (try simp only [inK, big, lim, List.length_cons, List.length_nil, List.length_append, List.length_drop, List.length_take, List.length_replicate] at *); omega) ?_))))))) (fun k0 => (fin_of rfl ?_)))
  · have hi' : i < xs.length := by simpa using k0
    have hk : ¬ xs.getD i (dflt tI) = ys.getD i (dflt tI) := by have h := k1; simpa using h
    have hne : xs ≠ ys := fun e => hk (by rw [e])
    show (decide (xs = ys), ()) = (false, ())
    rw [decide_eq_false hne]
  · have hi' : i < xs.length := by simpa using k0
    have hk : xs.getD i (dflt tI) = ys.getD i (dflt tI) := by have h := k1; simpa using h
    refine Exists.intro (i + 1) (Exists.intro ([]) (And.intro ?_ (And.intro ?_ (And.intro (by rfl) (And.intro (by rfl) (And.intro True.intro (by rfl)))))))
    · exact ⟨hi', take_ext_next hi' (hl ▸ hi') ht hk⟩
    · show xs.length - (i + 1) < xs.length - i
      omega
  · have hi' : ¬ i < xs.length := by simpa using k0
    have he : xs = ys := by
      rw [List.take_of_length_le (by omega), List.take_of_length_le (by omega)] at ht
      exact ht
    show (decide (xs = ys), ()) = (true, ())
    rw [decide_eq_true he]
def sameS (a b : SST) : Bool := bif bif decide (a.1 = b.1) then decide (a.2.1 = b.2.1) else false then (a.2.2 == b.2.2) else false
def cxF36 : Ctx := ⟨tys0, [(47, ([], c47))]⟩
theorem cxF36_good : GoodCtx Tryz.prog cxF36 := cx_cons good47 cx0_good
def c36 : Ctr := fnC [dSS, dSS] rB (fun _ => True) (fun y => (sameS y.1 y.2.1, ()))
theorem good36 : GoodC Tryz.prog 36 c36 := by
  refine goodF cxF36_good 3 _ _ _ _ ⟨_, Tryz.func36, rfl, rfl⟩ fun (⟨⟨a, c, b⟩, ⟨a', c', b'⟩, _⟩ : SST × SST × Unit) _ => ?_
  refine (And.intro (by first | kernel_rfl | rfl) (And.intro True.intro (fin_of rfl (by rfl))))
theorem same_refl (a : SST) : sameS a a = true := by
  unfold sameS
  rw [decide_eq_true rfl, decide_eq_true rfl]
  cases a.2.2 <;> rfl
def cxF10 : Ctx := ⟨tysO, [(29, ([], c29)), (12, ([], c12)), (31, ([], c31)), (33, ([], c33)), (30, ([], c30)), (34, ([], c34)), (32, ([], c32)), (35, ([], c35)), (15, ([], c15)), (36, ([], c36)), (14, ([], c14))]⟩
theorem cxF10_good : GoodCtx Tryz.prog cxF10 := cx_ty (cx_cons good29 (cx_cons good12 (cx_cons good31 (cx_cons good33 (cx_cons good30 (cx_cons good34 (cx_cons good32 (cx_cons good35 (cx_cons good15 (cx_cons good36 (cx_cons good14 cx0_good)))))))))))
set_option maxHeartbeats 8000000 in
theorem law10 : LawOk Tryz.prog 10 [tSt, tSS, tI, tI] [true, true, false, false] := by
  refine ⟨cxF10, 3, cxF10_good, fun (⟨⟨k, z, ⟨ek, eo, em, ev, ea⟩, l⟩, ⟨hd, c, en⟩, i, n, _⟩ : StT × SST × Int × Int × Unit) fine => ?_⟩
  refine (And.intro (by first | kernel_rfl | rfl) (And.intro True.intro (fun h0 => (And.intro (fun h1 => (And.intro True.intro (fin_of rfl ?_))) (fun h1 => (And.intro True.intro (fun (h2 : List Int × Int × PUnit) => (fun h3 => (And.intro True.intro (fun (h4 : List Int × Int × PUnit) => (fun h5 => (And.intro True.intro (fun (h6 : (List Int × Int × Bool) × List (List Int) × Int × PUnit) => (fun h7 => (And.intro True.intro (fun (h8 : (List Int × Int × Bool) × List (List Int) × Int × PUnit) => (fun h9 => (And.intro True.intro (fun (h10 : (List Int × Int × Bool) × List (List Int) × Bool × Int × PUnit) => (fun h11 => (And.intro True.intro (fun (h12 : (List Int × Int × Bool) × List (List Int) × Bool × Int × PUnit) => (fun h13 => (And.intro True.intro (And.intro (fun h14 => True.intro) (And.intro (fun h15 => True.intro) (And.intro (fun h16 => True.intro) (And.intro (fun h17 => True.intro) (And.intro (fun h18 => True.intro) (fin_of rfl ?_))))))))))))))))))))))))))))))
  · rfl
  · have e1 : h2 = h4 := h3.trans h5.symm
    have e2 : h6 = h8 := h7.trans h9.symm
    have e3 : h10 = h12 := h11.trans h13.symm
    subst e1
    subst e2
    subst e3
    simp [same_refl]
end Go.Proofs.YticmijfmgmkkcaaGreat
