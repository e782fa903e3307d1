/- Partial orders: the laws Extensions, Meet and Linear. -/
import Derived.Test.YtlaefkhbpnbahaaPoM3
import Derived.Test.YtlaefkhbpnbahaaPoM2
set_option linter.unusedSimpArgs false
set_option linter.unusedVariables false
set_option maxRecDepth 100000
namespace Go.Proofs.Ytlaefkhbpnbahaa
open Go.Sx
def cxE3 : Ctx := ⟨tys0, [(12, ([], c12)), (13, ([], c13)), (14, ([], c14)), (15, ([], c15)), (16, ([], c16))]⟩
theorem cxE3_good : GoodCtx Try.prog cxE3 := cx_cons good12 (cx_cons good13 (cx_cons good14 (cx_cons good15 (cx_cons good16 cx0_good))))
set_option maxHeartbeats 4000000 in
theorem law3 : LawOk Try.prog 3 [tI, tEs, tI] [false, false, false] := by
  refine ⟨cxE3, 3, cxE3_good, fun (⟨n, l, m, _⟩ : Int × List Ed × Int × Unit) fine => ?_⟩
  refine (And.intro (by first | kernel_rfl | rfl) (And.intro True.intro (And.intro (fun h0 => (And.intro True.intro (fin_of rfl (by first | rfl | (subst_vars; simp; done))))) (fun h0 => (And.intro True.intro (fun (h1 : List (List Int) × Int × PUnit) => (fun h2 => (And.intro True.intro (fun (h3 : List (List Int) × Int × PUnit) => (fun h4 => (And.intro True.intro (And.intro (fun h5 => True.intro) (fin_of rfl (by first | rfl | (subst_vars; simp; done)))))))))))))))
def c24 : Ctr := fnC [dIs, dI] rI (fun _ => True) (fun y => (firstAt (fun x => decide (y.2.1 = x)) y.1 0, ()))
theorem good24 : GoodC Try.prog 24 c24 := by
  refine goodF cx0_good 4 _ _ _ _ ⟨_, Try.func24, rfl, rfl⟩ fun (⟨xs, v, _⟩ : List Int × Int × Unit) _ => ?_
  refine (And.intro (by first | kernel_rfl | rfl) (fun h0 => ?_))
  refine ex4 _ (fun i : Nat => ⟨[.sl (.int .i64) xs, .int .i64 v, .any, .any, .any, .any, .sl (.int .i64) xs, .int .i64 (↑xs.length : Int), .int .i64 (i : Int), .any, .any, .any, .any, .any, .any, .any, .any, .any, .any], [], 0⟩) (fun i => i ≤ xs.length ∧ firstAt (fun x => decide (v = x)) xs 0 = firstAt (fun x => decide (v = x)) (xs.drop i) i) (fun i => xs.length - i) (And.intro (Exists.intro (0) (Exists.intro ([]) (And.intro ?_ (And.intro (by rfl) (And.intro (by rfl) (And.intro True.intro (by rfl))))))) ?_)
  · exact ⟨Nat.zero_le _, rfl⟩
  rintro i ⟨hi, ht⟩
  refine (And.intro (fun k0 => (And.intro (by intros; (try subst_vars); (try simp only [Bool.cond_true_left, Bool.cond_false_right, Bool.or_eq_true, Bool.or_eq_false_iff, Bool.and_eq_true, Bool.not_eq_true', Bool.not_eq_false', decide_eq_true_eq, decide_eq_false_iff_not, Int.not_lt, Int.not_le] at *); (try simp only [inK, big, lim, List.length_cons, List.length_nil, List.length_append, List.length_drop, List.length_take, List.length_replicate] at *); omega) (And.intro (fun k1 => (fin_of rfl ?_)) (fun k1 => (And.intro (by intros; (try subst_vars); (try simp only [Bool.cond_true_left, Bool.cond_false_right, Bool.or_eq_true, Bool.or_eq_false_iff, Bool.and_eq_true, Bool.not_eq_true', Bool.not_eq_false', decide_eq_true_eq, decide_eq_false_iff_not, Int.not_lt, Int.not_le] at *); (try simp only [inK, big, lim, List.length_cons, List.length_nil, List.length_append, List.length_drop, List.length_take, List.length_replicate] at *); omega) ?_))))) (fun k0 => (fin_of rfl ?_)))
  · have hi' : i < xs.length := by simpa using k0
    have e : firstAt (fun x => decide (v = x)) xs 0 = i := by rw [ht, firstAt_drop _ 0 xs i hi', if_pos (show decide (v = xs.getD i 0) = true from k1)]
    show (firstAt (fun x => decide (v = x)) xs 0, ()) = (_, ())
    rw [e]
  · have hi' : i < xs.length := by simpa using k0
    refine Exists.intro (i + 1) (Exists.intro ([]) (And.intro ?_ (And.intro ?_ (And.intro (by rfl) (And.intro (by rfl) (And.intro True.intro (by rfl)))))))
    · refine ⟨hi', ?_⟩
      have k1' : decide (v = xs.getD i 0) = false := k1
      rw [ht, firstAt_drop _ 0 xs i hi', k1', if_neg (by decide)]
    · show xs.length - (i + 1) < xs.length - i
      omega
  · have e : firstAt (fun x => decide (v = x)) xs 0 = -1 := by rw [ht, List.drop_of_length_le (by simpa using k0)]; rfl
    show (firstAt (fun x => decide (v = x)) xs 0, ()) = (_, ())
    rw [e]
theorem cmpL_drop (xs ys : List Int) (i : Nat) (hx : i < xs.length) (hy : i < ys.length) : cmpL (xs.drop i) (ys.drop i) = if cmpI (xs.getD i 0) (ys.getD i 0) ≠ 0 then cmpI (xs.getD i 0) (ys.getD i 0) else cmpL (xs.drop (i + 1)) (ys.drop (i + 1)) := by
  rw [List.drop_eq_getElem_cons hx, List.drop_eq_getElem_cons hy]
  simp [cmpL, List.getElem?_eq_getElem hx, List.getElem?_eq_getElem hy]
def cx36 : Ctx := ⟨tys0, [(61, ([], c61))]⟩
theorem cx36_good : GoodCtx Try.prog cx36 := cx_cons good61 cx0_good
def c36 : Ctr := fnC [dIs, dIs] rI (fun _ => True) (fun y => (cmpL y.1 y.2.1, ()))
theorem good36 : GoodC Try.prog 36 c36 := by
  refine goodF cx36_good 4 _ _ _ _ ⟨_, Try.func36, rfl, rfl⟩ fun (⟨xs, ys, _⟩ : List Int × List Int × Unit) _ => ?_
  refine (And.intro (by first | kernel_rfl | rfl) (fun h0 => ?_))
  refine ex4 _ (fun i : Nat => ⟨[.sl (.int .i64) xs, .sl (.int .i64) ys, .any, .any, .any, .any, .any, .any, .any, .sl (.int .i64) xs, .int .i64 (↑xs.length : Int), .int .i64 (i : Int), .any, .any, .any, .any, .any, .any, .any, .any, .any, .any, .any, .any, .any, .any, .any, .any, .any, .any, .any, .any, .any, .any, .any, .any], [], 0⟩) (fun i => i ≤ xs.length ∧ i ≤ ys.length ∧ cmpL xs ys = cmpL (xs.drop i) (ys.drop i)) (fun i => xs.length - i) (And.intro (Exists.intro (0) (Exists.intro ([]) (And.intro ?_ (And.intro (by rfl) (And.intro (by rfl) (And.intro True.intro (by rfl))))))) ?_)
  · exact ⟨Nat.zero_le _, Nat.zero_le _, rfl⟩
  rintro i ⟨hi, hj, ht⟩
  refine (And.intro (fun k0 => (And.intro (by intros; (try subst_vars); (try simp only [Bool.cond_true_left, Bool.cond_false_right, Bool.or_eq_true, Bool.or_eq_false_iff, Bool.and_eq_true, Bool.not_eq_true', Bool.not_eq_false', decide_eq_true_eq, decide_eq_false_iff_not, Int.not_lt, Int.not_le] at *); (try simp only [inK, big, lim, List.length_cons, List.length_nil, List.length_append, List.length_drop, List.length_take, List.length_replicate] at *); omega) (fun k1 => (And.intro (fun k2 => (fin_of rfl ?_)) (fun k2 => (And.intro (by intros; (try subst_vars); (try simp only [Bool.cond_true_left, Bool.cond_false_right, Bool.or_eq_true, Bool.or_eq_false_iff, Bool.and_eq_true, Bool.not_eq_true', Bool.not_eq_false', decide_eq_true_eq, decide_eq_false_iff_not, Int.not_lt, Int.not_le] at *); (try simp only [inK, big, lim, List.length_cons, List.length_nil, List.length_append, List.length_drop, List.length_take, List.length_replicate] at *); omega) (And.intro True.intro (And.intro (fun k3 => (fin_of rfl ?_)) (fun k3 => (And.intro (by intros; (try subst_vars); (try simp only [Bool.cond_true_left, Bool.cond_false_right, Bool.or_eq_true, Bool.or_eq_false_iff, Bool.and_eq_true, Bool.not_eq_true', Bool.not_eq_false', decide_eq_true_eq, decide_eq_false_iff_not, Int.not_lt, Int.not_le] at *); (try simp only [inK, big, lim, List.length_cons, List.length_nil, List.length_append, List.length_drop, List.length_take, List.length_replicate] at *); omega) ?_)))))))))) (fun k0 => (fun k4 => (fun k5 => (And.intro (fun k6 => (fin_of rfl ?_)) (fun k6 => (fin_of rfl ?_)))))))
  · have hx : i < xs.length := by have := of_decide_eq_true k0; omega
    have hy : ys.length ≤ i := by have := of_decide_eq_true k2; omega
    have e : cmpL xs ys = 1 := by
      rw [ht, List.drop_of_length_le hy, List.drop_eq_getElem_cons hx]
      rfl
    show (cmpL xs ys, ()) = (1, ())
    rw [e]
  · have hx : i < xs.length := by have := of_decide_eq_true k0; omega
    have hy : i < ys.length := by have := of_decide_eq_false k2; omega
    have k3' : cmpI (xs.getD i 0) (ys.getD i 0) ≠ 0 := by
      have h : (!decide (cmpI (xs.getD i 0) (ys.getD i 0) = 0)) = true := k3
      simpa using h
    show (cmpL xs ys, ()) = (cmpI (xs.getD i 0) (ys.getD i 0), ())
    rw [ht, cmpL_drop xs ys i hx hy, if_pos k3']
  · have hx : i < xs.length := by have := of_decide_eq_true k0; omega
    have hy : i < ys.length := by have := of_decide_eq_false k2; omega
    have k3' : ¬ (cmpI (xs.getD i 0) (ys.getD i 0) ≠ 0) := by
      have h : (!decide (cmpI (xs.getD i 0) (ys.getD i 0) = 0)) = false := k3
      simpa using h
    refine Exists.intro (i + 1) (Exists.intro ([]) (And.intro ?_ (And.intro ?_ (And.intro (by rfl) (And.intro (by rfl) (And.intro True.intro (by rfl)))))))
    · refine ⟨hx, hy, ?_⟩
      rw [ht, cmpL_drop xs ys i hx hy, if_neg k3']
    · show xs.length - (i + 1) < xs.length - i
      omega
  · have hx : xs.length ≤ i := by have := of_decide_eq_false k0; omega
    have hy : i < ys.length := by have := of_decide_eq_true k6; omega
    have e : cmpL xs ys = -1 := by
      rw [ht, List.drop_of_length_le hx, List.drop_eq_getElem_cons hy]
      rfl
    show (cmpL xs ys, ()) = (-1, ())
    rw [e]
  · have hx : xs.length ≤ i := by have := of_decide_eq_false k0; omega
    have hy : ys.length ≤ i := by have := of_decide_eq_false k6; omega
    have e : cmpL xs ys = 0 := by
      rw [ht, List.drop_of_length_le hx, List.drop_of_length_le hy]
      rfl
    show (cmpL xs ys, ()) = (0, ())
    rw [e]
def c62 : Ctr := fnC [dIss, .fn 38 [] [.eptr tIs]] rI (fun _ => True) (fun y => (firstAt (fun x => decide (x = y.2.1.2.1)) y.1 0, ()))
def cx62 : Ctx := ⟨tys0, [(35, ([], c35))]⟩
theorem cx62_good : GoodCtx Try.prog cx62 := cx_cons good35 cx0_good
theorem good62 : GoodC Try.prog 62 c62 := by
  refine goodF cx62_good 4 _ _ _ _ ⟨_, Try.func62, rfl, rfl⟩ fun (⟨xs, ⟨_, ⟨o, _⟩⟩, _⟩ : List (List Int) × (Unit × (List Int × Unit)) × Unit) _ => ?_
  refine (And.intro (by first | kernel_rfl | rfl) (fun h0 => ?_))
  refine ex4 _ (fun i : Nat => ⟨[.sl tIs xs, .fn (Fn.func 38) [] [.eptr [PV.sl (.int .i64) o]], .any, .any, .any, .any, .sl tIs xs, .int .i64 (↑xs.length : Int), .int .i64 (i : Int), .any, .any, .any, .any, .any, .any, .any, .any, .any, .any], [], 0⟩) (fun i => i ≤ xs.length ∧ firstAt (fun x => decide (x = o)) xs 0 = firstAt (fun x => decide (x = o)) (xs.drop i) i) (fun i => xs.length - i) (And.intro (Exists.intro (0) (Exists.intro ([]) (And.intro ?_ (And.intro (by rfl) (And.intro (by rfl) (And.intro True.intro (by rfl))))))) ?_)
  · exact ⟨Nat.zero_le _, rfl⟩
  rintro i ⟨hi, ht⟩
  refine (And.intro (fun k0 => (And.intro (by intros; (try subst_vars); (try simp only [Bool.cond_true_left, Bool.cond_false_right, Bool.or_eq_true, Bool.or_eq_false_iff, Bool.and_eq_true, Bool.not_eq_true', Bool.not_eq_false', decide_eq_true_eq, decide_eq_false_iff_not, Int.not_lt, Int.not_le] at *); (try simp only [inK, big, lim, List.length_cons, List.length_nil, List.length_append, List.length_drop, List.length_take, List.length_replicate] at *); omega) (And.intro (by first | kernel_rfl | rfl) (And.intro True.intro (And.intro (fun k1 => (fin_of rfl ?_)) (fun k1 => (And.intro (by intros; (try subst_vars); (try simp only [Bool.cond_true_left, Bool.cond_false_right, Bool.or_eq_true, Bool.or_eq_false_iff, Bool.and_eq_true, Bool.not_eq_true', Bool.not_eq_false', decide_eq_true_eq, decide_eq_false_iff_not, Int.not_lt, Int.not_le] at *); (try simp only [inK, big, lim, List.length_cons, List.length_nil, List.length_append, List.length_drop, List.length_take, List.length_replicate] at *); omega) ?_))))))) (fun k0 => (fin_of rfl ?_)))
  · have hi' : i < xs.length := by simpa using k0
    have e : firstAt (fun x => decide (x = o)) xs 0 = i := by rw [ht, firstAt_drop _ [] xs i hi', if_pos (show decide (xs.getD i [] = o) = true from k1)]
    show (firstAt (fun x => decide (x = o)) xs 0, ()) = (_, ())
    rw [e]
  · have hi' : i < xs.length := by simpa using k0
    refine Exists.intro (i + 1) (Exists.intro ([]) (And.intro ?_ (And.intro ?_ (And.intro (by rfl) (And.intro (by rfl) (And.intro True.intro (by rfl)))))))
    · refine ⟨hi', ?_⟩
      have k1' : decide (xs.getD i [] = o) = false := k1
      rw [ht, firstAt_drop _ [] xs i hi', k1', if_neg (by decide)]
    · show xs.length - (i + 1) < xs.length - i
      omega
  · have e : firstAt (fun x => decide (x = o)) xs 0 = -1 := by rw [ht, List.drop_of_length_le (by simpa using k0)]; rfl
    show (firstAt (fun x => decide (x = o)) xs 0, ()) = (_, ())
    rw [e]
def cx37 : Ctx := ⟨tys0, [(62, ([], c62))]⟩
theorem cx37_good : GoodCtx Try.prog cx37 := cx_cons good62 cx0_good
def c37 : Ctr := fnC [dIss, .fn 38 [] [.eptr tIs]] rB (fun _ => True) (fun y => (y.1.any (fun x => decide (x = y.2.1.2.1)), ()))
theorem good37 : GoodC Try.prog 37 c37 := by
  refine goodF cx37_good 4 _ _ _ _ ⟨_, Try.func37, rfl, rfl⟩ fun (⟨xs, ⟨_, ⟨o, _⟩⟩, _⟩ : List (List Int) × (Unit × (List Int × Unit)) × Unit) _ => ?_
  refine (And.intro (by first | kernel_rfl | rfl) (And.intro True.intro (fin_of rfl (by (exact congrArg (fun b => (b, ())) (firstAt_ge _ _ 0 (by omega)).symm)))))
def cxLi : Ctx := ⟨tys0, [(12, ([], c12)), (13, ([], c13)), (14, ([], c14)), (28, ([], c28)), (33, ([], c33)), (35, ([], c35)), (36, ([], c36)), (37, ([], c37))]⟩
theorem cxLi_good : GoodCtx Try.prog cxLi := cx_cons good12 (cx_cons good13 (cx_cons good14 (cx_cons good28 (cx_cons good33 (cx_cons good35 (cx_cons good36 (cx_cons good37 cx0_good)))))))
set_option maxHeartbeats 4000000 in
theorem law11 : LawOk Try.prog 11 [tI, tEs, tIs] [false, false, false] := by
  refine ⟨cxLi, 3, cxLi_good, fun (⟨n, l, o, _⟩ : Int × List Ed × List Int × Unit) fine => ?_⟩
  have sm : (bif bif greatB n l then true else decide (6 < n) then true else decide (20 < (o.length : Int))) = false → n ≤ 6 ∧ l.length ≤ 60 := fun h => by
    cases hg : greatB n l with
    | true => rw [hg] at h; cases h
    | false =>
      rw [hg] at h
      have hl := great_len hg
      by_cases h6 : 6 < n
      · rw [decide_eq_true h6] at h; cases h
      · omega
  have fA : checkF n l ≠ 0 → extsF n l 720 = ([], checkF n l) ∧ leastF n l = ([], checkF n l) ∧ extF n l o = false := fun h =>
    ⟨by rw [extsF, if_pos h], by rw [leastF, if_pos h], by rw [extF, decide_eq_false h]; rfl⟩
  refine (And.intro (by first | kernel_rfl | rfl) (And.intro True.intro (fun h0 => (And.intro (fun h1 => (And.intro True.intro (fin_of rfl (by first | rfl)))) (fun h1 => (And.intro True.intro (fun (h2 : List (List Int) × Int × PUnit) => (fun h3 => (And.intro True.intro (fun (h4 : List Int × Int × PUnit) => (fun h5 => (And.intro (fun h6 => (fun h7 => (fun h8 => (And.intro (fun h9 => True.intro) (And.intro (fun h10 => True.intro) (fin_of rfl ?_)))))) (fun h6 => (fun h11 => (And.intro (fun h12 => (by intros; (try subst_vars); (try simp only [Bool.cond_true_left, Bool.cond_false_right, Bool.or_eq_true, Bool.or_eq_false_iff, Bool.and_eq_true, Bool.not_eq_true', Bool.not_eq_false', decide_eq_true_eq, decide_eq_false_iff_not, Int.not_lt, Int.not_le] at *); (try simp only [inK, big, lim, List.length_cons, List.length_nil, List.length_append, List.length_drop, List.length_take, List.length_replicate] at *); omega)) (And.intro (fun h13 => True.intro) (And.intro (fun h14 => (fin_of rfl ?_)) (fun h14 => (fun h15 => ?_)))))))))))))))))))
  · subst h3
    subst h5
    obtain ⟨s1, s2⟩ := sm h1
    by_cases hc : checkF n l = 0
    · have ho := check_iff.1 hc
      have h6' : (bif !decide ((extsF n l 720).2 = 0) then true else !decide ((leastF n l).2 = 0)) = true := h6
      rw [exts_small ho s1, (all_head ho).2] at h6'
      cases h6'
    · show (true, ()) = ((bif bif bif bif decide ((extsF n l 720).2 = (leastF n l).2) then decide (((extsF n l 720).1.length : Int) = 0) else false then decide (((leastF n l).1.length : Int) = 0) else false then !extF n l o else false then true else false), ())
      rw [(fA hc).1, (fA hc).2.1, (fA hc).2.2]
      simp
  all_goals
    subst h3
    subst h5
    obtain ⟨s1, s2⟩ := sm h1
    have hc : checkF n l = 0 := by
      refine Classical.byContradiction fun hc => ?_
      have h6' : (bif !decide ((extsF n l 720).2 = 0) then true else !decide ((leastF n l).2 = 0)) = false := h6
      rw [(fA hc).1, (fA hc).2.1] at h6'
      simp [hc] at h6'
    have ho := check_iff.1 hc
    have ee := exts_small ho s1
  · have h14' : (bif decide (((extsF n l 720).1.length : Int) = 0) then true else !decide ((extsF n l 720).1.getD 0 [] = (leastF n l).1)) = true := h14
    rw [ee] at h14'
    have hh := (all_head ho).1
    cases ha : allE n l with
    | nil => rw [ha] at hh; cases hh
    | cons x m =>
      rw [ha] at hh h14'
      simp only [List.head?_cons, Option.some.injEq] at hh
      subst hh
      simp at h14'
      omega
  refine ex4 _ (fun i : Nat => ⟨[.int .i64 n, .sl tE l, .any, .any, .any, .ptr 0 0, .any, .sl tIs (extsF n l 720).1, .any, .any, .any, .any, .any, .any, .any, .any, .any, .any, .any, .any, .any, .any, .any, .any, .any, .any, .any, .any, .any, .any, .any, .any, .any, .any, .any, .any, .any, .any, .any, .any, .any, .any, .any, .any, .any, .any, .any, .any, .any, .any, .any, .any, .any, .any, .any, .any, .any, .any, .any, .any, .any, .any, .any, .any, .any, .any, .any, .any, .any, .any, .any, .any, .any, .any, .any, .any, .any, .any, .any, .sl tIs (extsF n l 720).1, .int .i64 (↑(extsF n l 720).1.length : Int), .int .i64 (i : Int), .any, .any, .any, .any, .any, .any, .any, .any, .any, .any, .any, .any, .any, .any, .any, .any, .any, .any, .any, .any, .any, .any, .any, .any, .any, .any, .any, .any, .any, .any, .any, .any, .any, .any, .any, .any], [.cells [.sl (.int .i64) o]], 1⟩) (fun i => i ≤ (extsF n l 720).1.length) (fun i => (extsF n l 720).1.length - i) (And.intro (Exists.intro (0) (Exists.intro ([some 0]) (And.intro ?_ (And.intro (by rfl) (And.intro (by rfl) (And.intro (And.intro (And.intro (by rfl) (by rfl)) True.intro) (by rfl))))))) ?_)
  · exact Nat.zero_le _
  rintro i hi
  refine (And.intro (fun k0 => (And.intro (by intros; (try subst_vars); (try simp only [Bool.cond_true_left, Bool.cond_false_right, Bool.or_eq_true, Bool.or_eq_false_iff, Bool.and_eq_true, Bool.not_eq_true', Bool.not_eq_false', decide_eq_true_eq, decide_eq_false_iff_not, Int.not_lt, Int.not_le] at *); (try simp only [inK, big, lim, List.length_cons, List.length_nil, List.length_append, List.length_drop, List.length_take, List.length_replicate] at *); omega) (And.intro True.intro (And.intro (fun k1 => (by intros; (try subst_vars); (try simp only [Bool.cond_true_left, Bool.cond_false_right, Bool.or_eq_true, Bool.or_eq_false_iff, Bool.and_eq_true, Bool.not_eq_true', Bool.not_eq_false', decide_eq_true_eq, decide_eq_false_iff_not, Int.not_lt, Int.not_le] at *); (try simp only [inK, big, lim, List.length_cons, List.length_nil, List.length_append, List.length_drop, List.length_take, List.length_replicate] at *); omega)) (And.intro (fun k2 => (by intros; (try subst_vars); (try simp only [Bool.cond_true_left, Bool.cond_false_right, Bool.or_eq_true, Bool.or_eq_false_iff, Bool.and_eq_true, Bool.not_eq_true', Bool.not_eq_false', decide_eq_true_eq, decide_eq_false_iff_not, Int.not_lt, Int.not_le] at *); (try simp only [inK, big, lim, List.length_cons, List.length_nil, List.length_append, List.length_drop, List.length_take, List.length_replicate] at *); omega)) (And.intro (fun k3 => True.intro) (And.intro (fun k4 => (fin_of rfl ?_)) (fun k4 => (And.intro (by intros; (try subst_vars); (try simp only [Bool.cond_true_left, Bool.cond_false_right, Bool.or_eq_true, Bool.or_eq_false_iff, Bool.and_eq_true, Bool.not_eq_true', Bool.not_eq_false', decide_eq_true_eq, decide_eq_false_iff_not, Int.not_lt, Int.not_le] at *); (try simp only [inK, big, lim, List.length_cons, List.length_nil, List.length_append, List.length_drop, List.length_take, List.length_replicate] at *); omega) ?_))))))))) (fun k0 => (And.intro True.intro (And.intro True.intro (And.intro (fun k5 => True.intro) (fin_of rfl ?_))))))
  · have hi' : i < (extsF n l 720).1.length := by have := of_decide_eq_true k0; omega
    have k4' : (bif !extF n l ((extsF n l 720).1.getD i []) then true else bif decide (0 < (i : Int)) then decide (0 ≤ cmpL ((extsF n l 720).1.getD ((i : Int) - 1).toNat []) ((extsF n l 720).1.getD i [])) else false) = true := k4
    rw [ee] at k4' hi'
    have hm : (allE n l).getD i [] ∈ allE n l := by
      rw [List.getD_eq_getElem?_getD, List.getElem?_eq_getElem hi']
      exact List.getElem_mem hi'
    rw [(ext_iff ho).2 hm] at k4'
    by_cases h0 : 0 < i
    · have hp := List.pairwise_iff_getElem.1 (all_asc n l) (i - 1) i (by show i - 1 < (allE n l).length; have : i < (allE n l).length := hi'; omega) hi' (by omega)
      have e1 : (allE n l).getD ((i : Int) - 1).toNat [] = (allE n l)[i - 1]'(by show i - 1 < (allE n l).length; have : i < (allE n l).length := hi'; omega) := by
        rw [show ((i : Int) - 1).toNat = i - 1 by omega, List.getD_eq_getElem?_getD, List.getElem?_eq_getElem (by show i - 1 < (allE n l).length; have : i < (allE n l).length := hi'; omega)]
        rfl
      have e2 : (allE n l).getD i [] = (allE n l)[i]'hi' := by
        rw [List.getD_eq_getElem?_getD, List.getElem?_eq_getElem hi']
        rfl
      rw [← e1, ← e2] at hp
      have hd : decide (0 ≤ cmpL ((allE n l).getD ((i : Int) - 1).toNat []) ((allE n l).getD i [])) = false := decide_eq_false (by omega)
      rw [show (allE n l, (0 : Int)).1 = allE n l from rfl, hd] at k4'
      simp at k4'
    · rw [decide_eq_false (by omega)] at k4'
      cases k4'
  · have hi' : i < (extsF n l 720).1.length := by have := of_decide_eq_true k0; omega
    refine Exists.intro (i + 1) (Exists.intro ([some 0]) (And.intro ?_ (And.intro ?_ (And.intro (by rfl) (And.intro (by rfl) (And.intro (And.intro (And.intro (by rfl) (by rfl)) True.intro) (by rfl)))))))
    · exact hi'
    · show (extsF n l 720).1.length - (i + 1) < (extsF n l 720).1.length - i
      omega
  · show (true, ()) = ((bif ((extsF n l 720).1.any fun x => decide (x = o)) == extF n l o then true else false), ())
    have e : ((extsF n l 720).1.any fun x => decide (x = o)) = extF n l o := by
      rw [ee, Bool.eq_iff_iff, ext_iff ho, List.any_eq_true]
      constructor
      · rintro ⟨x, hx, e⟩
        exact of_decide_eq_true e ▸ hx
      · exact fun h => ⟨o, h, decide_eq_true rfl⟩
    rw [e]
    cases extF n l o <;> rfl
end Go.Proofs.Ytlaefkhbpnbahaa
