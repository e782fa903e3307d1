/- Partial orders: searches with a function, and Check, as contracts. -/
import Derived.Test.YtlaefkhbpnbahaaPoB
set_option linter.unusedSimpArgs false
set_option linter.unusedVariables false
set_option maxRecDepth 100000
namespace Go.Proofs.Ytlaefkhbpnbahaa
open Go.Sx

def loopE (p : Ed) : Bool := decide (p.1 = p.2)
def lateE (place : List Int) (p : Ed) : Bool := decide (place.getD p.2.toNat 0 ≤ place.getD p.1.toNat 0)
def cxC : Ctx := ⟨tys0, [(47, ([], c47))]⟩
theorem cxC_good : GoodCtx Try.prog cxC := cx_cons good47 cx0_good
def c64a : Ctr := fnC [dEs, .fn 52 [] []] rI (fun _ => True) (fun y => (firstAt loopE y.1 0, ()))
theorem good64a : GoodC Try.prog 64 c64a := by
  refine goodF cxC_good 4 _ _ _ _ ⟨_, Try.func64, rfl, rfl⟩ fun (⟨xs, _, _⟩ : List Ed × (Unit × Unit) × Unit) _ => ?_
  refine (And.intro (by first | kernel_rfl | rfl) (fun h0 => ?_))
  refine ex4 _ (fun i : Nat => ⟨[.sl tE xs, .fn (Fn.func 52) [] [], .any, .any, .any, .any, .sl tE xs, .int .i64 (↑xs.length : Int), .int .i64 (i : Int), .any, .any, .any, .any, .any, .any, .any, .any, .any, .any], [], 0⟩) (fun i => i ≤ xs.length ∧ firstAt loopE xs 0 = firstAt loopE (xs.drop i) i) (fun i => xs.length - i) (And.intro (Exists.intro (0) (Exists.intro ([]) (And.intro ?_ (And.intro (by rfl) (And.intro (by rfl) (And.intro True.intro (by rfl))))))) ?_)
  · exact ⟨Nat.zero_le _, rfl⟩
  rintro i ⟨hi, ht⟩
  refine (And.intro (fun k0 => (And.intro (by intros; (try subst_vars); (try simp only [Bool.cond_true_left, Bool.cond_false_right, Bool.or_eq_true, Bool.or_eq_false_iff, Bool.and_eq_true, Bool.not_eq_true', Bool.not_eq_false', decide_eq_true_eq, decide_eq_false_iff_not, Int.not_lt, Int.not_le] at *); (try simp only [inK, big, lim, List.length_cons, List.length_nil, List.length_append, List.length_drop, List.length_take, List.length_replicate] at *); omega) (And.intro (by first | kernel_rfl | rfl) (And.intro (fun k1 => (fin_of rfl ?_)) (fun k1 => (And.intro (by intros; (try subst_vars); (try simp only [Bool.cond_true_left, Bool.cond_false_right, Bool.or_eq_true, Bool.or_eq_false_iff, Bool.and_eq_true, Bool.not_eq_true', Bool.not_eq_false', decide_eq_true_eq, decide_eq_false_iff_not, Int.not_lt, Int.not_le] at *); (try simp only [inK, big, lim, List.length_cons, List.length_nil, List.length_append, List.length_drop, List.length_take, List.length_replicate] at *); omega) ?_)))))) (fun k0 => (fin_of rfl ?_)))
  · have hi' : i < xs.length := by simpa using k0
    have e : firstAt loopE xs 0 = i := by rw [ht, firstAt_drop loopE (dflt tE) xs i hi', if_pos (by simpa [loopE] using k1)]
    show (firstAt loopE xs 0, ()) = (_, ())
    rw [e]
  · have hi' : i < xs.length := by simpa using k0
    refine Exists.intro (i + 1) (Exists.intro ([]) (And.intro ?_ (And.intro ?_ (And.intro (by rfl) (And.intro (by rfl) (And.intro True.intro (by rfl)))))))
    · exact ⟨hi', by rw [ht, firstAt_drop loopE (dflt tE) xs i hi', if_neg (by simpa [loopE] using k1)]⟩
    · show xs.length - (i + 1) < xs.length - i
      omega
  · have e : firstAt loopE xs 0 = -1 := by rw [ht, List.drop_of_length_le (by simpa using k0)]; rfl
    show (firstAt loopE xs 0, ()) = (_, ())
    rw [e]
def c64b : Ctr := fnC [dEs, .fn 46 [] [.eptr tI]] rI (fun _ => True) (fun y => (firstAt (outB y.2.1.2.1) y.1 0, ()))
theorem good64b : GoodC Try.prog 64 c64b := by
  refine goodF cxC_good 4 _ _ _ _ ⟨_, Try.func64, rfl, rfl⟩ fun (⟨xs, ⟨_, ⟨n, _⟩⟩, _⟩ : List Ed × (Unit × (Int × Unit)) × Unit) _ => ?_
  refine (And.intro (by first | kernel_rfl | rfl) (fun h0 => ?_))
  refine ex4 _ (fun i : Nat => ⟨[.sl tE xs, .fn (Fn.func 46) [] [.eptr [PV.int .i64 n]], .any, .any, .any, .any, .sl tE xs, .int .i64 (↑xs.length : Int), .int .i64 (i : Int), .any, .any, .any, .any, .any, .any, .any, .any, .any, .any], [], 0⟩) (fun i => i ≤ xs.length ∧ firstAt (outB n) xs 0 = firstAt (outB n) (xs.drop i) i) (fun i => xs.length - i) (And.intro (Exists.intro (0) (Exists.intro ([]) (And.intro ?_ (And.intro (by rfl) (And.intro (by rfl) (And.intro True.intro (by rfl))))))) ?_)
  · exact ⟨Nat.zero_le _, rfl⟩
  rintro i ⟨hi, ht⟩
  refine (And.intro (fun k0 => (And.intro (by intros; (try subst_vars); (try simp only [Bool.cond_true_left, Bool.cond_false_right, Bool.or_eq_true, Bool.or_eq_false_iff, Bool.and_eq_true, Bool.not_eq_true', Bool.not_eq_false', decide_eq_true_eq, decide_eq_false_iff_not, Int.not_lt, Int.not_le] at *); (try simp only [inK, big, lim, List.length_cons, List.length_nil, List.length_append, List.length_drop, List.length_take, List.length_replicate] at *); omega) (And.intro (by first | kernel_rfl | rfl) (And.intro True.intro (And.intro (fun k1 => (fin_of rfl ?_)) (fun k1 => (And.intro (by intros; (try subst_vars); (try simp only [Bool.cond_true_left, Bool.cond_false_right, Bool.or_eq_true, Bool.or_eq_false_iff, Bool.and_eq_true, Bool.not_eq_true', Bool.not_eq_false', decide_eq_true_eq, decide_eq_false_iff_not, Int.not_lt, Int.not_le] at *); (try simp only [inK, big, lim, List.length_cons, List.length_nil, List.length_append, List.length_drop, List.length_take, List.length_replicate] at *); omega) ?_))))))) (fun k0 => (fin_of rfl ?_)))
  · have hi' : i < xs.length := by simpa using k0
    have e : firstAt (outB n) xs 0 = i := by rw [ht, firstAt_drop (outB n) (dflt tE) xs i hi', if_pos (by simpa using k1)]
    show (firstAt (outB n) xs 0, ()) = (_, ())
    rw [e]
  · have hi' : i < xs.length := by simpa using k0
    refine Exists.intro (i + 1) (Exists.intro ([]) (And.intro ?_ (And.intro ?_ (And.intro (by rfl) (And.intro (by rfl) (And.intro True.intro (by rfl)))))))
    · exact ⟨hi', by rw [ht, firstAt_drop (outB n) (dflt tE) xs i hi', if_neg (by simpa using k1)]⟩
    · show xs.length - (i + 1) < xs.length - i
      omega
  · have e : firstAt (outB n) xs 0 = -1 := by rw [ht, List.drop_of_length_le (by simpa using k0)]; rfl
    show (firstAt (outB n) xs 0, ()) = (_, ())
    rw [e]
def c64c : Ctr := fnC [dEs, .fn 59 [] [.eptr tIs]] rI (fun y => insideAll (y.2.1.2.1.length : Int) y.1) (fun y => (firstAt (lateE y.2.1.2.1) y.1 0, ()))
theorem good64c : GoodC Try.prog 64 c64c := by
  refine goodF cxC_good 4 _ _ _ _ ⟨_, Try.func64, rfl, rfl⟩ fun (⟨xs, ⟨_, ⟨pl, _⟩⟩, _⟩ : List Ed × (Unit × (List Int × Unit)) × Unit) hn => ?_
  have hin : insideAll (pl.length : Int) xs := hn
  clear hn
  refine (And.intro (by first | kernel_rfl | rfl) (fun h0 => ?_))
  refine ex4 _ (fun i : Nat => ⟨[.sl tE xs, .fn (Fn.func 59) [] [.eptr [PV.sl (.int .i64) pl]], .any, .any, .any, .any, .sl tE xs, .int .i64 (↑xs.length : Int), .int .i64 (i : Int), .any, .any, .any, .any, .any, .any, .any, .any, .any, .any], [], 0⟩) (fun i => i ≤ xs.length ∧ firstAt (lateE pl) xs 0 = firstAt (lateE pl) (xs.drop i) i) (fun i => xs.length - i) (And.intro (Exists.intro (0) (Exists.intro ([]) (And.intro ?_ (And.intro (by rfl) (And.intro (by rfl) (And.intro True.intro (by rfl))))))) ?_)
  · exact ⟨Nat.zero_le _, rfl⟩
  rintro i ⟨hi, ht⟩
  have idx : i < xs.length → (0 ≤ (xs.getD i (dflt tE)).1 ∧ (xs.getD i (dflt tE)).1 < (pl.length : Int)) ∧ (0 ≤ (xs.getD i (dflt tE)).2 ∧ (xs.getD i (dflt tE)).2 < (pl.length : Int)) := fun h => by
    have := inside_get hin h
    omega
  refine (And.intro (fun k0 => (And.intro (by first | exact (idx (by simpa using k0)).1 | exact (idx (by simpa using k0)).2 | (intros; (try subst_vars); (try simp only [Bool.cond_true_left, Bool.cond_false_right, Bool.or_eq_true, Bool.or_eq_false_iff, Bool.and_eq_true, Bool.not_eq_true', Bool.not_eq_false', decide_eq_true_eq, decide_eq_false_iff_not, Int.not_lt, Int.not_le] at *); (try simp only [inK, big, lim, List.length_cons, List.length_nil, List.length_append, List.length_drop, List.length_take, List.length_replicate] at *); omega)) (And.intro (by first | kernel_rfl | rfl) (And.intro (by first | kernel_rfl | rfl) (And.intro (by first | exact (idx (by simpa using k0)).1 | exact (idx (by simpa using k0)).2 | (intros; (try subst_vars); (try simp only [Bool.cond_true_left, Bool.cond_false_right, Bool.or_eq_true, Bool.or_eq_false_iff, Bool.and_eq_true, Bool.not_eq_true', Bool.not_eq_false', decide_eq_true_eq, decide_eq_false_iff_not, Int.not_lt, Int.not_le] at *); (try simp only [inK, big, lim, List.length_cons, List.length_nil, List.length_append, List.length_drop, List.length_take, List.length_replicate] at *); omega)) (And.intro (by first | exact (idx (by simpa using k0)).1 | exact (idx (by simpa using k0)).2 | (intros; (try subst_vars); (try simp only [Bool.cond_true_left, Bool.cond_false_right, Bool.or_eq_true, Bool.or_eq_false_iff, Bool.and_eq_true, Bool.not_eq_true', Bool.not_eq_false', decide_eq_true_eq, decide_eq_false_iff_not, Int.not_lt, Int.not_le] at *); (try simp only [inK, big, lim, List.length_cons, List.length_nil, List.length_append, List.length_drop, List.length_take, List.length_replicate] at *); omega)) (And.intro (fun k1 => (fin_of rfl ?_)) (fun k1 => (And.intro (by first | exact (idx (by simpa using k0)).1 | exact (idx (by simpa using k0)).2 | (intros; (try subst_vars); (try simp only [Bool.cond_true_left, Bool.cond_false_right, Bool.or_eq_true, Bool.or_eq_false_iff, Bool.and_eq_true, Bool.not_eq_true', Bool.not_eq_false', decide_eq_true_eq, decide_eq_false_iff_not, Int.not_lt, Int.not_le] at *); (try simp only [inK, big, lim, List.length_cons, List.length_nil, List.length_append, List.length_drop, List.length_take, List.length_replicate] at *); omega)) ?_))))))))) (fun k0 => (fin_of rfl ?_)))
  · have hi' : i < xs.length := by simpa using k0
    have e : firstAt (lateE pl) xs 0 = i := by rw [ht, firstAt_drop (lateE pl) (dflt tE) xs i hi', if_pos (by simpa [lateE] using k1)]
    show (firstAt (lateE pl) xs 0, ()) = (_, ())
    rw [e]
  · have hi' : i < xs.length := by simpa using k0
    refine Exists.intro (i + 1) (Exists.intro ([]) (And.intro ?_ (And.intro ?_ (And.intro (by rfl) (And.intro (by rfl) (And.intro True.intro (by rfl)))))))
    · exact ⟨hi', by rw [ht, firstAt_drop (lateE pl) (dflt tE) xs i hi', if_neg (by simpa [lateE] using k1)]⟩
    · show xs.length - (i + 1) < xs.length - i
      omega
  · have e : firstAt (lateE pl) xs 0 = -1 := by rw [ht, List.drop_of_length_le (by simpa using k0)]; rfl
    show (firstAt (lateE pl) xs 0, ()) = (_, ())
    rw [e]
def c64 : Ctr := orC c64a (orC c64b c64c)
theorem good64 : GoodC Try.prog 64 c64 := good_or good64a (good_or good64b good64c)
def cxD : Ctx := ⟨tys0, [(64, ([], c64))]⟩
theorem cxD_good : GoodCtx Try.prog cxD := cx_cons good64 cx0_good
def c45a : Ctr := fnC [dEs, .fn 52 [] []] rB (fun _ => True) (fun y => (y.1.any loopE, ()))
theorem good45a : GoodC Try.prog 45 c45a := by
  refine goodF cxD_good 4 _ _ _ _ ⟨_, Try.func45, rfl, rfl⟩ fun (⟨xs, _, _⟩ : List Ed × (Unit × Unit) × Unit) _ => ?_
  refine (And.intro (by first | kernel_rfl | rfl) (And.intro True.intro (fin_of rfl (by (exact congrArg (fun b => (b, ())) (firstAt_ge _ _ 0 (by omega)).symm)))))
def c45b : Ctr := fnC [dEs, .fn 46 [] [.eptr tI]] rB (fun _ => True) (fun y => (y.1.any (outB y.2.1.2.1), ()))
theorem good45b : GoodC Try.prog 45 c45b := by
  refine goodF cxD_good 4 _ _ _ _ ⟨_, Try.func45, rfl, rfl⟩ fun (⟨xs, ⟨_, ⟨n, _⟩⟩, _⟩ : List Ed × (Unit × (Int × Unit)) × Unit) _ => ?_
  refine (And.intro (by first | kernel_rfl | rfl) (And.intro True.intro (fin_of rfl (by (exact congrArg (fun b => (b, ())) (firstAt_ge _ _ 0 (by omega)).symm)))))
def c45c : Ctr := fnC [dEs, .fn 59 [] [.eptr tIs]] rB (fun y => insideAll (y.2.1.2.1.length : Int) y.1) (fun y => (y.1.any (lateE y.2.1.2.1), ()))
theorem good45c : GoodC Try.prog 45 c45c := by
  refine goodF cxD_good 4 _ _ _ _ ⟨_, Try.func45, rfl, rfl⟩ fun (⟨xs, ⟨_, ⟨pl, _⟩⟩, _⟩ : List Ed × (Unit × (List Int × Unit)) × Unit) hn => ?_
  refine (And.intro (by first | kernel_rfl | rfl) (And.intro (by first | exact hn | (intros; (try subst_vars); (try simp only [Bool.cond_true_left, Bool.cond_false_right, Bool.or_eq_true, Bool.or_eq_false_iff, Bool.and_eq_true, Bool.not_eq_true', Bool.not_eq_false', decide_eq_true_eq, decide_eq_false_iff_not, Int.not_lt, Int.not_le] at *); (try simp only [inK, big, lim, List.length_cons, List.length_nil, List.length_append, List.length_drop, List.length_take, List.length_replicate] at *); omega)) (fin_of rfl (by (exact congrArg (fun b => (b, ())) (firstAt_ge _ _ 0 (by omega)).symm)))))
def c45 : Ctr := orC c45a (orC c45b c45c)
theorem good45 : GoodC Try.prog 45 c45 := good_or good45a (good_or good45b good45c)

def badPrev : Option Ed → Ed → Bool
  | some q, p => decide (0 ≤ cmpE q p)
  | none, _ => false
/-- Is each pair one of elements, behind the pair before it? -/
def scanE (n : Int) : Option Ed → List Ed → Int
  | _, [] => 0
  | q, p :: l => if outB n p = true then 2 else if badPrev q p = true then 9 else scanE n (some p) l
def prevAt (l : List Ed) (i : Nat) : Option Ed := match i with | 0 => none | i + 1 => some (l.getD i (dflt tE))
theorem scan_step (n : Int) {l : List Ed} {i : Nat} (h : i < l.length) : scanE n (prevAt l i) (l.drop i) = if outB n (l.getD i (dflt tE)) = true then 2 else
    if badPrev (prevAt l i) (l.getD i (dflt tE)) = true then 9 else scanE n (prevAt l (i + 1)) (l.drop (i + 1)) := by
  rw [List.drop_eq_getElem_cons h]
  have e : l.getD i (dflt tE) = l[i] := by simp [List.getElem?_eq_getElem h]
  rw [scanE, prevAt, e]
theorem badPrev_at (l : List Ed) (i : Nat) (p : Ed) : badPrev (prevAt l i) p = (bif decide (0 < (i : Int)) then decide (0 ≤ cmpE (l.getD ((i : Int) - 1).toNat (dflt tE)) p) else false) := by
  cases i with
  | zero => rfl
  | succ i =>
    have e : (((i + 1 : Nat) : Int) - 1).toNat = i := by omega
    have e2 : decide (0 < ((i + 1 : Nat) : Int)) = true := decide_eq_true (by omega)
    rw [e, e2]; rfl
/-- Something is in the one row and not in the other. -/
def lacks (n : Nat) (a b : List Bool) : Bool := (List.range n).any fun k => a.getD k false && !b.getD k false
def openE (n : Nat) (m : Mx) (p : Ed) : Bool := lacks n (m.getD p.2.toNat []) (m.getD p.1.toNat [])
def checkF (n : Int) (l : List Ed) : Int :=
  if sizesF n l ≠ 0 then sizesF n l else if scanE n none l ≠ 0 then scanE n none l else if l.any loopE = true then 21
  else if l.any (openE n.toNat (matF n l)) = true then 10 else 0
theorem range_next {p : Nat → Bool} {k : Nat} (h : (List.range k).any p = false) (hp : p k = false) : (List.range (k + 1)).any p = false := by
  rw [List.range_succ, List.any_append, h]
  simp [hp]
theorem range_hit {p : Nat → Bool} {n k : Nat} (hk : k < n) (hp : p k = true) : (List.range n).any p = true := List.any_eq_true.2 ⟨k, List.mem_range.2 hk, hp⟩
theorem scan_inside (n : Int) : ∀ (q : Option Ed) (l : List Ed), scanE n q l = 0 → insideAll n l
  | _, [], _ => fun p hp => by simp at hp
  | q, p :: l, h => by
    rw [scanE] at h
    by_cases h1 : outB n p = true
    · rw [if_pos h1] at h; exact absurd h (by decide)
    · rw [if_neg h1] at h
      by_cases h2 : badPrev q p = true
      · rw [if_pos h2] at h; exact absurd h (by decide)
      · rw [if_neg h2] at h
        intro r hr
        rcases List.mem_cons.1 hr with rfl | hr
        · simpa using h1
        · exact scan_inside n _ l h r hr
theorem sizes_ok {n : Int} {l : List Ed} (h : sizesF n l = 0) : 0 ≤ n ∧ n ≤ 200 ∧ l.length ≤ 2000 := by
  unfold sizesF at h
  split at h
  · cases h
  · split at h
    · cases h
    · omega
def cxE : Ctx := ⟨tys0, [(44, ([], c44)), (47, ([], c47)), (51, ([], c51)), (45, ([], c45)), (39, ([], c39))]⟩
theorem cxE_good : GoodCtx Try.prog cxE := cx_cons good44 (cx_cons good47 (cx_cons good51 (cx_cons good45 (cx_cons good39 cx0_good))))
def c18 : Ctr := fnC [dI, dEs] rI (fun _ => True) (fun y => (checkF y.1 y.2.1, ()))
theorem good18 : GoodC Try.prog 18 c18 := by
  refine goodF cxE_good 4 _ _ _ _ ⟨_, Try.func18, rfl, rfl⟩ fun (⟨n, l, _⟩ : Int × List Ed × Unit) _ => ?_
  refine (And.intro (by first | kernel_rfl | rfl) (And.intro True.intro (And.intro (fun h0 => (fin_of rfl ?_)) (fun h0 => (fun h1 => ?_)))))
  · have e : checkF n l = sizesF n l := by rw [checkF, if_pos (by simpa using h0)]
    show (checkF n l, ()) = (_, ())
    rw [e]
  have hs : sizesF n l = 0 := by simpa using h0
  have e0 : checkF n l = if scanE n none l ≠ 0 then scanE n none l else if l.any loopE = true then 21
    else if l.any (openE n.toNat (matF n l)) = true then 10 else 0 := by rw [checkF, if_neg (by simp [hs])]
  obtain ⟨n0, n1, n2⟩ := sizes_ok hs
  refine ex4 _ (fun i : Nat => ⟨[.int .i64 n, .sl tE l, .any, .any, .any, .any, .any, .any, .any, .any, .any, .any, .any, .any, .any, .any, .any, .any, .any, .sl tE l, .int .i64 (↑l.length : Int), .int .i64 (i : Int), .any, .any, .any, .any, .any, .any, .any, .any, .any, .any, .any, .any, .any, .any, .any, .any, .any, .any, .any, .any, .any, .any, .any, .any, .any, .any, .any, .any, .any, .any, .any, .any, .any, .any, .any, .any, .any, .any, .any, .any, .any, .any, .any, .any, .any, .any, .any, .any, .any, .any, .any, .any, .any, .any, .any, .any, .any, .any], [], 0⟩) (fun i => i ≤ l.length ∧ scanE n none l = scanE n (prevAt l i) (l.drop i)) (fun i => l.length - i) (And.intro (Exists.intro (0) (Exists.intro ([]) (And.intro ?_ (And.intro (by rfl) (And.intro (by rfl) (And.intro True.intro (by rfl))))))) ?_)
  · exact ⟨Nat.zero_le _, rfl⟩
  rintro i ⟨hi, ht⟩
  refine (And.intro (fun k0 => (And.intro (by first | exact ⟨n0, n1, scan_inside n none l (ht.trans (by rw [List.drop_of_length_le (by simpa using k0)]; rfl))⟩ | (intros; (try subst_vars); (try simp only [Bool.cond_true_left, Bool.cond_false_right, Bool.or_eq_true, Bool.or_eq_false_iff, Bool.and_eq_true, Bool.not_eq_true', Bool.not_eq_false', decide_eq_true_eq, decide_eq_false_iff_not, Int.not_lt, Int.not_le] at *); (try simp only [inK, big, lim, List.length_cons, List.length_nil, List.length_append, List.length_drop, List.length_take, List.length_replicate] at *); omega)) (And.intro True.intro (And.intro (fun k1 => (fin_of rfl ?_)) (fun k1 => (And.intro (by first | kernel_rfl | rfl) (And.intro (fun k2 => (by first | exact ⟨n0, n1, scan_inside n none l (ht.trans (by rw [List.drop_of_length_le (by simpa using k0)]; rfl))⟩ | (intros; (try subst_vars); (try simp only [Bool.cond_true_left, Bool.cond_false_right, Bool.or_eq_true, Bool.or_eq_false_iff, Bool.and_eq_true, Bool.not_eq_true', Bool.not_eq_false', decide_eq_true_eq, decide_eq_false_iff_not, Int.not_lt, Int.not_le] at *); (try simp only [inK, big, lim, List.length_cons, List.length_nil, List.length_append, List.length_drop, List.length_take, List.length_replicate] at *); omega))) (And.intro (fun k3 => (by first | exact ⟨n0, n1, scan_inside n none l (ht.trans (by rw [List.drop_of_length_le (by simpa using k0)]; rfl))⟩ | (intros; (try subst_vars); (try simp only [Bool.cond_true_left, Bool.cond_false_right, Bool.or_eq_true, Bool.or_eq_false_iff, Bool.and_eq_true, Bool.not_eq_true', Bool.not_eq_false', decide_eq_true_eq, decide_eq_false_iff_not, Int.not_lt, Int.not_le] at *); (try simp only [inK, big, lim, List.length_cons, List.length_nil, List.length_append, List.length_drop, List.length_take, List.length_replicate] at *); omega))) (And.intro (fun k4 => True.intro) (And.intro (fun k5 => (fin_of rfl ?_)) (fun k5 => (And.intro (by first | exact ⟨n0, n1, scan_inside n none l (ht.trans (by rw [List.drop_of_length_le (by simpa using k0)]; rfl))⟩ | (intros; (try subst_vars); (try simp only [Bool.cond_true_left, Bool.cond_false_right, Bool.or_eq_true, Bool.or_eq_false_iff, Bool.and_eq_true, Bool.not_eq_true', Bool.not_eq_false', decide_eq_true_eq, decide_eq_false_iff_not, Int.not_lt, Int.not_le] at *); (try simp only [inK, big, lim, List.length_cons, List.length_nil, List.length_append, List.length_drop, List.length_take, List.length_replicate] at *); omega)) ?_)))))))))))) (fun k0 => (And.intro True.intro (And.intro (fun k6 => (fin_of rfl ?_)) (fun k6 => (And.intro (by first | exact ⟨n0, n1, scan_inside n none l (ht.trans (by rw [List.drop_of_length_le (by simpa using k0)]; rfl))⟩ | (intros; (try subst_vars); (try simp only [Bool.cond_true_left, Bool.cond_false_right, Bool.or_eq_true, Bool.or_eq_false_iff, Bool.and_eq_true, Bool.not_eq_true', Bool.not_eq_false', decide_eq_true_eq, decide_eq_false_iff_not, Int.not_lt, Int.not_le] at *); (try simp only [inK, big, lim, List.length_cons, List.length_nil, List.length_append, List.length_drop, List.length_take, List.length_replicate] at *); omega)) (fun (k7 : (Int × List (List Bool)) × PUnit) => (fun k8 => (fun k9 => ?_)))))))))
  · have hi' : i < l.length := by simpa using k0
    have e : scanE n none l = 2 := by rw [ht, scan_step n hi', if_pos (by simpa using k1)]
    show (checkF n l, ()) = (2, ())
    rw [e0, e]; rfl
  · have hi' : i < l.length := by simpa using k0
    have k1' : outB n (l.getD i (dflt tE)) = false := k1
    have e : scanE n none l = 9 := by
      rw [ht, scan_step n hi', if_neg (by rw [k1']; simp), if_pos]
      rw [badPrev_at]
      exact k5
    show (checkF n l, ()) = (9, ())
    rw [e0, e]; rfl
  · have hi' : i < l.length := by simpa using k0
    have k1' : outB n (l.getD i (dflt tE)) = false := k1
    refine Exists.intro (i + 1) (Exists.intro ([]) (And.intro ?_ (And.intro ?_ (And.intro (by rfl) (And.intro (by rfl) (And.intro True.intro (by rfl)))))))
    · refine ⟨hi', ?_⟩
      rw [ht, scan_step n hi', if_neg (by rw [k1']; simp), if_neg]
      rw [badPrev_at]
      intro h
      rw [show (bif decide (0 < (i : Int)) then decide (0 ≤ cmpE (l.getD ((i : Int) - 1).toNat (dflt tE)) (l.getD i (dflt tE))) else false) = false from k5] at h
      cases h
    · show l.length - (i + 1) < l.length - i
      omega
  · have hi' : ¬ i < l.length := by simpa using k0
    rw [List.drop_of_length_le (by omega)] at ht
    have ht' : scanE n none l = 0 := ht
    have k6' : l.any loopE = true := k6
    show (checkF n l, ()) = (21, ())
    rw [e0, ht', k6']; rfl
  have hi' : ¬ i < l.length := by simpa using k0
  rw [List.drop_of_length_le (by omega)] at ht
  have ht' : scanE n none l = 0 := ht
  have k6' : l.any loopE = false := k6
  have hin := scan_inside n none l ht'
  rw [ht', k6', if_neg (by simp), if_neg (by simp)] at e0
  have ek : k7 = ((n, matF n l), ()) := k8
  subst ek
  have hsq := sq_mat hin
  refine ex4 _ (fun j : Nat => ⟨[.any, .sl tE l, .any, .any, .any, .any, .any, .any, .ptr 0 0, .any, .any, .any, .any, .any, .any, .any, .any, .any, .any, .any, .any, .any, .any, .any, .any, .any, .any, .any, .any, .any, .any, .any, .any, .any, .any, .any, .any, .any, .any, .any, .any, .any, .any, .any, .any, .any, .any, .sl tE l, .int .i64 (↑l.length : Int), .int .i64 (j : Int), .any, .any, .any, .any, .any, .any, .any, .any, .any, .any, .any, .any, .any, .any, .any, .any, .any, .any, .any, .any, .any, .any, .any, .any, .any, .any, .any, .any, .any, .any], [.cells [.int .i64 n, .sl tBs (matF n l)]], 1⟩) (fun j => j ≤ l.length ∧ (l.take j).any (openE n.toNat (matF n l)) = false) (fun j => l.length - j) (And.intro (Exists.intro (0) (Exists.intro ([some 0]) (And.intro ?_ (And.intro (by rfl) (And.intro (by rfl) (And.intro (And.intro (And.intro (by rfl) (by rfl)) True.intro) (by rfl))))))) ?_)
  · simp
  rintro j ⟨hj, hu⟩
  have idx : j < l.length → (0 ≤ (l.getD j (dflt tE)).2 ∧ (l.getD j (dflt tE)).2 < ((matF n l).length : Int)) ∧ (0 ≤ (l.getD j (dflt tE)).1 ∧ (l.getD j (dflt tE)).1 < ((matF n l).length : Int)) := fun h => by
    have := inside_get hin h
    have e := hsq.1
    omega
  refine (And.intro (fun m0 => (And.intro (by first | exact (idx (by simpa using m0)).1 | exact (idx (by simpa using m0)).2 | (intros; (try subst_vars); (try simp only [Bool.cond_true_left, Bool.cond_false_right, Bool.or_eq_true, Bool.or_eq_false_iff, Bool.and_eq_true, Bool.not_eq_true', Bool.not_eq_false', decide_eq_true_eq, decide_eq_false_iff_not, Int.not_lt, Int.not_le] at *); (try simp only [inK, big, lim, List.length_cons, List.length_nil, List.length_append, List.length_drop, List.length_take, List.length_replicate] at *); omega)) (And.intro (by first | exact (idx (by simpa using m0)).1 | exact (idx (by simpa using m0)).2 | (intros; (try subst_vars); (try simp only [Bool.cond_true_left, Bool.cond_false_right, Bool.or_eq_true, Bool.or_eq_false_iff, Bool.and_eq_true, Bool.not_eq_true', Bool.not_eq_false', decide_eq_true_eq, decide_eq_false_iff_not, Int.not_lt, Int.not_le] at *); (try simp only [inK, big, lim, List.length_cons, List.length_nil, List.length_append, List.length_drop, List.length_take, List.length_replicate] at *); omega)) (fun m1 => ?_)))) (fun m0 => (fin_of rfl ?_)))
  · have hj' : j < l.length := by simpa using m0
    have hp := inside_get hin hj'
    have l1 := sq_row hsq (i := (l.getD j (dflt tE)).1.toNat) (by omega)
    have l2 := sq_row hsq (i := (l.getD j (dflt tE)).2.toNat) (by omega)
    refine ex4 _ (fun c : Nat => ⟨[.any, .sl tE l, .any, .any, .any, .any, .any, .any, .ptr 0 0, .any, .ptr 1 0, .any, .any, .any, .any, .any, .any, .any, .any, .any, .any, .any, .any, .any, .any, .any, .any, .any, .any, .any, .any, .any, .any, .any, .any, .any, .any, .any, .any, .any, .any, .any, .any, .any, .any, .any, .any, .sl tE l, .int .i64 (↑l.length : Int), .int .i64 (↑j : Int), .bool (decide ((↑j : Int) < (↑l.length : Int))), .eptr   [PV.int .i64 (l.getD (↑j : Int).toNat (dflt tE)).1, PV.int .i64 (l.getD (↑j : Int).toNat (dflt tE)).2], .agg   [.int .i64 (l.getD (↑j : Int).toNat (dflt tE)).1, .int .i64 (l.getD (↑j : Int).toNat (dflt tE)).2], .ptr 0 1, .sl tBs (matF n l), .ptr 1 1, .int .i64 (l.getD (↑j : Int).toNat (dflt tE)).2, .eptr [PV.sl .bool (List.getD (matF n l) (Int.toNat (l.getD (↑j : Int).toNat (dflt tE)).2) (dflt tBs))], .sl .bool (List.getD (matF n l) (Int.toNat (l.getD (↑j : Int).toNat (dflt tE)).2) (dflt tBs)), .int .i64   (↑(List.length (List.getD (matF n l) (Int.toNat (l.getD (↑j : Int).toNat (dflt tE)).2) (dflt tBs))) : Int), .int .i64 (c : Int), .any, .any, .any, .any, .any, .any, .any, .any, .any, .any, .any, .any, .any, .any, .any, .any, .any, .any, .any], [.cells [.int .i64 n, .sl tBs (matF n l)], .cells   [.int .i64 (l.getD (↑j : Int).toNat (dflt tE)).1, .int .i64 (l.getD (↑j : Int).toNat (dflt tE)).2]], 2⟩) (fun c => c ≤ n.toNat ∧ (List.range c).any (fun c => ((matF n l).getD (l.getD j (dflt tE)).2.toNat []).getD c false && !((matF n l).getD (l.getD j (dflt tE)).1.toNat []).getD c false) = false) (fun c => n.toNat - c) (And.intro (Exists.intro (0) (Exists.intro ([some 0, some 1]) (And.intro ?_ (And.intro (by rfl) (And.intro (by rfl) (And.intro (And.intro (And.intro (by rfl) (by rfl)) (And.intro (And.intro (by rfl) (by rfl)) True.intro)) (by rfl))))))) ?_)
    · simp
    rintro c ⟨hc, hv⟩
    have clt : decide ((c : Int) < (((matF n l).getD (l.getD j (dflt tE)).2.toNat []).length : Int)) = true → c < n.toNat := fun h => by
      have := of_decide_eq_true h
      rw [l2] at this
      omega
    have cge : decide ((c : Int) < (((matF n l).getD (l.getD j (dflt tE)).2.toNat []).length : Int)) = false → ¬ c < n.toNat := fun h => by
      have := of_decide_eq_false h
      rw [l2] at this
      omega
    have nb : c < n.toNat → 0 ≤ (c : Int) ∧ (c : Int) < (((matF n l).getD (l.getD j (dflt tE)).1.toNat []).length : Int) := fun h => by
      rw [l1]
      omega
    refine (And.intro (fun q0 => (And.intro (by first | exact (idx hj').2 | exact nb (clt q0) | (intros; (try subst_vars); (try simp only [Bool.cond_true_left, Bool.cond_false_right, Bool.or_eq_true, Bool.or_eq_false_iff, Bool.and_eq_true, Bool.not_eq_true', Bool.not_eq_false', decide_eq_true_eq, decide_eq_false_iff_not, Int.not_lt, Int.not_le] at *); (try simp only [inK, big, lim, List.length_cons, List.length_nil, List.length_append, List.length_drop, List.length_take, List.length_replicate] at *); omega)) (And.intro (fun q1 => (by first | exact (idx hj').2 | exact nb (clt q0) | (intros; (try subst_vars); (try simp only [Bool.cond_true_left, Bool.cond_false_right, Bool.or_eq_true, Bool.or_eq_false_iff, Bool.and_eq_true, Bool.not_eq_true', Bool.not_eq_false', decide_eq_true_eq, decide_eq_false_iff_not, Int.not_lt, Int.not_le] at *); (try simp only [inK, big, lim, List.length_cons, List.length_nil, List.length_append, List.length_drop, List.length_take, List.length_replicate] at *); omega))) (And.intro (fun q2 => (by first | exact (idx hj').2 | exact nb (clt q0) | (intros; (try subst_vars); (try simp only [Bool.cond_true_left, Bool.cond_false_right, Bool.or_eq_true, Bool.or_eq_false_iff, Bool.and_eq_true, Bool.not_eq_true', Bool.not_eq_false', decide_eq_true_eq, decide_eq_false_iff_not, Int.not_lt, Int.not_le] at *); (try simp only [inK, big, lim, List.length_cons, List.length_nil, List.length_append, List.length_drop, List.length_take, List.length_replicate] at *); omega))) (And.intro (fun q3 => (fin_of rfl ?_)) (fun q3 => (And.intro (by first | exact (idx hj').2 | exact nb (clt q0) | (intros; (try subst_vars); (try simp only [Bool.cond_true_left, Bool.cond_false_right, Bool.or_eq_true, Bool.or_eq_false_iff, Bool.and_eq_true, Bool.not_eq_true', Bool.not_eq_false', decide_eq_true_eq, decide_eq_false_iff_not, Int.not_lt, Int.not_le] at *); (try simp only [inK, big, lim, List.length_cons, List.length_nil, List.length_append, List.length_drop, List.length_take, List.length_replicate] at *); omega)) ?_))))))) (fun q0 => (And.intro (by first | exact (idx hj').2 | exact nb (clt q0) | (intros; (try subst_vars); (try simp only [Bool.cond_true_left, Bool.cond_false_right, Bool.or_eq_true, Bool.or_eq_false_iff, Bool.and_eq_true, Bool.not_eq_true', Bool.not_eq_false', decide_eq_true_eq, decide_eq_false_iff_not, Int.not_lt, Int.not_le] at *); (try simp only [inK, big, lim, List.length_cons, List.length_nil, List.length_append, List.length_drop, List.length_take, List.length_replicate] at *); omega)) ?_)))
    · have hc' := clt q0
      have e : openE n.toNat (matF n l) (l.getD j (dflt tE)) = true := range_hit hc' (by simpa [Bool.cond_eq_ite] using q3)
      have e2 : l.any (openE n.toNat (matF n l)) = true := any_hit (d := dflt tE) hj' e
      show (checkF n l, ()) = (10, ())
      rw [e0, e2]; rfl
    · have hc' := clt q0
      refine Exists.intro (c + 1) (Exists.intro ([some 0, some 1]) (And.intro ?_ (And.intro ?_ (And.intro (by rfl) (And.intro (by rfl) (And.intro (And.intro (And.intro (by rfl) (by rfl)) (And.intro (And.intro (by rfl) (by rfl)) True.intro)) (by rfl)))))))
      · exact ⟨hc', range_next hv (by simpa [Bool.cond_eq_ite] using q3)⟩
      · show n.toNat - (c + 1) < n.toNat - c
        omega
    · have hc' := cge q0
      have e : openE n.toNat (matF n l) (l.getD j (dflt tE)) = false := by
        have : c = n.toNat := by omega
        subst this
        exact hv
      refine Exists.intro (j + 1) (Exists.intro ([some 0]) (And.intro ?_ (And.intro ?_ (And.intro (by rfl) (And.intro (by rfl) (And.intro (And.intro (And.intro (by rfl) (by rfl)) True.intro) (by rfl)))))))
      · exact ⟨hj', any_next (d := dflt tE) hj' hu e⟩
      · show l.length - (j + 1) < l.length - j
        omega
  · have hj' : ¬ j < l.length := by simpa using m0
    rw [List.take_of_length_le (by omega)] at hu
    show (checkF n l, ()) = (0, ())
    rw [e0, hu]; rfl
end Go.Proofs.Ytlaefkhbpnbahaa
