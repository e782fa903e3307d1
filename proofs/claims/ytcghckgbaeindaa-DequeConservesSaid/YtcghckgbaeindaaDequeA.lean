/- Deque: the functions of the lists, as contracts. -/
import Derived.Test.YtcghckgbaeindaaSxFn
import Derived.Test.YtcghckgbaeindaaRows
import Derived.KernelRfl
set_option linter.unusedSimpArgs false
set_option linter.unusedVariables false
set_option maxRecDepth 100000
namespace Go.Proofs.Ytcghckgbaeindaa
open Go.Sx

@[reducible] def tI : Ty := .int .i64
@[reducible] def tIs : Ty := .sl (.int .i64)
@[reducible] def tEdge : Ty := .pair tI tI
@[reducible] def dI : AK := .dat false tI
@[reducible] def dIs : AK := .dat false tIs
@[reducible] def dEdges : AK := .dat false (.sl tEdge)
def tys0 : List (TypeId × Ty) := [(3, tI), (4, .bool), (40, tEdge)]
def cx0 : Ctx := ⟨tys0, []⟩
theorem cx0_good : GoodCtx Try.prog cx0 := fun _ _ _ h => by simp [cx0, lookL] at h
/-- The contract of one more function. -/
theorem cx_cons {P : Program} {ty : List (TypeId × Ty)} {g : FuncId} {C : Ctr} {tab : List (FuncId × (List Sh × Ctr))} (hg : GoodC P g C) (h : GoodCtx P ⟨ty, tab⟩) : GoodCtx P ⟨ty, (g, ([], C)) :: tab⟩ := by
  intro g' s C' h'
  simp only [lookL] at h'
  split at h'
  · rename_i he
    have := Nat.eq_of_beq_eq_true he
    subst this
    cases h'
    exact hg
  · exact h g' s C' h'
theorem ex4 {β : (ι : Type) → (ι → St) → (ι → Prop) → (ι → Nat) → Prop} (ι : Type) (S : ι → St) (I : ι → Prop) (μ : ι → Nat) (h : β ι S I μ) : ∃ ι S I μ, β ι S I μ := ⟨ι, S, I, μ, h⟩

/-- The first place of xs, from i on, at which p says so. -/
def firstAt {α : Type} (p : α → Bool) : List α → Int → Int
  | [], _ => -1
  | x :: l, i => if p x then i else firstAt p l (i + 1)
theorem firstAt_drop {α : Type} (p : α → Bool) (d : α) (xs : List α) (i : Nat) (h : i < xs.length) : firstAt p (xs.drop i) i = if p (xs.getD i d) then (i : Int) else firstAt p (xs.drop (i + 1)) ((i + 1 : Nat) : Int) := by
  rw [List.drop_eq_getElem_cons h]
  simp [firstAt, List.getElem?_eq_getElem h]
theorem firstAt_ge {α : Type} (p : α → Bool) : ∀ (xs : List α) (i : Int), 0 ≤ i → (decide (0 ≤ firstAt p xs i)) = xs.any p
  | [], i, h => rfl
  | x :: l, i, h => by
    unfold firstAt
    cases hp : p x <;> simp [hp]
    · exact firstAt_ge p l (i + 1) (by omega)
    · exact h
theorem take_ext_succ {α : Type} {xs ys : List α} {i : Nat} {d : α} (h1 : i < xs.length) (h2 : i < ys.length) (h : xs.take i = ys.take i) (hd : xs.getD i d = ys.getD i d) : xs.take (i + 1) = ys.take (i + 1) := by
  rw [List.take_succ_eq_append_getElem h1, List.take_succ_eq_append_getElem h2, h]
  simp [List.getD_eq_getElem?_getD, List.getElem?_eq_getElem h1, List.getElem?_eq_getElem h2] at hd
  rw [hd]
theorem any_take_succ {α : Type} {xs : List α} {i : Nat} {d : α} (p : α → Bool) (h1 : i < xs.length) : (xs.take (i + 1)).any p = ((xs.take i).any p || p (xs.getD i d)) := by
  rw [List.take_succ_eq_append_getElem h1]
  simp only [List.any_append, List.any_cons, List.any_nil, Bool.or_false, List.getD_eq_getElem?_getD, List.getElem?_eq_getElem h1, Option.getD_some]
theorem any_of_getD {α : Type} {xs : List α} {i : Nat} {d : α} {p : α → Bool} (h1 : i < xs.length) (h : p (xs.getD i d) = true) : xs.any p = true := by
  simp only [List.getD_eq_getElem?_getD, List.getElem?_eq_getElem h1, Option.getD_some] at h
  exact List.any_eq_true.2 ⟨_, List.getElem_mem h1, h⟩

def isTask (x : Int) : Bool := decide (0 ≤ x) && decide (x < 16)
def hasI (l : List Int) (x : Int) : Bool := l.any fun y => decide (y = x)

def c28 : Ctr := fnC [dI] [(false, .bool)] (fun _ => True) (fun y => (isTask y.1, ()))
theorem good28 : GoodC Try.prog 28 c28 := by
  refine goodF cx0_good 3 _ _ _ _ ⟨_, Try.func28, rfl, rfl⟩ fun (⟨n, _⟩ : Int × Unit) _ => ?_
  refine (And.intro (by rfl) (fin_of rfl (by simp [isTask])))

def c35 : Ctr := fnC [dIs, dI] [(false, tI)] (fun _ => True) (fun y => (firstAt (fun z => decide (y.2.1 = z)) y.1 0, ()))
theorem good35 : GoodC Try.prog 35 c35 := by
  refine goodF cx0_good 3 _ _ _ _ ⟨_, Try.func35, rfl, rfl⟩ fun (⟨xs, v, _⟩ : List Int × Int × Unit) _ => ?_
  refine (And.intro (by rfl) (fun h0 => ?_))
  refine ex4 _ (fun i : Nat => ⟨[.sl (.int .i64) xs, .int .i64 v, .any, .any, .any, .any, .sl (.int .i64) xs, .int .i64 (↑xs.length : Int), .int .i64 (i : Int), .any, .any, .any, .any, .any, .any, .any, .any, .any, .any], [], 0⟩) (fun i => i ≤ xs.length ∧ firstAt (fun z => decide (v = z)) xs 0 = firstAt (fun z => decide (v = z)) (xs.drop i) i) (fun i => xs.length - i) (And.intro (Exists.intro (0) (Exists.intro ([]) (And.intro ?_ (And.intro (by rfl) (And.intro (by rfl) (And.intro True.intro (by rfl))))))) ?_)
  · exact ⟨Nat.zero_le _, rfl⟩
  rintro i ⟨hi, ht⟩
  refine (And.intro (fun k0 => (And.intro (by intros; (try subst_vars); (try simp only [Bool.cond_true_left, Bool.cond_false_right, Bool.or_eq_true, Bool.or_eq_false_iff, Bool.and_eq_true, Bool.not_eq_true', Bool.not_eq_false', decide_eq_true_eq, decide_eq_false_iff_not, Int.not_lt, Int.not_le] at *); (try simp only [inK, big, lim, List.length_cons, List.length_nil, List.length_append, List.length_drop, List.length_take, List.length_replicate] at *); omega) (And.intro (fun k1 => (fin_of rfl (by (try simp only [Bool.cond_true_left, Bool.cond_false_right, Bool.or_eq_true, Bool.or_eq_false_iff, Bool.and_eq_true, Bool.not_eq_true', Bool.not_eq_false', decide_eq_true_eq, decide_eq_false_iff_not] at *); rw [ht]; first | (rw [firstAt_drop (fun z => decide (v = z)) 0 xs i (by omega)]; simp_all; done) | (rw [List.drop_of_length_le (by omega)]; rfl)))) (fun k1 => (And.intro (by intros; (try subst_vars); (try simp only [Bool.cond_true_left, Bool.cond_false_right, Bool.or_eq_true, Bool.or_eq_false_iff, Bool.and_eq_true, Bool.not_eq_true', Bool.not_eq_false', decide_eq_true_eq, decide_eq_false_iff_not, Int.not_lt, Int.not_le] at *); (try simp only [inK, big, lim, List.length_cons, List.length_nil, List.length_append, List.length_drop, List.length_take, List.length_replicate] at *); omega) ?_))))) (fun k0 => (fin_of rfl (by (try simp only [Bool.cond_true_left, Bool.cond_false_right, Bool.or_eq_true, Bool.or_eq_false_iff, Bool.and_eq_true, Bool.not_eq_true', Bool.not_eq_false', decide_eq_true_eq, decide_eq_false_iff_not] at *); rw [ht]; first | (rw [firstAt_drop (fun z => decide (v = z)) 0 xs i (by omega)]; simp_all; done) | (rw [List.drop_of_length_le (by omega)]; rfl)))))
  refine Exists.intro (i + 1) (Exists.intro ([]) (And.intro ?_ (And.intro ?_ (And.intro (by rfl) (And.intro (by rfl) (And.intro True.intro (by rfl)))))))
  · have hi' : i < xs.length := by simp only [Bool.cond_true_left, Bool.cond_false_right, Bool.or_eq_true, Bool.or_eq_false_iff, Bool.and_eq_true, Bool.not_eq_true', Bool.not_eq_false', decide_eq_true_eq, decide_eq_false_iff_not] at *; omega
    refine ⟨hi', ?_⟩
    rw [ht, firstAt_drop (fun z => decide (v = z)) 0 xs i hi']
    simp_all
  · simp only [Bool.cond_true_left, Bool.cond_false_right, Bool.or_eq_true, Bool.or_eq_false_iff, Bool.and_eq_true, Bool.not_eq_true', Bool.not_eq_false', decide_eq_true_eq, decide_eq_false_iff_not] at *; omega

def cx1 : Ctx := ⟨tys0, [(35, ([], c35)), (28, ([], c28))]⟩
theorem cx1_good : GoodCtx Try.prog cx1 := cx_cons good35 (cx_cons good28 cx0_good)
def c29 : Ctr := fnC [dIs, dI] [(false, .bool)] (fun _ => True) (fun y => (hasI y.1 y.2.1, ()))
theorem good29 : GoodC Try.prog 29 c29 := by
  refine goodF cx1_good 3 _ _ _ _ ⟨_, Try.func29, rfl, rfl⟩ fun (⟨xs, v, _⟩ : List Int × Int × Unit) _ => ?_
  refine (And.intro (by rfl) (And.intro True.intro (fin_of rfl (by simp only [hasI]; rw [firstAt_ge _ _ 0 (by omega)]; simp [eq_comm]))))

def c30 : Ctr := fnC [dIs, dI] [(false, .bool)] (fun _ => True) (fun y => (hasI y.1 y.2.1, ()))
theorem good30 : GoodC Try.prog 30 c30 := by
  refine goodF cx0_good 3 _ _ _ _ ⟨_, Try.func30, rfl, rfl⟩ fun (⟨xs, v, _⟩ : List Int × Int × Unit) _ => ?_
  refine (And.intro (by rfl) ?_)
  refine ex4 _ (fun i : Nat => ⟨[.sl (.int .i64) xs, .int .i64 v, .any, .any, .any, .int .i64 (i : Int), .any, .any, .any, .any, .any, .any, .any, .any, .any, .any, .any, .any], [], 0⟩) (fun i => i ≤ xs.length ∧ hasI (xs.take i) v = false) (fun i => xs.length - i) (And.intro (Exists.intro (0) (Exists.intro ([]) (And.intro ?_ (And.intro (by rfl) (And.intro (by rfl) (And.intro True.intro (by rfl))))))) ?_)
  · simp [hasI]
  rintro i ⟨hi, ht⟩
  refine (fun k0 => (And.intro (fun k1 => (And.intro (by intros; (try subst_vars); (try simp only [Bool.cond_true_left, Bool.cond_false_right, Bool.or_eq_true, Bool.or_eq_false_iff, Bool.and_eq_true, Bool.not_eq_true', Bool.not_eq_false', decide_eq_true_eq, decide_eq_false_iff_not, Int.not_lt, Int.not_le] at *); (try simp only [inK, big, lim, List.length_cons, List.length_nil, List.length_append, List.length_drop, List.length_take, List.length_replicate] at *); omega) (And.intro (fun k2 => (fin_of rfl (by (try simp only [Bool.cond_true_left, Bool.cond_false_right, Bool.or_eq_true, Bool.or_eq_false_iff, Bool.and_eq_true, Bool.not_eq_true', Bool.not_eq_false', decide_eq_true_eq, decide_eq_false_iff_not] at *); first | (rw [show hasI xs v = true from any_of_getD (d := 0) (i := i) (by omega) (by simpa using ‹_ = v›)]; done) | (rw [List.take_of_length_le (by omega)] at ht; rw [ht]; done)))) (fun k2 => (And.intro (by intros; (try subst_vars); (try simp only [Bool.cond_true_left, Bool.cond_false_right, Bool.or_eq_true, Bool.or_eq_false_iff, Bool.and_eq_true, Bool.not_eq_true', Bool.not_eq_false', decide_eq_true_eq, decide_eq_false_iff_not, Int.not_lt, Int.not_le] at *); (try simp only [inK, big, lim, List.length_cons, List.length_nil, List.length_append, List.length_drop, List.length_take, List.length_replicate] at *); omega) ?_))))) (fun k1 => (fin_of rfl (by (try simp only [Bool.cond_true_left, Bool.cond_false_right, Bool.or_eq_true, Bool.or_eq_false_iff, Bool.and_eq_true, Bool.not_eq_true', Bool.not_eq_false', decide_eq_true_eq, decide_eq_false_iff_not] at *); first | (rw [show hasI xs v = true from any_of_getD (d := 0) (i := i) (by omega) (by simpa using ‹_ = v›)]; done) | (rw [List.take_of_length_le (by omega)] at ht; rw [ht]; done))))))
  refine Exists.intro (i + 1) (Exists.intro ([]) (And.intro ?_ (And.intro ?_ (And.intro (by rfl) (And.intro (by rfl) (And.intro True.intro (by rfl)))))))
  · have hi' : i < xs.length := by simp only [Bool.cond_true_left, Bool.cond_false_right, Bool.or_eq_true, Bool.or_eq_false_iff, Bool.and_eq_true, Bool.not_eq_true', Bool.not_eq_false', decide_eq_true_eq, decide_eq_false_iff_not] at *; omega
    exact ⟨hi', by unfold hasI at *; rw [any_take_succ (d := 0) _ hi', ht]; simpa using k2⟩
  · simp only [Bool.cond_true_left, Bool.cond_false_right, Bool.or_eq_true, Bool.or_eq_false_iff, Bool.and_eq_true, Bool.not_eq_true', Bool.not_eq_false', decide_eq_true_eq, decide_eq_false_iff_not] at *; omega

def dScan (pre : List Int) : List Int → Int
  | [] => 0
  | x :: l => if isTask x = false then 2 else if hasI pre x = true then 6 else dScan (pre ++ [x]) l
/-- Why a list is not valid. -/
def dCheck (l : List Int) : Int := if 16 < (l.length : Int) then 4 else dScan [] l
theorem dScan_step {l : List Int} {i : Nat} (h : i < l.length) : dScan (l.take i) (l.drop i) = if isTask (l.getD i 0) = false then 2 else if hasI (l.take i) (l.getD i 0) = true then 6 else dScan (l.take (i + 1)) (l.drop (i + 1)) := by
  rw [List.drop_eq_getElem_cons h, dScan, List.take_succ_eq_append_getElem h]
  simp [List.getD_eq_getElem?_getD, List.getElem?_eq_getElem h]

def cx2 : Ctx := ⟨tys0, [(28, ([], c28)), (29, ([], c29)), (30, ([], c30))]⟩
theorem cx2_good : GoodCtx Try.prog cx2 := cx_cons good28 (cx_cons good29 (cx_cons good30 cx0_good))
def c21 : Ctr := fnC [dIs] [(false, tI)] (fun _ => True) (fun y => (dCheck y.1, ()))
theorem good21 : GoodC Try.prog 21 c21 := by
  refine goodF cx2_good 3 _ _ _ _ ⟨_, Try.func21, rfl, rfl⟩ fun (⟨xs, _⟩ : List Int × Unit) _ => ?_
  refine (And.intro (by rfl) (fun h0 => (And.intro (fun h1 => (fin_of rfl (by (try simp only [Bool.cond_true_left, Bool.cond_false_right, Bool.or_eq_true, Bool.or_eq_false_iff, Bool.and_eq_true, Bool.not_eq_true', Bool.not_eq_false', decide_eq_true_eq, decide_eq_false_iff_not] at *); rw [dCheck, if_pos (by assumption)]))) (fun h1 => (fun h2 => ?_)))))
  refine ex4 _ (fun i : Nat => ⟨[.sl (.int .i64) xs, .any, .any, .any, .any, .any, .any, .any, .sl (.int .i64) xs, .int .i64 (↑xs.length : Int), .int .i64 (i : Int), .any, .any, .any, .any, .any, .any, .any, .any, .any, .any, .any, .any, .any], [], 0⟩) (fun i => i ≤ xs.length ∧ dCheck xs = dScan (xs.take i) (xs.drop i)) (fun i => xs.length - i) (And.intro (Exists.intro (0) (Exists.intro ([]) (And.intro ?_ (And.intro (by rfl) (And.intro (by rfl) (And.intro True.intro (by rfl))))))) ?_)
  · exact ⟨Nat.zero_le _, by rw [dCheck, if_neg (by simpa using h1)]; rfl⟩
  rintro i ⟨hi, ht⟩
  refine (And.intro (fun k0 => (And.intro (by intros; (try subst_vars); (try simp only [Bool.cond_true_left, Bool.cond_false_right, Bool.or_eq_true, Bool.or_eq_false_iff, Bool.and_eq_true, Bool.not_eq_true', Bool.not_eq_false', decide_eq_true_eq, decide_eq_false_iff_not, Int.not_lt, Int.not_le] at *); (try simp only [inK, big, lim, List.length_cons, List.length_nil, List.length_append, List.length_drop, List.length_take, List.length_replicate] at *); omega) (And.intro True.intro (And.intro (fun k1 => (fin_of rfl (by (try simp only [Bool.cond_true_left, Bool.cond_false_right, Bool.or_eq_true, Bool.or_eq_false_iff, Bool.and_eq_true, Bool.not_eq_true', Bool.not_eq_false', decide_eq_true_eq, decide_eq_false_iff_not] at *); rw [ht]; first | (rw [dScan_step (by omega)]; simp_all; done) | (rw [List.drop_of_length_le (by omega)]; rfl)))) (fun k1 => (And.intro (by intros; (try subst_vars); (try simp only [Bool.cond_true_left, Bool.cond_false_right, Bool.or_eq_true, Bool.or_eq_false_iff, Bool.and_eq_true, Bool.not_eq_true', Bool.not_eq_false', decide_eq_true_eq, decide_eq_false_iff_not, Int.not_lt, Int.not_le] at *); (try simp only [inK, big, lim, List.length_cons, List.length_nil, List.length_append, List.length_drop, List.length_take, List.length_replicate] at *); omega) (And.intro True.intro (And.intro (fun k2 => (fin_of rfl (by (try simp only [Bool.cond_true_left, Bool.cond_false_right, Bool.or_eq_true, Bool.or_eq_false_iff, Bool.and_eq_true, Bool.not_eq_true', Bool.not_eq_false', decide_eq_true_eq, decide_eq_false_iff_not] at *); rw [ht]; first | (rw [dScan_step (by omega)]; simp_all; done) | (rw [List.drop_of_length_le (by omega)]; rfl)))) (fun k2 => (And.intro (by intros; (try subst_vars); (try simp only [Bool.cond_true_left, Bool.cond_false_right, Bool.or_eq_true, Bool.or_eq_false_iff, Bool.and_eq_true, Bool.not_eq_true', Bool.not_eq_false', decide_eq_true_eq, decide_eq_false_iff_not, Int.not_lt, Int.not_le] at *); (try simp only [inK, big, lim, List.length_cons, List.length_nil, List.length_append, List.length_drop, List.length_take, List.length_replicate] at *); omega) ?_)))))))))) (fun k0 => (fin_of rfl (by (try simp only [Bool.cond_true_left, Bool.cond_false_right, Bool.or_eq_true, Bool.or_eq_false_iff, Bool.and_eq_true, Bool.not_eq_true', Bool.not_eq_false', decide_eq_true_eq, decide_eq_false_iff_not] at *); rw [ht]; first | (rw [dScan_step (by omega)]; simp_all; done) | (rw [List.drop_of_length_le (by omega)]; rfl)))))
  refine Exists.intro (i + 1) (Exists.intro ([]) (And.intro ?_ (And.intro ?_ (And.intro (by rfl) (And.intro (by rfl) (And.intro True.intro (by rfl)))))))
  · have hi' : i < xs.length := by simp only [Bool.cond_true_left, Bool.cond_false_right, Bool.or_eq_true, Bool.or_eq_false_iff, Bool.and_eq_true, Bool.not_eq_true', Bool.not_eq_false', decide_eq_true_eq, decide_eq_false_iff_not] at *; omega
    refine ⟨hi', ?_⟩
    rw [ht, dScan_step hi']
    simp_all
  · simp only [Bool.cond_true_left, Bool.cond_false_right, Bool.or_eq_true, Bool.or_eq_false_iff, Bool.and_eq_true, Bool.not_eq_true', Bool.not_eq_false', decide_eq_true_eq, decide_eq_false_iff_not] at *; omega

def c22 : Ctr := fnC [dIs] [(false, tI)] (fun _ => True) (fun y => (dCheck y.1, ()))
theorem good22 : GoodC Try.prog 22 c22 := by
  refine goodF cx2_good 3 _ _ _ _ ⟨_, Try.func22, rfl, rfl⟩ fun (⟨xs, _⟩ : List Int × Unit) _ => ?_
  refine (And.intro (by rfl) (fun h0 => (And.intro (fun h1 => (fin_of rfl (by (try simp only [Bool.cond_true_left, Bool.cond_false_right, Bool.or_eq_true, Bool.or_eq_false_iff, Bool.and_eq_true, Bool.not_eq_true', Bool.not_eq_false', decide_eq_true_eq, decide_eq_false_iff_not] at *); rw [dCheck, if_pos (by assumption)]))) (fun h1 => ?_))))
  refine ex4 _ (fun i : Nat => ⟨[.sl (.int .i64) xs, .any, .any, .int .i64 (i : Int), .any, .any, .any, .any, .any, .any, .any, .any, .any, .any, .any, .any, .any, .any, .any, .any, .any, .any, .any, .any, .any, .any, .any, .any, .any, .any, .any, .any, .any], [], 0⟩) (fun i => i ≤ xs.length ∧ dCheck xs = dScan (xs.take i) (xs.drop i)) (fun i => xs.length - i) (And.intro (Exists.intro (0) (Exists.intro ([]) (And.intro ?_ (And.intro (by rfl) (And.intro (by rfl) (And.intro True.intro (by rfl))))))) ?_)
  · exact ⟨Nat.zero_le _, by rw [dCheck, if_neg (by simpa using h1)]; rfl⟩
  rintro i ⟨hi, ht⟩
  refine (fun k0 => (And.intro (fun k1 => (And.intro (by intros; (try subst_vars); (try simp only [Bool.cond_true_left, Bool.cond_false_right, Bool.or_eq_true, Bool.or_eq_false_iff, Bool.and_eq_true, Bool.not_eq_true', Bool.not_eq_false', decide_eq_true_eq, decide_eq_false_iff_not, Int.not_lt, Int.not_le] at *); (try simp only [inK, big, lim, List.length_cons, List.length_nil, List.length_append, List.length_drop, List.length_take, List.length_replicate] at *); omega) (And.intro (fun k2 => (by intros; (try subst_vars); (try simp only [Bool.cond_true_left, Bool.cond_false_right, Bool.or_eq_true, Bool.or_eq_false_iff, Bool.and_eq_true, Bool.not_eq_true', Bool.not_eq_false', decide_eq_true_eq, decide_eq_false_iff_not, Int.not_lt, Int.not_le] at *); (try simp only [inK, big, lim, List.length_cons, List.length_nil, List.length_append, List.length_drop, List.length_take, List.length_replicate] at *); omega)) (And.intro (fun k3 => (fin_of rfl ?_)) (fun k3 => (And.intro (by rfl) (And.intro (by intros; (try subst_vars); (try simp only [Bool.cond_true_left, Bool.cond_false_right, Bool.or_eq_true, Bool.or_eq_false_iff, Bool.and_eq_true, Bool.not_eq_true', Bool.not_eq_false', decide_eq_true_eq, decide_eq_false_iff_not, Int.not_lt, Int.not_le] at *); (try simp only [inK, big, lim, List.length_cons, List.length_nil, List.length_append, List.length_drop, List.length_take, List.length_replicate] at *); omega) (And.intro (by intros; (try subst_vars); (try simp only [Bool.cond_true_left, Bool.cond_false_right, Bool.or_eq_true, Bool.or_eq_false_iff, Bool.and_eq_true, Bool.not_eq_true', Bool.not_eq_false', decide_eq_true_eq, decide_eq_false_iff_not, Int.not_lt, Int.not_le] at *); (try simp only [inK, big, lim, List.length_cons, List.length_nil, List.length_append, List.length_drop, List.length_take, List.length_replicate] at *); omega) (And.intro True.intro (And.intro (fun k4 => (fin_of rfl (by (try simp only [Bool.cond_true_left, Bool.cond_false_right, Bool.or_eq_true, Bool.or_eq_false_iff, Bool.and_eq_true, Bool.not_eq_true', Bool.not_eq_false', decide_eq_true_eq, decide_eq_false_iff_not] at *); rw [ht]; first | (rw [dScan_step (by omega)]; simp_all [isTask]; done) | (rw [List.drop_of_length_le (by omega)]; rfl)))) (fun k4 => (And.intro (by intros; (try subst_vars); (try simp only [Bool.cond_true_left, Bool.cond_false_right, Bool.or_eq_true, Bool.or_eq_false_iff, Bool.and_eq_true, Bool.not_eq_true', Bool.not_eq_false', decide_eq_true_eq, decide_eq_false_iff_not, Int.not_lt, Int.not_le] at *); (try simp only [inK, big, lim, List.length_cons, List.length_nil, List.length_append, List.length_drop, List.length_take, List.length_replicate] at *); omega) ?_)))))))))))) (fun k1 => (fin_of rfl (by (try simp only [Bool.cond_true_left, Bool.cond_false_right, Bool.or_eq_true, Bool.or_eq_false_iff, Bool.and_eq_true, Bool.not_eq_true', Bool.not_eq_false', decide_eq_true_eq, decide_eq_false_iff_not] at *); rw [ht]; first | (rw [dScan_step (by omega)]; simp_all [isTask]; done) | (rw [List.drop_of_length_le (by omega)]; rfl))))))
  · have hi' : i < xs.length := by simp only [Bool.cond_true_left, Bool.cond_false_right, Bool.or_eq_true, Bool.or_eq_false_iff, Bool.and_eq_true, Bool.not_eq_true', Bool.not_eq_false', decide_eq_true_eq, decide_eq_false_iff_not] at *; omega
    simp only [Bool.cond_true_left, Bool.cond_false_right, Bool.or_eq_true, Bool.or_eq_false_iff, Bool.and_eq_true, Bool.not_eq_true', Bool.not_eq_false', decide_eq_true_eq, decide_eq_false_iff_not, Int.toNat_natCast, dflt] at k3 ⊢
    rw [ht, dScan_step hi', if_pos (by simp only [isTask, Bool.and_eq_false_iff, decide_eq_false_iff_not]; omega)]
  refine Exists.intro (i + 1) (Exists.intro ([]) (And.intro ?_ (And.intro ?_ (And.intro (by rfl) (And.intro (by rfl) (And.intro True.intro (by rfl)))))))
  · have hi' : i < xs.length := by simp only [Bool.cond_true_left, Bool.cond_false_right, Bool.or_eq_true, Bool.or_eq_false_iff, Bool.and_eq_true, Bool.not_eq_true', Bool.not_eq_false', decide_eq_true_eq, decide_eq_false_iff_not] at *; omega
    refine ⟨hi', ?_⟩
    simp only [Bool.cond_true_left, Bool.cond_false_right, Bool.or_eq_true, Bool.or_eq_false_iff, Bool.and_eq_true, Bool.not_eq_true', Bool.not_eq_false', decide_eq_true_eq, decide_eq_false_iff_not, Int.toNat_natCast, dflt] at k3 k4
    rw [ht, dScan_step hi', if_neg (by simp only [isTask, Bool.and_eq_false_iff, decide_eq_false_iff_not]; omega), if_neg (by simpa using k4)]
  · simp only [Bool.cond_true_left, Bool.cond_false_right, Bool.or_eq_true, Bool.or_eq_false_iff, Bool.and_eq_true, Bool.not_eq_true', Bool.not_eq_false', decide_eq_true_eq, decide_eq_false_iff_not] at *; omega
end Go.Proofs.Ytcghckgbaeindaa
