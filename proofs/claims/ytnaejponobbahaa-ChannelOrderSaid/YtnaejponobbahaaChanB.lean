/- Channel: the loops over waiters, as contracts. -/
import Derived.Test.YtnaejponobbahaaChanA
set_option linter.unusedSimpArgs false
set_option linter.unusedVariables false
set_option maxRecDepth 100000
namespace Go.Proofs.Ytnaejponobbahaa
open Go.Sx

def pFor (op task : Int) (w : W) : Bool := decide (w.2.1 = op) && decide (w.1 ≠ task)
def foreign (l : List W) (op task : Int) : Bool := l.any (pFor op task)
def c78 : Ctr := fnC [dWs, dI, dI] rB (fun _ => True) (fun y => (foreign y.1 y.2.1 y.2.2.1, ()))
theorem good78 : GoodC Try.prog 78 c78 := by
  refine goodF cx0_good 4 _ _ _ _ ⟨_, Try.func78, rfl, rfl⟩ fun (⟨l, op, task, _⟩ : List W × Int × Int × Unit) _ => ?_
  refine (And.intro (by rfl) (And.intro (by rfl) (And.intro (by rfl) (fun h0 => ?_))))
  refine ex4 _ (fun i : Nat => ⟨[.sl tW l, .fn (Fn.func 92) [] [.ptr 0 0, .ptr 1 0], .any, .any, .int .i64 0, .any, .sl tW l, .int .i64 (↑l.length : Int), .int .i64 (i : Int), .any, .any, .any, .any, .any, .any, .any, .any, .any, .any], [.cells [.int .i64 op], .cells [.int .i64 task]], 2⟩) (fun i => i ≤ l.length ∧ (l.take i).any (pFor op task) = false) (fun i => l.length - i) (And.intro (Exists.intro (0) (Exists.intro ([some 0, some 1]) (And.intro ?_ (And.intro (by rfl) (And.intro (by rfl) (And.intro (And.intro (And.intro (by rfl) (by rfl)) (And.intro (And.intro (by rfl) (by rfl)) True.intro)) (by rfl))))))) ?_)
  · simp
  rintro i ⟨hi, ht⟩
  refine (And.intro (fun k0 => (And.intro (by intros; (try subst_vars); (try simp only [Bool.cond_true_left, Bool.cond_false_right, Bool.or_eq_true, Bool.or_eq_false_iff, Bool.and_eq_true, Bool.not_eq_true', Bool.not_eq_false', decide_eq_true_eq, decide_eq_false_iff_not, Int.not_lt, Int.not_le] at *); (try simp only [inK, big, lim, List.length_cons, List.length_nil, List.length_append, List.length_drop, List.length_take, List.length_replicate] at *); omega) (And.intro (by rfl) (And.intro (fun k1 => (fin_of rfl ?_)) (fun k1 => (And.intro (by intros; (try subst_vars); (try simp only [Bool.cond_true_left, Bool.cond_false_right, Bool.or_eq_true, Bool.or_eq_false_iff, Bool.and_eq_true, Bool.not_eq_true', Bool.not_eq_false', decide_eq_true_eq, decide_eq_false_iff_not, Int.not_lt, Int.not_le] at *); (try simp only [inK, big, lim, List.length_cons, List.length_nil, List.length_append, List.length_drop, List.length_take, List.length_replicate] at *); omega) ?_)))))) (fun k0 => (fin_of rfl ?_)))
  · have e : l.any (pFor op task) = true := any_hit (i := i) (d := dflt tW) (by simp only [decide_eq_true_eq, decide_eq_false_iff_not, Int.ofNat_lt, Int.not_lt, Int.ofNat_le] at *; omega) (by simpa [pFor] using k1)
    simp [foreign, e]
  · refine Exists.intro (i + 1) (Exists.intro ([some 0, some 1]) (And.intro ?_ (And.intro ?_ (And.intro (by rfl) (And.intro (by rfl) (And.intro (And.intro (And.intro (by rfl) (by rfl)) (And.intro (And.intro (by rfl) (by rfl)) True.intro)) (by rfl)))))))
    · exact ⟨(by simp only [decide_eq_true_eq, decide_eq_false_iff_not, Int.ofNat_lt, Int.not_lt, Int.ofNat_le] at *; omega), any_next (d := dflt tW) (by simp only [decide_eq_true_eq, decide_eq_false_iff_not, Int.ofNat_lt, Int.not_lt, Int.ofNat_le] at *; omega) ht (by simpa [pFor] using k1)⟩
    · have hi' : i < l.length := (by simp only [decide_eq_true_eq, decide_eq_false_iff_not, Int.ofNat_lt, Int.not_lt, Int.ofNat_le] at *; omega); show l.length - (i + 1) < l.length - i; omega
  · have e : l.any (pFor op task) = false := any_end (by simp only [decide_eq_true_eq, decide_eq_false_iff_not, Int.ofNat_lt, Int.not_lt, Int.ofNat_le] at *; omega) ht
    simp [foreign, e]
def isT (t : Int) (w : W) : Bool := decide (w.1 = t)
def sFind (l : List W) (t : Int) : Int × Bool := (if 0 ≤ firstAt (isT t) l 0 then firstAt (isT t) l 0 else 0, decide (0 ≤ firstAt (isT t) l 0))
theorem sFind_any (l : List W) (t : Int) : (sFind l t).2 = l.any (isT t) := firstAt_ge _ _ _ (by omega)
def c44 : Ctr := fnC [dWs, dI] [(false, tI), (false, .bool)] (fun _ => True) (fun y => ((sFind y.1 y.2.1).1, (sFind y.1 y.2.1).2, ()))
theorem good44 : GoodC Try.prog 44 c44 := by
  refine goodF cx0_good 3 _ _ _ _ ⟨_, Try.func44, rfl, rfl⟩ fun (⟨l, t, _⟩ : List W × Int × Unit) _ => ?_
  refine (And.intro (by rfl) (fun h0 => ?_))
  refine ex4 _ (fun i : Nat => ⟨[.sl tW l, .int .i64 t, .any, .any, .any, .any, .any, .any, .sl tW l, .int .i64 (↑l.length : Int), .int .i64 (i : Int), .any, .any, .any, .any, .any, .any, .any, .any, .any, .any], [], 0⟩) (fun i => i ≤ l.length ∧ firstAt (isT t) l 0 = firstAt (isT t) (l.drop i) i) (fun i => l.length - i) (And.intro (Exists.intro (0) (Exists.intro ([]) (And.intro ?_ (And.intro (by rfl) (And.intro (by rfl) (And.intro True.intro (by rfl))))))) ?_)
  · exact ⟨Nat.zero_le _, rfl⟩
  rintro i ⟨hi, ht⟩
  refine (And.intro (fun k0 => (And.intro (by intros; (try subst_vars); (try simp only [Bool.cond_true_left, Bool.cond_false_right, Bool.or_eq_true, Bool.or_eq_false_iff, Bool.and_eq_true, Bool.not_eq_true', Bool.not_eq_false', decide_eq_true_eq, decide_eq_false_iff_not, Int.not_lt, Int.not_le] at *); (try simp only [inK, big, lim, List.length_cons, List.length_nil, List.length_append, List.length_drop, List.length_take, List.length_replicate] at *); omega) (And.intro (fun k1 => (fin_of rfl ?_)) (fun k1 => (And.intro (by intros; (try subst_vars); (try simp only [Bool.cond_true_left, Bool.cond_false_right, Bool.or_eq_true, Bool.or_eq_false_iff, Bool.and_eq_true, Bool.not_eq_true', Bool.not_eq_false', decide_eq_true_eq, decide_eq_false_iff_not, Int.not_lt, Int.not_le] at *); (try simp only [inK, big, lim, List.length_cons, List.length_nil, List.length_append, List.length_drop, List.length_take, List.length_replicate] at *); omega) ?_))))) (fun k0 => (fin_of rfl ?_)))
  · have e : firstAt (isT t) l 0 = i := by rw [ht, firstAt_drop (isT t) (dflt tW) l i (by simp only [decide_eq_true_eq, decide_eq_false_iff_not, Int.ofNat_lt, Int.not_lt, Int.ofNat_le] at *; omega), if_pos (by simpa [isT] using k1)]
    simp [sFind, e]
  · refine Exists.intro (i + 1) (Exists.intro ([]) (And.intro ?_ (And.intro ?_ (And.intro (by rfl) (And.intro (by rfl) (And.intro True.intro (by rfl)))))))
    · exact ⟨(by simp only [decide_eq_true_eq, decide_eq_false_iff_not, Int.ofNat_lt, Int.not_lt, Int.ofNat_le] at *; omega), by rw [ht, firstAt_drop (isT t) (dflt tW) l i (by simp only [decide_eq_true_eq, decide_eq_false_iff_not, Int.ofNat_lt, Int.not_lt, Int.ofNat_le] at *; omega), if_neg (by simpa [isT] using k1)]⟩
    · have hi' : i < l.length := (by simp only [decide_eq_true_eq, decide_eq_false_iff_not, Int.ofNat_lt, Int.not_lt, Int.ofNat_le] at *; omega); show l.length - (i + 1) < l.length - i; omega
  · have e : firstAt (isT t) l 0 = -1 := by rw [ht, List.drop_of_length_le (by simp only [decide_eq_true_eq, decide_eq_false_iff_not, Int.ofNat_lt, Int.not_lt, Int.ofNat_le] at *; omega)]; rfl
    simp [sFind, e]
def c81 : Ctr := fnC [dWs, dI] [(false, tI), (false, .bool)] (fun _ => True) (fun y => ((sFind y.1 y.2.1).1, (sFind y.1 y.2.1).2, ()))
theorem good81 : GoodC Try.prog 81 c81 := by
  refine goodF cx0_good 3 _ _ _ _ ⟨_, Try.func81, rfl, rfl⟩ fun (⟨l, t, _⟩ : List W × Int × Unit) _ => ?_
  refine (And.intro (by rfl) ?_)
  refine ex4 _ (fun i : Nat => ⟨[.sl tW l, .int .i64 t, .any, .any, .any, .any, .int .i64 (i : Int), .any, .any, .any, .any, .any, .any, .any, .any, .any, .any, .any, .any, .any, .any], [], 0⟩) (fun i => i ≤ l.length ∧ firstAt (isT t) l 0 = firstAt (isT t) (l.drop i) i) (fun i => l.length - i) (And.intro (Exists.intro (0) (Exists.intro ([]) (And.intro ?_ (And.intro (by rfl) (And.intro (by rfl) (And.intro True.intro (by rfl))))))) ?_)
  · exact ⟨Nat.zero_le _, rfl⟩
  rintro i ⟨hi, ht⟩
  refine (fun k0 => (And.intro (fun k1 => (And.intro (by intros; (try subst_vars); (try simp only [Bool.cond_true_left, Bool.cond_false_right, Bool.or_eq_true, Bool.or_eq_false_iff, Bool.and_eq_true, Bool.not_eq_true', Bool.not_eq_false', decide_eq_true_eq, decide_eq_false_iff_not, Int.not_lt, Int.not_le] at *); (try simp only [inK, big, lim, List.length_cons, List.length_nil, List.length_append, List.length_drop, List.length_take, List.length_replicate] at *); omega) (And.intro (fun k2 => (fin_of rfl ?_)) (fun k2 => (And.intro (by intros; (try subst_vars); (try simp only [Bool.cond_true_left, Bool.cond_false_right, Bool.or_eq_true, Bool.or_eq_false_iff, Bool.and_eq_true, Bool.not_eq_true', Bool.not_eq_false', decide_eq_true_eq, decide_eq_false_iff_not, Int.not_lt, Int.not_le] at *); (try simp only [inK, big, lim, List.length_cons, List.length_nil, List.length_append, List.length_drop, List.length_take, List.length_replicate] at *); omega) ?_))))) (fun k1 => (fin_of rfl ?_))))
  · have e : firstAt (isT t) l 0 = i := by rw [ht, firstAt_drop (isT t) (dflt tW) l i (by simp only [decide_eq_true_eq, decide_eq_false_iff_not, Int.ofNat_lt, Int.not_lt, Int.ofNat_le] at *; omega), if_pos (by simpa [isT] using k2)]
    simp [sFind, e]
  · refine Exists.intro (i + 1) (Exists.intro ([]) (And.intro ?_ (And.intro ?_ (And.intro (by rfl) (And.intro (by rfl) (And.intro True.intro (by rfl)))))))
    · exact ⟨(by simp only [decide_eq_true_eq, decide_eq_false_iff_not, Int.ofNat_lt, Int.not_lt, Int.ofNat_le] at *; omega), by rw [ht, firstAt_drop (isT t) (dflt tW) l i (by simp only [decide_eq_true_eq, decide_eq_false_iff_not, Int.ofNat_lt, Int.not_lt, Int.ofNat_le] at *; omega), if_neg (by simpa [isT] using k2)]⟩
    · have hi' : i < l.length := (by simp only [decide_eq_true_eq, decide_eq_false_iff_not, Int.ofNat_lt, Int.not_lt, Int.ofNat_le] at *; omega); show l.length - (i + 1) < l.length - i; omega
  · have e : firstAt (isT t) l 0 = -1 := by rw [ht, List.drop_of_length_le (by simp only [decide_eq_true_eq, decide_eq_false_iff_not, Int.ofNat_lt, Int.not_lt, Int.ofNat_le] at *; omega)]; rfl
    simp [sFind, e]
def c64 : Ctr := fnC [dWs, dI, dI] [(false, tI)] (fun _ => True) (fun y => (firstAt (pFor y.2.1 y.2.2.1) y.1 0, ()))
theorem good64 : GoodC Try.prog 64 c64 := by
  refine goodF cx0_good 3 _ _ _ _ ⟨_, Try.func64, rfl, rfl⟩ fun (⟨l, op, t, _⟩ : List W × Int × Int × Unit) _ => ?_
  refine (And.intro (by rfl) ?_)
  refine ex4 _ (fun i : Nat => ⟨[.sl tW l, .int .i64 op, .int .i64 t, .any, .any, .any, .any, .int .i64 (i : Int), .any, .any, .any, .any, .any, .any, .any, .any, .any, .any, .any, .any, .any, .any, .any, .any, .any, .any, .any, .any, .any, .any, .any], [], 0⟩) (fun i => i ≤ l.length ∧ firstAt (pFor op t) l 0 = firstAt (pFor op t) (l.drop i) i) (fun i => l.length - i) (And.intro (Exists.intro (0) (Exists.intro ([]) (And.intro ?_ (And.intro (by rfl) (And.intro (by rfl) (And.intro True.intro (by rfl))))))) ?_)
  · exact ⟨Nat.zero_le _, rfl⟩
  rintro i ⟨hi, ht⟩
  refine (fun k0 => (And.intro (fun k1 => (And.intro (by intros; (try subst_vars); (try simp only [Bool.cond_true_left, Bool.cond_false_right, Bool.or_eq_true, Bool.or_eq_false_iff, Bool.and_eq_true, Bool.not_eq_true', Bool.not_eq_false', decide_eq_true_eq, decide_eq_false_iff_not, Int.not_lt, Int.not_le] at *); (try simp only [inK, big, lim, List.length_cons, List.length_nil, List.length_append, List.length_drop, List.length_take, List.length_replicate] at *); omega) (And.intro (fun k2 => (by intros; (try subst_vars); (try simp only [Bool.cond_true_left, Bool.cond_false_right, Bool.or_eq_true, Bool.or_eq_false_iff, Bool.and_eq_true, Bool.not_eq_true', Bool.not_eq_false', decide_eq_true_eq, decide_eq_false_iff_not, Int.not_lt, Int.not_le] at *); (try simp only [inK, big, lim, List.length_cons, List.length_nil, List.length_append, List.length_drop, List.length_take, List.length_replicate] at *); omega)) (And.intro (fun k3 => (fin_of rfl ?_)) (fun k3 => (And.intro (by intros; (try subst_vars); (try simp only [Bool.cond_true_left, Bool.cond_false_right, Bool.or_eq_true, Bool.or_eq_false_iff, Bool.and_eq_true, Bool.not_eq_true', Bool.not_eq_false', decide_eq_true_eq, decide_eq_false_iff_not, Int.not_lt, Int.not_le] at *); (try simp only [inK, big, lim, List.length_cons, List.length_nil, List.length_append, List.length_drop, List.length_take, List.length_replicate] at *); omega) ?_)))))) (fun k1 => (fin_of rfl ?_))))
  · have e : firstAt (pFor op t) l 0 = i := by rw [ht, firstAt_drop (pFor op t) (dflt tW) l i (by simp only [decide_eq_true_eq, decide_eq_false_iff_not, Int.ofNat_lt, Int.not_lt, Int.ofNat_le] at *; omega), if_pos (by simpa [pFor] using k3)]
    simp [e]
  · refine Exists.intro (i + 1) (Exists.intro ([]) (And.intro ?_ (And.intro ?_ (And.intro (by rfl) (And.intro (by rfl) (And.intro True.intro (by rfl)))))))
    · exact ⟨(by simp only [decide_eq_true_eq, decide_eq_false_iff_not, Int.ofNat_lt, Int.not_lt, Int.ofNat_le] at *; omega), by rw [ht, firstAt_drop (pFor op t) (dflt tW) l i (by simp only [decide_eq_true_eq, decide_eq_false_iff_not, Int.ofNat_lt, Int.not_lt, Int.ofNat_le] at *; omega), if_neg (by simpa [pFor] using k3)]⟩
    · have hi' : i < l.length := (by simp only [decide_eq_true_eq, decide_eq_false_iff_not, Int.ofNat_lt, Int.not_lt, Int.ofNat_le] at *; omega); show l.length - (i + 1) < l.length - i; omega
  · have e : firstAt (pFor op t) l 0 = -1 := by rw [ht, List.drop_of_length_le (by simp only [decide_eq_true_eq, decide_eq_false_iff_not, Int.ofNat_lt, Int.not_lt, Int.ofNat_le] at *; omega)]; rfl
    simp [e]
def wlCheck (l : List W) : Int := if 96 < (l.length : Int) then 4 else if l.any (fun w => !wOk w) = true then 2 else 0
def c75 : Ctr := fnC [dI, dWs] [(false, tI)] (fun y => y.1 = 1) (fun y => (wlCheck y.2.1, ()))
theorem good75 : GoodC Try.prog 75 c75 := by
  refine goodF cx1_good 3 _ _ _ _ ⟨_, Try.func75, rfl, rfl⟩ fun (⟨n, l, _⟩ : Int × List W × Unit) hn => ?_
  simp only at hn
  subst hn
  refine (And.intro (by rfl) (And.intro (fun h0 => (fin_of rfl ?_)) (fun h0 => (fun h1 => (And.intro (fun h2 => (fin_of rfl ?_)) (fun h2 => (fun h3 => ?_)))))))
  · simp at h0
  · have e : 96 < (l.length : Int) := by simpa using h2
    simp [wlCheck, e]
  have hl : ¬ 96 < (l.length : Int) := by simpa using h2
  refine ex4 _ (fun i : Nat => ⟨[.int .i64 1, .sl tW l, .any, .any, .any, .any, .any, .any, .any, .any, .any, .any, .any, .any, .any, .any, .sl tW l, .int .i64 (↑l.length : Int), .int .i64 (i : Int), .any, .any, .any, .any, .any, .any, .any, .any, .any, .any, .any, .any, .any, .any, .any, .any, .any, .any, .any, .any, .any, .any, .any, .any, .any], [], 0⟩) (fun i => i ≤ l.length ∧ (l.take i).any (fun w => !wOk w) = false) (fun i => l.length - i) (And.intro (Exists.intro (0) (Exists.intro ([]) (And.intro ?_ (And.intro (by rfl) (And.intro (by rfl) (And.intro True.intro (by rfl))))))) ?_)
  · simp
  rintro i ⟨hi, ht⟩
  refine (And.intro (fun k0 => (And.intro (by intros; (try subst_vars); (try simp only [Bool.cond_true_left, Bool.cond_false_right, Bool.or_eq_true, Bool.or_eq_false_iff, Bool.and_eq_true, Bool.not_eq_true', Bool.not_eq_false', decide_eq_true_eq, decide_eq_false_iff_not, Int.not_lt, Int.not_le] at *); (try simp only [inK, big, lim, List.length_cons, List.length_nil, List.length_append, List.length_drop, List.length_take, List.length_replicate] at *); omega) (And.intro True.intro (And.intro (fun k1 => (fin_of rfl ?_)) (fun k1 => (And.intro (by rfl) (And.intro (fun k2 => (by intros; (try subst_vars); (try simp only [Bool.cond_true_left, Bool.cond_false_right, Bool.or_eq_true, Bool.or_eq_false_iff, Bool.and_eq_true, Bool.not_eq_true', Bool.not_eq_false', decide_eq_true_eq, decide_eq_false_iff_not, Int.not_lt, Int.not_le] at *); (try simp only [inK, big, lim, List.length_cons, List.length_nil, List.length_append, List.length_drop, List.length_take, List.length_replicate] at *); omega)) (And.intro (fun k3 => (by intros; (try subst_vars); (try simp only [Bool.cond_true_left, Bool.cond_false_right, Bool.or_eq_true, Bool.or_eq_false_iff, Bool.and_eq_true, Bool.not_eq_true', Bool.not_eq_false', decide_eq_true_eq, decide_eq_false_iff_not, Int.not_lt, Int.not_le] at *); (try simp only [inK, big, lim, List.length_cons, List.length_nil, List.length_append, List.length_drop, List.length_take, List.length_replicate] at *); omega)) (And.intro (fun k4 => (fin_of rfl ?_)) (fun k4 => (And.intro (by intros; (try subst_vars); (try simp only [Bool.cond_true_left, Bool.cond_false_right, Bool.or_eq_true, Bool.or_eq_false_iff, Bool.and_eq_true, Bool.not_eq_true', Bool.not_eq_false', decide_eq_true_eq, decide_eq_false_iff_not, Int.not_lt, Int.not_le] at *); (try simp only [inK, big, lim, List.length_cons, List.length_nil, List.length_append, List.length_drop, List.length_take, List.length_replicate] at *); omega) ?_))))))))))) (fun k0 => (fin_of rfl ?_)))
  · have e : l.any (fun w => !wOk w) = true := any_hit (i := i) (d := dflt tW) (by simp only [decide_eq_true_eq, decide_eq_false_iff_not, Int.ofNat_lt, Int.not_lt, Int.ofNat_le] at *; omega) k1
    rw [wlCheck, if_neg hl, if_pos e]
  · simp at k4
  · refine Exists.intro (i + 1) (Exists.intro ([]) (And.intro ?_ (And.intro ?_ (And.intro (by rfl) (And.intro (by rfl) (And.intro True.intro (by rfl)))))))
    · exact ⟨(by simp only [decide_eq_true_eq, decide_eq_false_iff_not, Int.ofNat_lt, Int.not_lt, Int.ofNat_le] at *; omega), any_next (d := dflt tW) (by simp only [decide_eq_true_eq, decide_eq_false_iff_not, Int.ofNat_lt, Int.not_lt, Int.ofNat_le] at *; omega) ht k1⟩
    · have hi' : i < l.length := (by simp only [decide_eq_true_eq, decide_eq_false_iff_not, Int.ofNat_lt, Int.not_lt, Int.ofNat_le] at *; omega); show l.length - (i + 1) < l.length - i; omega
  · have e : l.any (fun w => !wOk w) = false := any_end (by simp only [decide_eq_true_eq, decide_eq_false_iff_not, Int.ofNat_lt, Int.not_lt, Int.ofNat_le] at *; omega) ht
    rw [wlCheck, if_neg hl, if_neg (by rw [e]; simp)]
def keep (t : Int) (w : W) : Bool := decide (w.1 ≠ t)
def sRemove (l : List W) (t : Int) : List W := l.filter (keep t)
theorem filter_take_succ {α : Type} {xs : List α} {i : Nat} {d : α} (p : α → Bool) (h1 : i < xs.length) : (xs.take (i + 1)).filter p = if p (xs.getD i d) = true then (xs.take i).filter p ++ [xs.getD i d] else (xs.take i).filter p := by
  rw [List.take_succ_eq_append_getElem h1, List.filter_append]
  simp only [List.getD_eq_getElem?_getD, List.getElem?_eq_getElem h1, Option.getD_some, List.filter_cons, List.filter_nil]
  split <;> simp
def c58 : Ctr := fnO [dWs, dI] tW (fun y => y.1.length ≤ 1000000) (fun y => sRemove y.1 y.2.1)
theorem good58 : GoodC Try.prog 58 c58 := by
  refine goodO cx0_good 3 _ _ _ _ ⟨_, Try.func58, rfl, rfl⟩ fun (⟨l, t, _⟩ : List W × Int × Unit) hlen => ?_
  simp only at hlen
  refine (And.intro (by rfl) (And.intro (by rfl) (fun h0 => ?_)))
  refine ex4 _ (fun p : Nat × List W => ⟨[.sl tW l, .fn (Fn.func 80) [] [.ptr 0 0], .any, .any, .any, .own 1, .any, .any, .sl tW l, .int .i64 (↑l.length : Int), .int .i64 (p.1 : Int), .any, .any, .any, .any, .any, .any, .any, .any, .any, .any, .any, .any], [.cells [.int .i64 t], .rows tW p.2], 2⟩) (fun p => p.1 ≤ l.length ∧ p.2 = sRemove (l.take p.1) t) (fun p => l.length - p.1) (And.intro (Exists.intro ((0, [])) (Exists.intro ([some 0, none]) (And.intro ?_ (And.intro (by rfl) (And.intro (by rfl) (And.intro (And.intro (And.intro (by rfl) (by rfl)) (And.intro (by rfl) True.intro)) (by rfl))))))) ?_)
  · exact ⟨Nat.zero_le _, rfl⟩
  rintro ⟨i, m⟩ ⟨hi, hm⟩
  simp only at hi hm
  subst hm
  have hr : (sRemove (List.take i l) t).length ≤ i := Nat.le_trans (List.length_filter_le _ _) (by rw [List.length_take]; omega)
  refine (And.intro (fun k0 => (And.intro (by intros; (try subst_vars); (try simp only [Bool.cond_true_left, Bool.cond_false_right, Bool.or_eq_true, Bool.or_eq_false_iff, Bool.and_eq_true, Bool.not_eq_true', Bool.not_eq_false', decide_eq_true_eq, decide_eq_false_iff_not, Int.not_lt, Int.not_le] at *); (try simp only [inK, big, lim, List.length_cons, List.length_nil, List.length_append, List.length_drop, List.length_take, List.length_replicate] at *); omega) (And.intro (by rfl) (And.intro (fun k1 => (And.intro (by intros; (try subst_vars); (try simp only [Bool.cond_true_left, Bool.cond_false_right, Bool.or_eq_true, Bool.or_eq_false_iff, Bool.and_eq_true, Bool.not_eq_true', Bool.not_eq_false', decide_eq_true_eq, decide_eq_false_iff_not, Int.not_lt, Int.not_le] at *); (try simp only [inK, big, lim, List.length_cons, List.length_nil, List.length_append, List.length_drop, List.length_take, List.length_replicate] at *); omega) (And.intro (by intros; (try subst_vars); (try simp only [Bool.cond_true_left, Bool.cond_false_right, Bool.or_eq_true, Bool.or_eq_false_iff, Bool.and_eq_true, Bool.not_eq_true', Bool.not_eq_false', decide_eq_true_eq, decide_eq_false_iff_not, Int.not_lt, Int.not_le] at *); (try simp only [inK, big, lim, List.length_cons, List.length_nil, List.length_append, List.length_drop, List.length_take, List.length_replicate] at *); omega) ?_))) (fun k1 => (And.intro (by intros; (try subst_vars); (try simp only [Bool.cond_true_left, Bool.cond_false_right, Bool.or_eq_true, Bool.or_eq_false_iff, Bool.and_eq_true, Bool.not_eq_true', Bool.not_eq_false', decide_eq_true_eq, decide_eq_false_iff_not, Int.not_lt, Int.not_le] at *); (try simp only [inK, big, lim, List.length_cons, List.length_nil, List.length_append, List.length_drop, List.length_take, List.length_replicate] at *); omega) ?_)))))) (fun k0 => (fin_own rfl ?_)))
  · have e : sRemove (l.take (i + 1)) t = sRemove (l.take i) t ++ [l.getD i (dflt tW)] := by
      unfold sRemove
      rw [filter_take_succ (d := dflt tW) _ (by simp only [decide_eq_true_eq, decide_eq_false_iff_not, Int.ofNat_lt, Int.not_lt, Int.ofNat_le] at *; omega), if_pos (by simpa [keep] using k1)]
    refine Exists.intro ((i + 1, sRemove (l.take i) t ++ [l.getD i (dflt tW)])) (Exists.intro ([some 0, some 5]) (And.intro ?_ (And.intro ?_ (And.intro (by rfl) (And.intro (by rfl) (And.intro (And.intro (And.intro (by rfl) (by rfl)) (And.intro (by rfl) True.intro)) (by rfl)))))))
    · exact ⟨(by simp only [decide_eq_true_eq, decide_eq_false_iff_not, Int.ofNat_lt, Int.not_lt, Int.ofNat_le] at *; omega), e.symm⟩
    · have hi' : i < l.length := (by simp only [decide_eq_true_eq, decide_eq_false_iff_not, Int.ofNat_lt, Int.not_lt, Int.ofNat_le] at *; omega); show l.length - (i + 1) < l.length - i; omega
  · have e : sRemove (l.take (i + 1)) t = sRemove (l.take i) t := by
      unfold sRemove
      rw [filter_take_succ (d := dflt tW) _ (by simp only [decide_eq_true_eq, decide_eq_false_iff_not, Int.ofNat_lt, Int.not_lt, Int.ofNat_le] at *; omega), if_neg (by simpa [keep] using k1)]
    refine Exists.intro ((i + 1, sRemove (l.take i) t)) (Exists.intro ([some 0, some 1]) (And.intro ?_ (And.intro ?_ (And.intro (by rfl) (And.intro (by rfl) (And.intro (And.intro (And.intro (by rfl) (by rfl)) (And.intro (by rfl) True.intro)) (by rfl)))))))
    · exact ⟨(by simp only [decide_eq_true_eq, decide_eq_false_iff_not, Int.ofNat_lt, Int.not_lt, Int.ofNat_le] at *; omega), e.symm⟩
    · have hi' : i < l.length := (by simp only [decide_eq_true_eq, decide_eq_false_iff_not, Int.ofNat_lt, Int.not_lt, Int.ofNat_le] at *; omega); show l.length - (i + 1) < l.length - i; omega
  · rw [List.take_of_length_le (by simp only [decide_eq_true_eq, decide_eq_false_iff_not, Int.ofNat_lt, Int.not_lt, Int.ofNat_le] at *; omega)]
def c60 : Ctr := fnO [dWs, dI] tW (fun y => y.1.length ≤ 1000000) (fun y => sRemove y.1 y.2.1)
theorem good60 : GoodC Try.prog 60 c60 := by
  refine goodO cx0_good 3 _ _ _ _ ⟨_, Try.func60, rfl, rfl⟩ fun (⟨l, t, _⟩ : List W × Int × Unit) hlen => ?_
  simp only at hlen
  refine (And.intro (by rfl) ?_)
  refine ex4 _ (fun p : Nat × List W => ⟨[.sl tW l, .int .i64 t, .any, .any, .any, .own 0, .int .i64 (p.1 : Int), .any, .any, .any, .any, .any, .any, .any, .any, .any, .any, .any, .any, .any, .any, .any, .any, .any, .any, .any, .any, .any, .any], [.rows tW p.2], 1⟩) (fun p => p.1 ≤ l.length ∧ p.2 = sRemove (l.take p.1) t) (fun p => l.length - p.1) (And.intro (Exists.intro ((0, [])) (Exists.intro ([none]) (And.intro ?_ (And.intro (by rfl) (And.intro (by rfl) (And.intro (And.intro (by rfl) True.intro) (by rfl))))))) ?_)
  · exact ⟨Nat.zero_le _, rfl⟩
  rintro ⟨i, m⟩ ⟨hi, hm⟩
  simp only at hi hm
  subst hm
  have hr : (sRemove (List.take i l) t).length ≤ i := Nat.le_trans (List.length_filter_le _ _) (by rw [List.length_take]; omega)
  refine (fun k0 => (And.intro (fun k1 => (And.intro (by intros; (try subst_vars); (try simp only [Bool.cond_true_left, Bool.cond_false_right, Bool.or_eq_true, Bool.or_eq_false_iff, Bool.and_eq_true, Bool.not_eq_true', Bool.not_eq_false', decide_eq_true_eq, decide_eq_false_iff_not, Int.not_lt, Int.not_le] at *); (try simp only [inK, big, lim, List.length_cons, List.length_nil, List.length_append, List.length_drop, List.length_take, List.length_replicate] at *); omega) (And.intro (fun k2 => (And.intro (by intros; (try subst_vars); (try simp only [Bool.cond_true_left, Bool.cond_false_right, Bool.or_eq_true, Bool.or_eq_false_iff, Bool.and_eq_true, Bool.not_eq_true', Bool.not_eq_false', decide_eq_true_eq, decide_eq_false_iff_not, Int.not_lt, Int.not_le] at *); (try simp only [inK, big, lim, List.length_cons, List.length_nil, List.length_append, List.length_drop, List.length_take, List.length_replicate] at *); omega) (And.intro (by intros; (try subst_vars); (try simp only [Bool.cond_true_left, Bool.cond_false_right, Bool.or_eq_true, Bool.or_eq_false_iff, Bool.and_eq_true, Bool.not_eq_true', Bool.not_eq_false', decide_eq_true_eq, decide_eq_false_iff_not, Int.not_lt, Int.not_le] at *); (try simp only [inK, big, lim, List.length_cons, List.length_nil, List.length_append, List.length_drop, List.length_take, List.length_replicate] at *); omega) (And.intro (by intros; (try subst_vars); (try simp only [Bool.cond_true_left, Bool.cond_false_right, Bool.or_eq_true, Bool.or_eq_false_iff, Bool.and_eq_true, Bool.not_eq_true', Bool.not_eq_false', decide_eq_true_eq, decide_eq_false_iff_not, Int.not_lt, Int.not_le] at *); (try simp only [inK, big, lim, List.length_cons, List.length_nil, List.length_append, List.length_drop, List.length_take, List.length_replicate] at *); omega) ?_)))) (fun k2 => (And.intro (by intros; (try subst_vars); (try simp only [Bool.cond_true_left, Bool.cond_false_right, Bool.or_eq_true, Bool.or_eq_false_iff, Bool.and_eq_true, Bool.not_eq_true', Bool.not_eq_false', decide_eq_true_eq, decide_eq_false_iff_not, Int.not_lt, Int.not_le] at *); (try simp only [inK, big, lim, List.length_cons, List.length_nil, List.length_append, List.length_drop, List.length_take, List.length_replicate] at *); omega) ?_))))) (fun k1 => (fin_own rfl ?_))))
  · have e : sRemove (l.take (i + 1)) t = sRemove (l.take i) t ++ [l.getD i (dflt tW)] := by
      unfold sRemove
      rw [filter_take_succ (d := dflt tW) _ (by simp only [decide_eq_true_eq, decide_eq_false_iff_not, Int.ofNat_lt, Int.not_lt, Int.ofNat_le] at *; omega), if_pos (by simpa [keep] using k2)]
    refine Exists.intro ((i + 1, sRemove (l.take i) t ++ [l.getD i (dflt tW)])) (Exists.intro ([some 2]) (And.intro ?_ (And.intro ?_ (And.intro (by rfl) (And.intro (by rfl) (And.intro (And.intro (by rfl) True.intro) (by rfl)))))))
    · exact ⟨(by simp only [decide_eq_true_eq, decide_eq_false_iff_not, Int.ofNat_lt, Int.not_lt, Int.ofNat_le] at *; omega), e.symm⟩
    · have hi' : i < l.length := (by simp only [decide_eq_true_eq, decide_eq_false_iff_not, Int.ofNat_lt, Int.not_lt, Int.ofNat_le] at *; omega); show l.length - (i + 1) < l.length - i; omega
  · have e : sRemove (l.take (i + 1)) t = sRemove (l.take i) t := by
      unfold sRemove
      rw [filter_take_succ (d := dflt tW) _ (by simp only [decide_eq_true_eq, decide_eq_false_iff_not, Int.ofNat_lt, Int.not_lt, Int.ofNat_le] at *; omega), if_neg (by simpa [keep] using k2)]
    refine Exists.intro ((i + 1, sRemove (l.take i) t)) (Exists.intro ([some 0]) (And.intro ?_ (And.intro ?_ (And.intro (by rfl) (And.intro (by rfl) (And.intro (And.intro (by rfl) True.intro) (by rfl)))))))
    · exact ⟨(by simp only [decide_eq_true_eq, decide_eq_false_iff_not, Int.ofNat_lt, Int.not_lt, Int.ofNat_le] at *; omega), e.symm⟩
    · have hi' : i < l.length := (by simp only [decide_eq_true_eq, decide_eq_false_iff_not, Int.ofNat_lt, Int.not_lt, Int.ofNat_le] at *; omega); show l.length - (i + 1) < l.length - i; omega
  · rw [List.take_of_length_le (by simp only [decide_eq_true_eq, decide_eq_false_iff_not, Int.ofNat_lt, Int.not_lt, Int.ofNat_le] at *; omega)]
def c55 : Ctr := fnO [dWs] tW (fun y => y.1.length ≤ 1000000) (fun y => y.1)
theorem good55 : GoodC Try.prog 55 c55 := by
  refine goodO cx0_good 3 _ _ _ _ ⟨_, Try.func55, rfl, rfl⟩ fun (⟨l, _⟩ : List W × Unit) hlen => ?_
  simp only at hlen
  refine (And.intro (by rfl) (fun h0 => (fun h1 => (And.intro (fun h2 => (fin_cap0 (by simp_all))) (fun h2 => (And.intro (by intros; (try subst_vars); (try simp only [Bool.cond_true_left, Bool.cond_false_right, Bool.or_eq_true, Bool.or_eq_false_iff, Bool.and_eq_true, Bool.not_eq_true', Bool.not_eq_false', decide_eq_true_eq, decide_eq_false_iff_not, Int.not_lt, Int.not_le] at *); (try simp only [inK, big, lim, List.length_cons, List.length_nil, List.length_append, List.length_drop, List.length_take, List.length_replicate] at *); omega) (fin_own rfl (by simp_all))))))))
def c35 : Ctr := fnO [dIs] tI (fun y => y.1.length ≤ 1000000) (fun y => y.1)
theorem good35 : GoodC Try.prog 35 c35 := by
  refine goodO cx0_good 3 _ _ _ _ ⟨_, Try.func35, rfl, rfl⟩ fun (⟨l, _⟩ : List Int × Unit) hlen => ?_
  simp only at hlen
  refine (And.intro (by rfl) (fun h0 => (fun h1 => (And.intro (fun h2 => (fin_cap0 (by simp_all))) (fun h2 => (And.intro (by intros; (try subst_vars); (try simp only [Bool.cond_true_left, Bool.cond_false_right, Bool.or_eq_true, Bool.or_eq_false_iff, Bool.and_eq_true, Bool.not_eq_true', Bool.not_eq_false', decide_eq_true_eq, decide_eq_false_iff_not, Int.not_lt, Int.not_le] at *); (try simp only [inK, big, lim, List.length_cons, List.length_nil, List.length_append, List.length_drop, List.length_take, List.length_replicate] at *); omega) (fin_own rfl (by simp_all))))))))
end Go.Proofs.Ytnaejponobbahaa
