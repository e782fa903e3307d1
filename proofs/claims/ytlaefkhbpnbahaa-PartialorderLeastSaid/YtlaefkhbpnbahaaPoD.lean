/- Partial orders: Generate, as a contract. -/
import Derived.Test.YtlaefkhbpnbahaaPoC
set_option linter.unusedSimpArgs false
set_option linter.unusedVariables false
set_option maxRecDepth 100000
namespace Go.Proofs.Ytlaefkhbpnbahaa
open Go.Sx

/-- The table of a relation on the first n numbers. -/
def tab (n : Nat) (f : Nat → Nat → Bool) : Mx := (List.range n).map fun i => (List.range n).map (f i)
theorem tab_len (n : Nat) (f : Nat → Nat → Bool) : (tab n f).length = n := by simp [tab]
theorem tab_row {n i : Nat} (f : Nat → Nat → Bool) (h : i < n) : (tab n f).getD i [] = (List.range n).map (f i) := by
  simp [tab, List.getD_eq_getElem?_getD, h]
theorem tab_rlen {n i : Nat} (f : Nat → Nat → Bool) (h : i < n) : ((tab n f).getD i []).length = n := by rw [tab_row f h]; simp
theorem tab_at {n i j : Nat} (f : Nat → Nat → Bool) (h : i < n) (h' : j < n) : ((tab n f).getD i []).getD j false = f i j := by
  rw [tab_row f h]; simp [List.getD_eq_getElem?_getD, h']
theorem tab_congr {n : Nat} {f g : Nat → Nat → Bool} (h : ∀ i j, i < n → j < n → f i j = g i j) : tab n f = tab n g := by
  unfold tab
  refine List.map_congr_left fun i hi => List.map_congr_left fun j hj => h i j (List.mem_range.1 hi) (List.mem_range.1 hj)
theorem set_range {α : Type} (n i : Nat) (f : Nat → α) (v : α) : ((List.range n).map f).set i v = (List.range n).map fun a => if a = i then v else f a := by
  refine List.ext_getElem (by simp) fun a h1 h2 => ?_
  simp only [List.length_set, List.length_map, List.length_range] at h1
  by_cases h : a = i
  · subst h; simp
  · rw [List.getElem_set_ne (Ne.symm h)]; simp [h]
theorem tab_set {n i j : Nat} (f : Nat → Nat → Bool) (v : Bool) (h : i < n) : (tab n f).set i (((tab n f).getD i []).set j v) = tab n fun a b => if a = i ∧ b = j then v else f a b := by
  rw [tab_row f h, set_range, tab, set_range, tab]
  refine List.map_congr_left fun a ha => ?_
  by_cases hai : a = i
  · subst hai; simp
  · simp [hai]
def inL (l : List Ed) (i j : Nat) : Bool := l.any fun p => decide (p.1 = (i : Int)) && decide (p.2 = (j : Int))
theorem fold_tab {n : Nat} : ∀ (l : List Ed) (f : Nat → Nat → Bool), insideAll n l → l.foldl setP (tab n f) = tab n fun i j => f i j || inL l i j
  | [], f, _ => by simp [inL]
  | p :: l, f, hl => by
    have hp := out_false (hl p (by simp))
    rw [List.foldl_cons, setP, tab_set f true (by omega), fold_tab l _ fun q hq => hl q (by simp [hq])]
    refine tab_congr fun i j hi hj => ?_
    have e : (decide (p.1 = (i : Int)) && decide (p.2 = (j : Int))) = decide (i = p.1.toNat ∧ j = p.2.toNat) := by
      rw [← Bool.decide_and]
      refine decide_eq_decide.2 ?_
      constructor <;> rintro ⟨h1, h2⟩ <;> constructor <;> omega
    simp only [inL, List.any_cons, e]
    by_cases h : i = p.1.toNat ∧ j = p.2.toNat
    · simp [h]
    · simp [h]
theorem zero_tab (n : Nat) : zeroM n = tab n fun _ _ => false := by
  simp [zeroM, tab, List.map_const']
/-- The matrix of pairs, as a table. -/
theorem mat_tab {n : Int} {l : List Ed} (h0 : 0 ≤ n) (hl : insideAll n l) : matF n l = tab n.toNat (inL l) := by
  rw [matF, zero_tab, fold_tab l _ (by rw [Int.toNat_of_nonneg h0]; exact hl)]
  simp

def warsh (k : Nat) (f : Nat → Nat → Bool) (i j : Nat) : Bool := f i j || (f i k && f k j)
def closeK (f : Nat → Nat → Bool) : Nat → Nat → Nat → Bool
  | 0 => f
  | k + 1 => warsh k (closeK f k)
def midI (f : Nat → Nat → Bool) (k i a b : Nat) : Bool := if a < i then warsh k f a b else f a b
def inJ (f : Nat → Nat → Bool) (k i j a b : Nat) : Bool := if a < i then warsh k f a b else if a = i ∧ b < j then f a b || f k b else f a b
/-- The pairs of a relation, in ascending order. -/
def pairsF (n : Nat) (f : Nat → Nat → Bool) : List Ed := (List.range n).flatMap fun i => ((List.range n).filter (f i)).map fun (j : Nat) => ((i : Int), (j : Int))
def rowP (n : Nat) (f : Nat → Nat → Bool) (i j : Nat) : List Ed := ((List.range j).filter (f i)).map fun (b : Nat) => ((i : Int), (b : Int))
def accI (n : Nat) (f : Nat → Nat → Bool) (i : Nat) : List Ed := (List.range i).flatMap fun a => rowP n f a n
theorem acc_next (n : Nat) (f : Nat → Nat → Bool) (i : Nat) : accI n f (i + 1) = accI n f i ++ rowP n f i n := by
  simp [accI, List.range_succ]
theorem row_next (n : Nat) (f : Nat → Nat → Bool) (i j : Nat) : rowP n f i (j + 1) = rowP n f i j ++ (if f i j = true then [((i : Int), (j : Int))] else []) := by
  simp only [rowP, List.range_succ, List.filter_append, List.map_append, List.filter_cons, List.filter_nil]
  split <;> rfl
theorem row_len (n : Nat) (f : Nat → Nat → Bool) (i j : Nat) : (rowP n f i j).length ≤ j := by
  have := List.length_filter_le (f i) (List.range j)
  simpa [rowP] using this
theorem acc_len (n : Nat) (f : Nat → Nat → Bool) : ∀ i, (accI n f i).length ≤ i * n
  | 0 => by simp [accI]
  | i + 1 => by
    have h1 := acc_len n f i
    have h2 := row_len n f i n
    rw [acc_next, List.length_append, Nat.add_mul]
    omega
theorem acc_pairs (n : Nat) (f : Nat → Nat → Bool) : accI n f n = pairsF n f := rfl
theorem acc_row_len {n : Nat} (f : Nat → Nat → Bool) {i j : Nat} (h : n ≤ 200) (hi : i ≤ n) (hj : j ≤ n) : (accI n f i ++ rowP n f i j).length ≤ 40200 := by
  have h1 := acc_len n f i
  have h2 := row_len n f i j
  have h3 := Nat.mul_le_mul (Nat.le_trans hi h) h
  rw [List.length_append]
  omega
def genF (n : Int) (l : List Ed) : List Ed × Int :=
  if sizesF n l ≠ 0 then ([], sizesF n l) else if l.any (outB n) = true then ([], 2)
  else if (List.range n.toNat).any (fun i => closeK (inL l) n.toNat i i) = true then ([], 21)
  else if 2000 < ((pairsF n.toNat (closeK (inL l) n.toNat)).length : Int) then ([], 4) else (pairsF n.toNat (closeK (inL l) n.toNat), 0)

def cxG : Ctx := ⟨tysM, [(44, ([], c44)), (45, ([], c45))]⟩
theorem cxG_good : GoodCtx Try.prog cxG := cx_cons good44 (cx_cons good45 cxM_good)
@[reducible] def rEsI : List (Bool × Ty) := [(false, tEs), (false, tI)]
def c17 : Ctr := fnC [dI, dEs] rEsI (fun _ => True) (fun y => ((genF y.1 y.2.1).1, (genF y.1 y.2.1).2, ()))
set_option maxHeartbeats 4000000 in
theorem good17 : GoodC Try.prog 17 c17 := by
  refine goodF cxG_good 9 _ _ _ _ ⟨_, Try.func17, rfl, rfl⟩ fun (⟨n, l, _⟩ : Int × List Ed × Unit) _ => ?_
  have mkn : ∀ m : Int, sizesF n l = 0 → 0 ≤ n ∧ n ≤ n ∧ n * ((24 : Nat) : Int) ≤ (lim : Int) ∧ n ≤ (lim : Int) := fun _ h => by
    have := sizes_ok h
    simp only [lim]
    omega
  refine (And.intro (by first | kernel_rfl | rfl) (And.intro True.intro (And.intro (fun h0 => (fin_of rfl ?_)) (fun h0 => (And.intro True.intro (And.intro (fun h1 => (fin_of rfl ?_)) (fun h1 => (And.intro (by first | kernel_rfl | rfl) (And.intro (by first | exact mkn 0 (by simpa using h0) | (intros; (try subst_vars); (try simp only [Bool.cond_true_left, Bool.cond_false_right, Bool.or_eq_true, Bool.or_eq_false_iff, Bool.and_eq_true, Bool.not_eq_true', Bool.not_eq_false', decide_eq_true_eq, decide_eq_false_iff_not, Int.not_lt, Int.not_le] at *); (try simp only [inK, big, lim, List.length_cons, List.length_nil, List.length_append, List.length_drop, List.length_take, List.length_replicate] at *); omega)) (fun h2 => ?_))))))))))
  · have h0' : sizesF n l ≠ 0 := by simpa using h0
    show ((genF n l).1, (genF n l).2, ()) = ([], sizesF n l, ())
    rw [genF, if_pos h0']
  · have h0' : sizesF n l = 0 := by simpa using h0
    have h1' : l.any (outB n) = true := h1
    show ((genF n l).1, (genF n l).2, ()) = ([], 2, ())
    rw [genF, if_neg (by simp [h0']), if_pos h1']
  have h0' : sizesF n l = 0 := by simpa using h0
  have h1' : l.any (outB n) = false := h1
  have eg : genF n l = if (List.range n.toNat).any (fun i => closeK (inL l) n.toNat i i) = true then ([], 21)
      else if 2000 < ((pairsF n.toNat (closeK (inL l) n.toNat)).length : Int) then ([], 4) else (pairsF n.toNat (closeK (inL l) n.toNat), 0) := by
    rw [genF, if_neg (by simp [h0']), if_neg (by simp [h1'])]
  obtain ⟨n0, n1, n2⟩ := sizes_ok h0'
  have hl : insideAll n l := fun p hp => by
    have := List.any_eq_false.1 h1' p hp
    simpa using this
  have nz : ((n.toNat : Nat) : Int) = n := Int.toNat_of_nonneg n0
  have need : 0 ≤ n ∧ n ≤ n ∧ n * ((1 : Nat) : Int) ≤ (lim : Int) ∧ n ≤ (lim : Int) := by simp only [lim]; omega
  refine ex4 _ (fun i : Nat => ⟨[.int .i64 n, .sl tE l, .any, .any, .ptr 1 0, .ptr 3 0, .any, .any, .any, .int .i64 n, .any, .any, .any, .ptr 3 1, .own 2, .int .i64 ((0 + n.toNat : Nat) : Int), .int .i64 (i : Int), .any, .any, .any, .any, .any, .any, .any, .any, .any, .any, .any, .any, .any, .any, .any, .any, .any, .any, .any, .any, .any, .any, .any, .any, .any, .any], [.cells [.int .i64 n], .cells [.int .i64 0, .cap0], .grid .bool (n.toNat - i) (part n.toNat i), .cells [.int .i64 n, .own 2]], 4⟩) (fun i => i ≤ n.toNat) (fun i => n.toNat - i) (And.intro (Exists.intro (0) (Exists.intro ([some 0, some 1, some 2, some 3]) (And.intro ?_ (And.intro (by rfl) (And.intro (by rfl) (And.intro (And.intro (And.intro (by rfl) (by rfl)) (And.intro (And.intro (by rfl) (by rfl)) (And.intro (by rfl) (And.intro (And.intro (by rfl) (by rfl)) True.intro)))) (by rfl))))))) ?_)
  · exact Nat.zero_le _
  rintro i hi
  refine (And.intro (fun k0 => (And.intro (by first | kernel_rfl | rfl) (And.intro (by first | exact need | (intros; (try subst_vars); (try simp only [Bool.cond_true_left, Bool.cond_false_right, Bool.or_eq_true, Bool.or_eq_false_iff, Bool.and_eq_true, Bool.not_eq_true', Bool.not_eq_false', decide_eq_true_eq, decide_eq_false_iff_not, Int.not_lt, Int.not_le] at *); (try simp only [inK, big, lim, List.length_cons, List.length_nil, List.length_append, List.length_drop, List.length_take, List.length_replicate] at *); omega)) (And.intro ?_ (And.intro ?_ (And.intro (by first | exact need | (intros; (try subst_vars); (try simp only [Bool.cond_true_left, Bool.cond_false_right, Bool.or_eq_true, Bool.or_eq_false_iff, Bool.and_eq_true, Bool.not_eq_true', Bool.not_eq_false', decide_eq_true_eq, decide_eq_false_iff_not, Int.not_lt, Int.not_le] at *); (try simp only [inK, big, lim, List.length_cons, List.length_nil, List.length_append, List.length_drop, List.length_take, List.length_replicate] at *); omega)) ?_)))))) (fun k0 => (fun k1 => ?_)))
  · rw [part_len]
    have := of_decide_eq_true k0
    omega
  · rw [part_len]
    have := of_decide_eq_true k0
    exact ⟨by omega, by omega⟩
  · have hi' : i < n.toNat := by have := of_decide_eq_true k0; omega
    refine Exists.intro (i + 1) (Exists.intro ([some 0, some 1, some 2, some 3]) (And.intro ?_ (And.intro ?_ (And.intro (by rfl) (And.intro (by rfl) (And.intro (And.intro (And.intro (by rfl) (by rfl)) (And.intro (And.intro (by rfl) (by rfl)) (And.intro ?_ (And.intro (And.intro (by rfl) (by rfl)) True.intro)))) (by rfl)))))))
    · exact hi'
    · show n.toNat - (i + 1) < n.toNat - i
      omega
    · show Ob.grid .bool (n.toNat - i - 1) (part n.toNat i ++ [List.replicate n.toNat false]) = Ob.grid .bool (n.toNat - (i + 1)) (part n.toNat (i + 1))
      rw [part_succ]; rfl
  have e : i = n.toNat := by have := of_decide_eq_false k0; omega
  subst e
  refine ex4 _ (fun j : Nat => ⟨[.any, .sl tE l, .any, .any, .ptr 1 0, .ptr 3 0, .any, .any, .any, .int .i64 n, .any, .any, .any, .any, .any, .any, .any, .any, .any, .any, .any, .any, .any, .any, .any, .any, .sl tE l, .int .i64 (↑l.length : Int), .int .i64 (j : Int), .any, .any, .any, .any, .any, .any, .any, .any, .any, .any, .any, .any, .any, .any], [.cells [.int .i64 n], .cells [.int .i64 0, .cap0], .grid .bool (n.toNat - n.toNat) ((l.take j).foldl setP (part n.toNat n.toNat)), .cells [.int .i64 n, .own 2]], 4⟩) (fun j => j ≤ l.length) (fun j => l.length - j) (And.intro (Exists.intro (0) (Exists.intro ([some 0, some 1, some 2, some 3]) (And.intro ?_ (And.intro (by rfl) (And.intro (by rfl) (And.intro (And.intro (And.intro (by rfl) (by rfl)) (And.intro (And.intro (by rfl) (by rfl)) (And.intro (by rfl) (And.intro (And.intro (by rfl) (by rfl)) True.intro)))) (by rfl))))))) ?_)
  · exact Nat.zero_le _
  rintro j hj
  have hsq : sq n.toNat ((l.take j).foldl setP (part n.toNat n.toNat)) := sq_fold _ _ (inside_take hl j) (sq_zero _)
  refine (And.intro (fun m0 => (And.intro (by intros; (try subst_vars); (try simp only [Bool.cond_true_left, Bool.cond_false_right, Bool.or_eq_true, Bool.or_eq_false_iff, Bool.and_eq_true, Bool.not_eq_true', Bool.not_eq_false', decide_eq_true_eq, decide_eq_false_iff_not, Int.not_lt, Int.not_le] at *); (try simp only [inK, big, lim, List.length_cons, List.length_nil, List.length_append, List.length_drop, List.length_take, List.length_replicate] at *); omega) (And.intro (by first | kernel_rfl | rfl) (And.intro ?_ (And.intro ?_ (And.intro ?_ (And.intro (by intros; (try subst_vars); (try simp only [Bool.cond_true_left, Bool.cond_false_right, Bool.or_eq_true, Bool.or_eq_false_iff, Bool.and_eq_true, Bool.not_eq_true', Bool.not_eq_false', decide_eq_true_eq, decide_eq_false_iff_not, Int.not_lt, Int.not_le] at *); (try simp only [inK, big, lim, List.length_cons, List.length_nil, List.length_append, List.length_drop, List.length_take, List.length_replicate] at *); omega) ?_))))))) (fun m0 => (And.intro (by first | kernel_rfl | rfl) ?_)))
  · have hj' : j < l.length := by have := of_decide_eq_true m0; omega
    have hin := inside_get hl hj'
    rw [hsq.1, Int.toNat_natCast]
    omega
  · have hj' : j < l.length := by have := of_decide_eq_true m0; omega
    have hin := inside_get hl hj'
    rw [hsq.1, Int.toNat_natCast]
    omega
  · have hj' : j < l.length := by have := of_decide_eq_true m0; omega
    have hin := inside_get hl hj'
    rw [hsq.1, Int.toNat_natCast, sq_row hsq (by omega)]
    exact ⟨by omega, hin.2.2.1, by omega⟩
  · have hj' : j < l.length := by have := of_decide_eq_true m0; omega
    refine Exists.intro (j + 1) (Exists.intro ([some 0, some 1, some 2, some 3]) (And.intro ?_ (And.intro ?_ (And.intro (by rfl) (And.intro (by rfl) (And.intro (And.intro (And.intro (by rfl) (by rfl)) (And.intro (And.intro (by rfl) (by rfl)) (And.intro ?_ (And.intro (And.intro (by rfl) (by rfl)) True.intro)))) (by rfl)))))))
    · exact hj'
    · show l.length - (j + 1) < l.length - j
      omega
    · rw [take_fold hj']; rfl
  have hj' : ¬ j < l.length := by have := of_decide_eq_false m0; omega
  have em : (l.take j).foldl setP (part n.toNat n.toNat) = tab n.toNat (closeK (inL l) 0) := by
    rw [List.take_of_length_le (by omega)]; exact mat_tab n0 hl
  have ez : n.toNat - n.toNat = 0 := Nat.sub_self _
  rw [em, ez]
  refine ?_
  refine ex4 _ (fun k : Nat => ⟨[.any, .ptr 5 0, .any, .any, .any, .any, .any, .int .i64 n, .int .i64 (k : Int), .any, .any, .any, .any, .any, .any, .any, .any, .any, .any, .any, .any, .any, .any, .any, .any, .any, .any, .any, .any, .any, .any, .any, .any, .any, .any, .any, .any, .any, .any, .any, .any, .any, .any, .any, .any, .any, .any, .any, .any, .any, .any, .any, .any, .any, .any, .any, .any], [.cells [.int .i64 n], .cells [.int .i64 n, .own 2], .grid .bool 0 (tab n.toNat (closeK (inL l) k)), .cells [.int .i64 n, .own 2], .cells [.int .i64 n, .own 2], .cells [.int .i64 n, .own 2]], 6⟩) (fun k => k ≤ n.toNat) (fun k => n.toNat - k) (And.intro (Exists.intro (0) (Exists.intro ([some 0, some 1, some 2, some 3, some 4, some 5]) (And.intro ?_ (And.intro (by rfl) (And.intro (by rfl) (And.intro (And.intro (And.intro (by rfl) (by rfl)) (And.intro (And.intro (by rfl) (by rfl)) (And.intro (by rfl) (And.intro (And.intro (by rfl) (by rfl)) (And.intro (And.intro (by rfl) (by rfl)) (And.intro (And.intro (by rfl) (by rfl)) True.intro)))))) (by rfl))))))) ?_)
  · exact Nat.zero_le _
  rintro k hk
  refine (And.intro (fun b0 => ?_) (fun b0 => ?_))
  · have hk' : k < n.toNat := by have := of_decide_eq_true b0; omega
    refine ex4 _ (fun i : Nat => ⟨[.any, .ptr 5 0, .int .i64 (↑k : Int), .any, .any, .any, .any, .int .i64 n, .int .i64 (↑k : Int), .bool (decide ((↑k : Int) < n)), .int .i64 (↑k : Int), .ptr 5 0, .int .i64 n, .int .i64 (i : Int), .any, .any, .any, .any, .any, .any, .any, .any, .any, .any, .any, .any, .any, .any, .any, .any, .any, .any, .any, .any, .any, .any, .any, .any, .any, .any, .any, .any, .any, .any, .any, .any, .any, .any, .any, .any, .any, .any, .any, .any, .any, .any, .any], [.cells [.int .i64 n], .cells [.int .i64 n, .own 2], .grid .bool 0 (tab n.toNat (midI (closeK (inL l) k) k i)), .cells [.int .i64 n, .own 2], .cells [.int .i64 n, .own 2], .cells [.int .i64 n, .own 2]], 6⟩) (fun i => i ≤ n.toNat) (fun i => n.toNat - i) (And.intro (Exists.intro (0) (Exists.intro ([some 0, some 1, some 2, some 3, some 4, some 5]) (And.intro ?_ (And.intro (by rfl) (And.intro (by rfl) (And.intro (And.intro (And.intro (by rfl) (by rfl)) (And.intro (And.intro (by rfl) (by rfl)) (And.intro (by rfl) (And.intro (And.intro (by rfl) (by rfl)) (And.intro (And.intro (by rfl) (by rfl)) (And.intro (And.intro (by rfl) (by rfl)) True.intro)))))) (by rfl))))))) ?_)
    · exact Nat.zero_le _
    rintro i hi2
    have lt : ∀ a : Nat, decide ((a : Int) < n) = true → a < n.toNat := fun a h => by have := of_decide_eq_true h; omega
    have f1 : ∀ (f : Nat → Nat → Bool) (a : Nat), a < n.toNat → 0 ≤ (a : Int) ∧ (a : Int) < (((tab n.toNat f).length + 0 : Nat) : Int) := fun f a h => by rw [tab_len]; omega
    have f2 : ∀ (f : Nat → Nat → Bool) (a : Nat), a < n.toNat → (a : Int).toNat < (tab n.toNat f).length := fun f a h => by rw [tab_len]; omega
    have f3 : ∀ (f : Nat → Nat → Bool) (a b : Nat), a < n.toNat → b < n.toNat → (a : Int).toNat < (tab n.toNat f).length ∧ 0 ≤ (b : Int) ∧ (b : Int) < (((tab n.toNat f).getD (a : Int).toNat []).length : Int) := fun f a b h h' => by
      rw [tab_len, Int.toNat_natCast, tab_rlen f h]; omega
    refine (And.intro (fun c0 => (And.intro (by first | (intros; (try subst_vars); (try simp only [Bool.cond_true_left, Bool.cond_false_right, Bool.or_eq_true, Bool.or_eq_false_iff, Bool.and_eq_true, Bool.not_eq_true', Bool.not_eq_false', decide_eq_true_eq, decide_eq_false_iff_not, Int.not_lt, Int.not_le] at *); (try simp only [inK, big, lim, List.length_cons, List.length_nil, List.length_append, List.length_drop, List.length_take, List.length_replicate] at *); omega) | exact f1 _ _ (lt _ c0) | exact f2 _ _ (lt _ c0) | exact f3 _ _ _ (lt _ c0) hk' | exact f1 _ _ hk' | exact f2 _ _ hk') (And.intro (by first | (intros; (try subst_vars); (try simp only [Bool.cond_true_left, Bool.cond_false_right, Bool.or_eq_true, Bool.or_eq_false_iff, Bool.and_eq_true, Bool.not_eq_true', Bool.not_eq_false', decide_eq_true_eq, decide_eq_false_iff_not, Int.not_lt, Int.not_le] at *); (try simp only [inK, big, lim, List.length_cons, List.length_nil, List.length_append, List.length_drop, List.length_take, List.length_replicate] at *); omega) | exact f1 _ _ (lt _ c0) | exact f2 _ _ (lt _ c0) | exact f3 _ _ _ (lt _ c0) hk' | exact f1 _ _ hk' | exact f2 _ _ hk') (And.intro (by first | (intros; (try subst_vars); (try simp only [Bool.cond_true_left, Bool.cond_false_right, Bool.or_eq_true, Bool.or_eq_false_iff, Bool.and_eq_true, Bool.not_eq_true', Bool.not_eq_false', decide_eq_true_eq, decide_eq_false_iff_not, Int.not_lt, Int.not_le] at *); (try simp only [inK, big, lim, List.length_cons, List.length_nil, List.length_append, List.length_drop, List.length_take, List.length_replicate] at *); omega) | exact f1 _ _ (lt _ c0) | exact f2 _ _ (lt _ c0) | exact f3 _ _ _ (lt _ c0) hk' | exact f1 _ _ hk' | exact f2 _ _ hk') (And.intro (fun c1 => (And.intro (by first | (intros; (try subst_vars); (try simp only [Bool.cond_true_left, Bool.cond_false_right, Bool.or_eq_true, Bool.or_eq_false_iff, Bool.and_eq_true, Bool.not_eq_true', Bool.not_eq_false', decide_eq_true_eq, decide_eq_false_iff_not, Int.not_lt, Int.not_le] at *); (try simp only [inK, big, lim, List.length_cons, List.length_nil, List.length_append, List.length_drop, List.length_take, List.length_replicate] at *); omega) | exact f1 _ _ (lt _ c0) | exact f2 _ _ (lt _ c0) | exact f3 _ _ _ (lt _ c0) hk' | exact f1 _ _ hk' | exact f2 _ _ hk') ?_)) (fun c1 => (And.intro (by first | (intros; (try subst_vars); (try simp only [Bool.cond_true_left, Bool.cond_false_right, Bool.or_eq_true, Bool.or_eq_false_iff, Bool.and_eq_true, Bool.not_eq_true', Bool.not_eq_false', decide_eq_true_eq, decide_eq_false_iff_not, Int.not_lt, Int.not_le] at *); (try simp only [inK, big, lim, List.length_cons, List.length_nil, List.length_append, List.length_drop, List.length_take, List.length_replicate] at *); omega) | exact f1 _ _ (lt _ c0) | exact f2 _ _ (lt _ c0) | exact f3 _ _ _ (lt _ c0) hk' | exact f1 _ _ hk' | exact f2 _ _ hk') (And.intro (by first | (intros; (try subst_vars); (try simp only [Bool.cond_true_left, Bool.cond_false_right, Bool.or_eq_true, Bool.or_eq_false_iff, Bool.and_eq_true, Bool.not_eq_true', Bool.not_eq_false', decide_eq_true_eq, decide_eq_false_iff_not, Int.not_lt, Int.not_le] at *); (try simp only [inK, big, lim, List.length_cons, List.length_nil, List.length_append, List.length_drop, List.length_take, List.length_replicate] at *); omega) | exact f1 _ _ (lt _ c0) | exact f2 _ _ (lt _ c0) | exact f3 _ _ _ (lt _ c0) hk' | exact f1 _ _ hk' | exact f2 _ _ hk') (And.intro (by first | (intros; (try subst_vars); (try simp only [Bool.cond_true_left, Bool.cond_false_right, Bool.or_eq_true, Bool.or_eq_false_iff, Bool.and_eq_true, Bool.not_eq_true', Bool.not_eq_false', decide_eq_true_eq, decide_eq_false_iff_not, Int.not_lt, Int.not_le] at *); (try simp only [inK, big, lim, List.length_cons, List.length_nil, List.length_append, List.length_drop, List.length_take, List.length_replicate] at *); omega) | exact f1 _ _ (lt _ c0) | exact f2 _ _ (lt _ c0) | exact f3 _ _ _ (lt _ c0) hk' | exact f1 _ _ hk' | exact f2 _ _ hk') (fun c2 => ?_)))))))))) (fun c0 => (And.intro (by first | (intros; (try subst_vars); (try simp only [Bool.cond_true_left, Bool.cond_false_right, Bool.or_eq_true, Bool.or_eq_false_iff, Bool.and_eq_true, Bool.not_eq_true', Bool.not_eq_false', decide_eq_true_eq, decide_eq_false_iff_not, Int.not_lt, Int.not_le] at *); (try simp only [inK, big, lim, List.length_cons, List.length_nil, List.length_append, List.length_drop, List.length_take, List.length_replicate] at *); omega) | exact f1 _ _ (lt _ c0) | exact f2 _ _ (lt _ c0) | exact f3 _ _ _ (lt _ c0) hk' | exact f1 _ _ hk' | exact f2 _ _ hk') ?_)))
    · have hi' := lt _ c0
      have c1' : midI (closeK (inL l) k) k i i k = false := by
        rw [← tab_at (n := n.toNat) (midI (closeK (inL l) k) k i) hi' hk']
        simpa using c1
      refine Exists.intro (i + 1) (Exists.intro ([some 0, some 1, some 2, some 3, some 4, some 5]) (And.intro ?_ (And.intro ?_ (And.intro (by rfl) (And.intro (by rfl) (And.intro (And.intro (And.intro (by rfl) (by rfl)) (And.intro (And.intro (by rfl) (by rfl)) (And.intro ?_ (And.intro (And.intro (by rfl) (by rfl)) (And.intro (And.intro (by rfl) (by rfl)) (And.intro (And.intro (by rfl) (by rfl)) True.intro)))))) (by rfl)))))))
      · exact hi'
      · show n.toNat - (i + 1) < n.toNat - i
        omega
      · refine congrArg (Ob.grid .bool 0) (tab_congr fun a b ha hb => ?_)
        have c2 : closeK (inL l) k i k = false := by simpa [midI] using c1'
        unfold midI
        by_cases h1 : a < i
        · rw [if_pos h1, if_pos (by omega)]
        · rw [if_neg h1]
          by_cases h2 : a = i
          · subst h2; rw [if_pos (by omega)]; simp [warsh, c2]
          · rw [if_neg (by omega)]
    · have hi' := lt _ c0
      have c2 : closeK (inL l) k i k = true := by
        have c1' : midI (closeK (inL l) k) k i i k = true := by
          rw [← tab_at (n := n.toNat) (midI (closeK (inL l) k) k i) hi' hk']
          simpa using c1
        simpa [midI] using c1'
      refine ex4 _ (fun j : Nat => ⟨[.any, .ptr 5 0, .int .i64 (↑k : Int), .int .i64 (↑i : Int), .any, .any, .any, .int .i64 n, .int .i64 (↑k : Int), .bool (decide ((↑k : Int) < n)), .int .i64 (↑k : Int), .ptr 5 0, .int .i64 n, .int .i64 (↑i : Int), .bool (decide ((↑i : Int) < n)), .int .i64 (↑i : Int), .ptr 5 1, .own 2, .int .i64 (↑i : Int), .rptr 2 1 (↑i : Int).toNat 0, .grow 2 (↑i : Int).toNat, .int .i64 (↑k : Int), .gptr 2 (↑i : Int).toNat (↑k : Int).toNat, .bool   ((List.getD (tab n.toNat (midI (closeK (inL l) k) k i)) (↑i : Int).toNat []).getD (↑k : Int).toNat (dflt .bool)), .bool   !(List.getD (tab n.toNat (midI (closeK (inL l) k) k i)) (↑i : Int).toNat []).getD (↑k : Int).toNat (dflt .bool), .ptr 5 1, .own 2, .int .i64 (↑k : Int), .rptr 2 1 (↑k : Int).toNat 0, .grow 2 (↑k : Int).toNat, .int .i64 (↑(List.getD (tab n.toNat (midI (closeK (inL l) k) k i)) (↑k : Int).toNat []).length : Int), .int .i64 (j : Int), .any, .any, .any, .any, .any, .any, .any, .any, .any, .any, .any, .any, .any, .any, .any, .any, .any, .any, .any, .any, .any, .any, .any, .any, .any], [.cells [.int .i64 n], .cells [.int .i64 n, .own 2], .grid .bool 0 (tab n.toNat (inJ (closeK (inL l) k) k i j)), .cells [.int .i64 n, .own 2], .cells [.int .i64 n, .own 2], .cells [.int .i64 n, .own 2]], 6⟩) (fun j => j ≤ n.toNat) (fun j => n.toNat - j) (And.intro (Exists.intro (0) (Exists.intro ([some 0, some 1, some 2, some 3, some 4, some 5]) (And.intro ?_ (And.intro (by rfl) (And.intro (by rfl) (And.intro (And.intro (And.intro (by rfl) (by rfl)) (And.intro (And.intro (by rfl) (by rfl)) (And.intro ?_ (And.intro (And.intro (by rfl) (by rfl)) (And.intro (And.intro (by rfl) (by rfl)) (And.intro (And.intro (by rfl) (by rfl)) True.intro)))))) (by rfl))))))) ?_)
      · exact Nat.zero_le _
      · exact congrArg (Ob.grid .bool 0) (tab_congr fun a b ha hb => by simp [midI, inJ])
      rintro j hj
      have ltd : decide ((j : Int) < (((tab n.toNat (midI (closeK (inL l) k) k i)).getD (k : Int).toNat []).length : Int)) = true → j < n.toNat := fun h => by
        have := of_decide_eq_true h
        rw [Int.toNat_natCast, tab_rlen _ hk'] at this
        omega
      have ged : decide ((j : Int) < (((tab n.toNat (midI (closeK (inL l) k) k i)).getD (k : Int).toNat []).length : Int)) = false → j = n.toNat := fun h => by
        have := of_decide_eq_false h
        rw [Int.toNat_natCast, tab_rlen _ hk'] at this
        omega
      refine (And.intro (fun d0 => (And.intro (by first | (intros; (try subst_vars); (try simp only [Bool.cond_true_left, Bool.cond_false_right, Bool.or_eq_true, Bool.or_eq_false_iff, Bool.and_eq_true, Bool.not_eq_true', Bool.not_eq_false', decide_eq_true_eq, decide_eq_false_iff_not, Int.not_lt, Int.not_le] at *); (try simp only [inK, big, lim, List.length_cons, List.length_nil, List.length_append, List.length_drop, List.length_take, List.length_replicate] at *); omega) | exact f1 _ _ hi' | exact f2 _ _ hi' | exact f3 _ _ _ hk' (ltd d0) | exact f3 _ _ _ hi' (ltd d0)) (And.intro (by first | kernel_rfl | rfl) (And.intro (by first | (intros; (try subst_vars); (try simp only [Bool.cond_true_left, Bool.cond_false_right, Bool.or_eq_true, Bool.or_eq_false_iff, Bool.and_eq_true, Bool.not_eq_true', Bool.not_eq_false', decide_eq_true_eq, decide_eq_false_iff_not, Int.not_lt, Int.not_le] at *); (try simp only [inK, big, lim, List.length_cons, List.length_nil, List.length_append, List.length_drop, List.length_take, List.length_replicate] at *); omega) | exact f1 _ _ hi' | exact f2 _ _ hi' | exact f3 _ _ _ hk' (ltd d0) | exact f3 _ _ _ hi' (ltd d0)) (And.intro (by first | (intros; (try subst_vars); (try simp only [Bool.cond_true_left, Bool.cond_false_right, Bool.or_eq_true, Bool.or_eq_false_iff, Bool.and_eq_true, Bool.not_eq_true', Bool.not_eq_false', decide_eq_true_eq, decide_eq_false_iff_not, Int.not_lt, Int.not_le] at *); (try simp only [inK, big, lim, List.length_cons, List.length_nil, List.length_append, List.length_drop, List.length_take, List.length_replicate] at *); omega) | exact f1 _ _ hi' | exact f2 _ _ hi' | exact f3 _ _ _ hk' (ltd d0) | exact f3 _ _ _ hi' (ltd d0)) (And.intro (by first | (intros; (try subst_vars); (try simp only [Bool.cond_true_left, Bool.cond_false_right, Bool.or_eq_true, Bool.or_eq_false_iff, Bool.and_eq_true, Bool.not_eq_true', Bool.not_eq_false', decide_eq_true_eq, decide_eq_false_iff_not, Int.not_lt, Int.not_le] at *); (try simp only [inK, big, lim, List.length_cons, List.length_nil, List.length_append, List.length_drop, List.length_take, List.length_replicate] at *); omega) | exact f1 _ _ hi' | exact f2 _ _ hi' | exact f3 _ _ _ hk' (ltd d0) | exact f3 _ _ _ hi' (ltd d0)) (And.intro (by first | (intros; (try subst_vars); (try simp only [Bool.cond_true_left, Bool.cond_false_right, Bool.or_eq_true, Bool.or_eq_false_iff, Bool.and_eq_true, Bool.not_eq_true', Bool.not_eq_false', decide_eq_true_eq, decide_eq_false_iff_not, Int.not_lt, Int.not_le] at *); (try simp only [inK, big, lim, List.length_cons, List.length_nil, List.length_append, List.length_drop, List.length_take, List.length_replicate] at *); omega) | exact f1 _ _ hi' | exact f2 _ _ hi' | exact f3 _ _ _ hk' (ltd d0) | exact f3 _ _ _ hi' (ltd d0)) (And.intro (by first | (intros; (try subst_vars); (try simp only [Bool.cond_true_left, Bool.cond_false_right, Bool.or_eq_true, Bool.or_eq_false_iff, Bool.and_eq_true, Bool.not_eq_true', Bool.not_eq_false', decide_eq_true_eq, decide_eq_false_iff_not, Int.not_lt, Int.not_le] at *); (try simp only [inK, big, lim, List.length_cons, List.length_nil, List.length_append, List.length_drop, List.length_take, List.length_replicate] at *); omega) | exact f1 _ _ hi' | exact f2 _ _ hi' | exact f3 _ _ _ hk' (ltd d0) | exact f3 _ _ _ hi' (ltd d0)) (And.intro (by first | (intros; (try subst_vars); (try simp only [Bool.cond_true_left, Bool.cond_false_right, Bool.or_eq_true, Bool.or_eq_false_iff, Bool.and_eq_true, Bool.not_eq_true', Bool.not_eq_false', decide_eq_true_eq, decide_eq_false_iff_not, Int.not_lt, Int.not_le] at *); (try simp only [inK, big, lim, List.length_cons, List.length_nil, List.length_append, List.length_drop, List.length_take, List.length_replicate] at *); omega) | exact f1 _ _ hi' | exact f2 _ _ hi' | exact f3 _ _ _ hk' (ltd d0) | exact f3 _ _ _ hi' (ltd d0)) (And.intro (by first | (intros; (try subst_vars); (try simp only [Bool.cond_true_left, Bool.cond_false_right, Bool.or_eq_true, Bool.or_eq_false_iff, Bool.and_eq_true, Bool.not_eq_true', Bool.not_eq_false', decide_eq_true_eq, decide_eq_false_iff_not, Int.not_lt, Int.not_le] at *); (try simp only [inK, big, lim, List.length_cons, List.length_nil, List.length_append, List.length_drop, List.length_take, List.length_replicate] at *); omega) | exact f1 _ _ hi' | exact f2 _ _ hi' | exact f3 _ _ _ hk' (ltd d0) | exact f3 _ _ _ hi' (ltd d0)) ?_)))))))))) (fun d0 => (And.intro (by first | (intros; (try subst_vars); (try simp only [Bool.cond_true_left, Bool.cond_false_right, Bool.or_eq_true, Bool.or_eq_false_iff, Bool.and_eq_true, Bool.not_eq_true', Bool.not_eq_false', decide_eq_true_eq, decide_eq_false_iff_not, Int.not_lt, Int.not_le] at *); (try simp only [inK, big, lim, List.length_cons, List.length_nil, List.length_append, List.length_drop, List.length_take, List.length_replicate] at *); omega) | exact f1 _ _ hi' | exact f2 _ _ hi' | exact f3 _ _ _ hk' (ltd d0) | exact f3 _ _ _ hi' (ltd d0)) ?_)))
      · have hj' := ltd d0
        refine Exists.intro (j + 1) (Exists.intro ([some 0, some 1, some 2, some 3, some 4, some 5]) (And.intro ?_ (And.intro ?_ (And.intro (by rfl) (And.intro (by rfl) (And.intro (And.intro (And.intro (by rfl) (by rfl)) (And.intro (And.intro (by rfl) (by rfl)) (And.intro ?_ (And.intro (And.intro (by rfl) (by rfl)) (And.intro (And.intro (by rfl) (by rfl)) (And.intro (And.intro (by rfl) (by rfl)) True.intro)))))) (by rfl)))))))
        · exact hj'
        · show n.toNat - (j + 1) < n.toNat - j
          omega
        · refine congrArg (Ob.grid .bool 0) ?_
          simp only [Int.toNat_natCast, dflt]
          rw [tab_at _ hi' hj', tab_at _ hk' hj', tab_set _ _ hi']
          refine tab_congr fun a b ha hb => ?_
          have ek : inJ (closeK (inL l) k) k i j k j = closeK (inL l) k k j := by
            unfold inJ
            by_cases h1 : k < i
            · rw [if_pos h1]; simp [warsh]
            · rw [if_neg h1, if_neg (by omega)]
          have ei : inJ (closeK (inL l) k) k i j i j = closeK (inL l) k i j := by
            unfold inJ
            rw [if_neg (by omega), if_neg (by omega)]
          rw [ek, ei]
          unfold inJ
          by_cases h1 : a < i
          · rw [if_neg (by omega), if_pos h1, if_pos h1]
          · by_cases h2 : a = i
            · subst h2
              by_cases h3 : b = j
              · subst h3
                rw [if_pos ⟨rfl, rfl⟩, if_neg h1, if_pos ⟨rfl, by omega⟩]
                cases closeK (inL l) k a b <;> rfl
              · rw [if_neg (by omega), if_neg h1, if_neg h1]
                by_cases h4 : b < j
                · rw [if_pos ⟨rfl, h4⟩, if_pos ⟨rfl, by omega⟩]
                · rw [if_neg (by omega), if_neg (by omega)]
            · rw [if_neg (by omega), if_neg h1, if_neg (by omega), if_neg h1, if_neg (by omega)]
      · have hj' := ged d0
        refine Exists.intro (i + 1) (Exists.intro ([some 0, some 1, some 2, some 3, some 4, some 5]) (And.intro ?_ (And.intro ?_ (And.intro (by rfl) (And.intro (by rfl) (And.intro (And.intro (And.intro (by rfl) (by rfl)) (And.intro (And.intro (by rfl) (by rfl)) (And.intro ?_ (And.intro (And.intro (by rfl) (by rfl)) (And.intro (And.intro (by rfl) (by rfl)) (And.intro (And.intro (by rfl) (by rfl)) True.intro)))))) (by rfl)))))))
        · exact hi'
        · show n.toNat - (i + 1) < n.toNat - i
          omega
        · refine congrArg (Ob.grid .bool 0) (tab_congr fun a b ha hb => ?_)
          subst hj'
          unfold inJ midI
          by_cases h1 : a < i
          · rw [if_pos h1, if_pos (by omega)]
          · rw [if_neg h1]
            by_cases h2 : a = i
            · subst h2
              rw [if_pos ⟨rfl, hb⟩, if_pos (by omega)]
              simp [warsh, c2]
            · rw [if_neg (by omega), if_neg (by omega)]
    · have hi' : ¬ i < n.toNat := by have := of_decide_eq_false c0; omega
      refine Exists.intro (k + 1) (Exists.intro ([some 0, some 1, some 2, some 3, some 4, some 5]) (And.intro ?_ (And.intro ?_ (And.intro (by rfl) (And.intro (by rfl) (And.intro (And.intro (And.intro (by rfl) (by rfl)) (And.intro (And.intro (by rfl) (by rfl)) (And.intro ?_ (And.intro (And.intro (by rfl) (by rfl)) (And.intro (And.intro (by rfl) (by rfl)) (And.intro (And.intro (by rfl) (by rfl)) True.intro)))))) (by rfl)))))))
      · exact hk'
      · show n.toNat - (k + 1) < n.toNat - k
        omega
      · refine congrArg (Ob.grid .bool 0) (tab_congr fun a b ha hb => ?_)
        show midI (closeK (inL l) k) k i a b = warsh k (closeK (inL l) k) a b
        unfold midI
        rw [if_pos (by omega)]
  have ek : k = n.toNat := by have := of_decide_eq_false b0; omega
  subst ek
  have lt : ∀ a : Nat, decide ((a : Int) < n) = true → a < n.toNat := fun a h => by have := of_decide_eq_true h; omega
  have f1 : ∀ (f : Nat → Nat → Bool) (a : Nat), a < n.toNat → 0 ≤ (a : Int) ∧ (a : Int) < (((tab n.toNat f).length + 0 : Nat) : Int) := fun f a h => by rw [tab_len]; omega
  have f2 : ∀ (f : Nat → Nat → Bool) (a : Nat), a < n.toNat → (a : Int).toNat < (tab n.toNat f).length := fun f a h => by rw [tab_len]; omega
  have f3 : ∀ (f : Nat → Nat → Bool) (a b : Nat), a < n.toNat → b < n.toNat → (a : Int).toNat < (tab n.toNat f).length ∧ 0 ≤ (b : Int) ∧ (b : Int) < (((tab n.toNat f).getD (a : Int).toNat []).length : Int) := fun f a b h h' => by
    rw [tab_len, Int.toNat_natCast, tab_rlen f h]; omega
  refine ex4 _ (fun d : Nat => ⟨[.any, .any, .ptr 0 0, .any, .any, .any, .any, .ptr 4 0, .any, .any, .any, .any, .any, .any, .any, .any, .any, .any, .any, .any, .any, .any, .any, .any, .int .i64 n, .int .i64 (d : Int), .any, .any, .any, .any, .any, .any, .any, .any, .any, .any, .any, .any, .any, .any, .any, .any, .any, .any], [.cells [.int .i64 n], .cells [.int .i64 n, .own 2], .grid .bool 0 (tab n.toNat (closeK (inL l) n.toNat)), .cells [.int .i64 n, .own 2], .cells [.int .i64 n, .own 2], .cells [.int .i64 n, .own 2]], 6⟩) (fun d => d ≤ n.toNat ∧ (List.range d).any (fun i => closeK (inL l) n.toNat i i) = false) (fun d => n.toNat - d) (And.intro (Exists.intro (0) (Exists.intro ([some 0, some 1, some 2, some 3, some 4, some 5]) (And.intro ?_ (And.intro (by rfl) (And.intro (by rfl) (And.intro (And.intro (And.intro (by rfl) (by rfl)) (And.intro (And.intro (by rfl) (by rfl)) (And.intro (by rfl) (And.intro (And.intro (by rfl) (by rfl)) (And.intro (And.intro (by rfl) (by rfl)) (And.intro (And.intro (by rfl) (by rfl)) True.intro)))))) (by rfl))))))) ?_)
  · exact ⟨Nat.zero_le _, rfl⟩
  rintro d ⟨hd, hv⟩
  refine (And.intro (fun u0 => (And.intro (by first | (intros; (try subst_vars); (try simp only [Bool.cond_true_left, Bool.cond_false_right, Bool.or_eq_true, Bool.or_eq_false_iff, Bool.and_eq_true, Bool.not_eq_true', Bool.not_eq_false', decide_eq_true_eq, decide_eq_false_iff_not, Int.not_lt, Int.not_le] at *); (try simp only [inK, big, lim, List.length_cons, List.length_nil, List.length_append, List.length_drop, List.length_take, List.length_replicate] at *); omega) | exact f1 _ _ (lt _ u0) | exact f2 _ _ (lt _ u0) | exact f3 _ _ _ (lt _ u0) (lt _ u0)) (And.intro (by first | (intros; (try subst_vars); (try simp only [Bool.cond_true_left, Bool.cond_false_right, Bool.or_eq_true, Bool.or_eq_false_iff, Bool.and_eq_true, Bool.not_eq_true', Bool.not_eq_false', decide_eq_true_eq, decide_eq_false_iff_not, Int.not_lt, Int.not_le] at *); (try simp only [inK, big, lim, List.length_cons, List.length_nil, List.length_append, List.length_drop, List.length_take, List.length_replicate] at *); omega) | exact f1 _ _ (lt _ u0) | exact f2 _ _ (lt _ u0) | exact f3 _ _ _ (lt _ u0) (lt _ u0)) (And.intro (by first | (intros; (try subst_vars); (try simp only [Bool.cond_true_left, Bool.cond_false_right, Bool.or_eq_true, Bool.or_eq_false_iff, Bool.and_eq_true, Bool.not_eq_true', Bool.not_eq_false', decide_eq_true_eq, decide_eq_false_iff_not, Int.not_lt, Int.not_le] at *); (try simp only [inK, big, lim, List.length_cons, List.length_nil, List.length_append, List.length_drop, List.length_take, List.length_replicate] at *); omega) | exact f1 _ _ (lt _ u0) | exact f2 _ _ (lt _ u0) | exact f3 _ _ _ (lt _ u0) (lt _ u0)) (And.intro (fun u1 => (fin_of rfl ?_)) (fun u1 => (And.intro (by first | (intros; (try subst_vars); (try simp only [Bool.cond_true_left, Bool.cond_false_right, Bool.or_eq_true, Bool.or_eq_false_iff, Bool.and_eq_true, Bool.not_eq_true', Bool.not_eq_false', decide_eq_true_eq, decide_eq_false_iff_not, Int.not_lt, Int.not_le] at *); (try simp only [inK, big, lim, List.length_cons, List.length_nil, List.length_append, List.length_drop, List.length_take, List.length_replicate] at *); omega) | exact f1 _ _ (lt _ u0) | exact f2 _ _ (lt _ u0) | exact f3 _ _ _ (lt _ u0) (lt _ u0)) ?_))))))) (fun u0 => (And.intro (by first | kernel_rfl | rfl) (And.intro (by first | kernel_rfl | rfl) (And.intro (by first | kernel_rfl | rfl) (And.intro (by first | kernel_rfl | rfl) (And.intro (by first | kernel_rfl | rfl) ?_)))))))
  · have hd' := lt _ u0
    have u1' : closeK (inL l) n.toNat d d = true := by
      rw [← tab_at (n := n.toNat) (closeK (inL l) n.toNat) hd' hd']
      simpa using u1
    have e := range_hit (p := fun i => closeK (inL l) n.toNat i i) hd' u1'
    show ((genF n l).1, (genF n l).2, ()) = ([], 21, ())
    rw [eg, if_pos e]
  · have hd' := lt _ u0
    have u1' : closeK (inL l) n.toNat d d = false := by
      rw [← tab_at (n := n.toNat) (closeK (inL l) n.toNat) hd' hd']
      simpa using u1
    refine Exists.intro (d + 1) (Exists.intro ([some 0, some 1, some 2, some 3, some 4, some 5]) (And.intro ?_ (And.intro ?_ (And.intro (by rfl) (And.intro (by rfl) (And.intro (And.intro (And.intro (by rfl) (by rfl)) (And.intro (And.intro (by rfl) (by rfl)) (And.intro (by rfl) (And.intro (And.intro (by rfl) (by rfl)) (And.intro (And.intro (by rfl) (by rfl)) (And.intro (And.intro (by rfl) (by rfl)) True.intro)))))) (by rfl)))))))
    · exact ⟨hd', range_next hv u1'⟩
    · show n.toNat - (d + 1) < n.toNat - d
      omega
  have ed : d = n.toNat := by have := of_decide_eq_false u0; omega
  subst ed
  rw [if_neg (by rw [hv]; simp)] at eg
  refine ?_
  have g1 : ∀ (f : Nat → Nat → Bool) (a b : Nat), a < n.toNat → b < n.toNat → 0 ≤ (b : Int) ∧ (b : Int) < (((tab n.toNat f).getD (a : Int).toNat []).length : Int) := fun f a b h h' => (f3 f a b h h').2
  refine ex4 _ (fun i : Nat => ⟨[.yld 8, .ptr 6 0, .any, .any, .any, .ptr 6 0, .int .i64 n, .int .i64 (i : Int), .any, .any, .any, .any, .any, .any, .any, .any, .any, .any, .any, .any, .any, .any, .any, .any, .any, .any, .any, .any, .any, .any, .any, .any, .any], [.cells [.int .i64 n], .cells [.int .i64 n, .own 2], .grid .bool 0 (tab n.toNat (closeK (inL l) n.toNat)), .cells [.int .i64 n, .own 2], .cells [.int .i64 n, .own 2], .cells [.int .i64 n, .own 2], .cells [.int .i64 n, .own 2], .cells [.own 9], .loop .ready .no ([7]) _ _ [.cap0, .fn (Fn.func 66) [] [.ptr 6 0], .ptr 7 0, .any, .cap0, .any, .fn (Fn.func 66) [] [.ptr 6 0], .any, .any, .any, .any, .any, .any], .rows tE (accI n.toNat (closeK (inL l) n.toNat) i)], 10⟩) (fun i => i ≤ n.toNat) (fun i => n.toNat - i) (And.intro (Exists.intro (0) (Exists.intro ([some 0, some 1, some 2, some 3, some 4, some 5, some 6, some 7, some 8, none]) (And.intro ?_ (And.intro (by rfl) (And.intro (by rfl) (And.intro (And.intro (And.intro (by rfl) (by rfl)) (And.intro (And.intro (by rfl) (by rfl)) (And.intro (by rfl) (And.intro (And.intro (by rfl) (by rfl)) (And.intro (And.intro (by rfl) (by rfl)) (And.intro (And.intro (by rfl) (by rfl)) (And.intro (And.intro (by rfl) (by rfl)) (And.intro (And.intro (by rfl) (by rfl)) (And.intro (And.intro (And.intro rfl (And.intro rfl (And.intro rfl (And.intro rfl rfl)))) (And.intro (by rfl) (by rfl))) (And.intro (by rfl) True.intro)))))))))) (by rfl))))))) ?_)
  · exact Nat.zero_le _
  rintro i hi
  refine (And.intro (fun w0 => ?_) (fun w0 => (fun w1 => (And.intro (fun w2 => (fin_of rfl ?_)) (fun w2 => (fin_of rfl ?_))))))
  · have hi' := lt _ w0
    refine ex4 _ (fun j : Nat => ⟨[.yld 8, .ptr 6 0, .any, .int .i64 (↑i : Int), .any, .ptr 6 0, .int .i64 n, .int .i64 (↑i : Int), .bool (decide ((↑i : Int) < n)), .int .i64 (↑i : Int), .ptr 6 0, .int .i64 n, .int .i64 (j : Int), .any, .any, .any, .any, .any, .any, .any, .any, .any, .any, .any, .any, .any, .any, .any, .any, .any, .any, .any, .any], [.cells [.int .i64 n], .cells [.int .i64 n, .own 2], .grid .bool 0 (tab n.toNat (closeK (inL l) n.toNat)), .cells [.int .i64 n, .own 2], .cells [.int .i64 n, .own 2], .cells [.int .i64 n, .own 2], .cells [.int .i64 n, .own 2], .cells [.own 9], .loop .ready .no ([7]) _ _ [.cap0, .fn (Fn.func 66) [] [.ptr 6 0], .ptr 7 0, .any, .cap0, .any, .fn (Fn.func 66) [] [.ptr 6 0], .any, .any, .any, .any, .any, .any], .rows tE (accI n.toNat (closeK (inL l) n.toNat) i ++ rowP n.toNat (closeK (inL l) n.toNat) i j)], 10⟩) (fun j => j ≤ n.toNat) (fun j => n.toNat - j) (And.intro (Exists.intro (0) (Exists.intro ([some 0, some 1, some 2, some 3, some 4, some 5, some 6, some 7, some 8, some 9]) (And.intro ?_ (And.intro (by rfl) (And.intro (by rfl) (And.intro (And.intro (And.intro (by rfl) (by rfl)) (And.intro (And.intro (by rfl) (by rfl)) (And.intro (by rfl) (And.intro (And.intro (by rfl) (by rfl)) (And.intro (And.intro (by rfl) (by rfl)) (And.intro (And.intro (by rfl) (by rfl)) (And.intro (And.intro (by rfl) (by rfl)) (And.intro (And.intro (by rfl) (by rfl)) (And.intro (And.intro (And.intro rfl (And.intro rfl (And.intro rfl (And.intro rfl rfl)))) (And.intro (by rfl) (by rfl))) (And.intro ?_ True.intro)))))))))) (by rfl))))))) ?_)
    · exact Nat.zero_le _
    · exact congrArg (Ob.rows tE) (by simp [rowP])
    rintro j hj
    have room : ∀ b : Nat, b < n.toNat → ((accI n.toNat (closeK (inL l) n.toNat) i ++ rowP n.toNat (closeK (inL l) n.toNat) i j).length + [((i : Int), (b : Int))].length) * 16 ≤ lim := fun b _ => by
      have := acc_row_len (closeK (inL l) n.toNat) (n := n.toNat) (i := i) (j := j) (by omega) hi hj
      simp only [lim, List.length_cons, List.length_nil]
      omega
    refine (And.intro (fun x0 => (And.intro (by first | (intros; (try subst_vars); (try simp only [Bool.cond_true_left, Bool.cond_false_right, Bool.or_eq_true, Bool.or_eq_false_iff, Bool.and_eq_true, Bool.not_eq_true', Bool.not_eq_false', decide_eq_true_eq, decide_eq_false_iff_not, Int.not_lt, Int.not_le] at *); (try simp only [inK, big, lim, List.length_cons, List.length_nil, List.length_append, List.length_drop, List.length_take, List.length_replicate] at *); omega) | exact f1 _ _ hi' | exact f2 _ _ hi' | exact f3 _ _ _ hi' (lt _ x0)) (And.intro (by first | (intros; (try subst_vars); (try simp only [Bool.cond_true_left, Bool.cond_false_right, Bool.or_eq_true, Bool.or_eq_false_iff, Bool.and_eq_true, Bool.not_eq_true', Bool.not_eq_false', decide_eq_true_eq, decide_eq_false_iff_not, Int.not_lt, Int.not_le] at *); (try simp only [inK, big, lim, List.length_cons, List.length_nil, List.length_append, List.length_drop, List.length_take, List.length_replicate] at *); omega) | exact f1 _ _ hi' | exact f2 _ _ hi' | exact f3 _ _ _ hi' (lt _ x0)) (And.intro (by first | (intros; (try subst_vars); (try simp only [Bool.cond_true_left, Bool.cond_false_right, Bool.or_eq_true, Bool.or_eq_false_iff, Bool.and_eq_true, Bool.not_eq_true', Bool.not_eq_false', decide_eq_true_eq, decide_eq_false_iff_not, Int.not_lt, Int.not_le] at *); (try simp only [inK, big, lim, List.length_cons, List.length_nil, List.length_append, List.length_drop, List.length_take, List.length_replicate] at *); omega) | exact f1 _ _ hi' | exact f2 _ _ hi' | exact f3 _ _ _ hi' (lt _ x0)) (And.intro (fun x1 => ?_) (fun x2 => (And.intro (fun x3 => (fun x4 => (And.intro (fun x5 => (fin_of rfl ?_)) (fun x5 => (fin_of rfl ?_))))) (fun x3 => (And.intro (by first | (intros; (try subst_vars); (try simp only [Bool.cond_true_left, Bool.cond_false_right, Bool.or_eq_true, Bool.or_eq_false_iff, Bool.and_eq_true, Bool.not_eq_true', Bool.not_eq_false', decide_eq_true_eq, decide_eq_false_iff_not, Int.not_lt, Int.not_le] at *); (try simp only [inK, big, lim, List.length_cons, List.length_nil, List.length_append, List.length_drop, List.length_take, List.length_replicate] at *); omega) | exact f1 _ _ hi' | exact f2 _ _ hi' | exact f3 _ _ _ hi' (lt _ x0)) ?_))))))))) (fun x0 => (And.intro (by first | (intros; (try subst_vars); (try simp only [Bool.cond_true_left, Bool.cond_false_right, Bool.or_eq_true, Bool.or_eq_false_iff, Bool.and_eq_true, Bool.not_eq_true', Bool.not_eq_false', decide_eq_true_eq, decide_eq_false_iff_not, Int.not_lt, Int.not_le] at *); (try simp only [inK, big, lim, List.length_cons, List.length_nil, List.length_append, List.length_drop, List.length_take, List.length_replicate] at *); omega) | exact f1 _ _ hi' | exact f2 _ _ hi' | exact f3 _ _ _ hi' (lt _ x0)) ?_)))
    · refine ⟨room j (lt _ x0), ?_⟩
      have hj' := lt _ x0
      have x1' : closeK (inL l) n.toNat i j = true := by
        rw [← tab_at (n := n.toNat) (closeK (inL l) n.toNat) hi' hj']
        simpa using x1
      refine (And.intro (fun y0 => (fun y1 => (And.intro (fun y2 => (fin_of rfl ?_)) (fun y2 => (fin_of rfl ?_))))) (fun y0 => (And.intro (by intros; (try subst_vars); (try simp only [Bool.cond_true_left, Bool.cond_false_right, Bool.or_eq_true, Bool.or_eq_false_iff, Bool.and_eq_true, Bool.not_eq_true', Bool.not_eq_false', decide_eq_true_eq, decide_eq_false_iff_not, Int.not_lt, Int.not_le] at *); (try simp only [inK, big, lim, List.length_cons, List.length_nil, List.length_append, List.length_drop, List.length_take, List.length_replicate] at *); omega) ?_)))
      · rw [x1] at y0
        exact nomatch y0
      · rw [x1] at y0
        exact nomatch y0
      · refine Exists.intro (j + 1) (Exists.intro ([some 0, some 1, some 2, some 3, some 4, some 5, some 6, some 7, some 8, some 12]) (And.intro ?_ (And.intro ?_ (And.intro (by rfl) (And.intro (by rfl) (And.intro (And.intro (And.intro (by rfl) (by rfl)) (And.intro (And.intro (by rfl) (by rfl)) (And.intro (by rfl) (And.intro (And.intro (by rfl) (by rfl)) (And.intro (And.intro (by rfl) (by rfl)) (And.intro (And.intro (by rfl) (by rfl)) (And.intro (And.intro (by rfl) (by rfl)) (And.intro (And.intro (by rfl) (by rfl)) (And.intro (And.intro (And.intro rfl (And.intro rfl (And.intro rfl (And.intro rfl rfl)))) (And.intro (by rfl) (by rfl))) (And.intro ?_ True.intro)))))))))) (by rfl)))))))
        · exact hj'
        · show n.toNat - (j + 1) < n.toNat - j
          omega
        · refine congrArg (Ob.rows tE) ?_
          rw [row_next, if_pos x1', List.append_assoc]
    · rw [x2] at x3
      exact nomatch x3
    · rw [x2] at x3
      exact nomatch x3
    · have hj' := lt _ x0
      refine Exists.intro (j + 1) (Exists.intro ([some 0, some 1, some 2, some 3, some 4, some 5, some 6, some 7, some 8, some 9]) (And.intro ?_ (And.intro ?_ (And.intro (by rfl) (And.intro (by rfl) (And.intro (And.intro (And.intro (by rfl) (by rfl)) (And.intro (And.intro (by rfl) (by rfl)) (And.intro (by rfl) (And.intro (And.intro (by rfl) (by rfl)) (And.intro (And.intro (by rfl) (by rfl)) (And.intro (And.intro (by rfl) (by rfl)) (And.intro (And.intro (by rfl) (by rfl)) (And.intro (And.intro (by rfl) (by rfl)) (And.intro (And.intro (And.intro rfl (And.intro rfl (And.intro rfl (And.intro rfl rfl)))) (And.intro (by rfl) (by rfl))) (And.intro ?_ True.intro)))))))))) (by rfl)))))))
      · exact hj'
      · show n.toNat - (j + 1) < n.toNat - j
        omega
      · refine congrArg (Ob.rows tE) ?_
        have x2' : closeK (inL l) n.toNat i j = false := by
          rw [← tab_at (n := n.toNat) (closeK (inL l) n.toNat) hi' hj']
          simpa using x2
        rw [row_next, if_neg (by simp [x2']), List.append_nil]
    · have ej : j = n.toNat := by have := of_decide_eq_false x0; omega
      subst ej
      refine Exists.intro (i + 1) (Exists.intro ([some 0, some 1, some 2, some 3, some 4, some 5, some 6, some 7, some 8, some 9]) (And.intro ?_ (And.intro ?_ (And.intro (by rfl) (And.intro (by rfl) (And.intro (And.intro (And.intro (by rfl) (by rfl)) (And.intro (And.intro (by rfl) (by rfl)) (And.intro (by rfl) (And.intro (And.intro (by rfl) (by rfl)) (And.intro (And.intro (by rfl) (by rfl)) (And.intro (And.intro (by rfl) (by rfl)) (And.intro (And.intro (by rfl) (by rfl)) (And.intro (And.intro (by rfl) (by rfl)) (And.intro (And.intro (And.intro rfl (And.intro rfl (And.intro rfl (And.intro rfl rfl)))) (And.intro (by rfl) (by rfl))) (And.intro ?_ True.intro)))))))))) (by rfl)))))))
      · exact hi'
      · show n.toNat - (i + 1) < n.toNat - i
        omega
      · refine congrArg (Ob.rows tE) ?_
        rw [acc_next]
  · have en : i = n.toNat := by have := of_decide_eq_false w0; omega
    subst en
    rw [if_pos (of_decide_eq_true (show decide (2000 < ((pairsF n.toNat (closeK (inL l) n.toNat)).length : Int)) = true from w2))] at eg
    show ((genF n l).1, (genF n l).2, ()) = ([], 4, ())
    rw [eg]
  · have en : i = n.toNat := by have := of_decide_eq_false w0; omega
    subst en
    rw [if_neg (of_decide_eq_false (show decide (2000 < ((pairsF n.toNat (closeK (inL l) n.toNat)).length : Int)) = false from w2))] at eg
    show ((genF n l).1, (genF n l).2, ()) = (accI n.toNat (closeK (inL l) n.toNat) n.toNat, 0, ())
    rw [eg]; rfl
end Go.Proofs.Ytlaefkhbpnbahaa
