/- Partial orders: the matrix of pairs, as a contract. -/
import Derived.Test.YtlaefkhbpnbahaaPoA
set_option linter.unusedSimpArgs false
set_option linter.unusedVariables false
set_option maxRecDepth 100000
namespace Go.Proofs.Ytlaefkhbpnbahaa
open Go.Sx

@[reducible] def Mx : Type := List (List Bool)
/-- One pair more. -/
def setP (m : Mx) (p : Ed) : Mx := m.set p.1.toNat ((m.getD p.1.toNat []).set p.2.toNat true)
def zeroM (n : Nat) : Mx := List.replicate n (List.replicate n false)
/-- The matrix of pairs. -/
def matF (n : Int) (l : List Ed) : Mx := l.foldl setP (zeroM n.toNat)
/-- It has n rows of n. -/
def sq (n : Nat) (m : Mx) : Prop := m.length = n ∧ ∀ r ∈ m, r.length = n
theorem sq_zero (n : Nat) : sq n (zeroM n) := ⟨by simp [zeroM], fun r hr => by simp [zeroM] at hr; simp [hr.2]⟩
theorem sq_row {n : Nat} {m : Mx} (h : sq n m) {i : Nat} (hi : i < n) : (m.getD i []).length = n := by
  have hi' : i < m.length := by rw [h.1]; exact hi
  rw [List.getD_eq_getElem?_getD, List.getElem?_eq_getElem hi']
  exact h.2 _ (List.getElem_mem hi')
theorem sq_set {n : Nat} {m : Mx} (h : sq n m) (p : Ed) (hp : p.1.toNat < n) : sq n (setP m p) := by
  refine ⟨by simp [setP, h.1], fun r hr => ?_⟩
  rcases List.mem_or_eq_of_mem_set hr with hr | rfl
  · exact h.2 r hr
  · rw [List.length_set]; exact sq_row h hp
def insideAll (n : Int) (l : List Ed) : Prop := ∀ p ∈ l, outB n p = false
theorem out_false {n : Int} {p : Ed} (h : outB n p = false) : 0 ≤ p.1 ∧ p.1 < n ∧ 0 ≤ p.2 ∧ p.2 < n := by
  simp only [outB, Bool.or_eq_false_iff, decide_eq_false_iff_not, Int.not_lt, Int.not_le] at h
  omega
theorem sq_fold {n : Int} : ∀ (l : List Ed) (m : Mx), insideAll n l → sq n.toNat m → sq n.toNat (l.foldl setP m)
  | [], m, _, h => h
  | p :: l, m, hl, h => by
    have hp := out_false (hl p (by simp))
    exact sq_fold l _ (fun q hq => hl q (by simp [hq])) (sq_set h p (by omega))
theorem sq_mat {n : Int} {l : List Ed} (hl : insideAll n l) : sq n.toNat (matF n l) := sq_fold l _ hl (sq_zero _)

/-- The rows that there are so far. -/
def part (n i : Nat) : Mx := List.replicate i (List.replicate n false)
theorem part_succ (n i : Nat) : part n i ++ [List.replicate n false] = part n (i + 1) := by
  unfold part
  rw [List.replicate_succ']
theorem part_len (n i : Nat) : (part n i).length = i := by simp [part]
theorem take_fold {l : List Ed} {i : Nat} {m : Mx} (h : i < l.length) : (l.take (i + 1)).foldl setP m = setP ((l.take i).foldl setP m) (l.getD i (dflt tE)) := by
  rw [List.take_succ_eq_append_getElem h, List.foldl_append, List.getD_eq_getElem?_getD, List.getElem?_eq_getElem h]
  rfl
theorem inside_take {n : Int} {l : List Ed} (h : insideAll n l) (i : Nat) : insideAll n (l.take i) := fun p hp => h p (List.mem_of_mem_take hp)
theorem inside_get {n : Int} {l : List Ed} (h : insideAll n l) {i : Nat} (hi : i < l.length) : 0 ≤ (l.getD i (dflt tE)).1 ∧ (l.getD i (dflt tE)).1 < n ∧ 0 ≤ (l.getD i (dflt tE)).2 ∧ (l.getD i (dflt tE)).2 < n := by
  rw [List.getD_eq_getElem?_getD, List.getElem?_eq_getElem hi]
  exact out_false (h _ (List.getElem_mem hi))

def tysM : List (TypeId × Ty) := (1000000 + 56, .bool) :: tys0
def cxM : Ctx := ⟨tysM, []⟩
theorem cxM_good : GoodCtx Try.prog cxM := fun _ _ _ h => by simp [cxM, lookL] at h
def c39 : Ctr := fnC [dI, dEs] [(true, tRel)] (fun y => 0 ≤ y.1 ∧ y.1 ≤ 200 ∧ insideAll y.1 y.2.1) (fun y => ((y.1, matF y.1 y.2.1), ()))
set_option maxHeartbeats 1000000 in
theorem good39 : GoodC Try.prog 39 c39 := by
  refine goodF cxM_good 4 _ _ _ _ ⟨_, Try.func39, rfl, rfl⟩ fun (⟨n, l, _⟩ : Int × List Ed × Unit) hn => ?_
  have n0 : (0 : Int) ≤ n := hn.1
  have n1 : n ≤ (200 : Int) := hn.2.1
  have hl : insideAll n l := hn.2.2
  clear hn
  have nz : ((n.toNat : Nat) : Int) = n := Int.toNat_of_nonneg n0
  refine (And.intro (by first | kernel_rfl | rfl) (And.intro (by first | exact ⟨n0, Int.le_refl _, by simp only [lim]; omega, by simp only [lim]; omega⟩ | (intros; (try subst_vars); (try simp only [Bool.cond_true_left, Bool.cond_false_right, Bool.or_eq_true, Bool.or_eq_false_iff, Bool.and_eq_true, Bool.not_eq_true', Bool.not_eq_false', decide_eq_true_eq, decide_eq_false_iff_not, Int.not_lt, Int.not_le] at *); (try simp only [inK, big, lim, List.length_cons, List.length_nil, List.length_append, List.length_drop, List.length_take, List.length_replicate] at *); omega)) (fun h0 => ?_)))
  refine ex4 _ (fun i : Nat => ⟨[.int .i64 n, .sl tE l, .any, .any, .ptr 0 0, .ptr 2 0, .any, .any, .any, .any, .any, .any, .any, .ptr 2 1, .own 1, .int .i64 ((0 + n.toNat : Nat) : Int), .int .i64 (i : Int), .any, .any, .any, .any, .any, .any, .any, .any, .any, .any, .any, .any, .any, .any, .any, .any, .any, .any, .any, .any, .any, .any, .any, .any, .any, .any], [.cells [.int .i64 0, .cap0], .grid .bool (n.toNat - i) (part n.toNat i), .cells [.int .i64 n, .own 1]], 3⟩) (fun i => i ≤ n.toNat) (fun i => n.toNat - i) (And.intro (Exists.intro (0) (Exists.intro ([some 0, some 1, some 2]) (And.intro ?_ (And.intro (by rfl) (And.intro (by rfl) (And.intro (And.intro (And.intro (by rfl) (by rfl)) (And.intro (by rfl) (And.intro (And.intro (by rfl) (by rfl)) True.intro))) (by rfl))))))) ?_)
  · exact Nat.zero_le _
  rintro i hi
  refine (And.intro (fun k0 => (And.intro (by first | kernel_rfl | rfl) (And.intro (by first | exact ⟨n0, Int.le_refl _, by simp only [lim]; omega, by simp only [lim]; omega⟩ | (intros; (try subst_vars); (try simp only [Bool.cond_true_left, Bool.cond_false_right, Bool.or_eq_true, Bool.or_eq_false_iff, Bool.and_eq_true, Bool.not_eq_true', Bool.not_eq_false', decide_eq_true_eq, decide_eq_false_iff_not, Int.not_lt, Int.not_le] at *); (try simp only [inK, big, lim, List.length_cons, List.length_nil, List.length_append, List.length_drop, List.length_take, List.length_replicate] at *); omega)) (And.intro ?_ (And.intro ?_ (And.intro (by first | exact ⟨n0, Int.le_refl _, by simp only [lim]; omega, by simp only [lim]; omega⟩ | (intros; (try subst_vars); (try simp only [Bool.cond_true_left, Bool.cond_false_right, Bool.or_eq_true, Bool.or_eq_false_iff, Bool.and_eq_true, Bool.not_eq_true', Bool.not_eq_false', decide_eq_true_eq, decide_eq_false_iff_not, Int.not_lt, Int.not_le] at *); (try simp only [inK, big, lim, List.length_cons, List.length_nil, List.length_append, List.length_drop, List.length_take, List.length_replicate] at *); omega)) ?_)))))) (fun k0 => (fun k1 => ?_)))
  · rw [part_len]
    have := of_decide_eq_true k0
    omega
  · rw [part_len]
    have := of_decide_eq_true k0
    exact ⟨by omega, by omega⟩
  · have hi' : i < n.toNat := by have := of_decide_eq_true k0; omega
    refine Exists.intro (i + 1) (Exists.intro ([some 0, some 1, some 2]) (And.intro ?_ (And.intro ?_ (And.intro (by rfl) (And.intro (by rfl) (And.intro (And.intro (And.intro (by rfl) (by rfl)) (And.intro ?_ (And.intro (And.intro (by rfl) (by rfl)) True.intro))) (by rfl)))))))
    · exact hi'
    · show n.toNat - (i + 1) < n.toNat - i
      omega
    · show Ob.grid .bool (n.toNat - i - 1) (part n.toNat i ++ [List.replicate n.toNat false]) = Ob.grid .bool (n.toNat - (i + 1)) (part n.toNat (i + 1))
      rw [part_succ]; rfl
  · have e : i = n.toNat := by have := of_decide_eq_false k0; omega
    subst e
    refine ex4 _ (fun j : Nat => ⟨[.any, .sl tE l, .any, .any, .ptr 0 0, .ptr 2 0, .any, .any, .any, .any, .any, .any, .any, .any, .any, .any, .any, .any, .any, .any, .any, .any, .any, .any, .any, .any, .sl tE l, .int .i64 (↑l.length : Int), .int .i64 (j : Int), .any, .any, .any, .any, .any, .any, .any, .any, .any, .any, .any, .any, .any, .any], [.cells [.int .i64 0, .cap0], .grid .bool (n.toNat - n.toNat) ((l.take j).foldl setP (part n.toNat n.toNat)), .cells [.int .i64 n, .own 1]], 3⟩) (fun j => j ≤ l.length) (fun j => l.length - j) (And.intro (Exists.intro (0) (Exists.intro ([some 0, some 1, some 2]) (And.intro ?_ (And.intro (by rfl) (And.intro (by rfl) (And.intro (And.intro (And.intro (by rfl) (by rfl)) (And.intro (by rfl) (And.intro (And.intro (by rfl) (by rfl)) True.intro))) (by rfl))))))) ?_)
    · exact Nat.zero_le _
    rintro j hj
    have hsq : sq n.toNat ((l.take j).foldl setP (part n.toNat n.toNat)) := sq_fold _ _ (inside_take hl j) (sq_zero _)
    refine (And.intro (fun m0 => (And.intro (by intros; (try subst_vars); (try simp only [Bool.cond_true_left, Bool.cond_false_right, Bool.or_eq_true, Bool.or_eq_false_iff, Bool.and_eq_true, Bool.not_eq_true', Bool.not_eq_false', decide_eq_true_eq, decide_eq_false_iff_not, Int.not_lt, Int.not_le] at *); (try simp only [inK, big, lim, List.length_cons, List.length_nil, List.length_append, List.length_drop, List.length_take, List.length_replicate] at *); omega) (And.intro (by first | kernel_rfl | rfl) (And.intro ?_ (And.intro ?_ (And.intro ?_ (And.intro (by intros; (try subst_vars); (try simp only [Bool.cond_true_left, Bool.cond_false_right, Bool.or_eq_true, Bool.or_eq_false_iff, Bool.and_eq_true, Bool.not_eq_true', Bool.not_eq_false', decide_eq_true_eq, decide_eq_false_iff_not, Int.not_lt, Int.not_le] at *); (try simp only [inK, big, lim, List.length_cons, List.length_nil, List.length_append, List.length_drop, List.length_take, List.length_replicate] at *); omega) ?_))))))) (fun m0 => (fin_of rfl ?_)))
    · have hj' : j < l.length := by have := of_decide_eq_true m0; omega
      have hin := inside_get hl hj'
      rw [hsq.1, Int.toNat_natCast]
      omega
    · have hj' : j < l.length := by have := of_decide_eq_true m0; omega
      have hin := inside_get hl hj'
      rw [hsq.1, Int.toNat_natCast]
      omega
    · have hj' : j < l.length := by have := of_decide_eq_true m0; omega
      have hin := inside_get hl hj'
      rw [hsq.1, Int.toNat_natCast, sq_row hsq (by omega)]
      exact ⟨by omega, hin.2.2.1, by omega⟩
    · have hj' : j < l.length := by have := of_decide_eq_true m0; omega
      refine Exists.intro (j + 1) (Exists.intro ([some 0, some 1, some 2]) (And.intro ?_ (And.intro ?_ (And.intro (by rfl) (And.intro (by rfl) (And.intro (And.intro (And.intro (by rfl) (by rfl)) (And.intro ?_ (And.intro (And.intro (by rfl) (by rfl)) True.intro))) (by rfl)))))))
      · exact hj'
      · show l.length - (j + 1) < l.length - j
        omega
      · rw [take_fold hj']; rfl
    · have hj' : ¬ j < l.length := by have := of_decide_eq_false m0; omega
      rw [List.take_of_length_le (by omega), Nat.sub_self, List.replicate_zero, List.append_nil]
      rfl
end Go.Proofs.Ytlaefkhbpnbahaa
