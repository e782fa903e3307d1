/- Partial orders: the reference's tables, as contracts. -/
import Derived.Test.YtlaefkhbpnbahaaPoM2
import Derived.Test.YtlaefkhbpnbahaaPoM1
import Derived.Test.YtlaefkhbpnbahaaSxFreeze
set_option linter.unusedSimpArgs false
set_option linter.unusedVariables false
set_option maxRecDepth 100000
namespace Go.Proofs.Ytlaefkhbpnbahaa
open Go.Sx
@[reducible] def dBs' : AK := .dat false tBs
theorem nn_room {N : Nat} (h : N ≤ 200) : N * N ≤ 40000 := Nat.mul_le_mul h h
theorem ix_int (i N j : Nat) : (i : Int) * (N : Int) + (j : Int) = ((i * N + j : Nat) : Int) := by push_cast; rfl
def preT (n : Nat) (t : List Bool) (i : Nat) : List Ed := ((List.range i).filter fun x => t.getD x false).map fun (x : Nat) => (((x / n : Nat) : Int), ((x % n : Nat) : Int))
theorem preT_next (n : Nat) (t : List Bool) (i : Nat) : preT n t (i + 1) = preT n t i ++ (if t.getD i false = true then [(((i / n : Nat) : Int), ((i % n : Nat) : Int))] else []) := by
  simp only [preT, List.range_succ, List.filter_append, List.map_append, List.filter_cons, List.filter_nil]
  split <;> rfl
theorem preT_len (n : Nat) (t : List Bool) (i : Nat) : (preT n t i).length ≤ i := by
  have := List.length_filter_le (fun x => t.getD x false) (List.range i)
  simpa [preT] using this
def c58 : Ctr := fnC [dI, dBs'] rEs (fun y => 0 ≤ y.1 ∧ y.1 ≤ 200 ∧ y.2.1.length = y.1.toNat * y.1.toNat) (fun y => (pairsT y.1.toNat y.2.1, ()))
set_option maxHeartbeats 4000000 in
theorem good58 : GoodC Try.prog 58 c58 := by
  refine goodF cx0_good 4 _ _ _ _ ⟨_, Try.func58, rfl, rfl⟩ fun (⟨n, t, _⟩ : Int × List Bool × Unit) hn => ?_
  have n0 : (0 : Int) ≤ n := hn.1
  have n1 : n ≤ (200 : Int) := hn.2.1
  have hl : t.length = n.toNat * n.toNat := hn.2.2
  clear hn
  obtain ⟨N, rfl⟩ : ∃ N : Nat, n = (N : Int) := ⟨n.toNat, by omega⟩
  rw [Int.toNat_natCast] at hl
  have hN : N ≤ 200 := by omega
  have hnn := nn_room hN
  have en : (N : Int) * (N : Int) = ((N * N : Nat) : Int) := by push_cast; rfl
  have lt : ∀ a : Nat, decide ((a : Int) < (N : Int) * (N : Int)) = true → a < N * N := fun a h => by have := of_decide_eq_true h; rw [en] at this; omega
  have ge : ∀ a : Nat, decide ((a : Int) < (N : Int) * (N : Int)) = false → N * N ≤ a := fun a h => by have := of_decide_eq_false h; rw [en] at this; omega
  have pos : ∀ a : Nat, a < N * N → 0 < N := fun a h => by
    rcases Nat.eq_zero_or_pos N with e | e
    · subst e; omega
    · exact e
  have room : ∀ i : Nat, i ≤ N * N → ((preT N t i).length + 1) * 16 ≤ lim := fun i h => by
    have := preT_len N t i
    simp only [lim]; omega
  have mm : inK .i64 ((N : Int) * (N : Int)) := by rw [en]; simp only [inK, big] at *; omega
  refine (And.intro (by first | kernel_rfl | rfl) ?_)
  refine ex4 _ (fun i : Nat => ⟨[.int .i64 ↑N, .sl .bool t, .any, .any, .any, .own 0, .int .i64 (i : Int), .any, .any, .any, .any, .any, .any, .any, .any, .any, .any, .any, .any, .any, .any, .any, .any, .any, .any, .any, .any, .any, .any], [.rows tE (preT N t i)], 1⟩) (fun i => i ≤ N * N) (fun i => N * N - i) (And.intro (Exists.intro (0) (Exists.intro ([none]) (And.intro ?_ (And.intro (by rfl) (And.intro (by rfl) (And.intro (And.intro (by rfl) True.intro) (by rfl))))))) ?_)
  · exact Nat.zero_le _
  rintro i hi
  have dv : i < N * N → (N : Int) ≠ 0 ∧ inK .i64 ((i : Int).tdiv (N : Int)) := fun h => by
    have h1 := pos i h
    have h2 := Nat.div_le_self i N
    refine ⟨by omega, ?_⟩
    rw [← Int.ofNat_tdiv]
    generalize i / N = q at h2
    simp only [inK, big] at *
    omega
  have ixn : i < N * N → 0 ≤ (i : Int) ∧ (i : Int) < (t.length : Int) := fun h => by rw [hl]; omega
  refine (And.intro (by first | exact mm | exact dv (lt i k0) | exact fun h => (dv (lt i k0)).1 h | exact room i hi | exact ixn (lt i k0) | (intros; (try subst_vars); (try simp only [Bool.cond_true_left, Bool.cond_false_right, Bool.or_eq_true, Bool.or_eq_false_iff, Bool.and_eq_true, Bool.not_eq_true', Bool.not_eq_false', decide_eq_true_eq, decide_eq_false_iff_not, Int.not_lt, Int.not_le] at *); (try simp only [inK, big, lim, List.length_cons, List.length_nil, List.length_append, List.length_drop, List.length_take, List.length_replicate] at *); omega)) (And.intro (fun k0 => (And.intro (by first | exact mm | exact dv (lt i k0) | exact fun h => (dv (lt i k0)).1 h | exact room i hi | exact ixn (lt i k0) | (intros; (try subst_vars); (try simp only [Bool.cond_true_left, Bool.cond_false_right, Bool.or_eq_true, Bool.or_eq_false_iff, Bool.and_eq_true, Bool.not_eq_true', Bool.not_eq_false', decide_eq_true_eq, decide_eq_false_iff_not, Int.not_lt, Int.not_le] at *); (try simp only [inK, big, lim, List.length_cons, List.length_nil, List.length_append, List.length_drop, List.length_take, List.length_replicate] at *); omega)) (And.intro (fun k1 => (And.intro (by first | kernel_rfl | rfl) (And.intro (by first | exact mm | exact dv (lt i k0) | exact fun h => (dv (lt i k0)).1 h | exact room i hi | exact ixn (lt i k0) | (intros; (try subst_vars); (try simp only [Bool.cond_true_left, Bool.cond_false_right, Bool.or_eq_true, Bool.or_eq_false_iff, Bool.and_eq_true, Bool.not_eq_true', Bool.not_eq_false', decide_eq_true_eq, decide_eq_false_iff_not, Int.not_lt, Int.not_le] at *); (try simp only [inK, big, lim, List.length_cons, List.length_nil, List.length_append, List.length_drop, List.length_take, List.length_replicate] at *); omega)) (And.intro (by first | exact mm | exact dv (lt i k0) | exact fun h => (dv (lt i k0)).1 h | exact room i hi | exact ixn (lt i k0) | (intros; (try subst_vars); (try simp only [Bool.cond_true_left, Bool.cond_false_right, Bool.or_eq_true, Bool.or_eq_false_iff, Bool.and_eq_true, Bool.not_eq_true', Bool.not_eq_false', decide_eq_true_eq, decide_eq_false_iff_not, Int.not_lt, Int.not_le] at *); (try simp only [inK, big, lim, List.length_cons, List.length_nil, List.length_append, List.length_drop, List.length_take, List.length_replicate] at *); omega)) (And.intro (by first | exact mm | exact dv (lt i k0) | exact fun h => (dv (lt i k0)).1 h | exact room i hi | exact ixn (lt i k0) | (intros; (try subst_vars); (try simp only [Bool.cond_true_left, Bool.cond_false_right, Bool.or_eq_true, Bool.or_eq_false_iff, Bool.and_eq_true, Bool.not_eq_true', Bool.not_eq_false', decide_eq_true_eq, decide_eq_false_iff_not, Int.not_lt, Int.not_le] at *); (try simp only [inK, big, lim, List.length_cons, List.length_nil, List.length_append, List.length_drop, List.length_take, List.length_replicate] at *); omega)) (And.intro (by first | exact mm | exact dv (lt i k0) | exact fun h => (dv (lt i k0)).1 h | exact room i hi | exact ixn (lt i k0) | (intros; (try subst_vars); (try simp only [Bool.cond_true_left, Bool.cond_false_right, Bool.or_eq_true, Bool.or_eq_false_iff, Bool.and_eq_true, Bool.not_eq_true', Bool.not_eq_false', decide_eq_true_eq, decide_eq_false_iff_not, Int.not_lt, Int.not_le] at *); (try simp only [inK, big, lim, List.length_cons, List.length_nil, List.length_append, List.length_drop, List.length_take, List.length_replicate] at *); omega)) ?_)))))) (fun k1 => (And.intro (by first | exact mm | exact dv (lt i k0) | exact fun h => (dv (lt i k0)).1 h | exact room i hi | exact ixn (lt i k0) | (intros; (try subst_vars); (try simp only [Bool.cond_true_left, Bool.cond_false_right, Bool.or_eq_true, Bool.or_eq_false_iff, Bool.and_eq_true, Bool.not_eq_true', Bool.not_eq_false', decide_eq_true_eq, decide_eq_false_iff_not, Int.not_lt, Int.not_le] at *); (try simp only [inK, big, lim, List.length_cons, List.length_nil, List.length_append, List.length_drop, List.length_take, List.length_replicate] at *); omega)) ?_))))) (fun k0 => (fin_of rfl ?_))))
  · have hi' := lt i k0
    refine Exists.intro (i + 1) (Exists.intro ([some 2]) (And.intro ?_ (And.intro ?_ (And.intro (by rfl) (And.intro (by rfl) (And.intro (And.intro ?_ True.intro) (by rfl)))))))
    · exact hi'
    · show N * N - (i + 1) < N * N - i
      omega
    · refine congrArg (Ob.rows tE) ?_
      rw [preT_next, if_pos (show t.getD i false = true from k1), Int.ofNat_tdiv, Int.ofNat_tmod]
  · have hi' := lt i k0
    refine Exists.intro (i + 1) (Exists.intro ([some 0]) (And.intro ?_ (And.intro ?_ (And.intro (by rfl) (And.intro (by rfl) (And.intro (And.intro ?_ True.intro) (by rfl)))))))
    · exact hi'
    · show N * N - (i + 1) < N * N - i
      omega
    · refine congrArg (Ob.rows tE) ?_
      rw [preT_next, if_neg (by rw [show t.getD i false = false from k1]; simp), List.append_nil]
  · have hi' := ge i k0
    have e : i = N * N := Nat.le_antisymm hi hi'
    subst e
    rfl
theorem ixE {N : Nat} {a b : Int} (h : 0 ≤ a ∧ a < (N : Int) ∧ 0 ≤ b ∧ b < (N : Int)) : a * (N : Int) = ((a.toNat * N : Nat) : Int) ∧ a * (N : Int) + b = ((a.toNat * N + b.toNat : Nat) : Int) ∧ a.toNat * N + b.toNat < N * N := by
  have e1 : ((a.toNat : Nat) : Int) = a := by omega
  have e2 : ((b.toNat : Nat) : Int) = b := by omega
  refine ⟨by rw [Int.natCast_mul, e1], by rw [Int.natCast_add, Int.natCast_mul, e1, e2], ix_lt (by omega) (by omega)⟩
theorem ixK {N : Nat} (hN : N * N ≤ 40000) {a b : Int} (h : 0 ≤ a ∧ a < (N : Int) ∧ 0 ≤ b ∧ b < (N : Int)) : inK .i64 (a * (N : Int)) ∧ inK .i64 (a * (N : Int) + b) ∧ 0 ≤ a * (N : Int) + b ∧ a * (N : Int) + b < ((N * N : Nat) : Int) ∧ (a * (N : Int) + b).toNat = a.toNat * N + b.toNat := by
  obtain ⟨e1, e2, e3⟩ := ixE h
  rw [e2, e1]
  generalize a.toNat * N = q at *
  simp only [inK, big]
  omega
theorem setT_len (n : Nat) (t : List Bool) (p : Ed) : (setT n t p).length = t.length := by simp [setT]
theorem fold_len (n : Nat) : ∀ (l : List Ed) (t : List Bool), (l.foldl (setT n) t).length = t.length
  | [], _ => rfl
  | p :: l, t => by rw [List.foldl_cons, fold_len n l, setT_len]
theorem take_foldT {n : Nat} {l : List Ed} {i : Nat} {t : List Bool} (h : i < l.length) : (l.take (i + 1)).foldl (setT n) t = setT n ((l.take i).foldl (setT n) t) (l.getD i (dflt tE)) := by
  rw [List.take_succ_eq_append_getElem h, List.foldl_append, List.getD_eq_getElem?_getD, List.getElem?_eq_getElem h]
  rfl
def c55 : Ctr := fnO [dI, dEs] .bool (fun y => 0 ≤ y.1 ∧ y.1 ≤ 200 ∧ insideAll y.1 y.2.1) (fun y => flat y.1.toNat (inL y.2.1))
set_option maxHeartbeats 4000000 in
theorem good55 : GoodC Try.prog 55 c55 := by
  refine Go.Sx.goodO cx0_good 4 _ _ _ _ ⟨_, Try.func55, rfl, rfl⟩ fun (⟨n, l, _⟩ : Int × List Ed × Unit) hn => ?_
  have n0 : (0 : Int) ≤ n := hn.1
  have n1 : n ≤ (200 : Int) := hn.2.1
  have hl : insideAll n l := hn.2.2
  clear hn
  obtain ⟨N, rfl⟩ : ∃ N : Nat, n = (N : Int) := ⟨n.toNat, by omega⟩
  have hN : N ≤ 200 := by omega
  have hnn := nn_room hN
  have en : (N : Int) * (N : Int) = ((N * N : Nat) : Int) := by push_cast; rfl
  have mm : inK .i64 ((N : Int) * (N : Int)) := by rw [en]; simp only [inK, big] at *; omega
  have mk : 0 ≤ (N : Int) * (N : Int) ∧ (N : Int) * (N : Int) ≤ (N : Int) * (N : Int) ∧ (N : Int) * (N : Int) * ((1 : Nat) : Int) ≤ (lim : Int) ∧ (N : Int) * (N : Int) ≤ (lim : Int) := by
    rw [en]; simp only [lim]; omega
  refine (And.intro (by first | kernel_rfl | rfl) (And.intro (by first | exact mm | exact mk | (intros; (try subst_vars); (try simp only [Bool.cond_true_left, Bool.cond_false_right, Bool.or_eq_true, Bool.or_eq_false_iff, Bool.and_eq_true, Bool.not_eq_true', Bool.not_eq_false', decide_eq_true_eq, decide_eq_false_iff_not, Int.not_lt, Int.not_le] at *); (try simp only [inK, big, lim, List.length_cons, List.length_nil, List.length_append, List.length_drop, List.length_take, List.length_replicate] at *); omega)) (And.intro (by first | exact mm | exact mk | (intros; (try subst_vars); (try simp only [Bool.cond_true_left, Bool.cond_false_right, Bool.or_eq_true, Bool.or_eq_false_iff, Bool.and_eq_true, Bool.not_eq_true', Bool.not_eq_false', decide_eq_true_eq, decide_eq_false_iff_not, Int.not_lt, Int.not_le] at *); (try simp only [inK, big, lim, List.length_cons, List.length_nil, List.length_append, List.length_drop, List.length_take, List.length_replicate] at *); omega)) ?_)))
  refine ex4 _ (fun i : Nat => ⟨[.int .i64 ↑N, .sl tE l, .any, .any, .any, .own 0, .int .i64 (i : Int), .any, .any, .any, .any, .any, .any, .any, .any, .any, .any, .any, .any, .any, .any, .any, .any, .any, .any, .any, .any, .any, .any, .any, .any, .any, .any], [.rows .bool ((l.take i).foldl (setT N) (List.replicate ((N : Int) * (N : Int)).toNat false))], 1⟩) (fun i => i ≤ l.length) (fun i => l.length - i) (And.intro (Exists.intro (0) (Exists.intro ([some 0]) (And.intro ?_ (And.intro (by rfl) (And.intro (by rfl) (And.intro (And.intro (by rfl) True.intro) (by rfl))))))) ?_)
  · exact Nat.zero_le _
  rintro i hi
  have hlen : ((l.take i).foldl (setT N) (List.replicate ((N : Int) * (N : Int)).toNat false)).length = N * N := by
    rw [fold_len, List.length_replicate, en, Int.toNat_natCast]
  have fx : i < l.length → inK .i64 ((l.getD i (dflt tE)).1 * (N : Int)) ∧ inK .i64 ((l.getD i (dflt tE)).1 * (N : Int) + (l.getD i (dflt tE)).2) ∧ 0 ≤ (l.getD i (dflt tE)).1 * (N : Int) + (l.getD i (dflt tE)).2 ∧
      (l.getD i (dflt tE)).1 * (N : Int) + (l.getD i (dflt tE)).2 < (((l.take i).foldl (setT N) (List.replicate ((N : Int) * (N : Int)).toNat false)).length : Int) := fun h => by
    obtain ⟨h1, h2, h3, h4, _⟩ := ixK hnn (inside_get hl h)
    rw [hlen]
    exact ⟨h1, h2, h3, h4⟩
  have lt : ∀ a : Nat, decide ((a : Int) < (l.length : Int)) = true → a < l.length := fun a h => by have := of_decide_eq_true h; omega
  refine (fun k0 => (And.intro (fun k1 => (And.intro (by first | kernel_rfl | rfl) (And.intro (by first | exact (fx (lt i k1)).1 | exact (fx (lt i k1)).2.1 | exact (fx (lt i k1)).2.2 | (intros; (try subst_vars); (try simp only [Bool.cond_true_left, Bool.cond_false_right, Bool.or_eq_true, Bool.or_eq_false_iff, Bool.and_eq_true, Bool.not_eq_true', Bool.not_eq_false', decide_eq_true_eq, decide_eq_false_iff_not, Int.not_lt, Int.not_le] at *); (try simp only [inK, big, lim, List.length_cons, List.length_nil, List.length_append, List.length_drop, List.length_take, List.length_replicate] at *); omega)) (And.intro (by first | exact (fx (lt i k1)).1 | exact (fx (lt i k1)).2.1 | exact (fx (lt i k1)).2.2 | (intros; (try subst_vars); (try simp only [Bool.cond_true_left, Bool.cond_false_right, Bool.or_eq_true, Bool.or_eq_false_iff, Bool.and_eq_true, Bool.not_eq_true', Bool.not_eq_false', decide_eq_true_eq, decide_eq_false_iff_not, Int.not_lt, Int.not_le] at *); (try simp only [inK, big, lim, List.length_cons, List.length_nil, List.length_append, List.length_drop, List.length_take, List.length_replicate] at *); omega)) (And.intro (by first | exact (fx (lt i k1)).1 | exact (fx (lt i k1)).2.1 | exact (fx (lt i k1)).2.2 | (intros; (try subst_vars); (try simp only [Bool.cond_true_left, Bool.cond_false_right, Bool.or_eq_true, Bool.or_eq_false_iff, Bool.and_eq_true, Bool.not_eq_true', Bool.not_eq_false', decide_eq_true_eq, decide_eq_false_iff_not, Int.not_lt, Int.not_le] at *); (try simp only [inK, big, lim, List.length_cons, List.length_nil, List.length_append, List.length_drop, List.length_take, List.length_replicate] at *); omega)) (And.intro (by first | exact (fx (lt i k1)).1 | exact (fx (lt i k1)).2.1 | exact (fx (lt i k1)).2.2 | (intros; (try subst_vars); (try simp only [Bool.cond_true_left, Bool.cond_false_right, Bool.or_eq_true, Bool.or_eq_false_iff, Bool.and_eq_true, Bool.not_eq_true', Bool.not_eq_false', decide_eq_true_eq, decide_eq_false_iff_not, Int.not_lt, Int.not_le] at *); (try simp only [inK, big, lim, List.length_cons, List.length_nil, List.length_append, List.length_drop, List.length_take, List.length_replicate] at *); omega)) (And.intro (by first | exact (fx (lt i k1)).1 | exact (fx (lt i k1)).2.1 | exact (fx (lt i k1)).2.2 | (intros; (try subst_vars); (try simp only [Bool.cond_true_left, Bool.cond_false_right, Bool.or_eq_true, Bool.or_eq_false_iff, Bool.and_eq_true, Bool.not_eq_true', Bool.not_eq_false', decide_eq_true_eq, decide_eq_false_iff_not, Int.not_lt, Int.not_le] at *); (try simp only [inK, big, lim, List.length_cons, List.length_nil, List.length_append, List.length_drop, List.length_take, List.length_replicate] at *); omega)) (And.intro (by first | exact (fx (lt i k1)).1 | exact (fx (lt i k1)).2.1 | exact (fx (lt i k1)).2.2 | (intros; (try subst_vars); (try simp only [Bool.cond_true_left, Bool.cond_false_right, Bool.or_eq_true, Bool.or_eq_false_iff, Bool.and_eq_true, Bool.not_eq_true', Bool.not_eq_false', decide_eq_true_eq, decide_eq_false_iff_not, Int.not_lt, Int.not_le] at *); (try simp only [inK, big, lim, List.length_cons, List.length_nil, List.length_append, List.length_drop, List.length_take, List.length_replicate] at *); omega)) ?_)))))))) (fun k1 => (fin_own rfl ?_))))
  · have hi' := lt i k1
    refine Exists.intro (i + 1) (Exists.intro ([some 0]) (And.intro ?_ (And.intro ?_ (And.intro (by rfl) (And.intro (by rfl) (And.intro (And.intro ?_ True.intro) (by rfl)))))))
    · exact hi'
    · show l.length - (i + 1) < l.length - i
      omega
    · refine congrArg (Ob.rows .bool) ?_
      rw [take_foldT hi']
      show List.set _ ((l.getD i (dflt tE)).1 * (N : Int) + (l.getD i (dflt tE)).2).toNat true = List.set _ _ true
      rw [(ixK hnn (inside_get hl hi')).2.2.2.2]
  · have hi' : ¬ i < l.length := by have := of_decide_eq_false k1; omega
    show (_ : List Bool) = _
    rw [List.take_of_length_le (Nat.le_of_not_lt hi'), en, Int.toNat_natCast]
    refine Eq.trans ?_ (congrArg (fun z => l.foldl (setT N) z) (flat_zero N)).symm
    rw [fold_flat _ _ hl]
    exact flat_congr fun a b _ _ => by simp
end Go.Proofs.Ytlaefkhbpnbahaa
/- Partial orders: Generate of the reference, as a contract. -/
namespace Go.Proofs.Ytlaefkhbpnbahaa
open Go.Sx
theorem flat_ix {N : Nat} (hN : N * N ≤ 40000) (f : Nat → Nat → Bool) {a b : Nat} (ha : a < N) (hb : b < N) : inK .i64 ((a : Int) * (N : Int)) ∧ inK .i64 ((a : Int) * (N : Int) + (b : Int)) ∧ (0 ≤ (a : Int) * (N : Int) + (b : Int) ∧ (a : Int) * (N : Int) + (b : Int) < ((flat N f).length : Int)) ∧ (flat N f).getD ((a : Int) * (N : Int) + (b : Int)).toNat false = f a b ∧ ((a : Int) * (N : Int) + (b : Int)).toNat = a * N + b := by
  obtain ⟨h1, h2, h3, h4, h5⟩ := ixK hN (a := (a : Int)) (b := (b : Int)) ⟨by omega, by omega, by omega, by omega⟩
  refine ⟨h1, h2, ⟨h3, by rw [flatN_len]; exact h4⟩, ?_, h5⟩
  rw [h5]
  exact flat_at f ha hb
def cxR : Ctx := ⟨tys0, [(53, ([], c53)), (54, ([], c54)), (55, ([], c55)), (58, ([], c58))]⟩
theorem cxR_good : GoodCtx Try.prog cxR := cx_cons good53 (cx_cons good54 (cx_cons good55 (cx_cons good58 cx0_good)))
def c31 : Ctr := fnC [dI, dEs] rEsI (fun _ => True) (fun y => ((genF y.1 y.2.1).1, (genF y.1 y.2.1).2, ()))
set_option maxHeartbeats 4000000 in
theorem good31 : GoodC Try.prog 31 c31 := by
  refine goodF cxR_good 4 _ _ _ _ ⟨_, Try.func31, rfl, rfl⟩ fun (⟨n, l, _⟩ : Int × List Ed × Unit) _ => ?_
  have dec : (bif decide (n < 0) then true else decide (200 < n)) = false → 0 ≤ n ∧ n ≤ 200 := fun h => by
    by_cases h1 : n < 0 <;> by_cases h2 : 200 < n <;> simp [h1, h2] at h; omega
  refine (And.intro (by first | kernel_rfl | rfl) (And.intro (fun h0 => (fin_of rfl ?_)) (fun h0 => (fun h1 => (And.intro (fun h2 => (fin_of rfl ?_)) (fun h2 => ?_))))))
  · have e : genF n l = ([], 2) := by
      have hs : sizesF n l = 2 := by
        rw [sizesF, if_pos]
        by_cases h1 : n < 0 <;> by_cases h2 : 200 < n <;> simp [h1, h2] at h0 <;> omega
      rw [genF, if_pos (by rw [hs]; decide), hs]
    show ((genF n l).1, (genF n l).2, ()) = _
    rw [e]
  · have e : genF n l = ([], 4) := by
      have := dec h0
      have := of_decide_eq_true h2
      have hs : sizesF n l = 4 := by
        rw [sizesF, if_neg (by omega), if_pos (by omega)]
      rw [genF, if_pos (by rw [hs]; decide), hs]
    show ((genF n l).1, (genF n l).2, ()) = _
    rw [e]
  obtain ⟨n0, n1⟩ := dec h0
  have n2 : l.length ≤ 2000 := by have h : ¬ (2000 < (l.length : Int)) := of_decide_eq_false h2; omega
  have hs : sizesF n l = 0 := sizes_iff.2 ⟨n0, n1, n2⟩
  obtain ⟨N, rfl⟩ : ∃ N : Nat, n = (N : Int) := ⟨n.toNat, by omega⟩
  have hN : N ≤ 200 := by omega
  have hnn := nn_room hN
  have eg0 : genF (N : Int) l = if l.any (outB (N : Int)) = true then ([], 2) else if (List.range N).any (fun i => closeK (inL l) N i i) = true then ([], 21)
      else if 2000 < ((pairsF N (closeK (inL l) N)).length : Int) then ([], 4) else (pairsF N (closeK (inL l) N), 0) := by
    rw [genF, if_neg (by rw [hs]; decide)]
    rfl
  refine ex4 _ (fun i : Nat => ⟨[.int .i64 ↑N, .sl tE l, .any, .any, .any, .any, .int .i64 (i : Int), .any, .any, .any, .any, .any, .any, .any, .any, .any, .any, .any, .any, .any, .any, .any, .any, .any, .any, .any, .any, .any, .any, .any, .any, .any, .any, .any, .any, .any, .any, .any, .any, .any, .any, .any, .any, .any, .any, .any, .any], [], 0⟩) (fun i => i ≤ l.length ∧ (l.take i).any (outB (N : Int)) = false) (fun i => l.length - i) (And.intro (Exists.intro (0) (Exists.intro ([]) (And.intro ?_ (And.intro (by rfl) (And.intro (by rfl) (And.intro True.intro (by rfl))))))) ?_)
  · simp
  rintro i ⟨hi, ht⟩
  have ins : ¬ i < l.length → insideAll (N : Int) l := fun h p hp => by
    rw [List.take_of_length_le (by omega)] at ht
    simpa using List.any_eq_false.1 ht p hp
  have lt : ∀ a : Nat, decide ((a : Int) < (l.length : Int)) = true → a < l.length := fun a h => by have := of_decide_eq_true h; omega
  have ge : ∀ a : Nat, decide ((a : Int) < (l.length : Int)) = false → ¬ a < l.length := fun a h => by have := of_decide_eq_false h; omega
  refine (fun k0 => (And.intro (fun k1 => (And.intro (by first | exact ⟨by omega, by omega, ins (ge i k1)⟩ | (intros; (try subst_vars); (try simp only [Bool.cond_true_left, Bool.cond_false_right, Bool.or_eq_true, Bool.or_eq_false_iff, Bool.and_eq_true, Bool.not_eq_true', Bool.not_eq_false', decide_eq_true_eq, decide_eq_false_iff_not, Int.not_lt, Int.not_le] at *); (try simp only [inK, big, lim, List.length_cons, List.length_nil, List.length_append, List.length_drop, List.length_take, List.length_replicate] at *); omega)) (And.intro True.intro (And.intro (fun k2 => (fin_of rfl ?_)) (fun k2 => (And.intro (by first | exact ⟨by omega, by omega, ins (ge i k1)⟩ | (intros; (try subst_vars); (try simp only [Bool.cond_true_left, Bool.cond_false_right, Bool.or_eq_true, Bool.or_eq_false_iff, Bool.and_eq_true, Bool.not_eq_true', Bool.not_eq_false', decide_eq_true_eq, decide_eq_false_iff_not, Int.not_lt, Int.not_le] at *); (try simp only [inK, big, lim, List.length_cons, List.length_nil, List.length_append, List.length_drop, List.length_take, List.length_replicate] at *); omega)) ?_)))))) (fun k1 => (And.intro (by first | exact ⟨by omega, by omega, ins (ge i k1)⟩ | (intros; (try subst_vars); (try simp only [Bool.cond_true_left, Bool.cond_false_right, Bool.or_eq_true, Bool.or_eq_false_iff, Bool.and_eq_true, Bool.not_eq_true', Bool.not_eq_false', decide_eq_true_eq, decide_eq_false_iff_not, Int.not_lt, Int.not_le] at *); (try simp only [inK, big, lim, List.length_cons, List.length_nil, List.length_append, List.length_drop, List.length_take, List.length_replicate] at *); omega)) (And.intro (by first | kernel_rfl | rfl) ?_)))))
  · have hi' := lt i k1
    have e : l.any (outB (N : Int)) = true := any_hit (d := dflt tE) hi' (by simpa using k2)
    show ((genF (N : Int) l).1, (genF (N : Int) l).2, ()) = _
    rw [eg0, if_pos e]
  · have hi' := lt i k1
    refine Exists.intro (i + 1) (Exists.intro ([]) (And.intro ?_ (And.intro ?_ (And.intro (by rfl) (And.intro (by rfl) (And.intro True.intro (by rfl)))))))
    · exact ⟨hi', any_next (d := dflt tE) hi' ht (by simpa using k2)⟩
    · show l.length - (i + 1) < l.length - i
      omega
  have hl := ins (ge i k1)
  have h3 : l.any (outB (N : Int)) = false := List.any_eq_false.2 fun p hp => by rw [hl p hp]; decide
  rw [if_neg (by rw [h3]; decide)] at eg0
  have ltN : ∀ a : Nat, decide ((a : Int) < (N : Int)) = true → a < N := fun a h => by have := of_decide_eq_true h; omega
  have geN : ∀ a : Nat, decide ((a : Int) < (N : Int)) = false → N ≤ a := fun a h => by have := of_decide_eq_false h; omega
  refine ex4 _ (fun k : Nat => ⟨[.int .i64 (↑N : Int), .own 0, .any, .any, .int .i64 (k : Int), .any, .any, .any, .any, .any, .any, .any, .any, .any, .any, .any, .any, .any, .any, .any, .any, .any, .any, .any, .any, .any, .any, .any, .any, .any, .any, .any, .any, .any, .any, .any, .any, .any, .any, .any, .any, .any, .any, .any, .any, .any, .any, .any, .any, .any, .any, .any, .any, .any, .any, .any, .any], [.rows .bool (flat N (closeK (inL l) k))], 1⟩) (fun k => k ≤ N) (fun k => N - k) (And.intro (Exists.intro (0) (Exists.intro ([some 0]) (And.intro ?_ (And.intro (by rfl) (And.intro (by rfl) (And.intro (And.intro (by rfl) True.intro) (by rfl))))))) ?_)
  · exact Nat.zero_le _
  rintro k hk
  refine (And.intro (fun b0 => ?_) (fun b0 => (And.intro (by first | kernel_rfl | rfl) ?_)))
  · have hk' := ltN k b0
    refine ex4 _ (fun i : Nat => ⟨[.int .i64 (↑N : Int), .own 0, .any, .any, .int .i64 (↑k : Int), .int .i64 (i : Int), .any, .int .i64 (↑k : Int), .int .i64 (↑N : Int), .any, .any, .any, .any, .any, .any, .any, .any, .any, .any, .any, .any, .any, .any, .any, .any, .any, .any, .any, .any, .any, .any, .any, .any, .any, .any, .any, .any, .any, .any, .any, .any, .any, .any, .any, .any, .any, .any, .any, .any, .any, .any, .any, .any, .any, .any, .any, .any], [.rows .bool (flat N (midI (closeK (inL l) k) k i))], 1⟩) (fun i => i ≤ N) (fun i => N - i) (And.intro (Exists.intro (0) (Exists.intro ([some 0]) (And.intro ?_ (And.intro (by rfl) (And.intro (by rfl) (And.intro (And.intro (by rfl) True.intro) (by rfl))))))) ?_)
    · exact Nat.zero_le _
    rintro i hi2
    refine (And.intro (fun c0 => ?_) (fun c0 => (And.intro (by intros; (try subst_vars); (try simp only [Bool.cond_true_left, Bool.cond_false_right, Bool.or_eq_true, Bool.or_eq_false_iff, Bool.and_eq_true, Bool.not_eq_true', Bool.not_eq_false', decide_eq_true_eq, decide_eq_false_iff_not, Int.not_lt, Int.not_le] at *); (try simp only [inK, big, lim, List.length_cons, List.length_nil, List.length_append, List.length_drop, List.length_take, List.length_replicate] at *); omega) ?_)))
    · have hi' := ltN i c0
      refine ex4 _ (fun j : Nat => ⟨[.int .i64 (↑N : Int), .own 0, .any, .any, .int .i64 (↑k : Int), .int .i64 (↑i : Int), .int .i64 (j : Int), .int .i64 (↑k : Int), .int .i64 (↑N : Int), .any, .any, .any, .int .i64 (↑i : Int), .int .i64 (↑N : Int), .bool (decide ((↑i : Int) < (↑N : Int))), .any, .any, .any, .any, .any, .any, .any, .any, .any, .any, .any, .any, .any, .any, .any, .any, .any, .any, .any, .any, .any, .any, .any, .any, .any, .any, .any, .any, .any, .any, .any, .any, .any, .any, .any, .any, .any, .any, .any, .any, .any, .any], [.rows .bool (flat N (inJ (closeK (inL l) k) k i j))], 1⟩) (fun j => j ≤ N ∧ (j = 0 ∨ closeK (inL l) k i k = true)) (fun j => N - j) (And.intro (Exists.intro (0) (Exists.intro ([some 0]) (And.intro ?_ (And.intro (by rfl) (And.intro (by rfl) (And.intro (And.intro ?_ True.intro) (by rfl))))))) ?_)
      · exact ⟨Nat.zero_le _, .inl rfl⟩
      · exact congrArg (Ob.rows .bool) (flat_congr fun a b ha hb => by simp [midI, inJ])
      rintro j ⟨hj, hjc⟩
      have F := fun (f : Nat → Nat → Bool) (a b : Nat) (ha : a < N) (hb : b < N) => flat_ix hnn f ha hb
      have D := fun (h : (bif (flat N (inJ (closeK (inL l) k) k i j)).getD ((i : Int) * (N : Int) + (k : Int)).toNat false then decide ((j : Int) < (N : Int)) else false) = true) => ltN j (bif_t h).2
      refine (And.intro (by first | exact (F (fun _ _ => false) _ _ hi' hk').1 | exact (F (fun _ _ => false) _ _ hi' hk').2.1 | exact (F _ _ _ hi' hk').2.2.1 | exact (F (fun _ _ => false) _ _ hi' (D d0)).1 | exact (F (fun _ _ => false) _ _ hi' (D d0)).2.1 | exact (F _ _ _ hi' (D d0)).2.2.1 | exact (F (fun _ _ => false) _ _ hk' (D d0)).1 | exact (F (fun _ _ => false) _ _ hk' (D d0)).2.1 | exact (F _ _ _ hk' (D d0)).2.2.1 | (intros; (try subst_vars); (try simp only [Bool.cond_true_left, Bool.cond_false_right, Bool.or_eq_true, Bool.or_eq_false_iff, Bool.and_eq_true, Bool.not_eq_true', Bool.not_eq_false', decide_eq_true_eq, decide_eq_false_iff_not, Int.not_lt, Int.not_le] at *); (try simp only [inK, big, lim, List.length_cons, List.length_nil, List.length_append, List.length_drop, List.length_take, List.length_replicate] at *); omega)) (And.intro (by first | exact (F (fun _ _ => false) _ _ hi' hk').1 | exact (F (fun _ _ => false) _ _ hi' hk').2.1 | exact (F _ _ _ hi' hk').2.2.1 | exact (F (fun _ _ => false) _ _ hi' (D d0)).1 | exact (F (fun _ _ => false) _ _ hi' (D d0)).2.1 | exact (F _ _ _ hi' (D d0)).2.2.1 | exact (F (fun _ _ => false) _ _ hk' (D d0)).1 | exact (F (fun _ _ => false) _ _ hk' (D d0)).2.1 | exact (F _ _ _ hk' (D d0)).2.2.1 | (intros; (try subst_vars); (try simp only [Bool.cond_true_left, Bool.cond_false_right, Bool.or_eq_true, Bool.or_eq_false_iff, Bool.and_eq_true, Bool.not_eq_true', Bool.not_eq_false', decide_eq_true_eq, decide_eq_false_iff_not, Int.not_lt, Int.not_le] at *); (try simp only [inK, big, lim, List.length_cons, List.length_nil, List.length_append, List.length_drop, List.length_take, List.length_replicate] at *); omega)) (And.intro (by first | exact (F (fun _ _ => false) _ _ hi' hk').1 | exact (F (fun _ _ => false) _ _ hi' hk').2.1 | exact (F _ _ _ hi' hk').2.2.1 | exact (F (fun _ _ => false) _ _ hi' (D d0)).1 | exact (F (fun _ _ => false) _ _ hi' (D d0)).2.1 | exact (F _ _ _ hi' (D d0)).2.2.1 | exact (F (fun _ _ => false) _ _ hk' (D d0)).1 | exact (F (fun _ _ => false) _ _ hk' (D d0)).2.1 | exact (F _ _ _ hk' (D d0)).2.2.1 | (intros; (try subst_vars); (try simp only [Bool.cond_true_left, Bool.cond_false_right, Bool.or_eq_true, Bool.or_eq_false_iff, Bool.and_eq_true, Bool.not_eq_true', Bool.not_eq_false', decide_eq_true_eq, decide_eq_false_iff_not, Int.not_lt, Int.not_le] at *); (try simp only [inK, big, lim, List.length_cons, List.length_nil, List.length_append, List.length_drop, List.length_take, List.length_replicate] at *); omega)) (And.intro (fun d0 => (And.intro (by first | exact (F (fun _ _ => false) _ _ hi' hk').1 | exact (F (fun _ _ => false) _ _ hi' hk').2.1 | exact (F _ _ _ hi' hk').2.2.1 | exact (F (fun _ _ => false) _ _ hi' (D d0)).1 | exact (F (fun _ _ => false) _ _ hi' (D d0)).2.1 | exact (F _ _ _ hi' (D d0)).2.2.1 | exact (F (fun _ _ => false) _ _ hk' (D d0)).1 | exact (F (fun _ _ => false) _ _ hk' (D d0)).2.1 | exact (F _ _ _ hk' (D d0)).2.2.1 | (intros; (try subst_vars); (try simp only [Bool.cond_true_left, Bool.cond_false_right, Bool.or_eq_true, Bool.or_eq_false_iff, Bool.and_eq_true, Bool.not_eq_true', Bool.not_eq_false', decide_eq_true_eq, decide_eq_false_iff_not, Int.not_lt, Int.not_le] at *); (try simp only [inK, big, lim, List.length_cons, List.length_nil, List.length_append, List.length_drop, List.length_take, List.length_replicate] at *); omega)) (And.intro (by first | exact (F (fun _ _ => false) _ _ hi' hk').1 | exact (F (fun _ _ => false) _ _ hi' hk').2.1 | exact (F _ _ _ hi' hk').2.2.1 | exact (F (fun _ _ => false) _ _ hi' (D d0)).1 | exact (F (fun _ _ => false) _ _ hi' (D d0)).2.1 | exact (F _ _ _ hi' (D d0)).2.2.1 | exact (F (fun _ _ => false) _ _ hk' (D d0)).1 | exact (F (fun _ _ => false) _ _ hk' (D d0)).2.1 | exact (F _ _ _ hk' (D d0)).2.2.1 | (intros; (try subst_vars); (try simp only [Bool.cond_true_left, Bool.cond_false_right, Bool.or_eq_true, Bool.or_eq_false_iff, Bool.and_eq_true, Bool.not_eq_true', Bool.not_eq_false', decide_eq_true_eq, decide_eq_false_iff_not, Int.not_lt, Int.not_le] at *); (try simp only [inK, big, lim, List.length_cons, List.length_nil, List.length_append, List.length_drop, List.length_take, List.length_replicate] at *); omega)) (And.intro (by first | exact (F (fun _ _ => false) _ _ hi' hk').1 | exact (F (fun _ _ => false) _ _ hi' hk').2.1 | exact (F _ _ _ hi' hk').2.2.1 | exact (F (fun _ _ => false) _ _ hi' (D d0)).1 | exact (F (fun _ _ => false) _ _ hi' (D d0)).2.1 | exact (F _ _ _ hi' (D d0)).2.2.1 | exact (F (fun _ _ => false) _ _ hk' (D d0)).1 | exact (F (fun _ _ => false) _ _ hk' (D d0)).2.1 | exact (F _ _ _ hk' (D d0)).2.2.1 | (intros; (try subst_vars); (try simp only [Bool.cond_true_left, Bool.cond_false_right, Bool.or_eq_true, Bool.or_eq_false_iff, Bool.and_eq_true, Bool.not_eq_true', Bool.not_eq_false', decide_eq_true_eq, decide_eq_false_iff_not, Int.not_lt, Int.not_le] at *); (try simp only [inK, big, lim, List.length_cons, List.length_nil, List.length_append, List.length_drop, List.length_take, List.length_replicate] at *); omega)) (And.intro (by first | exact (F (fun _ _ => false) _ _ hi' hk').1 | exact (F (fun _ _ => false) _ _ hi' hk').2.1 | exact (F _ _ _ hi' hk').2.2.1 | exact (F (fun _ _ => false) _ _ hi' (D d0)).1 | exact (F (fun _ _ => false) _ _ hi' (D d0)).2.1 | exact (F _ _ _ hi' (D d0)).2.2.1 | exact (F (fun _ _ => false) _ _ hk' (D d0)).1 | exact (F (fun _ _ => false) _ _ hk' (D d0)).2.1 | exact (F _ _ _ hk' (D d0)).2.2.1 | (intros; (try subst_vars); (try simp only [Bool.cond_true_left, Bool.cond_false_right, Bool.or_eq_true, Bool.or_eq_false_iff, Bool.and_eq_true, Bool.not_eq_true', Bool.not_eq_false', decide_eq_true_eq, decide_eq_false_iff_not, Int.not_lt, Int.not_le] at *); (try simp only [inK, big, lim, List.length_cons, List.length_nil, List.length_append, List.length_drop, List.length_take, List.length_replicate] at *); omega)) (And.intro (by first | exact (F (fun _ _ => false) _ _ hi' hk').1 | exact (F (fun _ _ => false) _ _ hi' hk').2.1 | exact (F _ _ _ hi' hk').2.2.1 | exact (F (fun _ _ => false) _ _ hi' (D d0)).1 | exact (F (fun _ _ => false) _ _ hi' (D d0)).2.1 | exact (F _ _ _ hi' (D d0)).2.2.1 | exact (F (fun _ _ => false) _ _ hk' (D d0)).1 | exact (F (fun _ _ => false) _ _ hk' (D d0)).2.1 | exact (F _ _ _ hk' (D d0)).2.2.1 | (intros; (try subst_vars); (try simp only [Bool.cond_true_left, Bool.cond_false_right, Bool.or_eq_true, Bool.or_eq_false_iff, Bool.and_eq_true, Bool.not_eq_true', Bool.not_eq_false', decide_eq_true_eq, decide_eq_false_iff_not, Int.not_lt, Int.not_le] at *); (try simp only [inK, big, lim, List.length_cons, List.length_nil, List.length_append, List.length_drop, List.length_take, List.length_replicate] at *); omega)) (And.intro (fun d1 => (by first | exact (F (fun _ _ => false) _ _ hi' hk').1 | exact (F (fun _ _ => false) _ _ hi' hk').2.1 | exact (F _ _ _ hi' hk').2.2.1 | exact (F (fun _ _ => false) _ _ hi' (D d0)).1 | exact (F (fun _ _ => false) _ _ hi' (D d0)).2.1 | exact (F _ _ _ hi' (D d0)).2.2.1 | exact (F (fun _ _ => false) _ _ hk' (D d0)).1 | exact (F (fun _ _ => false) _ _ hk' (D d0)).2.1 | exact (F _ _ _ hk' (D d0)).2.2.1 | (intros; (try subst_vars); (try simp only [Bool.cond_true_left, Bool.cond_false_right, Bool.or_eq_true, Bool.or_eq_false_iff, Bool.and_eq_true, Bool.not_eq_true', Bool.not_eq_false', decide_eq_true_eq, decide_eq_false_iff_not, Int.not_lt, Int.not_le] at *); (try simp only [inK, big, lim, List.length_cons, List.length_nil, List.length_append, List.length_drop, List.length_take, List.length_replicate] at *); omega))) (And.intro (fun d2 => (by first | exact (F (fun _ _ => false) _ _ hi' hk').1 | exact (F (fun _ _ => false) _ _ hi' hk').2.1 | exact (F _ _ _ hi' hk').2.2.1 | exact (F (fun _ _ => false) _ _ hi' (D d0)).1 | exact (F (fun _ _ => false) _ _ hi' (D d0)).2.1 | exact (F _ _ _ hi' (D d0)).2.2.1 | exact (F (fun _ _ => false) _ _ hk' (D d0)).1 | exact (F (fun _ _ => false) _ _ hk' (D d0)).2.1 | exact (F _ _ _ hk' (D d0)).2.2.1 | (intros; (try subst_vars); (try simp only [Bool.cond_true_left, Bool.cond_false_right, Bool.or_eq_true, Bool.or_eq_false_iff, Bool.and_eq_true, Bool.not_eq_true', Bool.not_eq_false', decide_eq_true_eq, decide_eq_false_iff_not, Int.not_lt, Int.not_le] at *); (try simp only [inK, big, lim, List.length_cons, List.length_nil, List.length_append, List.length_drop, List.length_take, List.length_replicate] at *); omega))) (And.intro (fun d3 => (by first | exact (F (fun _ _ => false) _ _ hi' hk').1 | exact (F (fun _ _ => false) _ _ hi' hk').2.1 | exact (F _ _ _ hi' hk').2.2.1 | exact (F (fun _ _ => false) _ _ hi' (D d0)).1 | exact (F (fun _ _ => false) _ _ hi' (D d0)).2.1 | exact (F _ _ _ hi' (D d0)).2.2.1 | exact (F (fun _ _ => false) _ _ hk' (D d0)).1 | exact (F (fun _ _ => false) _ _ hk' (D d0)).2.1 | exact (F _ _ _ hk' (D d0)).2.2.1 | (intros; (try subst_vars); (try simp only [Bool.cond_true_left, Bool.cond_false_right, Bool.or_eq_true, Bool.or_eq_false_iff, Bool.and_eq_true, Bool.not_eq_true', Bool.not_eq_false', decide_eq_true_eq, decide_eq_false_iff_not, Int.not_lt, Int.not_le] at *); (try simp only [inK, big, lim, List.length_cons, List.length_nil, List.length_append, List.length_drop, List.length_take, List.length_replicate] at *); omega))) (And.intro (by first | exact (F (fun _ _ => false) _ _ hi' hk').1 | exact (F (fun _ _ => false) _ _ hi' hk').2.1 | exact (F _ _ _ hi' hk').2.2.1 | exact (F (fun _ _ => false) _ _ hi' (D d0)).1 | exact (F (fun _ _ => false) _ _ hi' (D d0)).2.1 | exact (F _ _ _ hi' (D d0)).2.2.1 | exact (F (fun _ _ => false) _ _ hk' (D d0)).1 | exact (F (fun _ _ => false) _ _ hk' (D d0)).2.1 | exact (F _ _ _ hk' (D d0)).2.2.1 | (intros; (try subst_vars); (try simp only [Bool.cond_true_left, Bool.cond_false_right, Bool.or_eq_true, Bool.or_eq_false_iff, Bool.and_eq_true, Bool.not_eq_true', Bool.not_eq_false', decide_eq_true_eq, decide_eq_false_iff_not, Int.not_lt, Int.not_le] at *); (try simp only [inK, big, lim, List.length_cons, List.length_nil, List.length_append, List.length_drop, List.length_take, List.length_replicate] at *); omega)) (And.intro (by first | exact (F (fun _ _ => false) _ _ hi' hk').1 | exact (F (fun _ _ => false) _ _ hi' hk').2.1 | exact (F _ _ _ hi' hk').2.2.1 | exact (F (fun _ _ => false) _ _ hi' (D d0)).1 | exact (F (fun _ _ => false) _ _ hi' (D d0)).2.1 | exact (F _ _ _ hi' (D d0)).2.2.1 | exact (F (fun _ _ => false) _ _ hk' (D d0)).1 | exact (F (fun _ _ => false) _ _ hk' (D d0)).2.1 | exact (F _ _ _ hk' (D d0)).2.2.1 | (intros; (try subst_vars); (try simp only [Bool.cond_true_left, Bool.cond_false_right, Bool.or_eq_true, Bool.or_eq_false_iff, Bool.and_eq_true, Bool.not_eq_true', Bool.not_eq_false', decide_eq_true_eq, decide_eq_false_iff_not, Int.not_lt, Int.not_le] at *); (try simp only [inK, big, lim, List.length_cons, List.length_nil, List.length_append, List.length_drop, List.length_take, List.length_replicate] at *); omega)) ?_))))))))))) (fun d0 => (And.intro (by first | exact (F (fun _ _ => false) _ _ hi' hk').1 | exact (F (fun _ _ => false) _ _ hi' hk').2.1 | exact (F _ _ _ hi' hk').2.2.1 | exact (F (fun _ _ => false) _ _ hi' (D d0)).1 | exact (F (fun _ _ => false) _ _ hi' (D d0)).2.1 | exact (F _ _ _ hi' (D d0)).2.2.1 | exact (F (fun _ _ => false) _ _ hk' (D d0)).1 | exact (F (fun _ _ => false) _ _ hk' (D d0)).2.1 | exact (F _ _ _ hk' (D d0)).2.2.1 | (intros; (try subst_vars); (try simp only [Bool.cond_true_left, Bool.cond_false_right, Bool.or_eq_true, Bool.or_eq_false_iff, Bool.and_eq_true, Bool.not_eq_true', Bool.not_eq_false', decide_eq_true_eq, decide_eq_false_iff_not, Int.not_lt, Int.not_le] at *); (try simp only [inK, big, lim, List.length_cons, List.length_nil, List.length_append, List.length_drop, List.length_take, List.length_replicate] at *); omega)) ?_))))))
      · have hj' := D d0
        refine Exists.intro (j + 1) (Exists.intro ([some 0]) (And.intro ?_ (And.intro ?_ (And.intro (by rfl) (And.intro (by rfl) (And.intro (And.intro ?_ True.intro) (by rfl)))))))
        · refine ⟨hj', .inr ?_⟩
          have h1 := (bif_t d0).1
          rw [(F _ _ _ hi' hk').2.2.2.1] at h1
          rcases hjc with hj0 | hjc
          · subst hj0
            rcases inJ_k (closeK (inL l) k) k i 0 with e | ⟨_, e⟩
            · rw [← e]; exact h1
            · omega
          · exact hjc
        · show N - (j + 1) < N - j
          omega
        · refine congrArg (Ob.rows .bool) ?_
          rw [← inJ_step N _ hi' hj' hk', (F (fun _ _ => false) _ _ hi' hj').2.2.2.2]
          refine congrArg (List.set _ _) ?_
          show (bif (flat N (inJ (closeK (inL l) k) k i j)).getD ((i : Int) * (N : Int) + (j : Int)).toNat false then true else (flat N (inJ (closeK (inL l) k) k i j)).getD ((k : Int) * (N : Int) + (j : Int)).toNat false) = _
          rw [(F _ _ _ hi' hj').2.2.2.1, (F _ _ _ hk' hj').2.2.2.1]
          cases inJ (closeK (inL l) k) k i j i j <;> rfl
      · refine Exists.intro (i + 1) (Exists.intro ([some 0]) (And.intro ?_ (And.intro ?_ (And.intro (by rfl) (And.intro (by rfl) (And.intro (And.intro ?_ True.intro) (by rfl)))))))
        · exact hi'
        · show N - (i + 1) < N - i
          omega
        · refine congrArg (Ob.rows .bool) (inJ_end N _ hj hjc ?_)
          rcases bif_f d0 with h | ⟨_, h⟩
          · rw [(F _ _ _ hi' hk').2.2.2.1] at h
            exact .inl h
          · exact .inr (geN j h)
    · refine Exists.intro (k + 1) (Exists.intro ([some 0]) (And.intro ?_ (And.intro ?_ (And.intro (by rfl) (And.intro (by rfl) (And.intro (And.intro ?_ True.intro) (by rfl)))))))
      · exact hk'
      · show N - (k + 1) < N - k
        omega
      · exact congrArg (Ob.rows .bool) (midI_end N _ (geN i c0))
  have ek : N = k := (Nat.le_antisymm hk (geN k b0)).symm
  subst ek
  refine ?_
  refine ex4 _ (fun i : Nat => ⟨[.int .i64 (↑N : Int), .own 0, .any, .any, .any, .int .i64 (i : Int), .any, .any, .any, .any, .any, .any, .any, .any, .any, .any, .any, .any, .any], [.rows .bool (flat N (closeK (inL l) N))], 1⟩) (fun i => i ≤ N ∧ (List.range i).any (fun i => closeK (inL l) N i i) = false) (fun i => N - i) (And.intro (Exists.intro (0) (Exists.intro ([some 0]) (And.intro ?_ (And.intro (by rfl) (And.intro (by rfl) (And.intro (And.intro (by rfl) True.intro) (by rfl))))))) ?_)
  · exact ⟨Nat.zero_le _, rfl⟩
  rintro i ⟨hi2, hr⟩
  have F := fun (f : Nat → Nat → Bool) (a b : Nat) (ha : a < N) (hb : b < N) => flat_ix hnn f ha hb
  have pl : (flat N (closeK (inL l) N)).length = (N : Int).toNat * (N : Int).toNat := by rw [flatN_len]; rfl
  refine (And.intro (fun u0 => (And.intro (by first | exact (F (fun _ _ => false) _ _ (ltN i u0) (ltN i u0)).1 | exact (F (fun _ _ => false) _ _ (ltN i u0) (ltN i u0)).2.1 | exact (F _ _ _ (ltN i u0) (ltN i u0)).2.2.1 | exact ⟨n0, n1, pl⟩ | (intros; (try subst_vars); (try simp only [Bool.cond_true_left, Bool.cond_false_right, Bool.or_eq_true, Bool.or_eq_false_iff, Bool.and_eq_true, Bool.not_eq_true', Bool.not_eq_false', decide_eq_true_eq, decide_eq_false_iff_not, Int.not_lt, Int.not_le] at *); (try simp only [inK, big, lim, List.length_cons, List.length_nil, List.length_append, List.length_drop, List.length_take, List.length_replicate] at *); omega)) (And.intro (by first | exact (F (fun _ _ => false) _ _ (ltN i u0) (ltN i u0)).1 | exact (F (fun _ _ => false) _ _ (ltN i u0) (ltN i u0)).2.1 | exact (F _ _ _ (ltN i u0) (ltN i u0)).2.2.1 | exact ⟨n0, n1, pl⟩ | (intros; (try subst_vars); (try simp only [Bool.cond_true_left, Bool.cond_false_right, Bool.or_eq_true, Bool.or_eq_false_iff, Bool.and_eq_true, Bool.not_eq_true', Bool.not_eq_false', decide_eq_true_eq, decide_eq_false_iff_not, Int.not_lt, Int.not_le] at *); (try simp only [inK, big, lim, List.length_cons, List.length_nil, List.length_append, List.length_drop, List.length_take, List.length_replicate] at *); omega)) (And.intro (by first | exact (F (fun _ _ => false) _ _ (ltN i u0) (ltN i u0)).1 | exact (F (fun _ _ => false) _ _ (ltN i u0) (ltN i u0)).2.1 | exact (F _ _ _ (ltN i u0) (ltN i u0)).2.2.1 | exact ⟨n0, n1, pl⟩ | (intros; (try subst_vars); (try simp only [Bool.cond_true_left, Bool.cond_false_right, Bool.or_eq_true, Bool.or_eq_false_iff, Bool.and_eq_true, Bool.not_eq_true', Bool.not_eq_false', decide_eq_true_eq, decide_eq_false_iff_not, Int.not_lt, Int.not_le] at *); (try simp only [inK, big, lim, List.length_cons, List.length_nil, List.length_append, List.length_drop, List.length_take, List.length_replicate] at *); omega)) (And.intro (fun u1 => (And.intro (fun u2 => (fin_of rfl ?_)) (fun u2 => False.elim (Bool.false_ne_true (Eq.symm (Eq.trans (by kernel_rfl) u2)))))) (fun u1 => (And.intro (by first | exact (F (fun _ _ => false) _ _ (ltN i u0) (ltN i u0)).1 | exact (F (fun _ _ => false) _ _ (ltN i u0) (ltN i u0)).2.1 | exact (F _ _ _ (ltN i u0) (ltN i u0)).2.2.1 | exact ⟨n0, n1, pl⟩ | (intros; (try subst_vars); (try simp only [Bool.cond_true_left, Bool.cond_false_right, Bool.or_eq_true, Bool.or_eq_false_iff, Bool.and_eq_true, Bool.not_eq_true', Bool.not_eq_false', decide_eq_true_eq, decide_eq_false_iff_not, Int.not_lt, Int.not_le] at *); (try simp only [inK, big, lim, List.length_cons, List.length_nil, List.length_append, List.length_drop, List.length_take, List.length_replicate] at *); omega)) ?_))))))) (fun u0 => (And.intro (fun u3 => False.elim (Bool.false_ne_true (Eq.trans (by kernel_rfl) u3))) (fun u3 => (And.intro (by first | exact (F (fun _ _ => false) _ _ (ltN i u0) (ltN i u0)).1 | exact (F (fun _ _ => false) _ _ (ltN i u0) (ltN i u0)).2.1 | exact (F _ _ _ (ltN i u0) (ltN i u0)).2.2.1 | exact ⟨n0, n1, pl⟩ | (intros; (try subst_vars); (try simp only [Bool.cond_true_left, Bool.cond_false_right, Bool.or_eq_true, Bool.or_eq_false_iff, Bool.and_eq_true, Bool.not_eq_true', Bool.not_eq_false', decide_eq_true_eq, decide_eq_false_iff_not, Int.not_lt, Int.not_le] at *); (try simp only [inK, big, lim, List.length_cons, List.length_nil, List.length_append, List.length_drop, List.length_take, List.length_replicate] at *); omega)) (fun (u4 : List (Int × Int) × PUnit) => (fun u5 => (fun u6 => (And.intro (fun u7 => (fin_of rfl ?_)) (fun u7 => (fin_of rfl ?_)))))))))))
  · have hi' := ltN i u0
    have e : closeK (inL l) N i i = true := by rw [← (F (closeK (inL l) N) _ _ hi' hi').2.2.2.1]; exact u1
    show ((genF (N : Int) l).1, (genF (N : Int) l).2, ()) = _
    rw [eg0, if_pos (range_hit (p := fun i => closeK (inL l) N i i) hi' e)]
  · have hi' := ltN i u0
    have e : closeK (inL l) N i i = false := by rw [← (F (closeK (inL l) N) _ _ hi' hi').2.2.2.1]; exact u1
    refine Exists.intro (i + 1) (Exists.intro ([some 0]) (And.intro ?_ (And.intro ?_ (And.intro (by rfl) (And.intro (by rfl) (And.intro (And.intro (by rfl) True.intro) (by rfl)))))))
    · exact ⟨hi', range_next hr e⟩
    · show N - (i + 1) < N - i
      omega
  all_goals
    have ei : N = i := (Nat.le_antisymm hi2 (geN i u0)).symm
    subst ei
    rw [if_neg (by rw [hr]; decide)] at eg0
    subst u5
    have u7' := u7
    rw [show (pairsT (N : Int).toNat (flat N (closeK (inL l) N)), ()).1 = pairsF N (closeK (inL l) N) from pairsT_eq _ _] at u7'
    show ((genF (N : Int) l).1, (genF (N : Int) l).2, ()) = _
  · rw [eg0, if_pos (of_decide_eq_true u7')]
  · rw [eg0, if_neg (of_decide_eq_false u7')]
    exact congrArg (fun z => (z, (0 : Int), ())) (pairsT_eq N _).symm
end Go.Proofs.Ytlaefkhbpnbahaa
/- Partial orders: Check of the reference, as a contract. -/
namespace Go.Proofs.Ytlaefkhbpnbahaa
open Go.Sx
theorem less_cmp {a b : Ed} : lessE a b = decide (cmpE a b < 0) := by
  rw [Bool.eq_iff_iff, ← cmp_lt, decide_eq_true_eq]
theorem badPrev_at' (l : List Ed) (i : Nat) (p : Ed) : badPrev (prevAt l i) p = (bif decide (0 < (i : Int)) then !lessE (l.getD ((i : Int) - 1).toNat (dflt tE)) p else false) := by
  rw [badPrev_at, less_cmp]
  refine congrArg (fun b => bif decide (0 < (i : Int)) then b else false) ?_
  rw [← decide_not]
  exact decide_eq_decide.2 (by omega)
def c27 : Ctr := fnC [dI, dEs] rI (fun _ => True) (fun y => (checkF y.1 y.2.1, ()))
set_option maxHeartbeats 4000000 in
theorem good27 : GoodC Try.prog 27 c27 := by
  refine goodF cxR_good 4 _ _ _ _ ⟨_, Try.func27, rfl, rfl⟩ fun (⟨n, l, _⟩ : Int × List Ed × Unit) _ => ?_
  have dec : (bif decide (n < 0) then true else decide (200 < n)) = false → 0 ≤ n ∧ n ≤ 200 := fun h => by
    by_cases h1 : n < 0 <;> by_cases h2 : 200 < n <;> simp [h1, h2] at h; omega
  have ec : checkF n l = refCheckF n l := (ref_check n l).symm
  refine (And.intro (by first | kernel_rfl | rfl) (And.intro (fun h0 => (fin_of rfl ?_)) (fun h0 => (fun h1 => (And.intro (fun h2 => (fin_of rfl ?_)) (fun h2 => ?_))))))
  · have e : checkF n l = 2 := by
      have hs : sizesF n l = 2 := by
        rw [sizesF, if_pos]
        by_cases h1 : n < 0 <;> by_cases h2 : 200 < n <;> simp [h1, h2] at h0 <;> omega
      rw [checkF, if_pos (by rw [hs]; decide), hs]
    show (checkF n l, ()) = _
    rw [e]
  · have e : checkF n l = 4 := by
      have := dec h0
      have h2' : 2000 < (l.length : Int) := of_decide_eq_true h2
      have hs : sizesF n l = 4 := by
        rw [sizesF, if_neg (by omega), if_pos (by omega)]
      rw [checkF, if_pos (by rw [hs]; decide), hs]
    show (checkF n l, ()) = _
    rw [e]
  obtain ⟨n0, n1⟩ := dec h0
  have n2 : l.length ≤ 2000 := by have h : ¬ (2000 < (l.length : Int)) := of_decide_eq_false h2; omega
  have hs : sizesF n l = 0 := sizes_iff.2 ⟨n0, n1, n2⟩
  obtain ⟨N, rfl⟩ : ∃ N : Nat, n = (N : Int) := ⟨n.toNat, by omega⟩
  have hN : N ≤ 200 := by omega
  have hnn := nn_room hN
  have eg0 : checkF (N : Int) l = if scanE (N : Int) none l ≠ 0 then scanE (N : Int) none l else if (List.range N).any (fun i => inL l i i) = true then 21
      else if ((pairsF N (closeK (inL l) N)).length : Int) ≠ l.length then 10 else 0 := by
    rw [ec, refCheckF, if_neg (by rw [hs]; decide)]
    rfl
  refine ex4 _ (fun i : Nat => ⟨[.int .i64 ↑N, .sl tE l, .any, .any, .any, .int .i64 (i : Int), .any, .any, .any, .any, .any, .any, .any, .any, .any, .any, .any, .any, .any, .any, .any, .any, .any, .any, .any, .any, .any, .any, .any, .any, .any, .any, .any, .any, .any, .any, .any, .any, .any, .any, .any, .any, .any, .any, .any, .any, .any, .any, .any, .any, .any, .any, .any, .any, .any, .any, .any, .any, .any, .any], [], 0⟩) (fun i => i ≤ l.length ∧ scanE (N : Int) none l = scanE (N : Int) (prevAt l i) (l.drop i)) (fun i => l.length - i) (And.intro (Exists.intro (0) (Exists.intro ([]) (And.intro ?_ (And.intro (by rfl) (And.intro (by rfl) (And.intro True.intro (by rfl))))))) ?_)
  · exact ⟨Nat.zero_le _, rfl⟩
  rintro i ⟨hi, ht⟩
  have ins : ¬ i < l.length → insideAll (N : Int) l := fun h => scan_inside (N : Int) none l (ht.trans (by rw [List.drop_of_length_le (by omega)]; rfl))
  have lt : ∀ a : Nat, decide ((a : Int) < (l.length : Int)) = true → a < l.length := fun a h => by have := of_decide_eq_true h; omega
  have ge : ∀ a : Nat, decide ((a : Int) < (l.length : Int)) = false → ¬ a < l.length := fun a h => by have := of_decide_eq_false h; omega
  refine (fun k0 => (And.intro (fun k1 => (And.intro (by first | exact ⟨by omega, by omega, ins (ge i k1)⟩ | (intros; (try subst_vars); (try simp only [Bool.cond_true_left, Bool.cond_false_right, Bool.or_eq_true, Bool.or_eq_false_iff, Bool.and_eq_true, Bool.not_eq_true', Bool.not_eq_false', decide_eq_true_eq, decide_eq_false_iff_not, Int.not_lt, Int.not_le] at *); (try simp only [inK, big, lim, List.length_cons, List.length_nil, List.length_append, List.length_drop, List.length_take, List.length_replicate] at *); omega)) (And.intro True.intro (And.intro (fun k2 => (fin_of rfl ?_)) (fun k2 => (And.intro (by first | kernel_rfl | rfl) (And.intro (fun k3 => (by first | exact ⟨by omega, by omega, ins (ge i k1)⟩ | (intros; (try subst_vars); (try simp only [Bool.cond_true_left, Bool.cond_false_right, Bool.or_eq_true, Bool.or_eq_false_iff, Bool.and_eq_true, Bool.not_eq_true', Bool.not_eq_false', decide_eq_true_eq, decide_eq_false_iff_not, Int.not_lt, Int.not_le] at *); (try simp only [inK, big, lim, List.length_cons, List.length_nil, List.length_append, List.length_drop, List.length_take, List.length_replicate] at *); omega))) (And.intro (fun k4 => (by first | exact ⟨by omega, by omega, ins (ge i k1)⟩ | (intros; (try subst_vars); (try simp only [Bool.cond_true_left, Bool.cond_false_right, Bool.or_eq_true, Bool.or_eq_false_iff, Bool.and_eq_true, Bool.not_eq_true', Bool.not_eq_false', decide_eq_true_eq, decide_eq_false_iff_not, Int.not_lt, Int.not_le] at *); (try simp only [inK, big, lim, List.length_cons, List.length_nil, List.length_append, List.length_drop, List.length_take, List.length_replicate] at *); omega))) (And.intro (fun k5 => (by first | exact ⟨by omega, by omega, ins (ge i k1)⟩ | (intros; (try subst_vars); (try simp only [Bool.cond_true_left, Bool.cond_false_right, Bool.or_eq_true, Bool.or_eq_false_iff, Bool.and_eq_true, Bool.not_eq_true', Bool.not_eq_false', decide_eq_true_eq, decide_eq_false_iff_not, Int.not_lt, Int.not_le] at *); (try simp only [inK, big, lim, List.length_cons, List.length_nil, List.length_append, List.length_drop, List.length_take, List.length_replicate] at *); omega))) (And.intro (fun k6 => True.intro) (And.intro (fun k7 => (fin_of rfl ?_)) (fun k7 => (And.intro (by first | exact ⟨by omega, by omega, ins (ge i k1)⟩ | (intros; (try subst_vars); (try simp only [Bool.cond_true_left, Bool.cond_false_right, Bool.or_eq_true, Bool.or_eq_false_iff, Bool.and_eq_true, Bool.not_eq_true', Bool.not_eq_false', decide_eq_true_eq, decide_eq_false_iff_not, Int.not_lt, Int.not_le] at *); (try simp only [inK, big, lim, List.length_cons, List.length_nil, List.length_append, List.length_drop, List.length_take, List.length_replicate] at *); omega)) ?_))))))))))))) (fun k1 => (And.intro (by first | exact ⟨by omega, by omega, ins (ge i k1)⟩ | (intros; (try subst_vars); (try simp only [Bool.cond_true_left, Bool.cond_false_right, Bool.or_eq_true, Bool.or_eq_false_iff, Bool.and_eq_true, Bool.not_eq_true', Bool.not_eq_false', decide_eq_true_eq, decide_eq_false_iff_not, Int.not_lt, Int.not_le] at *); (try simp only [inK, big, lim, List.length_cons, List.length_nil, List.length_append, List.length_drop, List.length_take, List.length_replicate] at *); omega)) (And.intro (by first | kernel_rfl | rfl) ?_)))))
  · have hi' := lt i k1
    have e : scanE (N : Int) none l = 2 := by rw [ht, scan_step (N : Int) hi', if_pos (by simpa using k2)]
    show (checkF (N : Int) l, ()) = _
    rw [eg0, e]; rfl
  · have hi' := lt i k1
    have k2' : outB (N : Int) (l.getD i (dflt tE)) = false := by simpa using k2
    have e : scanE (N : Int) none l = 9 := by
      rw [ht, scan_step (N : Int) hi', if_neg (by rw [k2']; simp), if_pos]
      rw [badPrev_at']
      exact k7
    show (checkF (N : Int) l, ()) = _
    rw [eg0, e]; rfl
  · have hi' := lt i k1
    have k2' : outB (N : Int) (l.getD i (dflt tE)) = false := by simpa using k2
    refine Exists.intro (i + 1) (Exists.intro ([]) (And.intro ?_ (And.intro ?_ (And.intro (by rfl) (And.intro (by rfl) (And.intro True.intro (by rfl)))))))
    · refine ⟨hi', ?_⟩
      rw [ht, scan_step (N : Int) hi', if_neg (by rw [k2']; simp), if_neg]
      rw [badPrev_at']
      intro h
      rw [show (bif decide (0 < (i : Int)) then !lessE (l.getD ((i : Int) - 1).toNat (dflt tE)) (l.getD i (dflt tE)) else false) = false from k7] at h
      cases h
    · show l.length - (i + 1) < l.length - i
      omega
  have hl := ins (ge i k1)
  have h3 : scanE (N : Int) none l = 0 := ht.trans (by rw [List.drop_of_length_le (by have := ge i k1; omega)]; rfl)
  rw [if_neg (by rw [h3]; decide)] at eg0
  have ltN : ∀ a : Nat, decide ((a : Int) < (N : Int)) = true → a < N := fun a h => by have := of_decide_eq_true h; omega
  have geN : ∀ a : Nat, decide ((a : Int) < (N : Int)) = false → N ≤ a := fun a h => by have := of_decide_eq_false h; omega
  refine ex4 _ (fun i : Nat => ⟨[.int .i64 (↑N : Int), .own 0, .any, .any, .any, .int .i64 (i : Int), .any, .any, .any, .any, .any, .any, .any, .any, .any, .any, .any, .any, .any], [.rows .bool (flat N (inL l))], 1⟩) (fun i => i ≤ N ∧ (List.range i).any (fun i => inL l i i) = false) (fun i => N - i) (And.intro (Exists.intro (0) (Exists.intro ([some 0]) (And.intro ?_ (And.intro (by rfl) (And.intro (by rfl) (And.intro (And.intro (by rfl) True.intro) (by rfl))))))) ?_)
  · exact ⟨Nat.zero_le _, rfl⟩
  rintro i ⟨hi2, hr⟩
  have F := fun (f : Nat → Nat → Bool) (a b : Nat) (ha : a < N) (hb : b < N) => flat_ix hnn f ha hb
  refine (And.intro (fun u0 => (And.intro (by first | exact (F (fun _ _ => false) _ _ (ltN i u0) (ltN i u0)).1 | exact (F (fun _ _ => false) _ _ (ltN i u0) (ltN i u0)).2.1 | exact (F _ _ _ (ltN i u0) (ltN i u0)).2.2.1 | (intros; (try subst_vars); (try simp only [Bool.cond_true_left, Bool.cond_false_right, Bool.or_eq_true, Bool.or_eq_false_iff, Bool.and_eq_true, Bool.not_eq_true', Bool.not_eq_false', decide_eq_true_eq, decide_eq_false_iff_not, Int.not_lt, Int.not_le] at *); (try simp only [inK, big, lim, List.length_cons, List.length_nil, List.length_append, List.length_drop, List.length_take, List.length_replicate] at *); omega)) (And.intro (by first | exact (F (fun _ _ => false) _ _ (ltN i u0) (ltN i u0)).1 | exact (F (fun _ _ => false) _ _ (ltN i u0) (ltN i u0)).2.1 | exact (F _ _ _ (ltN i u0) (ltN i u0)).2.2.1 | (intros; (try subst_vars); (try simp only [Bool.cond_true_left, Bool.cond_false_right, Bool.or_eq_true, Bool.or_eq_false_iff, Bool.and_eq_true, Bool.not_eq_true', Bool.not_eq_false', decide_eq_true_eq, decide_eq_false_iff_not, Int.not_lt, Int.not_le] at *); (try simp only [inK, big, lim, List.length_cons, List.length_nil, List.length_append, List.length_drop, List.length_take, List.length_replicate] at *); omega)) (And.intro (by first | exact (F (fun _ _ => false) _ _ (ltN i u0) (ltN i u0)).1 | exact (F (fun _ _ => false) _ _ (ltN i u0) (ltN i u0)).2.1 | exact (F _ _ _ (ltN i u0) (ltN i u0)).2.2.1 | (intros; (try subst_vars); (try simp only [Bool.cond_true_left, Bool.cond_false_right, Bool.or_eq_true, Bool.or_eq_false_iff, Bool.and_eq_true, Bool.not_eq_true', Bool.not_eq_false', decide_eq_true_eq, decide_eq_false_iff_not, Int.not_lt, Int.not_le] at *); (try simp only [inK, big, lim, List.length_cons, List.length_nil, List.length_append, List.length_drop, List.length_take, List.length_replicate] at *); omega)) (And.intro (fun u1 => (And.intro (fun u2 => (fin_of rfl ?_)) (fun u2 => False.elim (Bool.false_ne_true (Eq.symm (Eq.trans (by kernel_rfl) u2)))))) (fun u1 => (And.intro (by first | exact (F (fun _ _ => false) _ _ (ltN i u0) (ltN i u0)).1 | exact (F (fun _ _ => false) _ _ (ltN i u0) (ltN i u0)).2.1 | exact (F _ _ _ (ltN i u0) (ltN i u0)).2.2.1 | (intros; (try subst_vars); (try simp only [Bool.cond_true_left, Bool.cond_false_right, Bool.or_eq_true, Bool.or_eq_false_iff, Bool.and_eq_true, Bool.not_eq_true', Bool.not_eq_false', decide_eq_true_eq, decide_eq_false_iff_not, Int.not_lt, Int.not_le] at *); (try simp only [inK, big, lim, List.length_cons, List.length_nil, List.length_append, List.length_drop, List.length_take, List.length_replicate] at *); omega)) ?_))))))) (fun u0 => (And.intro (fun u3 => False.elim (Bool.false_ne_true (Eq.trans (by kernel_rfl) u3))) (fun u3 => (And.intro (by first | kernel_rfl | rfl) ?_)))))
  · have hi' := ltN i u0
    have e : inL l i i = true := by rw [← (F (inL l) _ _ hi' hi').2.2.2.1]; exact u1
    show (checkF (N : Int) l, ()) = _
    rw [eg0, if_pos (range_hit (p := fun i => inL l i i) hi' e)]
  · have hi' := ltN i u0
    have e : inL l i i = false := by rw [← (F (inL l) _ _ hi' hi').2.2.2.1]; exact u1
    refine Exists.intro (i + 1) (Exists.intro ([some 0]) (And.intro ?_ (And.intro ?_ (And.intro (by rfl) (And.intro (by rfl) (And.intro (And.intro (by rfl) True.intro) (by rfl)))))))
    · exact ⟨hi', range_next hr e⟩
    · show N - (i + 1) < N - i
      omega
  have ei : N = i := (Nat.le_antisymm hi2 (geN i u0)).symm
  subst ei
  rw [if_neg (by rw [hr]; decide)] at eg0
  refine ex4 _ (fun k : Nat => ⟨[.int .i64 (↑N : Int), .own 0, .any, .any, .int .i64 (k : Int), .any, .any, .any, .any, .any, .any, .any, .any, .any, .any, .any, .any, .any, .any, .any, .any, .any, .any, .any, .any, .any, .any, .any, .any, .any, .any, .any, .any, .any, .any, .any, .any, .any, .any, .any, .any, .any, .any, .any, .any, .any, .any, .any, .any, .any, .any, .any, .any, .any, .any, .any, .any], [.rows .bool (flat N (closeK (inL l) k))], 1⟩) (fun k => k ≤ N) (fun k => N - k) (And.intro (Exists.intro (0) (Exists.intro ([some 0]) (And.intro ?_ (And.intro (by rfl) (And.intro (by rfl) (And.intro (And.intro (by rfl) True.intro) (by rfl))))))) ?_)
  · exact Nat.zero_le _
  rintro k hk
  refine (And.intro (fun b0 => ?_) (fun b0 => (And.intro (by first | exact ⟨n0, n1, (flatN_len N _).trans rfl⟩ | (intros; (try subst_vars); (try simp only [Bool.cond_true_left, Bool.cond_false_right, Bool.or_eq_true, Bool.or_eq_false_iff, Bool.and_eq_true, Bool.not_eq_true', Bool.not_eq_false', decide_eq_true_eq, decide_eq_false_iff_not, Int.not_lt, Int.not_le] at *); (try simp only [inK, big, lim, List.length_cons, List.length_nil, List.length_append, List.length_drop, List.length_take, List.length_replicate] at *); omega)) (fun (b1 : List (Int × Int) × PUnit) => (fun b2 => (fun b3 => (fun b4 => (And.intro (fun b5 => (fin_of rfl ?_)) (fun b5 => (fin_of rfl ?_))))))))))
  · have hk' := ltN k b0
    refine ex4 _ (fun i : Nat => ⟨[.int .i64 (↑N : Int), .own 0, .any, .any, .int .i64 (↑k : Int), .int .i64 (i : Int), .any, .any, .any, .any, .any, .any, .any, .any, .any, .any, .any, .any, .any, .any, .any, .any, .any, .any, .any, .any, .any, .any, .any, .any, .any, .any, .any, .any, .any, .any, .any, .any, .any, .any, .any, .any, .any, .any, .any, .any, .any, .any, .any, .any, .any, .any, .any, .any, .any, .any, .any], [.rows .bool (flat N (midI (closeK (inL l) k) k i))], 1⟩) (fun i => i ≤ N) (fun i => N - i) (And.intro (Exists.intro (0) (Exists.intro ([some 0]) (And.intro ?_ (And.intro (by rfl) (And.intro (by rfl) (And.intro (And.intro (by rfl) True.intro) (by rfl))))))) ?_)
    · exact Nat.zero_le _
    rintro i hi2
    refine (And.intro (fun c0 => ?_) (fun c0 => (And.intro (by intros; (try subst_vars); (try simp only [Bool.cond_true_left, Bool.cond_false_right, Bool.or_eq_true, Bool.or_eq_false_iff, Bool.and_eq_true, Bool.not_eq_true', Bool.not_eq_false', decide_eq_true_eq, decide_eq_false_iff_not, Int.not_lt, Int.not_le] at *); (try simp only [inK, big, lim, List.length_cons, List.length_nil, List.length_append, List.length_drop, List.length_take, List.length_replicate] at *); omega) ?_)))
    · have hi' := ltN i c0
      refine ex4 _ (fun j : Nat => ⟨[.int .i64 (↑N : Int), .own 0, .any, .any, .int .i64 (↑k : Int), .int .i64 (↑i : Int), .int .i64 (j : Int), .any, .any, .any, .any, .any, .int .i64 (↑i : Int), .int .i64 (↑N : Int), .bool (decide ((↑i : Int) < (↑N : Int))), .any, .any, .any, .any, .any, .any, .any, .any, .any, .any, .any, .any, .any, .any, .any, .any, .any, .any, .any, .any, .any, .any, .any, .any, .any, .any, .any, .any, .any, .any, .any, .any, .any, .any, .any, .any, .any, .any, .any, .any, .any, .any], [.rows .bool (flat N (inJ (closeK (inL l) k) k i j))], 1⟩) (fun j => j ≤ N ∧ (j = 0 ∨ closeK (inL l) k i k = true)) (fun j => N - j) (And.intro (Exists.intro (0) (Exists.intro ([some 0]) (And.intro ?_ (And.intro (by rfl) (And.intro (by rfl) (And.intro (And.intro ?_ True.intro) (by rfl))))))) ?_)
      · exact ⟨Nat.zero_le _, .inl rfl⟩
      · exact congrArg (Ob.rows .bool) (flat_congr fun a b ha hb => by simp [midI, inJ])
      rintro j ⟨hj, hjc⟩
      have F := fun (f : Nat → Nat → Bool) (a b : Nat) (ha : a < N) (hb : b < N) => flat_ix hnn f ha hb
      have D := fun (h : (bif (flat N (inJ (closeK (inL l) k) k i j)).getD ((i : Int) * (N : Int) + (k : Int)).toNat false then decide ((j : Int) < (N : Int)) else false) = true) => ltN j (bif_t h).2
      refine (And.intro (by first | exact (F (fun _ _ => false) _ _ hi' hk').1 | exact (F (fun _ _ => false) _ _ hi' hk').2.1 | exact (F _ _ _ hi' hk').2.2.1 | exact (F (fun _ _ => false) _ _ hi' (D d0)).1 | exact (F (fun _ _ => false) _ _ hi' (D d0)).2.1 | exact (F _ _ _ hi' (D d0)).2.2.1 | exact (F (fun _ _ => false) _ _ hk' (D d0)).1 | exact (F (fun _ _ => false) _ _ hk' (D d0)).2.1 | exact (F _ _ _ hk' (D d0)).2.2.1 | (intros; (try subst_vars); (try simp only [Bool.cond_true_left, Bool.cond_false_right, Bool.or_eq_true, Bool.or_eq_false_iff, Bool.and_eq_true, Bool.not_eq_true', Bool.not_eq_false', decide_eq_true_eq, decide_eq_false_iff_not, Int.not_lt, Int.not_le] at *); (try simp only [inK, big, lim, List.length_cons, List.length_nil, List.length_append, List.length_drop, List.length_take, List.length_replicate] at *); omega)) (And.intro (by first | exact (F (fun _ _ => false) _ _ hi' hk').1 | exact (F (fun _ _ => false) _ _ hi' hk').2.1 | exact (F _ _ _ hi' hk').2.2.1 | exact (F (fun _ _ => false) _ _ hi' (D d0)).1 | exact (F (fun _ _ => false) _ _ hi' (D d0)).2.1 | exact (F _ _ _ hi' (D d0)).2.2.1 | exact (F (fun _ _ => false) _ _ hk' (D d0)).1 | exact (F (fun _ _ => false) _ _ hk' (D d0)).2.1 | exact (F _ _ _ hk' (D d0)).2.2.1 | (intros; (try subst_vars); (try simp only [Bool.cond_true_left, Bool.cond_false_right, Bool.or_eq_true, Bool.or_eq_false_iff, Bool.and_eq_true, Bool.not_eq_true', Bool.not_eq_false', decide_eq_true_eq, decide_eq_false_iff_not, Int.not_lt, Int.not_le] at *); (try simp only [inK, big, lim, List.length_cons, List.length_nil, List.length_append, List.length_drop, List.length_take, List.length_replicate] at *); omega)) (And.intro (by first | exact (F (fun _ _ => false) _ _ hi' hk').1 | exact (F (fun _ _ => false) _ _ hi' hk').2.1 | exact (F _ _ _ hi' hk').2.2.1 | exact (F (fun _ _ => false) _ _ hi' (D d0)).1 | exact (F (fun _ _ => false) _ _ hi' (D d0)).2.1 | exact (F _ _ _ hi' (D d0)).2.2.1 | exact (F (fun _ _ => false) _ _ hk' (D d0)).1 | exact (F (fun _ _ => false) _ _ hk' (D d0)).2.1 | exact (F _ _ _ hk' (D d0)).2.2.1 | (intros; (try subst_vars); (try simp only [Bool.cond_true_left, Bool.cond_false_right, Bool.or_eq_true, Bool.or_eq_false_iff, Bool.and_eq_true, Bool.not_eq_true', Bool.not_eq_false', decide_eq_true_eq, decide_eq_false_iff_not, Int.not_lt, Int.not_le] at *); (try simp only [inK, big, lim, List.length_cons, List.length_nil, List.length_append, List.length_drop, List.length_take, List.length_replicate] at *); omega)) (And.intro (fun d0 => (And.intro (by first | exact (F (fun _ _ => false) _ _ hi' hk').1 | exact (F (fun _ _ => false) _ _ hi' hk').2.1 | exact (F _ _ _ hi' hk').2.2.1 | exact (F (fun _ _ => false) _ _ hi' (D d0)).1 | exact (F (fun _ _ => false) _ _ hi' (D d0)).2.1 | exact (F _ _ _ hi' (D d0)).2.2.1 | exact (F (fun _ _ => false) _ _ hk' (D d0)).1 | exact (F (fun _ _ => false) _ _ hk' (D d0)).2.1 | exact (F _ _ _ hk' (D d0)).2.2.1 | (intros; (try subst_vars); (try simp only [Bool.cond_true_left, Bool.cond_false_right, Bool.or_eq_true, Bool.or_eq_false_iff, Bool.and_eq_true, Bool.not_eq_true', Bool.not_eq_false', decide_eq_true_eq, decide_eq_false_iff_not, Int.not_lt, Int.not_le] at *); (try simp only [inK, big, lim, List.length_cons, List.length_nil, List.length_append, List.length_drop, List.length_take, List.length_replicate] at *); omega)) (And.intro (by first | exact (F (fun _ _ => false) _ _ hi' hk').1 | exact (F (fun _ _ => false) _ _ hi' hk').2.1 | exact (F _ _ _ hi' hk').2.2.1 | exact (F (fun _ _ => false) _ _ hi' (D d0)).1 | exact (F (fun _ _ => false) _ _ hi' (D d0)).2.1 | exact (F _ _ _ hi' (D d0)).2.2.1 | exact (F (fun _ _ => false) _ _ hk' (D d0)).1 | exact (F (fun _ _ => false) _ _ hk' (D d0)).2.1 | exact (F _ _ _ hk' (D d0)).2.2.1 | (intros; (try subst_vars); (try simp only [Bool.cond_true_left, Bool.cond_false_right, Bool.or_eq_true, Bool.or_eq_false_iff, Bool.and_eq_true, Bool.not_eq_true', Bool.not_eq_false', decide_eq_true_eq, decide_eq_false_iff_not, Int.not_lt, Int.not_le] at *); (try simp only [inK, big, lim, List.length_cons, List.length_nil, List.length_append, List.length_drop, List.length_take, List.length_replicate] at *); omega)) (And.intro (by first | exact (F (fun _ _ => false) _ _ hi' hk').1 | exact (F (fun _ _ => false) _ _ hi' hk').2.1 | exact (F _ _ _ hi' hk').2.2.1 | exact (F (fun _ _ => false) _ _ hi' (D d0)).1 | exact (F (fun _ _ => false) _ _ hi' (D d0)).2.1 | exact (F _ _ _ hi' (D d0)).2.2.1 | exact (F (fun _ _ => false) _ _ hk' (D d0)).1 | exact (F (fun _ _ => false) _ _ hk' (D d0)).2.1 | exact (F _ _ _ hk' (D d0)).2.2.1 | (intros; (try subst_vars); (try simp only [Bool.cond_true_left, Bool.cond_false_right, Bool.or_eq_true, Bool.or_eq_false_iff, Bool.and_eq_true, Bool.not_eq_true', Bool.not_eq_false', decide_eq_true_eq, decide_eq_false_iff_not, Int.not_lt, Int.not_le] at *); (try simp only [inK, big, lim, List.length_cons, List.length_nil, List.length_append, List.length_drop, List.length_take, List.length_replicate] at *); omega)) (And.intro (by first | exact (F (fun _ _ => false) _ _ hi' hk').1 | exact (F (fun _ _ => false) _ _ hi' hk').2.1 | exact (F _ _ _ hi' hk').2.2.1 | exact (F (fun _ _ => false) _ _ hi' (D d0)).1 | exact (F (fun _ _ => false) _ _ hi' (D d0)).2.1 | exact (F _ _ _ hi' (D d0)).2.2.1 | exact (F (fun _ _ => false) _ _ hk' (D d0)).1 | exact (F (fun _ _ => false) _ _ hk' (D d0)).2.1 | exact (F _ _ _ hk' (D d0)).2.2.1 | (intros; (try subst_vars); (try simp only [Bool.cond_true_left, Bool.cond_false_right, Bool.or_eq_true, Bool.or_eq_false_iff, Bool.and_eq_true, Bool.not_eq_true', Bool.not_eq_false', decide_eq_true_eq, decide_eq_false_iff_not, Int.not_lt, Int.not_le] at *); (try simp only [inK, big, lim, List.length_cons, List.length_nil, List.length_append, List.length_drop, List.length_take, List.length_replicate] at *); omega)) (And.intro (by first | exact (F (fun _ _ => false) _ _ hi' hk').1 | exact (F (fun _ _ => false) _ _ hi' hk').2.1 | exact (F _ _ _ hi' hk').2.2.1 | exact (F (fun _ _ => false) _ _ hi' (D d0)).1 | exact (F (fun _ _ => false) _ _ hi' (D d0)).2.1 | exact (F _ _ _ hi' (D d0)).2.2.1 | exact (F (fun _ _ => false) _ _ hk' (D d0)).1 | exact (F (fun _ _ => false) _ _ hk' (D d0)).2.1 | exact (F _ _ _ hk' (D d0)).2.2.1 | (intros; (try subst_vars); (try simp only [Bool.cond_true_left, Bool.cond_false_right, Bool.or_eq_true, Bool.or_eq_false_iff, Bool.and_eq_true, Bool.not_eq_true', Bool.not_eq_false', decide_eq_true_eq, decide_eq_false_iff_not, Int.not_lt, Int.not_le] at *); (try simp only [inK, big, lim, List.length_cons, List.length_nil, List.length_append, List.length_drop, List.length_take, List.length_replicate] at *); omega)) (And.intro (fun d1 => (by first | exact (F (fun _ _ => false) _ _ hi' hk').1 | exact (F (fun _ _ => false) _ _ hi' hk').2.1 | exact (F _ _ _ hi' hk').2.2.1 | exact (F (fun _ _ => false) _ _ hi' (D d0)).1 | exact (F (fun _ _ => false) _ _ hi' (D d0)).2.1 | exact (F _ _ _ hi' (D d0)).2.2.1 | exact (F (fun _ _ => false) _ _ hk' (D d0)).1 | exact (F (fun _ _ => false) _ _ hk' (D d0)).2.1 | exact (F _ _ _ hk' (D d0)).2.2.1 | (intros; (try subst_vars); (try simp only [Bool.cond_true_left, Bool.cond_false_right, Bool.or_eq_true, Bool.or_eq_false_iff, Bool.and_eq_true, Bool.not_eq_true', Bool.not_eq_false', decide_eq_true_eq, decide_eq_false_iff_not, Int.not_lt, Int.not_le] at *); (try simp only [inK, big, lim, List.length_cons, List.length_nil, List.length_append, List.length_drop, List.length_take, List.length_replicate] at *); omega))) (And.intro (fun d2 => (by first | exact (F (fun _ _ => false) _ _ hi' hk').1 | exact (F (fun _ _ => false) _ _ hi' hk').2.1 | exact (F _ _ _ hi' hk').2.2.1 | exact (F (fun _ _ => false) _ _ hi' (D d0)).1 | exact (F (fun _ _ => false) _ _ hi' (D d0)).2.1 | exact (F _ _ _ hi' (D d0)).2.2.1 | exact (F (fun _ _ => false) _ _ hk' (D d0)).1 | exact (F (fun _ _ => false) _ _ hk' (D d0)).2.1 | exact (F _ _ _ hk' (D d0)).2.2.1 | (intros; (try subst_vars); (try simp only [Bool.cond_true_left, Bool.cond_false_right, Bool.or_eq_true, Bool.or_eq_false_iff, Bool.and_eq_true, Bool.not_eq_true', Bool.not_eq_false', decide_eq_true_eq, decide_eq_false_iff_not, Int.not_lt, Int.not_le] at *); (try simp only [inK, big, lim, List.length_cons, List.length_nil, List.length_append, List.length_drop, List.length_take, List.length_replicate] at *); omega))) (And.intro (fun d3 => (by first | exact (F (fun _ _ => false) _ _ hi' hk').1 | exact (F (fun _ _ => false) _ _ hi' hk').2.1 | exact (F _ _ _ hi' hk').2.2.1 | exact (F (fun _ _ => false) _ _ hi' (D d0)).1 | exact (F (fun _ _ => false) _ _ hi' (D d0)).2.1 | exact (F _ _ _ hi' (D d0)).2.2.1 | exact (F (fun _ _ => false) _ _ hk' (D d0)).1 | exact (F (fun _ _ => false) _ _ hk' (D d0)).2.1 | exact (F _ _ _ hk' (D d0)).2.2.1 | (intros; (try subst_vars); (try simp only [Bool.cond_true_left, Bool.cond_false_right, Bool.or_eq_true, Bool.or_eq_false_iff, Bool.and_eq_true, Bool.not_eq_true', Bool.not_eq_false', decide_eq_true_eq, decide_eq_false_iff_not, Int.not_lt, Int.not_le] at *); (try simp only [inK, big, lim, List.length_cons, List.length_nil, List.length_append, List.length_drop, List.length_take, List.length_replicate] at *); omega))) (And.intro (by first | exact (F (fun _ _ => false) _ _ hi' hk').1 | exact (F (fun _ _ => false) _ _ hi' hk').2.1 | exact (F _ _ _ hi' hk').2.2.1 | exact (F (fun _ _ => false) _ _ hi' (D d0)).1 | exact (F (fun _ _ => false) _ _ hi' (D d0)).2.1 | exact (F _ _ _ hi' (D d0)).2.2.1 | exact (F (fun _ _ => false) _ _ hk' (D d0)).1 | exact (F (fun _ _ => false) _ _ hk' (D d0)).2.1 | exact (F _ _ _ hk' (D d0)).2.2.1 | (intros; (try subst_vars); (try simp only [Bool.cond_true_left, Bool.cond_false_right, Bool.or_eq_true, Bool.or_eq_false_iff, Bool.and_eq_true, Bool.not_eq_true', Bool.not_eq_false', decide_eq_true_eq, decide_eq_false_iff_not, Int.not_lt, Int.not_le] at *); (try simp only [inK, big, lim, List.length_cons, List.length_nil, List.length_append, List.length_drop, List.length_take, List.length_replicate] at *); omega)) (And.intro (by first | exact (F (fun _ _ => false) _ _ hi' hk').1 | exact (F (fun _ _ => false) _ _ hi' hk').2.1 | exact (F _ _ _ hi' hk').2.2.1 | exact (F (fun _ _ => false) _ _ hi' (D d0)).1 | exact (F (fun _ _ => false) _ _ hi' (D d0)).2.1 | exact (F _ _ _ hi' (D d0)).2.2.1 | exact (F (fun _ _ => false) _ _ hk' (D d0)).1 | exact (F (fun _ _ => false) _ _ hk' (D d0)).2.1 | exact (F _ _ _ hk' (D d0)).2.2.1 | (intros; (try subst_vars); (try simp only [Bool.cond_true_left, Bool.cond_false_right, Bool.or_eq_true, Bool.or_eq_false_iff, Bool.and_eq_true, Bool.not_eq_true', Bool.not_eq_false', decide_eq_true_eq, decide_eq_false_iff_not, Int.not_lt, Int.not_le] at *); (try simp only [inK, big, lim, List.length_cons, List.length_nil, List.length_append, List.length_drop, List.length_take, List.length_replicate] at *); omega)) ?_))))))))))) (fun d0 => (And.intro (by first | exact (F (fun _ _ => false) _ _ hi' hk').1 | exact (F (fun _ _ => false) _ _ hi' hk').2.1 | exact (F _ _ _ hi' hk').2.2.1 | exact (F (fun _ _ => false) _ _ hi' (D d0)).1 | exact (F (fun _ _ => false) _ _ hi' (D d0)).2.1 | exact (F _ _ _ hi' (D d0)).2.2.1 | exact (F (fun _ _ => false) _ _ hk' (D d0)).1 | exact (F (fun _ _ => false) _ _ hk' (D d0)).2.1 | exact (F _ _ _ hk' (D d0)).2.2.1 | (intros; (try subst_vars); (try simp only [Bool.cond_true_left, Bool.cond_false_right, Bool.or_eq_true, Bool.or_eq_false_iff, Bool.and_eq_true, Bool.not_eq_true', Bool.not_eq_false', decide_eq_true_eq, decide_eq_false_iff_not, Int.not_lt, Int.not_le] at *); (try simp only [inK, big, lim, List.length_cons, List.length_nil, List.length_append, List.length_drop, List.length_take, List.length_replicate] at *); omega)) ?_))))))
      · have hj' := D d0
        refine Exists.intro (j + 1) (Exists.intro ([some 0]) (And.intro ?_ (And.intro ?_ (And.intro (by rfl) (And.intro (by rfl) (And.intro (And.intro ?_ True.intro) (by rfl)))))))
        · refine ⟨hj', .inr ?_⟩
          have h1 := (bif_t d0).1
          rw [(F _ _ _ hi' hk').2.2.2.1] at h1
          rcases hjc with hj0 | hjc
          · subst hj0
            rcases inJ_k (closeK (inL l) k) k i 0 with e | ⟨_, e⟩
            · rw [← e]; exact h1
            · omega
          · exact hjc
        · show N - (j + 1) < N - j
          omega
        · refine congrArg (Ob.rows .bool) ?_
          rw [← inJ_step N _ hi' hj' hk', (F (fun _ _ => false) _ _ hi' hj').2.2.2.2]
          refine congrArg (List.set _ _) ?_
          show (bif (flat N (inJ (closeK (inL l) k) k i j)).getD ((i : Int) * (N : Int) + (j : Int)).toNat false then true else (flat N (inJ (closeK (inL l) k) k i j)).getD ((k : Int) * (N : Int) + (j : Int)).toNat false) = _
          rw [(F _ _ _ hi' hj').2.2.2.1, (F _ _ _ hk' hj').2.2.2.1]
          cases inJ (closeK (inL l) k) k i j i j <;> rfl
      · refine Exists.intro (i + 1) (Exists.intro ([some 0]) (And.intro ?_ (And.intro ?_ (And.intro (by rfl) (And.intro (by rfl) (And.intro (And.intro ?_ True.intro) (by rfl)))))))
        · exact hi'
        · show N - (i + 1) < N - i
          omega
        · refine congrArg (Ob.rows .bool) (inJ_end N _ hj hjc ?_)
          rcases bif_f d0 with h | ⟨_, h⟩
          · rw [(F _ _ _ hi' hk').2.2.2.1] at h
            exact .inl h
          · exact .inr (geN j h)
    · refine Exists.intro (k + 1) (Exists.intro ([some 0]) (And.intro ?_ (And.intro ?_ (And.intro (by rfl) (And.intro (by rfl) (And.intro (And.intro ?_ True.intro) (by rfl)))))))
      · exact hk'
      · show N - (k + 1) < N - k
        omega
      · exact congrArg (Ob.rows .bool) (midI_end N _ (geN i c0))
  all_goals
    have ek : N = k := (Nat.le_antisymm hk (geN k b0)).symm
    subst ek
    subst b2
    show (checkF (N : Int) l, ()) = _
    have b5' := b5
    rw [show (pairsT (N : Int).toNat (flat N (closeK (inL l) N)), ()).1 = pairsF N (closeK (inL l) N) from pairsT_eq _ _] at b5'
  · rw [eg0, if_pos (by simpa using b5')]
  · rw [eg0, if_neg (by simpa using b5')]
end Go.Proofs.Ytlaefkhbpnbahaa
/- Partial orders: Covers and Concurrent of the reference, as contracts. -/
namespace Go.Proofs.Ytlaefkhbpnbahaa
open Go.Sx
def cxRC : Ctx := ⟨tys0, [(27, ([], c27)), (55, ([], c55))]⟩
theorem cxRC_good : GoodCtx Try.prog cxRC := cx_cons good27 (cx_cons good55 cx0_good)
def c32 : Ctr := fnC [dI, dEs] rEsI (fun _ => True) (fun y => ((coversF y.1 y.2.1).1, (coversF y.1 y.2.1).2, ()))
set_option maxHeartbeats 4000000 in
theorem good32 : GoodC Try.prog 32 c32 := by
  refine goodF cxRC_good 4 _ _ _ _ ⟨_, Try.func32, rfl, rfl⟩ fun (⟨n, l, _⟩ : Int × List Ed × Unit) _ => ?_
  have mk : checkF n l = 0 → 0 ≤ n ∧ n ≤ 200 ∧ insideAll n l := fun h => ⟨(chk_ok h).1, (chk_ok h).2.1, (chk_ok h).2.2.2⟩
  refine (And.intro (by first | kernel_rfl | rfl) (And.intro True.intro (And.intro (fun h0 => (fin_of rfl ?_)) (fun h0 => (And.intro (by first | exact mk (by simpa using h0) | (intros; (try subst_vars); (try simp only [Bool.cond_true_left, Bool.cond_false_right, Bool.or_eq_true, Bool.or_eq_false_iff, Bool.and_eq_true, Bool.not_eq_true', Bool.not_eq_false', decide_eq_true_eq, decide_eq_false_iff_not, Int.not_lt, Int.not_le] at *); (try simp only [inK, big, lim, List.length_cons, List.length_nil, List.length_append, List.length_drop, List.length_take, List.length_replicate] at *); omega)) ?_)))))
  · have h0' : checkF n l ≠ 0 := by simpa using h0
    show ((coversF n l).1, (coversF n l).2, ()) = ([], checkF n l, ())
    rw [coversF, if_pos h0']
  have h0' : checkF n l = 0 := by simpa using h0
  obtain ⟨n0, n1, n2, hl⟩ := chk_ok h0'
  have eg : coversF n l = (l.filter (fun p => !covB n.toNat (inL l) p), 0) := by rw [coversF, if_neg (by simp [h0'])]
  obtain ⟨N, rfl⟩ : ∃ N : Nat, n = (N : Int) := ⟨n.toNat, by omega⟩
  have hN : N ≤ 200 := by omega
  have hnn := nn_room hN
  have F := fun (f : Nat → Nat → Bool) (a b : Nat) (ha : a < N) (hb : b < N) => flat_ix hnn f ha hb
  have lt : ∀ a : Nat, decide ((a : Int) < (l.length : Int)) = true → a < l.length := fun a h => by have := of_decide_eq_true h; omega
  have ge : ∀ a : Nat, decide ((a : Int) < (l.length : Int)) = false → ¬ a < l.length := fun a h => by have := of_decide_eq_false h; omega
  have ltN : ∀ a : Nat, decide ((a : Int) < (N : Int)) = true → a < N := fun a h => by have := of_decide_eq_true h; omega
  have geN : ∀ a : Nat, decide ((a : Int) < (N : Int)) = false → N ≤ a := fun a h => by have := of_decide_eq_false h; omega
  refine ex4 _ (fun i : Nat => ⟨[.int .i64 ↑N, .sl tE l, .any, .any, .any, .any, .any, .own 0, .own 1, .int .i64 (i : Int), .any, .any, .any, .any, .any, .any, .any, .any, .any, .any, .any, .any, .any, .any, .any, .any, .any, .any, .any, .any, .any, .any, .any, .any, .any, .any, .any, .any, .any, .any, .any, .any, .any, .any, .any, .any, .any, .any, .any, .any, .any, .any, .any, .any, .any, .any, .any, .any, .any, .any, .any, .any, .any, .any, .any, .any, .any, .any, .any, .any, .any], [.rows .bool (flat N (inL l)), .rows tE ((l.take i).filter (fun p => !covB N (inL l) p))], 2⟩) (fun i => i ≤ l.length) (fun i => l.length - i) (And.intro (Exists.intro (0) (Exists.intro ([some 0, none]) (And.intro ?_ (And.intro (by rfl) (And.intro (by rfl) (And.intro (And.intro (by rfl) (And.intro (by rfl) True.intro)) (by rfl))))))) ?_)
  · exact Nat.zero_le _
  rintro i hi
  have room : (((l.take i).filter fun p => !covB N (inL l) p).length + 1) * 16 ≤ lim := by
    have h1 := List.length_filter_le (fun p => !covB N (inL l) p) (l.take i)
    have h2 := List.length_take_le i l
    simp only [lim]
    omega
  refine (fun k0 => (And.intro (fun k1 => ?_) (fun k1 => (fin_of rfl ?_))))
  · have hi' := lt i k1
    have hin := inside_get hl hi'
    obtain ⟨a, ha⟩ : ∃ a : Nat, (l.getD i (dflt tE)).1 = (a : Int) := ⟨(l.getD i (dflt tE)).1.toNat, by omega⟩
    obtain ⟨c, hc⟩ : ∃ c : Nat, (l.getD i (dflt tE)).2 = (c : Int) := ⟨(l.getD i (dflt tE)).2.toNat, by omega⟩
    have ha' : a < N := by omega
    have hc' : c < N := by omega
    have A1 : ∀ k : Nat, k < N → inK .i64 ((l.getD (i : Int).toNat (dflt tE)).1 * (N : Int)) ∧ inK .i64 ((l.getD (i : Int).toNat (dflt tE)).1 * (N : Int) + (k : Int)) ∧ (0 ≤ (l.getD (i : Int).toNat (dflt tE)).1 * (N : Int) + (k : Int) ∧ (l.getD (i : Int).toNat (dflt tE)).1 * (N : Int) + (k : Int) < ((flat N (inL l)).length : Int)) ∧ (flat N (inL l)).getD ((l.getD (i : Int).toNat (dflt tE)).1 * (N : Int) + (k : Int)).toNat false = inL l a k := fun k h => by
      have := F (inL l) a k ha' h
      rw [Int.toNat_natCast, ha]
      exact ⟨this.1, this.2.1, this.2.2.1, this.2.2.2.1⟩
    have A2 : ∀ k : Nat, k < N → inK .i64 ((k : Int) * (N : Int)) ∧ inK .i64 ((k : Int) * (N : Int) + (l.getD (i : Int).toNat (dflt tE)).2) ∧ (0 ≤ (k : Int) * (N : Int) + (l.getD (i : Int).toNat (dflt tE)).2 ∧ (k : Int) * (N : Int) + (l.getD (i : Int).toNat (dflt tE)).2 < ((flat N (inL l)).length : Int)) ∧ (flat N (inL l)).getD ((k : Int) * (N : Int) + (l.getD (i : Int).toNat (dflt tE)).2).toNat false = inL l k c := fun k h => by
      have := F (inL l) k c h hc'
      rw [Int.toNat_natCast, hc]
      exact ⟨this.1, this.2.1, this.2.2.1, this.2.2.2.1⟩
    refine ex4 _ (fun p : Nat × Bool => ⟨[.int .i64 (↑N : Int), .sl tE l, .any, .any, .any, .any, .any, .own 0, .own 1, .int .i64 (↑i : Int), .bool p.2, .int .i64 (p.1 : Int), .any, .any, .any, .any, .any, .any, .any, .any, .any, .int .i64 (↑i : Int), .sl tE l, .int .i64 (↑l.length : Int), .bool (decide ((↑i : Int) < (↑l.length : Int))), .any, .any, .any, .any, .any, .any, .any, .any, .any, .any, .any, .any, .any, .any, .any, .any, .any, .any, .any, .any, .any, .any, .any, .any, .any, .any, .any, .any, .any, .any, .any, .any, .any, .any, .any, .any, .any, .any, .any, .any, .any, .any, .any, .any, .any, .any], [.rows .bool (flat N (inL l)), .rows tE (List.filter (fun p => !covB N (inL l) p) (List.take i l))], 2⟩) (fun p => p.1 ≤ N ∧ p.2 = (List.range p.1).any fun k => inL l a k && inL l k c) (fun p => N - p.1) (And.intro (Exists.intro ((0, false)) (Exists.intro ([some 0, some 1]) (And.intro ?_ (And.intro (by rfl) (And.intro (by rfl) (And.intro (And.intro (by rfl) (And.intro (by rfl) True.intro)) (by rfl))))))) ?_)
    · exact ⟨Nat.zero_le _, rfl⟩
    rintro ⟨k, b⟩ ⟨hk, hb⟩
    refine (And.intro (fun m0 => (And.intro (fun m1 => (by first | exact room | exact (A1 k (ltN k m0)).1 | exact (A1 k (ltN k m0)).2.1 | exact (A1 k (ltN k m0)).2.2.1 | exact (A2 k (ltN k m0)).1 | exact (A2 k (ltN k m0)).2.1 | exact (A2 k (ltN k m0)).2.2.1 | (intros; (try subst_vars); (try simp only [Bool.cond_true_left, Bool.cond_false_right, Bool.or_eq_true, Bool.or_eq_false_iff, Bool.and_eq_true, Bool.not_eq_true', Bool.not_eq_false', decide_eq_true_eq, decide_eq_false_iff_not, Int.not_lt, Int.not_le] at *); (try simp only [inK, big, lim, List.length_cons, List.length_nil, List.length_append, List.length_drop, List.length_take, List.length_replicate] at *); omega))) (And.intro (fun m2 => (by first | exact room | exact (A1 k (ltN k m0)).1 | exact (A1 k (ltN k m0)).2.1 | exact (A1 k (ltN k m0)).2.2.1 | exact (A2 k (ltN k m0)).1 | exact (A2 k (ltN k m0)).2.1 | exact (A2 k (ltN k m0)).2.2.1 | (intros; (try subst_vars); (try simp only [Bool.cond_true_left, Bool.cond_false_right, Bool.or_eq_true, Bool.or_eq_false_iff, Bool.and_eq_true, Bool.not_eq_true', Bool.not_eq_false', decide_eq_true_eq, decide_eq_false_iff_not, Int.not_lt, Int.not_le] at *); (try simp only [inK, big, lim, List.length_cons, List.length_nil, List.length_append, List.length_drop, List.length_take, List.length_replicate] at *); omega))) (And.intro (fun m3 => (by first | exact room | exact (A1 k (ltN k m0)).1 | exact (A1 k (ltN k m0)).2.1 | exact (A1 k (ltN k m0)).2.2.1 | exact (A2 k (ltN k m0)).1 | exact (A2 k (ltN k m0)).2.1 | exact (A2 k (ltN k m0)).2.2.1 | (intros; (try subst_vars); (try simp only [Bool.cond_true_left, Bool.cond_false_right, Bool.or_eq_true, Bool.or_eq_false_iff, Bool.and_eq_true, Bool.not_eq_true', Bool.not_eq_false', decide_eq_true_eq, decide_eq_false_iff_not, Int.not_lt, Int.not_le] at *); (try simp only [inK, big, lim, List.length_cons, List.length_nil, List.length_append, List.length_drop, List.length_take, List.length_replicate] at *); omega))) (And.intro (fun m4 => (by first | exact room | exact (A1 k (ltN k m0)).1 | exact (A1 k (ltN k m0)).2.1 | exact (A1 k (ltN k m0)).2.2.1 | exact (A2 k (ltN k m0)).1 | exact (A2 k (ltN k m0)).2.1 | exact (A2 k (ltN k m0)).2.2.1 | (intros; (try subst_vars); (try simp only [Bool.cond_true_left, Bool.cond_false_right, Bool.or_eq_true, Bool.or_eq_false_iff, Bool.and_eq_true, Bool.not_eq_true', Bool.not_eq_false', decide_eq_true_eq, decide_eq_false_iff_not, Int.not_lt, Int.not_le] at *); (try simp only [inK, big, lim, List.length_cons, List.length_nil, List.length_append, List.length_drop, List.length_take, List.length_replicate] at *); omega))) (And.intro (fun m5 => (by first | exact room | exact (A1 k (ltN k m0)).1 | exact (A1 k (ltN k m0)).2.1 | exact (A1 k (ltN k m0)).2.2.1 | exact (A2 k (ltN k m0)).1 | exact (A2 k (ltN k m0)).2.1 | exact (A2 k (ltN k m0)).2.2.1 | (intros; (try subst_vars); (try simp only [Bool.cond_true_left, Bool.cond_false_right, Bool.or_eq_true, Bool.or_eq_false_iff, Bool.and_eq_true, Bool.not_eq_true', Bool.not_eq_false', decide_eq_true_eq, decide_eq_false_iff_not, Int.not_lt, Int.not_le] at *); (try simp only [inK, big, lim, List.length_cons, List.length_nil, List.length_append, List.length_drop, List.length_take, List.length_replicate] at *); omega))) (And.intro (fun m6 => (by first | exact room | exact (A1 k (ltN k m0)).1 | exact (A1 k (ltN k m0)).2.1 | exact (A1 k (ltN k m0)).2.2.1 | exact (A2 k (ltN k m0)).1 | exact (A2 k (ltN k m0)).2.1 | exact (A2 k (ltN k m0)).2.2.1 | (intros; (try subst_vars); (try simp only [Bool.cond_true_left, Bool.cond_false_right, Bool.or_eq_true, Bool.or_eq_false_iff, Bool.and_eq_true, Bool.not_eq_true', Bool.not_eq_false', decide_eq_true_eq, decide_eq_false_iff_not, Int.not_lt, Int.not_le] at *); (try simp only [inK, big, lim, List.length_cons, List.length_nil, List.length_append, List.length_drop, List.length_take, List.length_replicate] at *); omega))) (And.intro (fun m7 => (by first | exact room | exact (A1 k (ltN k m0)).1 | exact (A1 k (ltN k m0)).2.1 | exact (A1 k (ltN k m0)).2.2.1 | exact (A2 k (ltN k m0)).1 | exact (A2 k (ltN k m0)).2.1 | exact (A2 k (ltN k m0)).2.2.1 | (intros; (try subst_vars); (try simp only [Bool.cond_true_left, Bool.cond_false_right, Bool.or_eq_true, Bool.or_eq_false_iff, Bool.and_eq_true, Bool.not_eq_true', Bool.not_eq_false', decide_eq_true_eq, decide_eq_false_iff_not, Int.not_lt, Int.not_le] at *); (try simp only [inK, big, lim, List.length_cons, List.length_nil, List.length_append, List.length_drop, List.length_take, List.length_replicate] at *); omega))) (And.intro (fun m8 => (by first | exact room | exact (A1 k (ltN k m0)).1 | exact (A1 k (ltN k m0)).2.1 | exact (A1 k (ltN k m0)).2.2.1 | exact (A2 k (ltN k m0)).1 | exact (A2 k (ltN k m0)).2.1 | exact (A2 k (ltN k m0)).2.2.1 | (intros; (try subst_vars); (try simp only [Bool.cond_true_left, Bool.cond_false_right, Bool.or_eq_true, Bool.or_eq_false_iff, Bool.and_eq_true, Bool.not_eq_true', Bool.not_eq_false', decide_eq_true_eq, decide_eq_false_iff_not, Int.not_lt, Int.not_le] at *); (try simp only [inK, big, lim, List.length_cons, List.length_nil, List.length_append, List.length_drop, List.length_take, List.length_replicate] at *); omega))) (And.intro (by first | exact room | exact (A1 k (ltN k m0)).1 | exact (A1 k (ltN k m0)).2.1 | exact (A1 k (ltN k m0)).2.2.1 | exact (A2 k (ltN k m0)).1 | exact (A2 k (ltN k m0)).2.1 | exact (A2 k (ltN k m0)).2.2.1 | (intros; (try subst_vars); (try simp only [Bool.cond_true_left, Bool.cond_false_right, Bool.or_eq_true, Bool.or_eq_false_iff, Bool.and_eq_true, Bool.not_eq_true', Bool.not_eq_false', decide_eq_true_eq, decide_eq_false_iff_not, Int.not_lt, Int.not_le] at *); (try simp only [inK, big, lim, List.length_cons, List.length_nil, List.length_append, List.length_drop, List.length_take, List.length_replicate] at *); omega)) ?_)))))))))) (fun m0 => (And.intro (fun m9 => (And.intro (by first | exact room | exact (A1 k (ltN k m0)).1 | exact (A1 k (ltN k m0)).2.1 | exact (A1 k (ltN k m0)).2.2.1 | exact (A2 k (ltN k m0)).1 | exact (A2 k (ltN k m0)).2.1 | exact (A2 k (ltN k m0)).2.2.1 | (intros; (try subst_vars); (try simp only [Bool.cond_true_left, Bool.cond_false_right, Bool.or_eq_true, Bool.or_eq_false_iff, Bool.and_eq_true, Bool.not_eq_true', Bool.not_eq_false', decide_eq_true_eq, decide_eq_false_iff_not, Int.not_lt, Int.not_le] at *); (try simp only [inK, big, lim, List.length_cons, List.length_nil, List.length_append, List.length_drop, List.length_take, List.length_replicate] at *); omega)) (And.intro (by first | exact room | exact (A1 k (ltN k m0)).1 | exact (A1 k (ltN k m0)).2.1 | exact (A1 k (ltN k m0)).2.2.1 | exact (A2 k (ltN k m0)).1 | exact (A2 k (ltN k m0)).2.1 | exact (A2 k (ltN k m0)).2.2.1 | (intros; (try subst_vars); (try simp only [Bool.cond_true_left, Bool.cond_false_right, Bool.or_eq_true, Bool.or_eq_false_iff, Bool.and_eq_true, Bool.not_eq_true', Bool.not_eq_false', decide_eq_true_eq, decide_eq_false_iff_not, Int.not_lt, Int.not_le] at *); (try simp only [inK, big, lim, List.length_cons, List.length_nil, List.length_append, List.length_drop, List.length_take, List.length_replicate] at *); omega)) (And.intro (by first | exact room | exact (A1 k (ltN k m0)).1 | exact (A1 k (ltN k m0)).2.1 | exact (A1 k (ltN k m0)).2.2.1 | exact (A2 k (ltN k m0)).1 | exact (A2 k (ltN k m0)).2.1 | exact (A2 k (ltN k m0)).2.2.1 | (intros; (try subst_vars); (try simp only [Bool.cond_true_left, Bool.cond_false_right, Bool.or_eq_true, Bool.or_eq_false_iff, Bool.and_eq_true, Bool.not_eq_true', Bool.not_eq_false', decide_eq_true_eq, decide_eq_false_iff_not, Int.not_lt, Int.not_le] at *); (try simp only [inK, big, lim, List.length_cons, List.length_nil, List.length_append, List.length_drop, List.length_take, List.length_replicate] at *); omega)) ?_)))) (fun m9 => (And.intro (by first | exact room | exact (A1 k (ltN k m0)).1 | exact (A1 k (ltN k m0)).2.1 | exact (A1 k (ltN k m0)).2.2.1 | exact (A2 k (ltN k m0)).1 | exact (A2 k (ltN k m0)).2.1 | exact (A2 k (ltN k m0)).2.2.1 | (intros; (try subst_vars); (try simp only [Bool.cond_true_left, Bool.cond_false_right, Bool.or_eq_true, Bool.or_eq_false_iff, Bool.and_eq_true, Bool.not_eq_true', Bool.not_eq_false', decide_eq_true_eq, decide_eq_false_iff_not, Int.not_lt, Int.not_le] at *); (try simp only [inK, big, lim, List.length_cons, List.length_nil, List.length_append, List.length_drop, List.length_take, List.length_replicate] at *); omega)) ?_)))))
    · have hk' := ltN k m0
      refine Exists.intro ((k + 1, _)) (Exists.intro ([some 0, some 1]) (And.intro ?_ (And.intro ?_ (And.intro (by rfl) (And.intro (by rfl) (And.intro (And.intro (by rfl) (And.intro (by rfl) True.intro)) (by rfl)))))))
      · refine ⟨hk', ?_⟩
        rw [range_any, ← hb]
        show (bif b then true else bif (flat N (inL l)).getD ((l.getD (i : Int).toNat (dflt tE)).1 * (N : Int) + (k : Int)).toNat false then (flat N (inL l)).getD ((k : Int) * (N : Int) + (l.getD (i : Int).toNat (dflt tE)).2).toNat false else false) = _
        rw [(A1 k hk').2.2.2, (A2 k hk').2.2.2]
        cases b <;> cases inL l a k <;> rfl
      · show N - (k + 1) < N - k
        omega
    · have hk' : k = N := Nat.le_antisymm hk (geN k m0)
      subst hk'
      have eb : covB k (inL l) (l.getD i (dflt tE)) = b := by rw [covB, ha, hc]; exact hb.symm
      refine Exists.intro (i + 1) (Exists.intro ([some 0, some 3]) (And.intro ?_ (And.intro ?_ (And.intro (by rfl) (And.intro (by rfl) (And.intro (And.intro (by rfl) (And.intro ?_ True.intro)) (by rfl)))))))
      · exact hi'
      · show l.length - (i + 1) < l.length - i
        omega
      · refine congrArg (Ob.rows tE) ?_
        rw [take_filter hi', eb, if_pos m9]
        rfl
    · have hk' : k = N := Nat.le_antisymm hk (geN k m0)
      subst hk'
      have eb : covB k (inL l) (l.getD i (dflt tE)) = b := by rw [covB, ha, hc]; exact hb.symm
      refine Exists.intro (i + 1) (Exists.intro ([some 0, some 1]) (And.intro ?_ (And.intro ?_ (And.intro (by rfl) (And.intro (by rfl) (And.intro (And.intro (by rfl) (And.intro ?_ True.intro)) (by rfl)))))))
      · exact hi'
      · show l.length - (i + 1) < l.length - i
        omega
      · refine congrArg (Ob.rows tE) ?_
        rw [take_filter hi', eb, if_neg (by rw [m9]; simp), List.append_nil]
  · have hi' := ge i k1
    rw [List.take_of_length_le (by omega)]
    show ((coversF (N : Int) l).1, (coversF (N : Int) l).2, ()) = _
    rw [eg]
    rfl
def c30 : Ctr := fnC [dI, dEs] rEs (fun _ => True) (fun y => (concF y.1 y.2.1, ()))
set_option maxHeartbeats 4000000 in
theorem good30 : GoodC Try.prog 30 c30 := by
  refine goodF cxRC_good 4 _ _ _ _ ⟨_, Try.func30, rfl, rfl⟩ fun (⟨n, l, _⟩ : Int × List Ed × Unit) _ => ?_
  have mk : checkF n l = 0 → 0 ≤ n ∧ n ≤ 200 ∧ insideAll n l := fun h => ⟨(chk_ok h).1, (chk_ok h).2.1, (chk_ok h).2.2.2⟩
  refine (And.intro (by first | kernel_rfl | rfl) (And.intro True.intro (And.intro (fun h0 => (fin_of rfl ?_)) (fun h0 => (And.intro (by first | exact mk (by simpa using h0) | (intros; (try subst_vars); (try simp only [Bool.cond_true_left, Bool.cond_false_right, Bool.or_eq_true, Bool.or_eq_false_iff, Bool.and_eq_true, Bool.not_eq_true', Bool.not_eq_false', decide_eq_true_eq, decide_eq_false_iff_not, Int.not_lt, Int.not_le] at *); (try simp only [inK, big, lim, List.length_cons, List.length_nil, List.length_append, List.length_drop, List.length_take, List.length_replicate] at *); omega)) ?_)))))
  · have h0' : checkF n l ≠ 0 := by simpa using h0
    show (concF n l, ()) = ([], ())
    rw [concF, if_pos h0']
  have h0' : checkF n l = 0 := by simpa using h0
  obtain ⟨n0, n1, n2, hl⟩ := chk_ok h0'
  have eg : concF n l = pairsF n.toNat (concG (inL l)) := by rw [concF, if_neg (by simp [h0'])]
  obtain ⟨N, rfl⟩ : ∃ N : Nat, n = (N : Int) := ⟨n.toNat, by omega⟩
  have hN : N ≤ 200 := by omega
  have hnn := nn_room hN
  have F := fun (f : Nat → Nat → Bool) (a b : Nat) (ha : a < N) (hb : b < N) => flat_ix hnn f ha hb
  have ltN : ∀ a : Nat, decide ((a : Int) < (N : Int)) = true → a < N := fun a h => by have := of_decide_eq_true h; omega
  have geN : ∀ a : Nat, decide ((a : Int) < (N : Int)) = false → N ≤ a := fun a h => by have := of_decide_eq_false h; omega
  refine ex4 _ (fun i : Nat => ⟨[.int .i64 ↑N, .any, .any, .any, .any, .own 0, .own 1, .int .i64 (i : Int), .any, .any, .any, .any, .any, .any, .any, .any, .any, .any, .any, .any, .any, .any, .any, .any, .any, .any, .any, .any, .any, .any, .any, .any, .any, .any, .any, .any, .any, .any, .any, .any, .any, .any, .any, .any, .any, .any, .any, .any, .any, .any, .any, .any, .any, .any, .any], [.rows .bool (flat N (inL l)), .rows tE (accI N (concG (inL l)) i)], 2⟩) (fun i => i ≤ N) (fun i => N - i) (And.intro (Exists.intro (0) (Exists.intro ([some 0, none]) (And.intro ?_ (And.intro (by rfl) (And.intro (by rfl) (And.intro (And.intro (by rfl) (And.intro (by rfl) True.intro)) (by rfl))))))) ?_)
  · exact Nat.zero_le _
  rintro i hi
  refine (And.intro (fun k0 => (And.intro (by intros; (try subst_vars); (try simp only [Bool.cond_true_left, Bool.cond_false_right, Bool.or_eq_true, Bool.or_eq_false_iff, Bool.and_eq_true, Bool.not_eq_true', Bool.not_eq_false', decide_eq_true_eq, decide_eq_false_iff_not, Int.not_lt, Int.not_le] at *); (try simp only [inK, big, lim, List.length_cons, List.length_nil, List.length_append, List.length_drop, List.length_take, List.length_replicate] at *); omega) ?_)) (fun k0 => (fin_of rfl ?_)))
  · have hi' := ltN i k0
    refine ex4 _ (fun j : Nat => ⟨[.int .i64 (↑N : Int), .any, .any, .any, .any, .own 0, .own 1, .int .i64 (↑i : Int), .int .i64 (j : Int), .any, .any, .any, .any, .any, .any, .any, .int .i64 (↑i : Int), .int .i64 (↑N : Int), .bool (decide ((↑i : Int) < (↑N : Int))), .any, .any, .int .i64 (↑i : Int), .int .i64 ((↑i : Int) + 1), .any, .any, .any, .any, .any, .any, .any, .any, .any, .any, .any, .any, .any, .any, .any, .any, .any, .any, .any, .any, .any, .any, .any, .any, .any, .any, .any, .any, .any, .any, .any, .any], [.rows .bool (flat N (inL l)), .rows tE (accI N (concG (inL l)) i ++ rowP N (concG (inL l)) i j)], 2⟩) (fun j => i < j ∧ j ≤ N) (fun j => N - j) (And.intro (Exists.intro ((i + 1)) (Exists.intro ([some 0, some 1]) (And.intro ?_ (And.intro (by rfl) (And.intro (by rfl) (And.intro (And.intro (by rfl) (And.intro ?_ True.intro)) (by rfl))))))) ?_)
    · exact ⟨Nat.lt_succ_self _, hi'⟩
    · exact congrArg (Ob.rows tE) (by rw [row_conc _ _ _ _ (Nat.le_refl _), List.append_nil])
    rintro j ⟨hij, hj⟩
    have room : ((accI N (concG (inL l)) i ++ rowP N (concG (inL l)) i j).length + 1) * 16 ≤ lim := by
      have := acc_row_len (concG (inL l)) (n := N) (i := i) (j := j) (by omega) hi hj
      simp only [lim]
      omega
    refine (And.intro (fun m0 => (And.intro (by first | exact room | exact (F (fun _ _ => false) i j hi' (ltN j m0)).1 | exact (F (fun _ _ => false) i j hi' (ltN j m0)).2.1 | exact (F _ i j hi' (ltN j m0)).2.2.1 | exact (F (fun _ _ => false) j i (ltN j m0) hi').1 | exact (F (fun _ _ => false) j i (ltN j m0) hi').2.1 | exact (F _ j i (ltN j m0) hi').2.2.1 | (intros; (try subst_vars); (try simp only [Bool.cond_true_left, Bool.cond_false_right, Bool.or_eq_true, Bool.or_eq_false_iff, Bool.and_eq_true, Bool.not_eq_true', Bool.not_eq_false', decide_eq_true_eq, decide_eq_false_iff_not, Int.not_lt, Int.not_le] at *); (try simp only [inK, big, lim, List.length_cons, List.length_nil, List.length_append, List.length_drop, List.length_take, List.length_replicate] at *); omega)) (And.intro (by first | exact room | exact (F (fun _ _ => false) i j hi' (ltN j m0)).1 | exact (F (fun _ _ => false) i j hi' (ltN j m0)).2.1 | exact (F _ i j hi' (ltN j m0)).2.2.1 | exact (F (fun _ _ => false) j i (ltN j m0) hi').1 | exact (F (fun _ _ => false) j i (ltN j m0) hi').2.1 | exact (F _ j i (ltN j m0) hi').2.2.1 | (intros; (try subst_vars); (try simp only [Bool.cond_true_left, Bool.cond_false_right, Bool.or_eq_true, Bool.or_eq_false_iff, Bool.and_eq_true, Bool.not_eq_true', Bool.not_eq_false', decide_eq_true_eq, decide_eq_false_iff_not, Int.not_lt, Int.not_le] at *); (try simp only [inK, big, lim, List.length_cons, List.length_nil, List.length_append, List.length_drop, List.length_take, List.length_replicate] at *); omega)) (And.intro (by first | exact room | exact (F (fun _ _ => false) i j hi' (ltN j m0)).1 | exact (F (fun _ _ => false) i j hi' (ltN j m0)).2.1 | exact (F _ i j hi' (ltN j m0)).2.2.1 | exact (F (fun _ _ => false) j i (ltN j m0) hi').1 | exact (F (fun _ _ => false) j i (ltN j m0) hi').2.1 | exact (F _ j i (ltN j m0) hi').2.2.1 | (intros; (try subst_vars); (try simp only [Bool.cond_true_left, Bool.cond_false_right, Bool.or_eq_true, Bool.or_eq_false_iff, Bool.and_eq_true, Bool.not_eq_true', Bool.not_eq_false', decide_eq_true_eq, decide_eq_false_iff_not, Int.not_lt, Int.not_le] at *); (try simp only [inK, big, lim, List.length_cons, List.length_nil, List.length_append, List.length_drop, List.length_take, List.length_replicate] at *); omega)) (And.intro (fun m1 => (by first | exact room | exact (F (fun _ _ => false) i j hi' (ltN j m0)).1 | exact (F (fun _ _ => false) i j hi' (ltN j m0)).2.1 | exact (F _ i j hi' (ltN j m0)).2.2.1 | exact (F (fun _ _ => false) j i (ltN j m0) hi').1 | exact (F (fun _ _ => false) j i (ltN j m0) hi').2.1 | exact (F _ j i (ltN j m0) hi').2.2.1 | (intros; (try subst_vars); (try simp only [Bool.cond_true_left, Bool.cond_false_right, Bool.or_eq_true, Bool.or_eq_false_iff, Bool.and_eq_true, Bool.not_eq_true', Bool.not_eq_false', decide_eq_true_eq, decide_eq_false_iff_not, Int.not_lt, Int.not_le] at *); (try simp only [inK, big, lim, List.length_cons, List.length_nil, List.length_append, List.length_drop, List.length_take, List.length_replicate] at *); omega))) (And.intro (fun m2 => (by first | exact room | exact (F (fun _ _ => false) i j hi' (ltN j m0)).1 | exact (F (fun _ _ => false) i j hi' (ltN j m0)).2.1 | exact (F _ i j hi' (ltN j m0)).2.2.1 | exact (F (fun _ _ => false) j i (ltN j m0) hi').1 | exact (F (fun _ _ => false) j i (ltN j m0) hi').2.1 | exact (F _ j i (ltN j m0) hi').2.2.1 | (intros; (try subst_vars); (try simp only [Bool.cond_true_left, Bool.cond_false_right, Bool.or_eq_true, Bool.or_eq_false_iff, Bool.and_eq_true, Bool.not_eq_true', Bool.not_eq_false', decide_eq_true_eq, decide_eq_false_iff_not, Int.not_lt, Int.not_le] at *); (try simp only [inK, big, lim, List.length_cons, List.length_nil, List.length_append, List.length_drop, List.length_take, List.length_replicate] at *); omega))) (And.intro (fun m3 => (by first | exact room | exact (F (fun _ _ => false) i j hi' (ltN j m0)).1 | exact (F (fun _ _ => false) i j hi' (ltN j m0)).2.1 | exact (F _ i j hi' (ltN j m0)).2.2.1 | exact (F (fun _ _ => false) j i (ltN j m0) hi').1 | exact (F (fun _ _ => false) j i (ltN j m0) hi').2.1 | exact (F _ j i (ltN j m0) hi').2.2.1 | (intros; (try subst_vars); (try simp only [Bool.cond_true_left, Bool.cond_false_right, Bool.or_eq_true, Bool.or_eq_false_iff, Bool.and_eq_true, Bool.not_eq_true', Bool.not_eq_false', decide_eq_true_eq, decide_eq_false_iff_not, Int.not_lt, Int.not_le] at *); (try simp only [inK, big, lim, List.length_cons, List.length_nil, List.length_append, List.length_drop, List.length_take, List.length_replicate] at *); omega))) (And.intro (fun m4 => (And.intro (by first | exact room | exact (F (fun _ _ => false) i j hi' (ltN j m0)).1 | exact (F (fun _ _ => false) i j hi' (ltN j m0)).2.1 | exact (F _ i j hi' (ltN j m0)).2.2.1 | exact (F (fun _ _ => false) j i (ltN j m0) hi').1 | exact (F (fun _ _ => false) j i (ltN j m0) hi').2.1 | exact (F _ j i (ltN j m0) hi').2.2.1 | (intros; (try subst_vars); (try simp only [Bool.cond_true_left, Bool.cond_false_right, Bool.or_eq_true, Bool.or_eq_false_iff, Bool.and_eq_true, Bool.not_eq_true', Bool.not_eq_false', decide_eq_true_eq, decide_eq_false_iff_not, Int.not_lt, Int.not_le] at *); (try simp only [inK, big, lim, List.length_cons, List.length_nil, List.length_append, List.length_drop, List.length_take, List.length_replicate] at *); omega)) (And.intro (by first | exact room | exact (F (fun _ _ => false) i j hi' (ltN j m0)).1 | exact (F (fun _ _ => false) i j hi' (ltN j m0)).2.1 | exact (F _ i j hi' (ltN j m0)).2.2.1 | exact (F (fun _ _ => false) j i (ltN j m0) hi').1 | exact (F (fun _ _ => false) j i (ltN j m0) hi').2.1 | exact (F _ j i (ltN j m0) hi').2.2.1 | (intros; (try subst_vars); (try simp only [Bool.cond_true_left, Bool.cond_false_right, Bool.or_eq_true, Bool.or_eq_false_iff, Bool.and_eq_true, Bool.not_eq_true', Bool.not_eq_false', decide_eq_true_eq, decide_eq_false_iff_not, Int.not_lt, Int.not_le] at *); (try simp only [inK, big, lim, List.length_cons, List.length_nil, List.length_append, List.length_drop, List.length_take, List.length_replicate] at *); omega)) ?_))) (fun m4 => (And.intro (by first | exact room | exact (F (fun _ _ => false) i j hi' (ltN j m0)).1 | exact (F (fun _ _ => false) i j hi' (ltN j m0)).2.1 | exact (F _ i j hi' (ltN j m0)).2.2.1 | exact (F (fun _ _ => false) j i (ltN j m0) hi').1 | exact (F (fun _ _ => false) j i (ltN j m0) hi').2.1 | exact (F _ j i (ltN j m0) hi').2.2.1 | (intros; (try subst_vars); (try simp only [Bool.cond_true_left, Bool.cond_false_right, Bool.or_eq_true, Bool.or_eq_false_iff, Bool.and_eq_true, Bool.not_eq_true', Bool.not_eq_false', decide_eq_true_eq, decide_eq_false_iff_not, Int.not_lt, Int.not_le] at *); (try simp only [inK, big, lim, List.length_cons, List.length_nil, List.length_append, List.length_drop, List.length_take, List.length_replicate] at *); omega)) ?_)))))))))) (fun m0 => (And.intro (by first | exact room | exact (F (fun _ _ => false) i j hi' (ltN j m0)).1 | exact (F (fun _ _ => false) i j hi' (ltN j m0)).2.1 | exact (F _ i j hi' (ltN j m0)).2.2.1 | exact (F (fun _ _ => false) j i (ltN j m0) hi').1 | exact (F (fun _ _ => false) j i (ltN j m0) hi').2.1 | exact (F _ j i (ltN j m0) hi').2.2.1 | (intros; (try subst_vars); (try simp only [Bool.cond_true_left, Bool.cond_false_right, Bool.or_eq_true, Bool.or_eq_false_iff, Bool.and_eq_true, Bool.not_eq_true', Bool.not_eq_false', decide_eq_true_eq, decide_eq_false_iff_not, Int.not_lt, Int.not_le] at *); (try simp only [inK, big, lim, List.length_cons, List.length_nil, List.length_append, List.length_drop, List.length_take, List.length_replicate] at *); omega)) ?_)))
    · have hj' := ltN j m0
      have e : concG (inL l) i j = true := by
        have h3 : (bif !(flat N (inL l)).getD ((i : Int) * (N : Int) + (j : Int)).toNat false then !(flat N (inL l)).getD ((j : Int) * (N : Int) + (i : Int)).toNat false else false) = true := m4
        rw [(F _ i j hi' hj').2.2.2.1, (F _ j i hj' hi').2.2.2.1] at h3
        simp only [concG, decide_eq_true hij, Bool.true_and]
        revert h3
        cases inL l i j <;> cases inL l j i <;> simp
      refine Exists.intro (j + 1) (Exists.intro ([some 0, some 3]) (And.intro ?_ (And.intro ?_ (And.intro (by rfl) (And.intro (by rfl) (And.intro (And.intro (by rfl) (And.intro ?_ True.intro)) (by rfl)))))))
      · exact ⟨by omega, hj'⟩
      · show N - (j + 1) < N - j
        omega
      · refine congrArg (Ob.rows tE) ?_
        rw [row_next, if_pos e, List.append_assoc]
    · have hj' := ltN j m0
      have e : concG (inL l) i j = false := by
        have h3 : (bif !(flat N (inL l)).getD ((i : Int) * (N : Int) + (j : Int)).toNat false then !(flat N (inL l)).getD ((j : Int) * (N : Int) + (i : Int)).toNat false else false) = false := m4
        rw [(F _ i j hi' hj').2.2.2.1, (F _ j i hj' hi').2.2.2.1] at h3
        simp only [concG, decide_eq_true hij, Bool.true_and]
        revert h3
        cases inL l i j <;> cases inL l j i <;> simp
      refine Exists.intro (j + 1) (Exists.intro ([some 0, some 1]) (And.intro ?_ (And.intro ?_ (And.intro (by rfl) (And.intro (by rfl) (And.intro (And.intro (by rfl) (And.intro ?_ True.intro)) (by rfl)))))))
      · exact ⟨by omega, hj'⟩
      · show N - (j + 1) < N - j
        omega
      · refine congrArg (Ob.rows tE) ?_
        rw [row_next, if_neg (by simp [e]), List.append_nil]
    · have ej : j = N := Nat.le_antisymm hj (geN _ m0)
      subst ej
      refine Exists.intro (i + 1) (Exists.intro ([some 0, some 1]) (And.intro ?_ (And.intro ?_ (And.intro (by rfl) (And.intro (by rfl) (And.intro (And.intro (by rfl) (And.intro ?_ True.intro)) (by rfl)))))))
      · exact hi'
      · show j - (i + 1) < j - i
        omega
      · refine congrArg (Ob.rows tE) ?_
        rw [acc_next]
  · have ei : i = N := Nat.le_antisymm hi (geN _ k0)
    subst ei
    show (concF (i : Int) l, ()) = _
    rw [eg]; rfl
end Go.Proofs.Ytlaefkhbpnbahaa
/- Partial orders: Extends of the reference, as a contract. -/
namespace Go.Proofs.Ytlaefkhbpnbahaa
open Go.Sx
def c29 : Ctr := fnC [dI, dEs, dIs] rB (fun _ => True) (fun y => (extF y.1 y.2.1 y.2.2.1, ()))
set_option maxHeartbeats 4000000 in
theorem good29 : GoodC Try.prog 29 c29 := by
  refine goodF cxRC_good 4 _ _ _ _ ⟨_, Try.func29, rfl, rfl⟩ fun (⟨n, l, o, _⟩ : Int × List Ed × List Int × Unit) _ => ?_
  have dec : (bif !decide (checkF n l = 0) then true else !decide ((o.length : Int) = n)) = false → checkF n l = 0 ∧ (o.length : Int) = n := fun h => by
    by_cases h1 : checkF n l = 0 <;> by_cases h2 : (o.length : Int) = n <;> simp_all
  have mk : ∀ k : Nat, k ≤ 8 → checkF n l = 0 → 0 ≤ n ∧ n ≤ n ∧ n * (k : Int) ≤ (lim : Int) ∧ n ≤ (lim : Int) := fun k hk h => by
    obtain ⟨n0, n1, -⟩ := chk_ok h
    have : n * (k : Int) ≤ 200 * 8 := Int.mul_le_mul n1 (by omega) (by omega) (by omega)
    simp only [lim]
    omega
  refine (And.intro (by first | kernel_rfl | rfl) (And.intro True.intro (fun h0 => (And.intro (fun h1 => (fin_of rfl ?_)) (fun h1 => (And.intro (by first | exact mk _ (by decide) (dec h1).1 | (intros; (try subst_vars); (try simp only [Bool.cond_true_left, Bool.cond_false_right, Bool.or_eq_true, Bool.or_eq_false_iff, Bool.and_eq_true, Bool.not_eq_true', Bool.not_eq_false', decide_eq_true_eq, decide_eq_false_iff_not, Int.not_lt, Int.not_le] at *); (try simp only [inK, big, lim, List.length_cons, List.length_nil, List.length_append, List.length_drop, List.length_take, List.length_replicate] at *); omega)) ?_))))))
  · show (extF n l o, ()) = (false, ())
    have : extF n l o = false := by
      unfold extF
      by_cases h2 : checkF n l = 0
      · have h3 : ¬ (o.length : Int) = n := fun e => by simp [h2, e] at h1
        simp [h3]
      · simp [h2]
    rw [this]
  obtain ⟨h0', ho⟩ := dec h1
  obtain ⟨n0, n1, n2, hl⟩ := chk_ok h0'
  have eg : extF n l o = (decide (goodO n o) && !l.any fun p => decide (placeAt o p.2 ≤ placeAt o p.1)) := by simp [extF, h0', ho]
  obtain ⟨N, rfl⟩ : ∃ N : Nat, n = (N : Int) := ⟨n.toNat, by omega⟩
  have hN : N ≤ 200 := by omega
  have ltN : ∀ a : Nat, decide ((a : Int) < (N : Int)) = true → a < N := fun a h => by have := of_decide_eq_true h; omega
  have geN : ∀ a : Nat, decide ((a : Int) < (N : Int)) = false → N ≤ a := fun a h => by have := of_decide_eq_false h; omega
  refine ex4 _ (fun i : Nat => ⟨[.int .i64 ↑N, .sl tE l, .sl (.int .i64) o, .any, .any, .any, .any, .own 0, .int .i64 (i : Int), .any, .any, .any, .any, .any, .any, .any, .any, .any, .any, .any, .any, .any, .any, .any, .any, .any, .any, .any, .any, .any, .any, .any, .any, .any, .any, .any, .any, .any, .any, .any, .any, .any, .any, .any, .any, .any, .any, .any, .any, .any, .any, .any, .any, .any, .any, .any, .any, .any, .any, .any, .any, .any, .any, .any, .any, .any, .any, .any, .any, .any, .any, .any, .any, .any, .any, .any, .any, .any, .any, .any, .any, .any, .any, .any, .any, .any, .any, .any, .any], [.rows tI (List.replicate i (-1) ++ List.replicate (N - i) 0)], 1⟩) (fun i => i ≤ N) (fun i => N - i) (And.intro (Exists.intro (0) (Exists.intro ([some 0]) (And.intro ?_ (And.intro (by rfl) (And.intro (by rfl) (And.intro (And.intro (by rfl) True.intro) (by rfl))))))) ?_)
  · exact Nat.zero_le _
  rintro i hi
  have plen : (List.replicate i (-1 : Int) ++ List.replicate (N - i) 0).length = N := by simp; omega
  have fx : ∀ a : Nat, a < N → 0 ≤ (a : Int) ∧ (a : Int) < ((List.replicate i (-1 : Int) ++ List.replicate (N - i) 0).length : Int) := fun a h => by rw [plen]; omega
  refine (And.intro (fun k0 => (And.intro (by first | exact fx i (ltN i k0) | (intros; (try subst_vars); (try simp only [Bool.cond_true_left, Bool.cond_false_right, Bool.or_eq_true, Bool.or_eq_false_iff, Bool.and_eq_true, Bool.not_eq_true', Bool.not_eq_false', decide_eq_true_eq, decide_eq_false_iff_not, Int.not_lt, Int.not_le] at *); (try simp only [inK, big, lim, List.length_cons, List.length_nil, List.length_append, List.length_drop, List.length_take, List.length_replicate] at *); omega)) (And.intro (by first | exact fx i (ltN i k0) | (intros; (try subst_vars); (try simp only [Bool.cond_true_left, Bool.cond_false_right, Bool.or_eq_true, Bool.or_eq_false_iff, Bool.and_eq_true, Bool.not_eq_true', Bool.not_eq_false', decide_eq_true_eq, decide_eq_false_iff_not, Int.not_lt, Int.not_le] at *); (try simp only [inK, big, lim, List.length_cons, List.length_nil, List.length_append, List.length_drop, List.length_take, List.length_replicate] at *); omega)) ?_))) (fun k0 => ?_))
  · have hi' := ltN i k0
    refine Exists.intro (i + 1) (Exists.intro ([some 0]) (And.intro ?_ (And.intro ?_ (And.intro (by rfl) (And.intro (by rfl) (And.intro (And.intro ?_ True.intro) (by rfl)))))))
    · exact hi'
    · show N - (i + 1) < N - i
      omega
    · refine congrArg (Ob.rows tI) ?_
      show (List.replicate i (-1 : Int) ++ List.replicate (N - i) 0).set i (-1) = _
      rw [List.set_append_right _ _ (by simp), List.length_replicate, Nat.sub_self, show N - i = (N - (i + 1)) + 1 by omega, List.replicate_succ, List.set_cons_zero, List.replicate_succ', List.append_assoc]
      rfl
  have ei : N = i := (Nat.le_antisymm hi (geN i k0)).symm
  subst ei
  refine ex4 _ (fun i : Nat => ⟨[.int .i64 (↑N : Int), .sl tE l, .sl (.int .i64) o, .any, .any, .any, .any, .own 0, .any, .int .i64 (i : Int), .any, .any, .any, .any, .any, .any, .any, .any, .any, .any, .any, .any, .any, .any, .any, .any, .any, .any, .any, .any, .any, .any, .any, .any, .any, .any, .any, .any, .any, .any, .any, .any, .any, .any, .any, .any, .any, .any, .any, .any, .any, .any, .any, .any, .any, .any, .any, .any, .any, .any, .any, .any, .any, .any, .any, .any, .any, .any, .any, .any, .any, .any, .any, .any, .any, .any, .any, .any, .any, .any, .any, .any, .any, .any, .any, .any, .any, .any, .any], [.rows tI (rowM N (o.take i))], 1⟩) (fun i => i ≤ N ∧ goodO (N : Int) (o.take i)) (fun i => N - i) (And.intro (Exists.intro (0) (Exists.intro ([some 0]) (And.intro ?_ (And.intro (by rfl) (And.intro (by rfl) (And.intro (And.intro ?_ True.intro) (by rfl))))))) ?_)
  · exact ⟨Nat.zero_le _, fun x hx => by simp at hx, by simp⟩
  · refine congrArg (Ob.rows tI) ?_
    rw [List.take_zero, rowM_zero, Nat.sub_self]
    simp
  rintro i ⟨hi2, hg⟩
  have fa : (bif decide (o.getD i 0 < 0) then true else decide ((N : Int) ≤ o.getD i 0)) = false → 0 ≤ o.getD i 0 ∧ o.getD i 0 < (N : Int) := fun h => by
    generalize o.getD i 0 = x at h ⊢
    by_cases h1 : x < 0
    · simp [h1] at h
    · simp [h1] at h
      omega
  have fm : (bif decide (o.getD i 0 < 0) then true else decide ((N : Int) ≤ o.getD i 0)) = false → 0 ≤ o.getD i 0 ∧ o.getD i 0 < ((rowM N (o.take i)).length : Int) := fun h => by
    rw [rowM_len]; exact fa h
  have fb : (bif bif decide (o.getD i 0 < 0) then true else decide ((N : Int) ≤ o.getD i 0) then true else decide (0 ≤ (rowM N (o.take i)).getD (o.getD i 0).toNat 0)) = false → (bif decide (o.getD i 0 < 0) then true else decide ((N : Int) ≤ o.getD i 0)) = false ∧ ¬ (0 ≤ (rowM N (o.take i)).getD (o.getD i 0).toNat 0) := fun h => by
    revert h
    cases (bif decide (o.getD i 0 < 0) then true else decide ((N : Int) ≤ o.getD i 0)) <;> simp
  have io : i < N → i < o.length := fun h => by omega
  refine (And.intro (fun m0 => (And.intro (by first | exact fm m3 | exact fm (fb m4).1 | (intros; (try subst_vars); (try simp only [Bool.cond_true_left, Bool.cond_false_right, Bool.or_eq_true, Bool.or_eq_false_iff, Bool.and_eq_true, Bool.not_eq_true', Bool.not_eq_false', decide_eq_true_eq, decide_eq_false_iff_not, Int.not_lt, Int.not_le] at *); (try simp only [inK, big, lim, List.length_cons, List.length_nil, List.length_append, List.length_drop, List.length_take, List.length_replicate] at *); omega)) (And.intro (fun m1 => (by first | exact fm m3 | exact fm (fb m4).1 | (intros; (try subst_vars); (try simp only [Bool.cond_true_left, Bool.cond_false_right, Bool.or_eq_true, Bool.or_eq_false_iff, Bool.and_eq_true, Bool.not_eq_true', Bool.not_eq_false', decide_eq_true_eq, decide_eq_false_iff_not, Int.not_lt, Int.not_le] at *); (try simp only [inK, big, lim, List.length_cons, List.length_nil, List.length_append, List.length_drop, List.length_take, List.length_replicate] at *); omega))) (And.intro (fun m2 => (by first | exact fm m3 | exact fm (fb m4).1 | (intros; (try subst_vars); (try simp only [Bool.cond_true_left, Bool.cond_false_right, Bool.or_eq_true, Bool.or_eq_false_iff, Bool.and_eq_true, Bool.not_eq_true', Bool.not_eq_false', decide_eq_true_eq, decide_eq_false_iff_not, Int.not_lt, Int.not_le] at *); (try simp only [inK, big, lim, List.length_cons, List.length_nil, List.length_append, List.length_drop, List.length_take, List.length_replicate] at *); omega))) (And.intro (fun m3 => (by first | exact fm m3 | exact fm (fb m4).1 | (intros; (try subst_vars); (try simp only [Bool.cond_true_left, Bool.cond_false_right, Bool.or_eq_true, Bool.or_eq_false_iff, Bool.and_eq_true, Bool.not_eq_true', Bool.not_eq_false', decide_eq_true_eq, decide_eq_false_iff_not, Int.not_lt, Int.not_le] at *); (try simp only [inK, big, lim, List.length_cons, List.length_nil, List.length_append, List.length_drop, List.length_take, List.length_replicate] at *); omega))) (And.intro (fun m4 => (fin_of rfl ?_)) (fun m4 => (And.intro (by first | exact fm m3 | exact fm (fb m4).1 | (intros; (try subst_vars); (try simp only [Bool.cond_true_left, Bool.cond_false_right, Bool.or_eq_true, Bool.or_eq_false_iff, Bool.and_eq_true, Bool.not_eq_true', Bool.not_eq_false', decide_eq_true_eq, decide_eq_false_iff_not, Int.not_lt, Int.not_le] at *); (try simp only [inK, big, lim, List.length_cons, List.length_nil, List.length_append, List.length_drop, List.length_take, List.length_replicate] at *); omega)) (And.intro (by first | exact fm m3 | exact fm (fb m4).1 | (intros; (try subst_vars); (try simp only [Bool.cond_true_left, Bool.cond_false_right, Bool.or_eq_true, Bool.or_eq_false_iff, Bool.and_eq_true, Bool.not_eq_true', Bool.not_eq_false', decide_eq_true_eq, decide_eq_false_iff_not, Int.not_lt, Int.not_le] at *); (try simp only [inK, big, lim, List.length_cons, List.length_nil, List.length_append, List.length_drop, List.length_take, List.length_replicate] at *); omega)) (And.intro (by first | exact fm m3 | exact fm (fb m4).1 | (intros; (try subst_vars); (try simp only [Bool.cond_true_left, Bool.cond_false_right, Bool.or_eq_true, Bool.or_eq_false_iff, Bool.and_eq_true, Bool.not_eq_true', Bool.not_eq_false', decide_eq_true_eq, decide_eq_false_iff_not, Int.not_lt, Int.not_le] at *); (try simp only [inK, big, lim, List.length_cons, List.length_nil, List.length_append, List.length_drop, List.length_take, List.length_replicate] at *); omega)) ?_)))))))))) (fun m0 => ?_))
  · have hi' := io (ltN i m0)
    have hb : ¬ goodO (N : Int) o := by
      refine pl_bad hi' ?_
      by_cases h1 : o.getD i 0 < 0
      · exact Or.inl h1
      · by_cases h2 : (N : Int) ≤ o.getD i 0
        · exact Or.inr (Or.inl h2)
        · refine Or.inr (Or.inr ?_)
          have m4' : (bif bif decide (o.getD i 0 < 0) then true else decide ((N : Int) ≤ o.getD i 0) then true else decide (0 ≤ (rowM N (o.take i)).getD (o.getD i 0).toNat 0)) = true := m4
          rw [decide_eq_false h1, decide_eq_false h2, rowM_at _ (by omega) (by omega)] at m4'
          refine Classical.byContradiction fun hc => ?_
          have := placeM_neg.2 hc
          have : 0 ≤ placeM (o.take i) (o.getD i 0) := of_decide_eq_true m4'
          omega
    show (extF (N : Int) l o, ()) = (false, ())
    rw [eg, decide_eq_false hb]; rfl
  · have hi' := io (ltN i m0)
    obtain ⟨f1, f2⟩ := fb m4
    obtain ⟨f3, f4⟩ := fa f1
    rw [rowM_at _ f3 f4] at f2
    have hm : o.getD i 0 ∉ o.take i := placeM_neg.1 (by omega)
    refine Exists.intro (i + 1) (Exists.intro ([some 0]) (And.intro ?_ (And.intro ?_ (And.intro (by rfl) (And.intro (by rfl) (And.intro (And.intro ?_ True.intro) (by rfl)))))))
    · exact ⟨ltN i m0, goodO_take hi' hg f3 f4 hm⟩
    · show N - (i + 1) < N - i
      have := ltN i m0
      omega
    · exact congrArg (Ob.rows tI) (rowM_next hi' f3 hm)
  have ei : N = i := (Nat.le_antisymm hi2 (geN i m0)).symm
  subst ei
  have et : o.take N = o := List.take_of_length_le (by omega)
  rw [et] at hg
  have eg1 : extF (N : Int) l o = !(l.any fun p => decide (placeM o p.2 < placeM o p.1)) := by
    rw [eg, decide_eq_true hg, ref_late (check_iff.1 h0') ho hg]; rfl
  refine ex4 _ (fun i : Nat => ⟨[.any, .sl tE l, .any, .any, .any, .any, .any, .own 0, .any, .any, .int .i64 (i : Int), .any, .any, .any, .any, .any, .any, .any, .any, .any, .any, .any, .any, .any, .any, .any, .any, .any, .any, .any, .any, .any, .any, .any, .any, .any, .any, .any, .any, .any, .any, .any, .any, .any, .any, .any, .any, .any, .any, .any, .any, .any, .any, .any, .any, .any, .any, .any, .any, .any, .any, .any, .any, .any, .any, .any, .any, .any, .any, .any, .any, .any, .any, .any, .any, .any, .any, .any, .any, .any, .any, .any, .any, .any, .any, .any, .any, .any, .any], [.rows tI (rowM N o)], 1⟩) (fun i => i ≤ l.length ∧ (l.take i).any (fun p => decide (placeM o p.2 < placeM o p.1)) = false) (fun i => l.length - i) (And.intro (Exists.intro (0) (Exists.intro ([some 0]) (And.intro ?_ (And.intro (by rfl) (And.intro (by rfl) (And.intro (And.intro ?_ True.intro) (by rfl))))))) ?_)
  · simp
  · exact congrArg (fun z => Ob.rows tI (rowM N z)) et
  rintro i ⟨hi3, hv⟩
  have lt : ∀ a : Nat, decide ((a : Int) < (l.length : Int)) = true → a < l.length := fun a h => by have := of_decide_eq_true h; omega
  have ge : ∀ a : Nat, decide ((a : Int) < (l.length : Int)) = false → ¬ a < l.length := fun a h => by have := of_decide_eq_false h; omega
  have hin := fun h => inside_get hl (lt i h)
  have g1 : decide ((i : Int) < (l.length : Int)) = true → 0 ≤ (l.getD i (dflt tE)).1 ∧ (l.getD i (dflt tE)).1 < ((rowM N o).length : Int) := fun h => by have := hin h; rw [rowM_len]; omega
  have g2 : decide ((i : Int) < (l.length : Int)) = true → 0 ≤ (l.getD i (dflt tE)).2 ∧ (l.getD i (dflt tE)).2 < ((rowM N o).length : Int) := fun h => by have := hin h; rw [rowM_len]; omega
  refine (fun v0 => (And.intro (fun v1 => (And.intro (by first | kernel_rfl | rfl) (And.intro (by first | exact g1 v1 | exact g2 v1 | (intros; (try subst_vars); (try simp only [Bool.cond_true_left, Bool.cond_false_right, Bool.or_eq_true, Bool.or_eq_false_iff, Bool.and_eq_true, Bool.not_eq_true', Bool.not_eq_false', decide_eq_true_eq, decide_eq_false_iff_not, Int.not_lt, Int.not_le] at *); (try simp only [inK, big, lim, List.length_cons, List.length_nil, List.length_append, List.length_drop, List.length_take, List.length_replicate] at *); omega)) (And.intro (by first | exact g1 v1 | exact g2 v1 | (intros; (try subst_vars); (try simp only [Bool.cond_true_left, Bool.cond_false_right, Bool.or_eq_true, Bool.or_eq_false_iff, Bool.and_eq_true, Bool.not_eq_true', Bool.not_eq_false', decide_eq_true_eq, decide_eq_false_iff_not, Int.not_lt, Int.not_le] at *); (try simp only [inK, big, lim, List.length_cons, List.length_nil, List.length_append, List.length_drop, List.length_take, List.length_replicate] at *); omega)) (And.intro (by first | exact g1 v1 | exact g2 v1 | (intros; (try subst_vars); (try simp only [Bool.cond_true_left, Bool.cond_false_right, Bool.or_eq_true, Bool.or_eq_false_iff, Bool.and_eq_true, Bool.not_eq_true', Bool.not_eq_false', decide_eq_true_eq, decide_eq_false_iff_not, Int.not_lt, Int.not_le] at *); (try simp only [inK, big, lim, List.length_cons, List.length_nil, List.length_append, List.length_drop, List.length_take, List.length_replicate] at *); omega)) (And.intro (by first | exact g1 v1 | exact g2 v1 | (intros; (try subst_vars); (try simp only [Bool.cond_true_left, Bool.cond_false_right, Bool.or_eq_true, Bool.or_eq_false_iff, Bool.and_eq_true, Bool.not_eq_true', Bool.not_eq_false', decide_eq_true_eq, decide_eq_false_iff_not, Int.not_lt, Int.not_le] at *); (try simp only [inK, big, lim, List.length_cons, List.length_nil, List.length_append, List.length_drop, List.length_take, List.length_replicate] at *); omega)) (And.intro (fun v2 => (fin_of rfl ?_)) (fun v2 => (And.intro (by first | exact g1 v1 | exact g2 v1 | (intros; (try subst_vars); (try simp only [Bool.cond_true_left, Bool.cond_false_right, Bool.or_eq_true, Bool.or_eq_false_iff, Bool.and_eq_true, Bool.not_eq_true', Bool.not_eq_false', decide_eq_true_eq, decide_eq_false_iff_not, Int.not_lt, Int.not_le] at *); (try simp only [inK, big, lim, List.length_cons, List.length_nil, List.length_append, List.length_drop, List.length_take, List.length_replicate] at *); omega)) ?_))))))))) (fun v1 => (fin_of rfl ?_))))
  · have hi' := lt i v1
    have hr := hin v1
    have e : (l.any fun p => decide (placeM o p.2 < placeM o p.1)) = true := any_hit (d := dflt tE) hi' (by
      have v2' : decide ((rowM N o).getD (l.getD i (dflt tE)).2.toNat 0 < (rowM N o).getD (l.getD i (dflt tE)).1.toNat 0) = true := v2
      rw [rowM_at _ hr.2.2.1 hr.2.2.2, rowM_at _ hr.1 hr.2.1] at v2'
      exact v2')
    show (extF (N : Int) l o, ()) = (false, ())
    rw [eg1, e]; rfl
  · have hi' := lt i v1
    have hr := hin v1
    refine Exists.intro (i + 1) (Exists.intro ([some 0]) (And.intro ?_ (And.intro ?_ (And.intro (by rfl) (And.intro (by rfl) (And.intro (And.intro (by rfl) True.intro) (by rfl)))))))
    · refine ⟨hi', any_next (d := dflt tE) hi' hv ?_⟩
      have v2' : decide ((rowM N o).getD (l.getD i (dflt tE)).2.toNat 0 < (rowM N o).getD (l.getD i (dflt tE)).1.toNat 0) = false := v2
      rw [rowM_at _ hr.2.2.1 hr.2.2.2, rowM_at _ hr.1 hr.2.1] at v2'
      exact v2'
    · show l.length - (i + 1) < l.length - i
      omega
  · have hi' := ge i v1
    rw [List.take_of_length_le (by omega)] at hv
    show (extF (N : Int) l o, ()) = (true, ())
    rw [eg1, hv]; rfl
end Go.Proofs.Ytlaefkhbpnbahaa
/- Partial orders: Least of the reference, as a contract. -/
namespace Go.Proofs.Ytlaefkhbpnbahaa
open Go.Sx
def c34 : Ctr := fnC [dI, dEs] rIsI (fun _ => True) (fun y => ((leastF y.1 y.2.1).1, (leastF y.1 y.2.1).2, ()))
set_option maxHeartbeats 4000000 in
theorem good34 : GoodC Try.prog 34 c34 := by
  refine goodF cxRC_good 6 _ _ _ _ ⟨_, Try.func34, rfl, rfl⟩ fun (⟨n, l, _⟩ : Int × List Ed × Unit) _ => ?_
  have mk1 : checkF n l = 0 → 0 ≤ n ∧ n ≤ n ∧ n * ((1 : Nat) : Int) ≤ (lim : Int) ∧ n ≤ (lim : Int) := fun h => by
    obtain ⟨n0, n1, -⟩ := chk_ok h
    simp only [lim]
    omega
  refine (And.intro (by first | kernel_rfl | rfl) (And.intro True.intro (And.intro (fun h0 => (fin_of rfl ?_)) (fun h0 => (And.intro (by first | exact mk1 (by simpa using h0) | (intros; (try subst_vars); (try simp only [Bool.cond_true_left, Bool.cond_false_right, Bool.or_eq_true, Bool.or_eq_false_iff, Bool.and_eq_true, Bool.not_eq_true', Bool.not_eq_false', decide_eq_true_eq, decide_eq_false_iff_not, Int.not_lt, Int.not_le] at *); (try simp only [inK, big, lim, List.length_cons, List.length_nil, List.length_append, List.length_drop, List.length_take, List.length_replicate] at *); omega)) ?_)))))
  · have h0' : checkF n l ≠ 0 := by simpa using h0
    show ((leastF n l).1, (leastF n l).2, ()) = ([], checkF n l, ())
    rw [leastF, if_pos h0']
  have h0' : checkF n l = 0 := by simpa using h0
  obtain ⟨n0, n1, n2, hl⟩ := chk_ok h0'
  have ho := check_iff.1 h0'
  have eg : leastF n l = ((leastK n.toNat (inL l) n.toNat).2, 0) := by rw [leastF, if_neg (by simp [h0'])]
  obtain ⟨N, rfl⟩ : ∃ N : Nat, n = (N : Int) := ⟨n.toNat, by omega⟩
  have hN : N ≤ 200 := by omega
  refine ex4 _ (fun i : Nat => ⟨[.int .i64 ↑N, .sl tE l, .any, .any, .any, .any, .any, .own 0, .own 1, .any, .any, .any, .any, .any, .any, .any, .any, .any, .any, .any, .any, .any, .any, .any, .any, .any, .any, .any, .any, .any, .any, .any, .any, .any, .any, .any, .any], [.rows .bool (leastK N (inL l) i).1, .rows tI (leastK N (inL l) i).2], 2⟩) (fun i => i ≤ N) (fun i => N - i) (And.intro (Exists.intro (0) (Exists.intro ([some 0, none]) (And.intro ?_ (And.intro (by rfl) (And.intro (by rfl) (And.intro (And.intro (by rfl) (And.intro (by rfl) True.intro)) (by rfl))))))) ?_)
  · exact Nat.zero_le _
  rintro i hi
  have olen := least_out (n := N) ho.irr ho.tr i hi
  have ulen := least_len N (inL l) i
  have fr : ∀ x, x < N → freeB N (inL l) (leastK N (inL l) i).1 x = (!(leastK N (inL l) i).1.getD x false && !l.any (blkE (leastK N (inL l) i).1 x)) := fun x h => free_ref (n := (N : Int)) hl h
  refine (fun k0 => (And.intro (fun k1 => ?_) (fun k1 => (fin_of rfl ?_))))
  · have hi' : i < N := by
      have := of_decide_eq_true k1
      rw [olen] at this
      omega
    obtain ⟨z, hz, hfind, hfree⟩ := least_step (n := N) ho.irr ho.tr hi'
    have hnz : ∀ j, j < z → freeB N (inL l) (leastK N (inL l) i).1 j = false := fun j hj => by
      have := (List.find?_range_eq_some.1 hfind).2.2 j hj
      simpa using this
    have el : leastK N (inL l) (i + 1) = ((leastK N (inL l) i).1.set z true, (leastK N (inL l) i).2 ++ [(z : Int)]) := by rw [leastK, hfind]
    refine ex4 _ (fun x : Nat => ⟨[.int .i64 (↑N : Int), .sl tE l, .any, .any, .any, .any, .any, .own 0, .own 1, .int .i64 (x : Int), .any, .any, .any, .any, .any, .any, .any, .any, .own 1, .int .i64 (↑(leastK N (inL l) i).2.length : Int), .int .i64 (↑N : Int), .bool (decide ((↑(leastK N (inL l) i).2.length : Int) < (↑N : Int))), .any, .any, .any, .any, .any, .any, .any, .any, .any, .any, .any, .any, .any, .any, .any], [.rows .bool (leastK N (inL l) i).1, .rows tI (leastK N (inL l) i).2], 2⟩) (fun x => x ≤ z) (fun x => z - x) (And.intro (Exists.intro (0) (Exists.intro ([some 0, some 1]) (And.intro ?_ (And.intro (by rfl) (And.intro (by rfl) (And.intro (And.intro (by rfl) (And.intro (by rfl) True.intro)) (by rfl))))))) ?_)
    · exact Nat.zero_le _
    rintro x hx
    have fu : 0 ≤ (x : Int) ∧ (x : Int) < ((leastK N (inL l) i).1.length : Int) := by rw [ulen]; omega
    have room : ((leastK N (inL l) i).2.length + 1) * 8 ≤ lim := by
      rw [olen]
      simp only [lim]
      omega
    refine (And.intro (by first | kernel_rfl | rfl) (And.intro (by first | exact fu | exact room | (intros; (try subst_vars); (try simp only [Bool.cond_true_left, Bool.cond_false_right, Bool.or_eq_true, Bool.or_eq_false_iff, Bool.and_eq_true, Bool.not_eq_true', Bool.not_eq_false', decide_eq_true_eq, decide_eq_false_iff_not, Int.not_lt, Int.not_le] at *); (try simp only [inK, big, lim, List.length_cons, List.length_nil, List.length_append, List.length_drop, List.length_take, List.length_replicate] at *); omega)) (And.intro (fun m0 => (And.intro (fun m1 => (And.intro (by first | exact fu | exact room | (intros; (try subst_vars); (try simp only [Bool.cond_true_left, Bool.cond_false_right, Bool.or_eq_true, Bool.or_eq_false_iff, Bool.and_eq_true, Bool.not_eq_true', Bool.not_eq_false', decide_eq_true_eq, decide_eq_false_iff_not, Int.not_lt, Int.not_le] at *); (try simp only [inK, big, lim, List.length_cons, List.length_nil, List.length_append, List.length_drop, List.length_take, List.length_replicate] at *); omega)) ?_)) (fun m1 => False.elim (Bool.false_ne_true (Eq.symm (Eq.trans (by kernel_rfl) m1)))))) (fun m0 => ?_))))
    · have e : freeB N (inL l) (leastK N (inL l) i).1 x = false := by
        have m0' : (leastK N (inL l) i).1.getD x false = true := m0
        rw [fr x (by omega), m0']; rfl
      have hxz : x < z := by
        rcases Nat.lt_or_eq_of_le hx with h | h
        · exact h
        · subst h; rw [hfree] at e; cases e
      refine Exists.intro (x + 1) (Exists.intro ([some 0, some 1]) (And.intro ?_ (And.intro ?_ (And.intro (by rfl) (And.intro (by rfl) (And.intro (And.intro (by rfl) (And.intro (by rfl) True.intro)) (by rfl)))))))
      · exact hxz
      · show z - (x + 1) < z - x
        omega
    have m0' : (leastK N (inL l) i).1.getD x false = false := m0
    refine ex4 _ (fun j : Nat => ⟨[.sl tE l, .own 0, .int .i64 (↑x : Int), .any, .any, .any, .any, .int .i64 (j : Int), .own 0, .int .i64 (↑x : Int), .any, .any, .any, .any, .any, .any, .any, .any, .any, .any, .any, .any, .any, .any, .any, .any, .any, .any, .any, .any, .any, .any, .any, .any, .any, .any], [.rows .bool (leastK N (inL l) i).1, .rows tI (leastK N (inL l) i).2], 2⟩) (fun j => j ≤ l.length ∧ (l.take j).any (blkE (leastK N (inL l) i).1 x) = false) (fun j => l.length - j) (And.intro (Exists.intro (0) (Exists.intro ([some 0, some 1]) (And.intro ?_ (And.intro (by rfl) (And.intro (by rfl) (And.intro (And.intro (by rfl) (And.intro (by rfl) True.intro)) (by rfl))))))) ?_)
    · simp
    rintro j ⟨hj, hv⟩
    have lt : ∀ a : Nat, decide ((a : Int) < (l.length : Int)) = true → a < l.length := fun a h => by have := of_decide_eq_true h; omega
    have ge : ∀ a : Nat, decide ((a : Int) < (l.length : Int)) = false → ¬ a < l.length := fun a h => by have := of_decide_eq_false h; omega
    have gin : decide ((j : Int) < (l.length : Int)) = true → 0 ≤ (l.getD j (dflt tE)).1 ∧ (l.getD j (dflt tE)).1 < ((leastK N (inL l) i).1.length : Int) := fun h => by
      have := inside_get hl (lt j h)
      rw [ulen]
      omega
    refine (fun v0 => (And.intro (fun v1 => (And.intro (by first | exact gin v1 | (intros; (try subst_vars); (try simp only [Bool.cond_true_left, Bool.cond_false_right, Bool.or_eq_true, Bool.or_eq_false_iff, Bool.and_eq_true, Bool.not_eq_true', Bool.not_eq_false', decide_eq_true_eq, decide_eq_false_iff_not, Int.not_lt, Int.not_le] at *); (try simp only [inK, big, lim, List.length_cons, List.length_nil, List.length_append, List.length_drop, List.length_take, List.length_replicate] at *); omega)) (And.intro (fun v2 => (by first | exact gin v1 | (intros; (try subst_vars); (try simp only [Bool.cond_true_left, Bool.cond_false_right, Bool.or_eq_true, Bool.or_eq_false_iff, Bool.and_eq_true, Bool.not_eq_true', Bool.not_eq_false', decide_eq_true_eq, decide_eq_false_iff_not, Int.not_lt, Int.not_le] at *); (try simp only [inK, big, lim, List.length_cons, List.length_nil, List.length_append, List.length_drop, List.length_take, List.length_replicate] at *); omega))) (And.intro (fun v3 => (by first | exact gin v1 | (intros; (try subst_vars); (try simp only [Bool.cond_true_left, Bool.cond_false_right, Bool.or_eq_true, Bool.or_eq_false_iff, Bool.and_eq_true, Bool.not_eq_true', Bool.not_eq_false', decide_eq_true_eq, decide_eq_false_iff_not, Int.not_lt, Int.not_le] at *); (try simp only [inK, big, lim, List.length_cons, List.length_nil, List.length_append, List.length_drop, List.length_take, List.length_replicate] at *); omega))) (And.intro (fun v4 => (And.intro (fun v5 => (And.intro (by first | exact gin v1 | (intros; (try subst_vars); (try simp only [Bool.cond_true_left, Bool.cond_false_right, Bool.or_eq_true, Bool.or_eq_false_iff, Bool.and_eq_true, Bool.not_eq_true', Bool.not_eq_false', decide_eq_true_eq, decide_eq_false_iff_not, Int.not_lt, Int.not_le] at *); (try simp only [inK, big, lim, List.length_cons, List.length_nil, List.length_append, List.length_drop, List.length_take, List.length_replicate] at *); omega)) ?_)) (fun v5 => False.elim (Bool.false_ne_true (Eq.symm (Eq.trans (by kernel_rfl) v5)))))) (fun v4 => (And.intro (by first | exact gin v1 | (intros; (try subst_vars); (try simp only [Bool.cond_true_left, Bool.cond_false_right, Bool.or_eq_true, Bool.or_eq_false_iff, Bool.and_eq_true, Bool.not_eq_true', Bool.not_eq_false', decide_eq_true_eq, decide_eq_false_iff_not, Int.not_lt, Int.not_le] at *); (try simp only [inK, big, lim, List.length_cons, List.length_nil, List.length_append, List.length_drop, List.length_take, List.length_replicate] at *); omega)) ?_))))))) (fun v1 => (And.intro (fun v6 => False.elim (Bool.false_ne_true (Eq.trans (by kernel_rfl) v6))) (fun v6 => (And.intro (by first | exact gin v1 | (intros; (try subst_vars); (try simp only [Bool.cond_true_left, Bool.cond_false_right, Bool.or_eq_true, Bool.or_eq_false_iff, Bool.and_eq_true, Bool.not_eq_true', Bool.not_eq_false', decide_eq_true_eq, decide_eq_false_iff_not, Int.not_lt, Int.not_le] at *); (try simp only [inK, big, lim, List.length_cons, List.length_nil, List.length_append, List.length_drop, List.length_take, List.length_replicate] at *); omega)) (And.intro (by first | exact gin v1 | (intros; (try subst_vars); (try simp only [Bool.cond_true_left, Bool.cond_false_right, Bool.or_eq_true, Bool.or_eq_false_iff, Bool.and_eq_true, Bool.not_eq_true', Bool.not_eq_false', decide_eq_true_eq, decide_eq_false_iff_not, Int.not_lt, Int.not_le] at *); (try simp only [inK, big, lim, List.length_cons, List.length_nil, List.length_append, List.length_drop, List.length_take, List.length_replicate] at *); omega)) ?_)))))))
    · have hj' := lt j v1
      have e : freeB N (inL l) (leastK N (inL l) i).1 x = false := by
        rw [fr x (by omega), m0', any_hit (p := blkE (leastK N (inL l) i).1 x) (d := dflt tE) hj' (by
          rw [← (show (bif decide ((l.getD j (dflt tE)).2 = (x : Int)) then !(leastK N (inL l) i).1.getD (l.getD j (dflt tE)).1.toNat false else false) = true from v4)]
          unfold blkE
          cases decide ((l.getD j (dflt tE)).2 = (x : Int)) <;> rfl)]
        rfl
      have hxz : x < z := by
        rcases Nat.lt_or_eq_of_le hx with h | h
        · exact h
        · subst h; rw [hfree] at e; cases e
      refine Exists.intro (x + 1) (Exists.intro ([some 0, some 1]) (And.intro ?_ (And.intro ?_ (And.intro (by rfl) (And.intro (by rfl) (And.intro (And.intro (by rfl) (And.intro (by rfl) True.intro)) (by rfl)))))))
      · exact hxz
      · show z - (x + 1) < z - x
        omega
    · have hj' := lt j v1
      refine Exists.intro (j + 1) (Exists.intro ([some 0, some 1]) (And.intro ?_ (And.intro ?_ (And.intro (by rfl) (And.intro (by rfl) (And.intro (And.intro (by rfl) (And.intro (by rfl) True.intro)) (by rfl)))))))
      · refine ⟨hj', any_next (d := dflt tE) hj' hv ?_⟩
        rw [← (show (bif decide ((l.getD j (dflt tE)).2 = (x : Int)) then !(leastK N (inL l) i).1.getD (l.getD j (dflt tE)).1.toNat false else false) = false from v4)]
        unfold blkE
        cases decide ((l.getD j (dflt tE)).2 = (x : Int)) <;> rfl
      · show l.length - (j + 1) < l.length - j
        omega
    · have hj' := ge j v1
      rw [List.take_of_length_le (by omega)] at hv
      have e : freeB N (inL l) (leastK N (inL l) i).1 x = true := by rw [fr x (by omega), m0', hv]; rfl
      have hxz : z = x := by
        rcases Nat.lt_or_eq_of_le hx with h | h
        · rw [hnz x h] at e; cases e
        · exact h.symm
      subst hxz
      refine Exists.intro (i + 1) (Exists.intro ([some 0, some 3]) (And.intro ?_ (And.intro ?_ (And.intro (by rfl) (And.intro (by rfl) (And.intro (And.intro ?_ (And.intro ?_ True.intro)) (by rfl)))))))
      · exact hi'
      · show N - (i + 1) < N - i
        omega
      · refine congrArg (Ob.rows .bool) ?_
        rw [el]; rfl
      · refine congrArg (Ob.rows tI) ?_
        rw [el]
  · have e : N = i := by
      have h : ¬ (((leastK N (inL l) i).2.length : Int) < (N : Int)) := of_decide_eq_false k1
      rw [olen] at h
      omega
    subst e
    show ((leastF (N : Int) l).1, (leastF (N : Int) l).2, ()) = _
    rw [eg]; rfl
end Go.Proofs.Ytlaefkhbpnbahaa
/- Partial orders: the search of the reference. -/
namespace Go.Proofs.Ytlaefkhbpnbahaa
open Go.Sx
def rxT (used : List Bool) (out : List (List Int)) : List Ob := [.rows .bool used, .rows tIs out]
def rxT1 (used : List Bool) (out : List (List Int)) : List Ob := [.rows .bool used, .dead, .rows tIs out]
/-- What a call with k unused elements does. -/
def RelR (k : Nat) : FuncId → List AV → List Ob → AV → List Ob → Prop := fun g args T x1 T1 =>
  ∃ (N : Nat) (l : List Ed) (m : Nat) (used : List Bool) (done : List Int) (out : List (List Int)), N ≤ 200 ∧ m ≤ 5000 ∧ insideAll (N : Int) l ∧ used.length = N ∧ done.length + used.count false = N ∧ used.count false = k ∧ out.length ≤ m ∧
    g = 43 ∧ args = [.int .i64 (N : Int), .sl tE l, .int .i64 (m : Int), .own 0, .sl tI done, .own 1] ∧ T = rxT used out ∧ x1 = .own 2 ∧ T1 = rxT1 used (extR N (inL l) m k used done out)
set_option maxHeartbeats 4000000 in
theorem walk43 (base : CallSem) (N : Nat) (l : List Ed) (m : Nat) (used : List Bool) (done : List Int) (out : List (List Int)) (d : Nat) (hN : N ≤ 200) (hm : m ≤ 5000) (hl : insideAll (N : Int) l) (hu : used.length = N) (hdn : done.length + used.count false = N) (hd : used.count false = d) (ho : out.length ≤ m)
    (hbase : ∀ k args H m K, k + 1 = d → giveS (frameS (RelR k)) 43 args H m K → base 43 args H m K) :
    callS cx0 Try.prog (condS 43 base (callS cx0 Try.prog base)) 43 [.int .i64 (N : Int), .sl tE l, .int .i64 (m : Int), .own 0, .sl tI done, .own 1] [.rows .bool used, .rows tIs out] 2
      (fun x T' n' => ∃ σ, weak 2 σ [noW x] T' n' ⟨[.own 2], rxT1 used (extR N (inL l) m d used done out), 3⟩) := by
  have room : out.length + 1 ≤ 5001 := by omega
  have room' : (out.length + 1) * 24 ≤ lim := by simp only [lim]; omega
  have roomd : done.length * 8 ≤ lim ∧ done.length ≤ lim := by simp only [lim]; omega
  refine (And.intro (by first | kernel_rfl | rfl) (fun h0 => (And.intro (fun h1 => ?_) (fun h1 => (fun h2 => (And.intro (fun h3 => (And.intro (by first | (intros; (try subst_vars); (try simp only [Bool.cond_true_left, Bool.cond_false_right, Bool.or_eq_true, Bool.or_eq_false_iff, Bool.and_eq_true, Bool.not_eq_true', Bool.not_eq_false', decide_eq_true_eq, decide_eq_false_iff_not, Int.not_lt, Int.not_le] at *); (try simp only [inK, big, lim, List.length_cons, List.length_nil, List.length_append, List.length_drop, List.length_take, List.length_replicate] at *); omega) | exact room' | exact roomd.1 | exact roomd.2) (And.intro (by first | (intros; (try subst_vars); (try simp only [Bool.cond_true_left, Bool.cond_false_right, Bool.or_eq_true, Bool.or_eq_false_iff, Bool.and_eq_true, Bool.not_eq_true', Bool.not_eq_false', decide_eq_true_eq, decide_eq_false_iff_not, Int.not_lt, Int.not_le] at *); (try simp only [inK, big, lim, List.length_cons, List.length_nil, List.length_append, List.length_drop, List.length_take, List.length_replicate] at *); omega) | exact room' | exact roomd.1 | exact roomd.2) ?_))) (fun h3 => ?_)))))))
  · have h1' : m ≤ out.length := by have := of_decide_eq_true h1; omega
    have e : extR N (inL l) m d used done out = out := by
      cases d with
      | zero => rw [extR, if_pos h1']
      | succ d => rw [extR, if_pos h1']
    rw [e]
    exact Exists.intro [some 0, none, some 1] ⟨by rfl, by rfl, ⟨by rfl, by rfl, trivial⟩, by rfl⟩
  · have h1' : ¬ m ≤ out.length := by have := of_decide_eq_false h1; omega
    have h3' : done.length = N := by have := of_decide_eq_true h3; omega
    have hd0 : d = 0 := by omega
    subst hd0
    rw [extR, if_neg h1']
    exact Exists.intro [some 0, none, some 4] ⟨by rfl, by rfl, ⟨by rfl, by rfl, trivial⟩, by rfl⟩
  have h1' : ¬ m ≤ out.length := by have := of_decide_eq_false h1; omega
  have h3' : done.length ≠ N := by have := of_decide_eq_false h3; omega
  obtain ⟨c, rfl⟩ : ∃ c, d = c + 1 := ⟨d - 1, by omega⟩
  rw [extR_succ _ _ _ _ _ _ _ h1']
  have ltN : ∀ a : Nat, decide ((a : Int) < (N : Int)) = true → a < N := fun a h => by have := of_decide_eq_true h; omega
  have geN : ∀ a : Nat, decide ((a : Int) < (N : Int)) = false → N ≤ a := fun a h => by have := of_decide_eq_false h; omega
  have lt : ∀ a : Nat, decide ((a : Int) < (l.length : Int)) = true → a < l.length := fun a h => by have := of_decide_eq_true h; omega
  have ge : ∀ a : Nat, decide ((a : Int) < (l.length : Int)) = false → ¬ a < l.length := fun a h => by have := of_decide_eq_false h; omega
  refine ex4 _ (fun x : Nat => ⟨[.int .i64 (↑N : Int), .sl tE l, .int .i64 (↑m : Int), .own 0, .sl tI done, .own 2, .any, .any, .any, .any, .any, .any, .any, .int .i64 (x : Int), .any, .any, .any, .any, .any, .any, .any, .any, .any, .any, .any, .any, .any, .any, .any, .any, .any, .any, .any, .any, .any, .any, .any, .any, .any, .any, .any, .any, .any, .any, .any, .any, .any, .any, .any, .any, .any, .any, .any, .any, .any, .any, .any, .any, .any, .any], [.rows .bool used, .dead, .rows tIs ((List.range x).foldl (refStep N (inL l) m c used done) out)], 3⟩) (fun x => x ≤ N) (fun x => N - x) (And.intro (Exists.intro (0) (Exists.intro ([some 0, some 1, some 1]) (And.intro ?_ (And.intro (by rfl) (And.intro (by rfl) (And.intro (And.intro (by rfl) (And.intro (by rfl) True.intro)) (by rfl))))))) ?_)
  · exact Nat.zero_le _
  rintro x hx
  have fu : ∀ a : Nat, a < N → 0 ≤ (a : Int) ∧ (a : Int) < (used.length : Int) := fun a h => by rw [hu]; omega
  refine (And.intro (fun k0 => (And.intro (by first | kernel_rfl | rfl) (And.intro (by first | (intros; (try subst_vars); (try simp only [Bool.cond_true_left, Bool.cond_false_right, Bool.or_eq_true, Bool.or_eq_false_iff, Bool.and_eq_true, Bool.not_eq_true', Bool.not_eq_false', decide_eq_true_eq, decide_eq_false_iff_not, Int.not_lt, Int.not_le] at *); (try simp only [inK, big, lim, List.length_cons, List.length_nil, List.length_append, List.length_drop, List.length_take, List.length_replicate] at *); omega) | exact fu _ (ltN x k0)) (And.intro (fun k1 => (And.intro (fun k2 => False.elim (Bool.false_ne_true (Eq.trans (by kernel_rfl) k2))) (fun k2 => (And.intro (by first | (intros; (try subst_vars); (try simp only [Bool.cond_true_left, Bool.cond_false_right, Bool.or_eq_true, Bool.or_eq_false_iff, Bool.and_eq_true, Bool.not_eq_true', Bool.not_eq_false', decide_eq_true_eq, decide_eq_false_iff_not, Int.not_lt, Int.not_le] at *); (try simp only [inK, big, lim, List.length_cons, List.length_nil, List.length_append, List.length_drop, List.length_take, List.length_replicate] at *); omega) | exact fu _ (ltN x k0)) ?_)))) (fun k1 => ?_))))) (fun k0 => ?_))
  · have hx' := ltN x k0
    have e : freeB N (inL l) used x = false := by
      have k1' : used.getD x false = true := k1
      rw [show freeB N (inL l) used x = _ from free_ref (n := (N : Int)) hl hx', k1']; rfl
    refine Exists.intro (x + 1) (Exists.intro ([some 0, some 1, some 2]) (And.intro ?_ (And.intro ?_ (And.intro (by rfl) (And.intro (by rfl) (And.intro (And.intro (by rfl) (And.intro ?_ True.intro)) (by rfl)))))))
    · exact hx'
    · show N - (x + 1) < N - x
      omega
    · refine congrArg (Ob.rows tIs) ?_
      rw [fold_next, refStep, if_neg (by rw [e]; decide)]
  · have hx' := ltN x k0
    have k1' : used.getD x false = false := k1
    have fr : freeB N (inL l) used x = (!used.getD x false && !l.any (blkE used x)) := free_ref (n := (N : Int)) hl hx'
    refine ex4 _ (fun j : Nat => ⟨[.sl tE l, .own 0, .int .i64 (↑x : Int), .any, .any, .any, .any, .int .i64 (j : Int), .any, .any, .any, .any, .any, .any, .any, .any, .any, .any, .any, .any, .any, .any, .any, .any, .any, .any, .any, .any, .any, .any, .any, .any, .any, .any, .any, .any], [.rows .bool used, .dead, .rows tIs ((List.range x).foldl (refStep N (inL l) m c used done) out)], 3⟩) (fun j => j ≤ l.length ∧ (l.take j).any (blkE used x) = false) (fun j => l.length - j) (And.intro (Exists.intro (0) (Exists.intro ([some 0, some 1, some 2]) (And.intro ?_ (And.intro (by rfl) (And.intro (by rfl) (And.intro (And.intro (by rfl) (And.intro (by rfl) True.intro)) (by rfl))))))) ?_)
    · simp
    rintro j ⟨hj, hv⟩
    have gin : decide ((j : Int) < (l.length : Int)) = true → 0 ≤ (l.getD j (dflt tE)).1 ∧ (l.getD j (dflt tE)).1 < (used.length : Int) := fun h => by
      have := inside_get hl (lt j h)
      rw [hu]
      omega
    have dn : 0 ≤ (done.length : Int) ∧ (done.length : Int) = (done.length : Int) ∧ (done.length : Int) ≤ (done.length : Int) := ⟨by omega, rfl, Int.le_refl _⟩
    have et : done.take (done.length : Int).toNat = done := List.take_of_length_le (by omega)
    have roomx : [(x : Int)] ≠ [] ∧ ((done.take (done.length : Int).toNat).length + [(x : Int)].length) * 8 ≤ lim := ⟨by simp, by rw [et]; simp only [lim, List.length_cons, List.length_nil]; omega⟩
    refine (fun v0 => (And.intro (fun v1 => (And.intro (by first | (intros; (try subst_vars); (try simp only [Bool.cond_true_left, Bool.cond_false_right, Bool.or_eq_true, Bool.or_eq_false_iff, Bool.and_eq_true, Bool.not_eq_true', Bool.not_eq_false', decide_eq_true_eq, decide_eq_false_iff_not, Int.not_lt, Int.not_le] at *); (try simp only [inK, big, lim, List.length_cons, List.length_nil, List.length_append, List.length_drop, List.length_take, List.length_replicate] at *); omega) | exact gin v1 | exact fu x hx' | exact dn | exact roomx) (And.intro (fun v2 => (by first | (intros; (try subst_vars); (try simp only [Bool.cond_true_left, Bool.cond_false_right, Bool.or_eq_true, Bool.or_eq_false_iff, Bool.and_eq_true, Bool.not_eq_true', Bool.not_eq_false', decide_eq_true_eq, decide_eq_false_iff_not, Int.not_lt, Int.not_le] at *); (try simp only [inK, big, lim, List.length_cons, List.length_nil, List.length_append, List.length_drop, List.length_take, List.length_replicate] at *); omega) | exact gin v1 | exact fu x hx' | exact dn | exact roomx)) (And.intro (fun v3 => (by first | (intros; (try subst_vars); (try simp only [Bool.cond_true_left, Bool.cond_false_right, Bool.or_eq_true, Bool.or_eq_false_iff, Bool.and_eq_true, Bool.not_eq_true', Bool.not_eq_false', decide_eq_true_eq, decide_eq_false_iff_not, Int.not_lt, Int.not_le] at *); (try simp only [inK, big, lim, List.length_cons, List.length_nil, List.length_append, List.length_drop, List.length_take, List.length_replicate] at *); omega) | exact gin v1 | exact fu x hx' | exact dn | exact roomx)) (And.intro (fun v4 => (And.intro (fun v5 => False.elim (Bool.false_ne_true (Eq.trans (by kernel_rfl) v5))) (fun v5 => (And.intro (by first | (intros; (try subst_vars); (try simp only [Bool.cond_true_left, Bool.cond_false_right, Bool.or_eq_true, Bool.or_eq_false_iff, Bool.and_eq_true, Bool.not_eq_true', Bool.not_eq_false', decide_eq_true_eq, decide_eq_false_iff_not, Int.not_lt, Int.not_le] at *); (try simp only [inK, big, lim, List.length_cons, List.length_nil, List.length_append, List.length_drop, List.length_take, List.length_replicate] at *); omega) | exact gin v1 | exact fu x hx' | exact dn | exact roomx) ?_)))) (fun v4 => (And.intro (by first | (intros; (try subst_vars); (try simp only [Bool.cond_true_left, Bool.cond_false_right, Bool.or_eq_true, Bool.or_eq_false_iff, Bool.and_eq_true, Bool.not_eq_true', Bool.not_eq_false', decide_eq_true_eq, decide_eq_false_iff_not, Int.not_lt, Int.not_le] at *); (try simp only [inK, big, lim, List.length_cons, List.length_nil, List.length_append, List.length_drop, List.length_take, List.length_replicate] at *); omega) | exact gin v1 | exact fu x hx' | exact dn | exact roomx) ?_))))))) (fun v1 => (And.intro (fun v6 => (And.intro (by first | (intros; (try subst_vars); (try simp only [Bool.cond_true_left, Bool.cond_false_right, Bool.or_eq_true, Bool.or_eq_false_iff, Bool.and_eq_true, Bool.not_eq_true', Bool.not_eq_false', decide_eq_true_eq, decide_eq_false_iff_not, Int.not_lt, Int.not_le] at *); (try simp only [inK, big, lim, List.length_cons, List.length_nil, List.length_append, List.length_drop, List.length_take, List.length_replicate] at *); omega) | exact gin v1 | exact fu x hx' | exact dn | exact roomx) (fun v7 => (fun v8 => (And.intro (by first | (intros; (try subst_vars); (try simp only [Bool.cond_true_left, Bool.cond_false_right, Bool.or_eq_true, Bool.or_eq_false_iff, Bool.and_eq_true, Bool.not_eq_true', Bool.not_eq_false', decide_eq_true_eq, decide_eq_false_iff_not, Int.not_lt, Int.not_le] at *); (try simp only [inK, big, lim, List.length_cons, List.length_nil, List.length_append, List.length_drop, List.length_take, List.length_replicate] at *); omega) | exact gin v1 | exact fu x hx' | exact dn | exact roomx) (And.intro (by first | (intros; (try subst_vars); (try simp only [Bool.cond_true_left, Bool.cond_false_right, Bool.or_eq_true, Bool.or_eq_false_iff, Bool.and_eq_true, Bool.not_eq_true', Bool.not_eq_false', decide_eq_true_eq, decide_eq_false_iff_not, Int.not_lt, Int.not_le] at *); (try simp only [inK, big, lim, List.length_cons, List.length_nil, List.length_append, List.length_drop, List.length_take, List.length_replicate] at *); omega) | exact gin v1 | exact fu x hx' | exact dn | exact roomx) ?_)))))) (fun v6 => False.elim (Bool.false_ne_true (Eq.symm (Eq.trans (by kernel_rfl) v6))))))))
    · have hj' := lt j v1
      have e : freeB N (inL l) used x = false := by
        rw [fr, k1', any_hit (p := blkE used x) (d := dflt tE) hj' (by
          rw [← (show (bif decide ((l.getD j (dflt tE)).2 = (x : Int)) then !used.getD (l.getD j (dflt tE)).1.toNat false else false) = true from v4)]
          unfold blkE
          cases decide ((l.getD j (dflt tE)).2 = (x : Int)) <;> rfl)]
        rfl
      refine Exists.intro (x + 1) (Exists.intro ([some 0, some 1, some 2]) (And.intro ?_ (And.intro ?_ (And.intro (by rfl) (And.intro (by rfl) (And.intro (And.intro (by rfl) (And.intro ?_ True.intro)) (by rfl)))))))
      · exact hx'
      · show N - (x + 1) < N - x
        omega
      · refine congrArg (Ob.rows tIs) ?_
        rw [fold_next, refStep, if_neg (by rw [e]; decide)]
    · have hj' := lt j v1
      refine Exists.intro (j + 1) (Exists.intro ([some 0, some 1, some 2]) (And.intro ?_ (And.intro ?_ (And.intro (by rfl) (And.intro (by rfl) (And.intro (And.intro (by rfl) (And.intro (by rfl) True.intro)) (by rfl)))))))
      · refine ⟨hj', any_next (d := dflt tE) hj' hv ?_⟩
        rw [← (show (bif decide ((l.getD j (dflt tE)).2 = (x : Int)) then !used.getD (l.getD j (dflt tE)).1.toNat false else false) = false from v4)]
        unfold blkE
        cases decide ((l.getD j (dflt tE)).2 = (x : Int)) <;> rfl
      · show l.length - (j + 1) < l.length - j
        omega
    have hj' := ge j v1
    rw [List.take_of_length_le (by omega)] at hv
    have e : freeB N (inL l) used x = true := by rw [fr, k1', hv]; rfl
    obtain ⟨hux, hcnt⟩ := freeB_used e (by rw [hu]; exact hx')
    have hfl := foldR_len (n := N) (f := inL l) (d := c) (used := used) (done := done) (List.range x) out ho
    refine hbase c _ _ _ _ rfl ⟨[4], True.intro, [.int .i64 (N : Int), .sl tE l, .int .i64 (m : Int), .own 0, .sl tI _, .own 1], rxT _ _, .own 2, rxT1 _ _, [some 0, some 2],
      ⟨N, l, m, used.set x true, done ++ [(x : Int)], _, hN, hm, hl, ?_, ?_, ?_, hfl, rfl, ?_, rfl, rfl, rfl⟩, ⟨by rfl, by rfl, ⟨by rfl, by rfl, trivial⟩, by rfl⟩, by rfl, ?_⟩
    · rw [List.length_set]; exact hu
    · rw [List.length_append]; simp only [List.length_cons, List.length_nil]; omega
    · omega
    · rw [et]
    obtain ⟨r, hr⟩ : ∃ r, extR N (inL l) m c (used.set x true) (done ++ [(x : Int)]) ((List.range x).foldl (refStep N (inL l) m c used done) out) = r := ⟨_, rfl⟩
    rw [hr]
    dsimp only [putL, renObs, renOb, renAL, renA, setN, getN, newN, rxT1, rxT, List.length_cons, List.length_nil, List.cons_append, List.nil_append, Nat.reduceAdd, Nat.reduceSub]
    have ux : 0 ≤ (x : Int) ∧ (x : Int) < ((used.set x true).length : Int) := by rw [List.length_set]; exact fu x hx'
    refine (And.intro (by first | (intros; (try subst_vars); (try simp only [Bool.cond_true_left, Bool.cond_false_right, Bool.or_eq_true, Bool.or_eq_false_iff, Bool.and_eq_true, Bool.not_eq_true', Bool.not_eq_false', decide_eq_true_eq, decide_eq_false_iff_not, Int.not_lt, Int.not_le] at *); (try simp only [inK, big, lim, List.length_cons, List.length_nil, List.length_append, List.length_drop, List.length_take, List.length_replicate] at *); omega) | exact ux) (And.intro (by first | (intros; (try subst_vars); (try simp only [Bool.cond_true_left, Bool.cond_false_right, Bool.or_eq_true, Bool.or_eq_false_iff, Bool.and_eq_true, Bool.not_eq_true', Bool.not_eq_false', decide_eq_true_eq, decide_eq_false_iff_not, Int.not_lt, Int.not_le] at *); (try simp only [inK, big, lim, List.length_cons, List.length_nil, List.length_append, List.length_drop, List.length_take, List.length_replicate] at *); omega) | exact ux) ?_))
    refine Exists.intro (x + 1) (Exists.intro ([some 0, some 1, some 5]) (And.intro ?_ (And.intro ?_ (And.intro (by rfl) (And.intro (by rfl) (And.intro (And.intro ?_ (And.intro ?_ True.intro)) (by rfl)))))))
    · exact hx'
    · show N - (x + 1) < N - x
      omega
    · refine congrArg (Ob.rows .bool) ?_
      exact set_back hux (by rw [hu]; exact hx')
    · refine congrArg (Ob.rows tIs) ?_
      rw [fold_next, refStep, if_pos e, hr]
  · have ex : x = N := Nat.le_antisymm hx (geN x k0)
    subst ex
    exact Exists.intro [some 0, none, some 2] ⟨by rfl, by rfl, ⟨by rfl, by rfl, trivial⟩, by rfl⟩
/-- The search, to a depth. -/
def SEMR : Nat → CallSem
  | 0 => callS cx0 Try.prog (condS 43 (fun _ _ _ _ _ => False) (callS cx0 Try.prog fun _ _ _ _ _ => False))
  | d + 1 => callS cx0 Try.prog (condS 43 (giveS (frameS (RelR d))) (callS cx0 Try.prog (giveS (frameS (RelR d)))))
theorem semR_rel (d : Nat) : ∀ g args T x1 T1, RelR d g args T x1 T1 → SEMR d g args T T.length (fun x T' n' => ∃ σ, weak T.length σ [noW x] T' n' ⟨[x1], T1, T1.length⟩) := by
  rintro g args T x1 T1 ⟨N, l, m, used, done, out, hN, hm, hl, hu, hdn, hd, ho, rfl, rfl, rfl, rfl, rfl⟩
  cases d with
  | zero => exact walk43 _ N l m used done out 0 hN hm hl hu hdn hd ho (fun k args H m K h => by omega)
  | succ d =>
    refine walk43 _ N l m used done out (d + 1) hN hm hl hu hdn hd ho (fun k args H m K h h' => ?_)
    have e : k = d := by omega
    exact e ▸ h'
theorem semR_ok : ∀ d, CallOk Try.prog (SEMR d)
  | 0 => callS_good cx0_good (condS_ok no_call (callS_good cx0_good no_call))
  | d + 1 => callS_good cx0_good (condS_ok (giveS_ok (frame_ok (semR_ok d) (semR_rel d))) (callS_good cx0_good (giveS_ok (frame_ok (semR_ok d) (semR_rel d)))))
def semV : CallSem := fun g a H n K => ∃ d, SEMR d g a H n K
theorem semV_ok : CallOk Try.prog semV := ⟨fun g a H n K ⟨d, h⟩ => (semR_ok d).1 g a H n K h, fun id a H n K ⟨d, h⟩ => (semR_ok d).2 id a H n K h⟩
def RelV : FuncId → List AV → List Ob → AV → List Ob → Prop := fun g a T x T1 => ∃ k, RelR k g a T x T1
theorem frameV_ok : CallOk Try.prog (giveS (frameS RelV)) := giveS_ok (frame_ok semV_ok fun g a T x T1 ⟨k, h⟩ => ⟨k, semR_rel k g a T x T1 h⟩)
def cxV : Ctx := ⟨tys0, [(27, ([], c27))]⟩
theorem cxV_good : GoodCtx Try.prog cxV := cx_cons good27 cx0_good
def c15 : Ctr := fnC [dI, dEs, dI] rIssI (fun _ => True) (fun y => ((extsF y.1 y.2.1 y.2.2.1).1, (extsF y.1 y.2.1 y.2.2.1).2, ()))
set_option maxHeartbeats 4000000 in
theorem good15 : GoodC Try.prog 15 c15 := by
  refine goodFS (callS_good cxV_good frameV_ok) _ _ _ _ ⟨_, Try.func15, rfl, rfl⟩ fun (⟨n, l, most, _⟩ : Int × List Ed × Int × Unit) _ => ?_
  have mk1 : checkF n l = 0 → 0 ≤ n ∧ n ≤ n ∧ n * ((1 : Nat) : Int) ≤ (lim : Int) ∧ n ≤ (lim : Int) := fun h => by
    obtain ⟨n0, n1, -⟩ := chk_ok h
    simp only [lim]
    omega
  refine (And.intro (by first | kernel_rfl | rfl) (And.intro True.intro (And.intro (fun h0 => (fin_of rfl ?_)) (fun h0 => (And.intro (fun h1 => (fin_of rfl ?_)) (fun h1 => (And.intro (by first | (intros; (try subst_vars); (try simp only [Bool.cond_true_left, Bool.cond_false_right, Bool.or_eq_true, Bool.or_eq_false_iff, Bool.and_eq_true, Bool.not_eq_true', Bool.not_eq_false', decide_eq_true_eq, decide_eq_false_iff_not, Int.not_lt, Int.not_le] at *); (try simp only [inK, big, lim, List.length_cons, List.length_nil, List.length_append, List.length_drop, List.length_take, List.length_replicate] at *); omega) | exact mk1 (by simpa using h0)) ?_)))))))
  · have h0' : checkF n l ≠ 0 := by simpa using h0
    show ((extsF n l most).1, (extsF n l most).2, ()) = ([], checkF n l, ())
    rw [extsF, if_pos h0']
  · have h0' : checkF n l = 0 := by simpa using h0
    have h1' : most < 0 ∨ 5000 < most := by simpa [Bool.cond_eq_ite] using h1
    show ((extsF n l most).1, (extsF n l most).2, ()) = ([], 2, ())
    rw [extsF, if_neg (by simp [h0']), if_pos h1']
  have h0' : checkF n l = 0 := by simpa using h0
  have h1' : ¬ (most < 0 ∨ 5000 < most) := by
    have h1'' : (bif decide (most < 0) then true else decide (5000 < most)) = false := h1
    rintro (h | h)
    · rw [decide_eq_true h] at h1''; cases h1''
    · rw [decide_eq_true h] at h1''
      revert h1''
      cases decide (most < 0) <;> simp
  obtain ⟨n0, n1, n2, hl⟩ := chk_ok h0'
  have eg : extsF n l most = (extR n.toNat (inL l) most.toNat n.toNat (List.replicate n.toNat false) [] [], 0) := by
    rw [← ref_exts, refExtsF, if_neg (by simp [h0']), if_neg h1']
  obtain ⟨N, rfl⟩ : ∃ N : Nat, n = (N : Int) := ⟨n.toNat, by omega⟩
  obtain ⟨m, rfl⟩ : ∃ m : Nat, most = (m : Int) := ⟨most.toNat, by omega⟩
  refine Exists.intro [] ⟨True.intro, [.int .i64 (N : Int), .sl tE l, .int .i64 (m : Int), .own 0, .sl tI [], .own 1], rxT (List.replicate N false) [], .own 2, rxT1 _ _, [some 0, none],
    ⟨N, N, l, m, List.replicate N false, [], [], by omega, by omega, hl, by simp, by simp, by simp, by simp, rfl, rfl, rfl, rfl, rfl⟩, ⟨by rfl, by rfl, ⟨by rfl, by rfl, trivial⟩, by rfl⟩, by rfl, ?_⟩
  obtain ⟨r, hr⟩ : ∃ r, extR N (inL l) m N (List.replicate N false) [] [] = r := ⟨_, rfl⟩
  rw [hr]
  dsimp only [putL, renObs, renOb, renAL, renA, setN, getN, newN, rxT1, rxT, List.length_cons, List.length_nil, List.cons_append, List.nil_append, Nat.reduceAdd, Nat.reduceSub]
  refine (fin_of rfl ?_)
  show ((extsF (N : Int) l (m : Int)).1, (extsF (N : Int) l (m : Int)).2, ()) = (r, 0, ())
  rw [eg]
  simp only [Int.toNat_natCast, hr]
end Go.Proofs.Ytlaefkhbpnbahaa
