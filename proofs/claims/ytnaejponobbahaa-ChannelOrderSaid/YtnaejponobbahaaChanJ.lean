/- Channel: comparing states, and the example of the chapter. -/
import Derived.Test.YtnaejponobbahaaChanF
import Derived.Test.YtnaejponobbahaaChanI
set_option linter.unusedSimpArgs false
set_option linter.unusedVariables false
set_option maxRecDepth 100000
namespace Go.Proofs.Ytnaejponobbahaa
open Go.Sx

@[reducible] def dCus : AK := .dat false (.sl tCu)
def bigCu (x : Cu) : Bool := decide (17 < (x.2.length : Int))
def great (s : OS) : Bool := decide (17 < ((qu s).length : Int)) || (decide (17 < (s.2.2.2.1.length : Int)) || (decide (17 < ((bu s).length : Int)) || (decide (17 < (s.2.2.2.2.2.2.1.length : Int)) || s.2.2.2.2.2.2.1.any bigCu)))
def tys1 : List (TypeId × Ty) := (72, tCu) :: tys0
theorem cxz_good : GoodCtx Try.prog ⟨tys1, []⟩ := fun _ _ _ h => by simp [lookL] at h
def c11 : Ctr := fnC [dOS] rB (fun _ => True) (fun y => (great y.1, ()))
theorem good11 : GoodC Try.prog 11 c11 := by
  refine goodF cxz_good 3 _ _ _ _ ⟨_, Try.func11, rfl, rfl⟩ fun (⟨⟨ow, ct, tm, hs, q, bf, cs, cl, vl⟩, _⟩ : OS × Unit) _ => ?_
  refine (And.intro (by first | kernel_rfl | rfl) (fun h0 => (fun h1 => (fun h2 => (fun h3 => (And.intro (fun h4 => (fin_of rfl (by (simp only [great, qu, bu]; grind)))) (fun h4 => ?_)))))))
  refine ex4 _ (fun i : Nat => ⟨[.any, .ptr 0 0, .any, .int .i64 (i : Int), .any, .any, .any, .any, .any, .any, .any, .any, .any, .any, .any, .any, .any, .any, .any, .any, .any, .any, .any, .any, .any, .any, .any, .any, .any, .any, .any, .any, .any, .any, .any, .any, .any, .any, .any, .any, .any], [.cells   [.int .i64 ow, .int .i64 ct, .int .i64 tm, .sl (.int .i64) hs, .sl tW q,     .sl (.int .i64) bf, .sl tCu cs, .bool cl, .int .i64 vl]], 1⟩) (fun i => i ≤ cs.length ∧ (cs.take i).any bigCu = false) (fun i => cs.length - i) (And.intro (Exists.intro (0) (Exists.intro ([some 0]) (And.intro ?_ (And.intro (by rfl) (And.intro (by rfl) (And.intro (And.intro (And.intro (by rfl) (by rfl)) True.intro) (by rfl))))))) ?_)
  · simp
  rintro i ⟨hi, ht⟩
  refine (fun k0 => (And.intro (fun k1 => (And.intro (by intros; (try subst_vars); (try simp only [Bool.cond_true_left, Bool.cond_false_right, Bool.or_eq_true, Bool.or_eq_false_iff, Bool.and_eq_true, Bool.not_eq_true', Bool.not_eq_false', decide_eq_true_eq, decide_eq_false_iff_not, Int.not_lt, Int.not_le] at *); (try simp only [inK, big, lim, List.length_cons, List.length_nil, List.length_append, List.length_drop, List.length_take, List.length_replicate] at *); omega) (fun k2 => (And.intro (fun k3 => (fin_of rfl ?_)) (fun k3 => (And.intro (by intros; (try subst_vars); (try simp only [Bool.cond_true_left, Bool.cond_false_right, Bool.or_eq_true, Bool.or_eq_false_iff, Bool.and_eq_true, Bool.not_eq_true', Bool.not_eq_false', decide_eq_true_eq, decide_eq_false_iff_not, Int.not_lt, Int.not_le] at *); (try simp only [inK, big, lim, List.length_cons, List.length_nil, List.length_append, List.length_drop, List.length_take, List.length_replicate] at *); omega) ?_)))))) (fun k1 => (fin_of rfl ?_))))
  · have e : cs.any bigCu = true := any_hit (i := i) (d := dflt tCu) (by simpa using k1) (by simpa [bigCu] using k3)
    simp [great, e]
  · refine Exists.intro (i + 1) (Exists.intro ([some 0]) (And.intro ?_ (And.intro ?_ (And.intro (by rfl) (And.intro (by rfl) (And.intro (And.intro (And.intro (by rfl) (by rfl)) True.intro) (by rfl)))))))
    · exact ⟨Nat.succ_le_of_lt (by simpa using k1), any_next (d := dflt tCu) (by simpa using k1) ht (by simpa [bigCu] using k3)⟩
    · have hi' : i < cs.length := by simpa using k1
      show cs.length - (i + 1) < cs.length - i
      omega
  · have e : cs.any bigCu = false := any_end (by simpa using k1) ht
    simp only [great, e, qu, bu]
    grind
def c52 : Ctr := fnC [dWs, dWs] rB (fun y => y.1 = y.2.1) (fun _ => (true, ()))
theorem good52 : GoodC Try.prog 52 c52 := by
  refine goodF cx0_good 3 _ _ _ _ ⟨_, Try.func52, rfl, rfl⟩ fun (⟨l, m, _⟩ : List W × List W × Unit) hn => ?_
  simp only at hn
  subst hn
  refine (And.intro (by first | kernel_rfl | rfl) (fun h0 => (fun h1 => (And.intro (fun h2 => (fin_of rfl (by (exfalso; simp at *; done)))) (fun h2 => ?_)))))
  refine ex4 _ (fun i : Nat => ⟨[.sl tW l, .sl tW l, .any, .any, .any, .int .i64 (i : Int), .any, .any, .any, .any, .any, .any, .any, .any, .any, .any, .any, .any, .any, .any, .any, .any, .any, .any, .any, .any], [], 0⟩) (fun i => i ≤ l.length) (fun i => l.length - i) (And.intro (Exists.intro (0) (Exists.intro ([]) (And.intro ?_ (And.intro (by rfl) (And.intro (by rfl) (And.intro True.intro (by rfl))))))) ?_)
  · simp
  rintro i hi
  refine (fun k0 => (And.intro (fun k1 => (And.intro (by first | kernel_rfl | rfl) (And.intro (by intros; (try subst_vars); (try simp only [Bool.cond_true_left, Bool.cond_false_right, Bool.or_eq_true, Bool.or_eq_false_iff, Bool.and_eq_true, Bool.not_eq_true', Bool.not_eq_false', decide_eq_true_eq, decide_eq_false_iff_not, Int.not_lt, Int.not_le] at *); (try simp only [inK, big, lim, List.length_cons, List.length_nil, List.length_append, List.length_drop, List.length_take, List.length_replicate] at *); omega) (And.intro (by intros; (try subst_vars); (try simp only [Bool.cond_true_left, Bool.cond_false_right, Bool.or_eq_true, Bool.or_eq_false_iff, Bool.and_eq_true, Bool.not_eq_true', Bool.not_eq_false', decide_eq_true_eq, decide_eq_false_iff_not, Int.not_lt, Int.not_le] at *); (try simp only [inK, big, lim, List.length_cons, List.length_nil, List.length_append, List.length_drop, List.length_take, List.length_replicate] at *); omega) (And.intro (by first | kernel_rfl | rfl) (And.intro (fun k2 => (fin_of rfl (by first | rfl | (simp; done) | (exfalso; simp at *; done)))) (fun k2 => (And.intro (by intros; (try subst_vars); (try simp only [Bool.cond_true_left, Bool.cond_false_right, Bool.or_eq_true, Bool.or_eq_false_iff, Bool.and_eq_true, Bool.not_eq_true', Bool.not_eq_false', decide_eq_true_eq, decide_eq_false_iff_not, Int.not_lt, Int.not_le] at *); (try simp only [inK, big, lim, List.length_cons, List.length_nil, List.length_append, List.length_drop, List.length_take, List.length_replicate] at *); omega) ?_)))))))) (fun k1 => (fin_of rfl (by first | rfl | (simp; done) | (exfalso; simp at *; done))))))
  · refine Exists.intro (i + 1) (Exists.intro ([]) (And.intro ?_ (And.intro ?_ (And.intro (by rfl) (And.intro (by rfl) (And.intro True.intro (by rfl)))))))
    · exact Nat.succ_le_of_lt (by simpa using k1)
    · have hi' : i < l.length := by simpa using k1
      show l.length - (i + 1) < l.length - i
      omega
def c53 : Ctr := fnC [dIs, dIs] rB (fun y => y.1 = y.2.1) (fun _ => (true, ()))
theorem good53 : GoodC Try.prog 53 c53 := by
  refine goodF cx0_good 3 _ _ _ _ ⟨_, Try.func53, rfl, rfl⟩ fun (⟨l, m, _⟩ : List Int × List Int × Unit) hn => ?_
  simp only at hn
  subst hn
  refine (And.intro (by first | kernel_rfl | rfl) (fun h0 => (fun h1 => (And.intro (fun h2 => (fin_of rfl (by (exfalso; simp at *; done)))) (fun h2 => ?_)))))
  refine ex4 _ (fun i : Nat => ⟨[.sl (.int .i64) l, .sl (.int .i64) l, .any, .any, .any, .int .i64 (i : Int), .any, .any, .any, .any, .any, .any, .any, .any, .any, .any, .any, .any, .any, .any, .any, .any, .any, .any, .any, .any], [], 0⟩) (fun i => i ≤ l.length) (fun i => l.length - i) (And.intro (Exists.intro (0) (Exists.intro ([]) (And.intro ?_ (And.intro (by rfl) (And.intro (by rfl) (And.intro True.intro (by rfl))))))) ?_)
  · simp
  rintro i hi
  refine (fun k0 => (And.intro (fun k1 => (And.intro (by first | kernel_rfl | rfl) (And.intro (by intros; (try subst_vars); (try simp only [Bool.cond_true_left, Bool.cond_false_right, Bool.or_eq_true, Bool.or_eq_false_iff, Bool.and_eq_true, Bool.not_eq_true', Bool.not_eq_false', decide_eq_true_eq, decide_eq_false_iff_not, Int.not_lt, Int.not_le] at *); (try simp only [inK, big, lim, List.length_cons, List.length_nil, List.length_append, List.length_drop, List.length_take, List.length_replicate] at *); omega) (And.intro (by intros; (try subst_vars); (try simp only [Bool.cond_true_left, Bool.cond_false_right, Bool.or_eq_true, Bool.or_eq_false_iff, Bool.and_eq_true, Bool.not_eq_true', Bool.not_eq_false', decide_eq_true_eq, decide_eq_false_iff_not, Int.not_lt, Int.not_le] at *); (try simp only [inK, big, lim, List.length_cons, List.length_nil, List.length_append, List.length_drop, List.length_take, List.length_replicate] at *); omega) (And.intro (fun k2 => (fin_of rfl (by first | rfl | (simp; done) | (exfalso; simp at *; done)))) (fun k2 => (And.intro (by intros; (try subst_vars); (try simp only [Bool.cond_true_left, Bool.cond_false_right, Bool.or_eq_true, Bool.or_eq_false_iff, Bool.and_eq_true, Bool.not_eq_true', Bool.not_eq_false', decide_eq_true_eq, decide_eq_false_iff_not, Int.not_lt, Int.not_le] at *); (try simp only [inK, big, lim, List.length_cons, List.length_nil, List.length_append, List.length_drop, List.length_take, List.length_replicate] at *); omega) ?_))))))) (fun k1 => (fin_of rfl (by first | rfl | (simp; done) | (exfalso; simp at *; done))))))
  · refine Exists.intro (i + 1) (Exists.intro ([]) (And.intro ?_ (And.intro ?_ (And.intro (by rfl) (And.intro (by rfl) (And.intro True.intro (by rfl)))))))
    · exact Nat.succ_le_of_lt (by simpa using k1)
    · have hi' : i < l.length := by simpa using k1
      show l.length - (i + 1) < l.length - i
      omega
def cx20 : Ctx := ⟨tys1, [(52, ([], c52)), (53, ([], c53))]⟩
theorem cx20_good : GoodCtx Try.prog cx20 := cx_cons good52 (cx_cons good53 cxz_good)
def c22 : Ctr := fnC [dOS, dOS] rB (fun y => y.1 = y.2.1) (fun _ => (true, ()))
set_option maxHeartbeats 4000000 in
theorem good22 : GoodC Try.prog 22 c22 := by
  refine goodF cx20_good 3 _ _ _ _ ⟨_, Try.func22, rfl, rfl⟩ fun (⟨⟨ow, ct, tm, hs, q, bf, cs, cl, vl⟩, y, _⟩ : OS × OS × Unit) hn => ?_
  simp only at hn
  subst hn
  refine (And.intro (by first | kernel_rfl | rfl) (And.intro (fun h0 => (by rfl)) (And.intro (fun h1 => (by rfl)) (And.intro (fun h2 => (by rfl)) (fun h3 => (fun h4 => (And.intro (fun h5 => (fin_of rfl (by (exfalso; simp at *; done)))) (fun h5 => ?_))))))))
  refine ex4 _ (fun i : Nat => ⟨[.any, .any, .ptr 0 0, .ptr 1 0, .any, .int .i64 (i : Int), .any, .any, .any, .any, .any, .any, .any, .any, .any, .any, .any, .any, .any, .any, .any, .any, .any, .any, .any, .any, .any, .any, .any, .any, .any, .any, .any, .any, .any, .any, .any, .any, .any, .any, .any, .any, .any, .any, .any, .any, .any, .any, .any, .any, .any, .any, .any, .any, .any, .any, .any, .any, .any, .any, .any, .any, .any, .any, .any, .any, .any, .any, .any, .any, .any, .any, .any, .any, .any, .any, .any, .any, .any, .any, .any, .any, .any, .any, .any, .any, .any, .any, .any, .any, .any, .any, .any, .any, .any, .any, .any, .any, .any, .any, .any, .any, .any, .any, .any, .any, .any, .any], [.cells   [.int .i64 ow, .int .i64 ct, .int .i64 tm, .sl (.int .i64) hs, .sl tW q,     .sl (.int .i64) bf, .sl tCu cs, .bool cl, .int .i64 vl], .cells   [.int .i64 ow, .int .i64 ct, .int .i64 tm, .sl (.int .i64) hs, .sl tW q,     .sl (.int .i64) bf, .sl tCu cs, .bool cl, .int .i64 vl]], 2⟩) (fun i => i ≤ cs.length) (fun i => cs.length - i) (And.intro (Exists.intro (0) (Exists.intro ([some 0, some 1]) (And.intro ?_ (And.intro (by rfl) (And.intro (by rfl) (And.intro (And.intro (And.intro (by rfl) (by rfl)) (And.intro (And.intro (by rfl) (by rfl)) True.intro)) (by rfl))))))) ?_)
  · simp
  rintro i hi
  refine (fun k0 => (And.intro (fun k1 => (And.intro (by first | kernel_rfl | rfl) (And.intro (by intros; (try subst_vars); (try simp only [Bool.cond_true_left, Bool.cond_false_right, Bool.or_eq_true, Bool.or_eq_false_iff, Bool.and_eq_true, Bool.not_eq_true', Bool.not_eq_false', decide_eq_true_eq, decide_eq_false_iff_not, Int.not_lt, Int.not_le] at *); (try simp only [inK, big, lim, List.length_cons, List.length_nil, List.length_append, List.length_drop, List.length_take, List.length_replicate] at *); omega) (And.intro (by intros; (try subst_vars); (try simp only [Bool.cond_true_left, Bool.cond_false_right, Bool.or_eq_true, Bool.or_eq_false_iff, Bool.and_eq_true, Bool.not_eq_true', Bool.not_eq_false', decide_eq_true_eq, decide_eq_false_iff_not, Int.not_lt, Int.not_le] at *); (try simp only [inK, big, lim, List.length_cons, List.length_nil, List.length_append, List.length_drop, List.length_take, List.length_replicate] at *); omega) (And.intro (fun k2 => (by intros; (try subst_vars); (try simp only [Bool.cond_true_left, Bool.cond_false_right, Bool.or_eq_true, Bool.or_eq_false_iff, Bool.and_eq_true, Bool.not_eq_true', Bool.not_eq_false', decide_eq_true_eq, decide_eq_false_iff_not, Int.not_lt, Int.not_le] at *); (try simp only [inK, big, lim, List.length_cons, List.length_nil, List.length_append, List.length_drop, List.length_take, List.length_replicate] at *); omega)) (And.intro (fun k3 => (by intros; (try subst_vars); (try simp only [Bool.cond_true_left, Bool.cond_false_right, Bool.or_eq_true, Bool.or_eq_false_iff, Bool.and_eq_true, Bool.not_eq_true', Bool.not_eq_false', decide_eq_true_eq, decide_eq_false_iff_not, Int.not_lt, Int.not_le] at *); (try simp only [inK, big, lim, List.length_cons, List.length_nil, List.length_append, List.length_drop, List.length_take, List.length_replicate] at *); omega)) (And.intro (fun k4 => (by rfl)) (And.intro (fun k5 => (fin_of rfl (by first | rfl | (simp; done) | (exfalso; simp at *; done)))) (fun k5 => (And.intro (by intros; (try subst_vars); (try simp only [Bool.cond_true_left, Bool.cond_false_right, Bool.or_eq_true, Bool.or_eq_false_iff, Bool.and_eq_true, Bool.not_eq_true', Bool.not_eq_false', decide_eq_true_eq, decide_eq_false_iff_not, Int.not_lt, Int.not_le] at *); (try simp only [inK, big, lim, List.length_cons, List.length_nil, List.length_append, List.length_drop, List.length_take, List.length_replicate] at *); omega) ?_)))))))))) (fun k1 => (fin_of rfl (by first | rfl | (simp; done) | (exfalso; simp at *; done))))))
  · refine Exists.intro (i + 1) (Exists.intro ([some 0, some 1]) (And.intro ?_ (And.intro ?_ (And.intro (by rfl) (And.intro (by rfl) (And.intro (And.intro (And.intro (by rfl) (by rfl)) (And.intro (And.intro (by rfl) (by rfl)) True.intro)) (by rfl)))))))
    · exact Nat.succ_le_of_lt (by simpa using k1)
    · have hi' : i < cs.length := by simpa using k1
      show cs.length - (i + 1) < cs.length - i
      omega
def cx21 : Ctx := ⟨tys1, [(22, ([], c22))]⟩
theorem cx21_good : GoodCtx Try.prog cx21 := cx_cons good22 cxz_good
def c24 : Ctr := fnC [dRp, dRp] rB (fun y => y.1 = y.2.1) (fun _ => (true, ()))
set_option maxHeartbeats 4000000 in
theorem good24 : GoodC Try.prog 24 c24 := by
  refine goodF cx21_good 3 _ _ _ _ ⟨_, Try.func24, rfl, rfl⟩ fun (⟨⟨⟨ow, ct, tm, hs, q, bf, cs, cl, vl⟩, pk, va, ok, wk⟩, y, _⟩ : Rp × Rp × Unit) hn => ?_
  simp only at hn
  subst hn
  refine (And.intro (by first | kernel_rfl | rfl) (fun h0 => (fun h1 => (And.intro (fun h2 => (fin_of rfl (by (exfalso; simp at *; done)))) (fun h2 => ?_)))))
  refine ex4 _ (fun i : Nat => ⟨[.any, .any, .ptr 0 0, .ptr 1 0, .any, .int .i64 (i : Int), .any, .any, .any, .any, .any, .any, .any, .any, .any, .any, .any, .any, .any, .any, .any, .any, .any, .any, .any, .any, .any, .any, .any, .any, .any, .any, .any, .any, .any, .any, .any, .any, .any, .any, .any, .any, .any, .any, .any, .any, .any, .any, .any, .any, .any, .any, .any, .any, .any, .any, .any], [.cells   [.int .i64 ow, .int .i64 ct, .int .i64 tm, .sl (.int .i64) hs, .sl tW q,     .sl (.int .i64) bf, .sl tCu cs, .bool cl, .int .i64 vl, .bool pk, .int .i64 va,     .bool ok, .sl tWk wk], .cells   [.int .i64 ow, .int .i64 ct, .int .i64 tm, .sl (.int .i64) hs, .sl tW q,     .sl (.int .i64) bf, .sl tCu cs, .bool cl, .int .i64 vl, .bool pk, .int .i64 va,     .bool ok, .sl tWk wk]], 2⟩) (fun i => i ≤ wk.length) (fun i => wk.length - i) (And.intro (Exists.intro (0) (Exists.intro ([some 0, some 1]) (And.intro ?_ (And.intro (by rfl) (And.intro (by rfl) (And.intro (And.intro (And.intro (by rfl) (by rfl)) (And.intro (And.intro (by rfl) (by rfl)) True.intro)) (by rfl))))))) ?_)
  · simp
  rintro i hi
  refine (fun k0 => (And.intro (fun k1 => (And.intro (by first | kernel_rfl | rfl) (And.intro (by intros; (try subst_vars); (try simp only [Bool.cond_true_left, Bool.cond_false_right, Bool.or_eq_true, Bool.or_eq_false_iff, Bool.and_eq_true, Bool.not_eq_true', Bool.not_eq_false', decide_eq_true_eq, decide_eq_false_iff_not, Int.not_lt, Int.not_le] at *); (try simp only [inK, big, lim, List.length_cons, List.length_nil, List.length_append, List.length_drop, List.length_take, List.length_replicate] at *); omega) (And.intro (by intros; (try subst_vars); (try simp only [Bool.cond_true_left, Bool.cond_false_right, Bool.or_eq_true, Bool.or_eq_false_iff, Bool.and_eq_true, Bool.not_eq_true', Bool.not_eq_false', decide_eq_true_eq, decide_eq_false_iff_not, Int.not_lt, Int.not_le] at *); (try simp only [inK, big, lim, List.length_cons, List.length_nil, List.length_append, List.length_drop, List.length_take, List.length_replicate] at *); omega) (And.intro (by first | kernel_rfl | rfl) (And.intro (fun k2 => (fin_of rfl (by first | rfl | (simp; done) | (exfalso; simp at *; done)))) (fun k2 => (And.intro (by intros; (try subst_vars); (try simp only [Bool.cond_true_left, Bool.cond_false_right, Bool.or_eq_true, Bool.or_eq_false_iff, Bool.and_eq_true, Bool.not_eq_true', Bool.not_eq_false', decide_eq_true_eq, decide_eq_false_iff_not, Int.not_lt, Int.not_le] at *); (try simp only [inK, big, lim, List.length_cons, List.length_nil, List.length_append, List.length_drop, List.length_take, List.length_replicate] at *); omega) ?_)))))))) (fun k1 => (And.intro (by rfl) (fin_of rfl (by first | rfl | (simp; done) | (exfalso; simp at *; done)))))))
  · refine Exists.intro (i + 1) (Exists.intro ([some 0, some 1]) (And.intro ?_ (And.intro ?_ (And.intro (by rfl) (And.intro (by rfl) (And.intro (And.intro (And.intro (by rfl) (by rfl)) (And.intro (And.intro (by rfl) (by rfl)) True.intro)) (by rfl)))))))
    · exact Nat.succ_le_of_lt (by simpa using k1)
    · have hi' : i < wk.length := by simpa using k1
      show wk.length - (i + 1) < wk.length - i
      omega
def c36 : Ctr := fnC [dIs, dIs] rB (fun y => y.1 = y.2.1) (fun _ => (true, ()))
theorem good36 : GoodC Try.prog 36 c36 := by
  refine goodF cx0_good 3 _ _ _ _ ⟨_, Try.func36, rfl, rfl⟩ fun (⟨l, m, _⟩ : List Int × List Int × Unit) hn => ?_
  simp only at hn
  subst hn
  refine (And.intro (by first | kernel_rfl | rfl) (fun h0 => (fun h1 => (And.intro (fun h2 => (fin_of rfl (by (exfalso; simp at *; done)))) (fun h2 => (fun h3 => ?_))))))
  refine ex4 _ (fun i : Nat => ⟨[.sl (.int .i64) l, .sl (.int .i64) l, .any, .any, .any, .any, .any, .any, .any, .any, .any, .sl (.int .i64) l, .int .i64 (↑l.length : Int), .int .i64 (i : Int), .any, .any, .any, .any, .any, .any, .any, .any, .any, .any, .any, .any], [], 0⟩) (fun i => i ≤ l.length) (fun i => l.length - i) (And.intro (Exists.intro (0) (Exists.intro ([]) (And.intro ?_ (And.intro (by rfl) (And.intro (by rfl) (And.intro True.intro (by rfl))))))) ?_)
  · simp
  rintro i hi
  refine (And.intro (fun k0 => (And.intro (by first | kernel_rfl | rfl) (And.intro (by intros; (try subst_vars); (try simp only [Bool.cond_true_left, Bool.cond_false_right, Bool.or_eq_true, Bool.or_eq_false_iff, Bool.and_eq_true, Bool.not_eq_true', Bool.not_eq_false', decide_eq_true_eq, decide_eq_false_iff_not, Int.not_lt, Int.not_le] at *); (try simp only [inK, big, lim, List.length_cons, List.length_nil, List.length_append, List.length_drop, List.length_take, List.length_replicate] at *); omega) (And.intro (by intros; (try subst_vars); (try simp only [Bool.cond_true_left, Bool.cond_false_right, Bool.or_eq_true, Bool.or_eq_false_iff, Bool.and_eq_true, Bool.not_eq_true', Bool.not_eq_false', decide_eq_true_eq, decide_eq_false_iff_not, Int.not_lt, Int.not_le] at *); (try simp only [inK, big, lim, List.length_cons, List.length_nil, List.length_append, List.length_drop, List.length_take, List.length_replicate] at *); omega) (And.intro (fun k1 => (fin_of rfl (by first | rfl | (simp; done) | (exfalso; simp at *; done)))) (fun k1 => (And.intro (by intros; (try subst_vars); (try simp only [Bool.cond_true_left, Bool.cond_false_right, Bool.or_eq_true, Bool.or_eq_false_iff, Bool.and_eq_true, Bool.not_eq_true', Bool.not_eq_false', decide_eq_true_eq, decide_eq_false_iff_not, Int.not_lt, Int.not_le] at *); (try simp only [inK, big, lim, List.length_cons, List.length_nil, List.length_append, List.length_drop, List.length_take, List.length_replicate] at *); omega) ?_))))))) (fun k0 => (fin_of rfl (by first | rfl | (simp; done) | (exfalso; simp at *; done)))))
  · refine Exists.intro (i + 1) (Exists.intro ([]) (And.intro ?_ (And.intro ?_ (And.intro (by rfl) (And.intro (by rfl) (And.intro True.intro (by rfl)))))))
    · exact Nat.succ_le_of_lt (by simpa using k0)
    · have hi' : i < l.length := by simpa using k0
      show l.length - (i + 1) < l.length - i
      omega
def nmQ : ByteArray := ⟨#[113]⟩
def objQ (n : Int) : ObT := (⟨#[113]⟩, 6, n, 0)
@[reducible] def rO : List (Bool × Ty) := [(true, tObj)]
def c10 : Ctr := fnC [dI] rO (fun _ => True) (fun y => (objQ y.1, ()))
theorem good10 : GoodC Try.prog 10 c10 := by
  refine goodF cx0_good 3 _ _ _ _ ⟨_, Try.func10, rfl, rfl⟩ fun (⟨n, _⟩ : Int × Unit) _ => ?_
  refine (And.intro (by first | kernel_rfl | rfl) (fin_of rfl (by rfl)))

/-- A contract at some given arguments: what it hands back is written out. -/
def pickC (a : List AK) (r : List (Bool × Ty)) (pick : AK.dens a → Nat) (tab : List (AK.dens a × Rens r)) : Ctr := fun args =>
  match ofAVs a args with
  | some y => (match tab[pick y]? with
    | some p => some ⟨⟨some (y = p.1), none, [], resAV r p.2⟩, fun k => k (resAV r p.2)⟩
    | none => none)
  | none => none
theorem good_pick {P : Program} {g : FuncId} {a : List AK} {r : List (Bool × Ty)} {need : AK.dens a → Prop} {f : AK.dens a → Rens r} (h : GoodC P g (fnC a r need f)) (pick : AK.dens a → Nat) (tab : List (AK.dens a × Rens r))
    (ht : ∀ p ∈ tab, need p.1 ∧ f p.1 = p.2) : GoodC P g (pickC a r pick tab) := by
  refine ⟨h.1, fun args cg hC k hk => ?_, fun args cr gen hC hn w F0 vs hF hsz hrd => ?_⟩
  · unfold pickC at hC
    split at hC
    · split at hC
      · cases hC
        exact hk
      · cases hC
    · cases hC
  · unfold pickC at hC
    split at hC
    · rename_i y hy
      split at hC
      · rename_i p hp
        cases hC
        have hn' : y = p.1 := hn
        obtain ⟨h1, h2⟩ := ht p (List.mem_of_getElem? hp)
        subst hn'
        have hC' : fnC a r need f args = some ⟨⟨some (need p.1), none, [], resAV r (f p.1)⟩, if rich r then fun k => ∀ z, z = f p.1 → k (resAV r z) else fun k => k (resAV r (f p.1))⟩ := by
          unfold fnC
          rw [hy]
        rw [h2] at hC'
        exact h.calls _ _ _ hC' h1 w F0 vs hF hsz hrd
      · cases hC
    · cases hC
def aw0 : OS := (-1, 0, 0, [], [], [], [], false, 0)
def aw1 : OS := (-1, 0, 0, [], [], [5], [], false, 0)
def aw2 : OS := (-1, 0, 0, [], [(2, 64, 6, 0, -1)], [5], [], false, 0)
def aw3 : OS := (-1, 0, 0, [], [], [6], [], false, 0)
def awTab : List (AK.dens [dObj, dOS, dCl] × Rens rRE) := [
  (((⟨#[113]⟩, 6, 1, 0), (-1, 0, 0, [], [], [], [], false, 0), (1, 64, 5, 0, 0), ()), (((-1, 0, 0, [], [], [5], [], false, 0), false, 0, true, []), 0, ())),
  (((⟨#[113]⟩, 6, 1, 0), (-1, 0, 0, [], [], [5], [], false, 0), (2, 64, 6, 0, 0), ()), (((-1, 0, 0, [], [(2, 64, 6, 0, -1)], [5], [], false, 0), true, 0, false, []), 0, ())),
  (((⟨#[113]⟩, 6, 1, 0), (-1, 0, 0, [], [(2, 64, 6, 0, -1)], [5], [], false, 0), (3, 65, 0, 0, 0), ()), (((-1, 0, 0, [], [], [6], [], false, 0), false, 5, true, [(2, 64, 0, true, -1)]), 0, ()))]
def c16k : Ctr := pickC [dObj, dOS, dCl] rRE (fun y => y.2.2.1.1.toNat - 1) awTab
theorem good16k : GoodC Try.prog 16 c16k := by
  refine good_pick good16 _ awTab fun p hp => ?_
  simp only [awTab, List.mem_cons, List.not_mem_nil, or_false] at hp
  rcases hp with rfl | rfl | rfl
  · exact ⟨⟨by decide, by decide, by decide, by decide⟩, by kernel_rfl⟩
  · exact ⟨⟨by decide, by decide, by decide, by decide⟩, by kernel_rfl⟩
  · exact ⟨⟨by decide, by decide, by decide, by decide⟩, by kernel_rfl⟩
def cx22 : Ctx := ⟨tys0, [(10, ([], c10)), (16, ([], c16k)), (19, ([], c19)), (36, ([], c36))]⟩
theorem cx22_good : GoodCtx Try.prog cx22 := cx_cons good10 (cx_cons good16k (cx_cons good19 (cx_cons good36 cx0_good)))
def c13 : Ctr := fnC [] rB (fun _ => True) (fun _ => (true, ()))
set_option maxHeartbeats 4000000 in
theorem good13 : GoodC Try.prog 13 c13 := by
  refine goodF cx22_good 3 _ _ _ _ ⟨_, Try.func13, rfl, rfl⟩ fun _ _ => ?_
  refine (And.intro (by first | kernel_rfl | rfl) (And.intro True.intro (fun (h0 : (ByteArray × Int × Int × Int) × PUnit) => (fun h1 => (And.intro True.intro (fun (h2 : (Int × Int × Int × List Int × List (Int × Int × Int × Int × Int) × List Int × List (Int × List Int) × Bool × Int) ×   Int × PUnit) => (fun h3 => (And.intro (by first | kernel_rfl | rfl) (And.intro True.intro (And.intro (by first | (subst_vars; rfl) | (intros; (try subst_vars); (try simp only [Bool.cond_true_left, Bool.cond_false_right, Bool.or_eq_true, Bool.or_eq_false_iff, Bool.and_eq_true, Bool.not_eq_true', Bool.not_eq_false', decide_eq_true_eq, decide_eq_false_iff_not, Int.not_lt, Int.not_le] at *); (try simp only [inK, big, lim, List.length_cons, List.length_nil, List.length_append, List.length_drop, List.length_take, List.length_replicate] at *); omega)) (And.intro (by first | kernel_rfl | rfl) (And.intro True.intro (And.intro (by rfl) (And.intro (by first | kernel_rfl | rfl) (And.intro True.intro (And.intro (by rfl) (And.intro (fun h4 => (fin_of rfl ?_)) (fun h4 => (fun h5 => (And.intro (fun h6 => (by first | (subst_vars; rfl) | (intros; (try subst_vars); (try simp only [Bool.cond_true_left, Bool.cond_false_right, Bool.or_eq_true, Bool.or_eq_false_iff, Bool.and_eq_true, Bool.not_eq_true', Bool.not_eq_false', decide_eq_true_eq, decide_eq_false_iff_not, Int.not_lt, Int.not_le] at *); (try simp only [inK, big, lim, List.length_cons, List.length_nil, List.length_append, List.length_drop, List.length_take, List.length_replicate] at *); omega))) (And.intro (fun h7 => (by rfl)) (fin_of rfl (by (subst_vars; rfl))))))))))))))))))))))))
  · subst h1 h3
    exact absurd h4 (by decide +kernel)
end Go.Proofs.Ytnaejponobbahaa
