/- Channel: the reference's Check, as a contract. -/
import Derived.Test.YtnaejponobbahaaChanC
set_option linter.unusedSimpArgs false
set_option linter.unusedVariables false
set_option maxRecDepth 100000
namespace Go.Proofs.Ytnaejponobbahaa
open Go.Sx

theorem cx5_good : GoodCtx Try.prog ⟨tys0, [(84, ([], c84))]⟩ := cx_cons good84 cx0_good
def c63 : Ctr := fnC [dI, dWs] [(false, tI)] (fun y => y.1 = 1) (fun y => (wlCheck y.2.1, ()))
theorem good63 : GoodC Try.prog 63 c63 := by
  refine goodF cx5_good 3 _ _ _ _ ⟨_, Try.func63, rfl, rfl⟩ fun (⟨n, l, _⟩ : Int × List W × Unit) hn => ?_
  simp only at hn
  subst hn
  refine (And.intro (by rfl) (And.intro (fun h0 => (fin_of rfl ?_)) (fun h0 => (fun h1 => (And.intro (fun h2 => (fin_of rfl ?_)) (fun h2 => ?_))))))
  · simp at h0
  · have e : 96 < (l.length : Int) := by simpa using h2
    simp [wlCheck, e]
  have hl : ¬ 96 < (l.length : Int) := by simpa using h2
  refine ex4 _ (fun i : Nat => ⟨[.int .i64 1, .sl tW l, .any, .any, .any, .int .i64 (i : Int), .any, .any, .any, .any, .any, .any, .any, .any, .any, .any, .any, .any, .any, .any, .any, .any, .any, .any, .any, .any, .any, .any, .any, .any, .any, .any, .any, .any, .any, .any, .any, .any, .any, .any, .any, .any, .any, .any, .any, .any, .any], [], 0⟩) (fun i => i ≤ l.length ∧ (l.take i).any (fun w => !wOk w) = false) (fun i => l.length - i) (And.intro (Exists.intro (0) (Exists.intro ([]) (And.intro ?_ (And.intro (by rfl) (And.intro (by rfl) (And.intro True.intro (by rfl))))))) ?_)
  · simp
  rintro i ⟨hi, ht⟩
  refine (fun k0 => (And.intro (fun k1 => (And.intro (by intros; (try subst_vars); (try simp only [Bool.cond_true_left, Bool.cond_false_right, Bool.or_eq_true, Bool.or_eq_false_iff, Bool.and_eq_true, Bool.not_eq_true', Bool.not_eq_false', decide_eq_true_eq, decide_eq_false_iff_not, Int.not_lt, Int.not_le] at *); (try simp only [inK, big, lim, List.length_cons, List.length_nil, List.length_append, List.length_drop, List.length_take, List.length_replicate] at *); omega) (And.intro True.intro (And.intro (fun k2 => (fin_of rfl ?_)) (fun k2 => (And.intro (by rfl) (And.intro (fun k3 => (by intros; (try subst_vars); (try simp only [Bool.cond_true_left, Bool.cond_false_right, Bool.or_eq_true, Bool.or_eq_false_iff, Bool.and_eq_true, Bool.not_eq_true', Bool.not_eq_false', decide_eq_true_eq, decide_eq_false_iff_not, Int.not_lt, Int.not_le] at *); (try simp only [inK, big, lim, List.length_cons, List.length_nil, List.length_append, List.length_drop, List.length_take, List.length_replicate] at *); omega)) (And.intro (fun k4 => (by intros; (try subst_vars); (try simp only [Bool.cond_true_left, Bool.cond_false_right, Bool.or_eq_true, Bool.or_eq_false_iff, Bool.and_eq_true, Bool.not_eq_true', Bool.not_eq_false', decide_eq_true_eq, decide_eq_false_iff_not, Int.not_lt, Int.not_le] at *); (try simp only [inK, big, lim, List.length_cons, List.length_nil, List.length_append, List.length_drop, List.length_take, List.length_replicate] at *); omega)) (And.intro (fun k5 => (by intros; (try subst_vars); (try simp only [Bool.cond_true_left, Bool.cond_false_right, Bool.or_eq_true, Bool.or_eq_false_iff, Bool.and_eq_true, Bool.not_eq_true', Bool.not_eq_false', decide_eq_true_eq, decide_eq_false_iff_not, Int.not_lt, Int.not_le] at *); (try simp only [inK, big, lim, List.length_cons, List.length_nil, List.length_append, List.length_drop, List.length_take, List.length_replicate] at *); omega)) (And.intro (fun k6 => (fin_of rfl ?_)) (fun k6 => (And.intro (by intros; (try subst_vars); (try simp only [Bool.cond_true_left, Bool.cond_false_right, Bool.or_eq_true, Bool.or_eq_false_iff, Bool.and_eq_true, Bool.not_eq_true', Bool.not_eq_false', decide_eq_true_eq, decide_eq_false_iff_not, Int.not_lt, Int.not_le] at *); (try simp only [inK, big, lim, List.length_cons, List.length_nil, List.length_append, List.length_drop, List.length_take, List.length_replicate] at *); omega) ?_)))))))))))) (fun k1 => (fin_of rfl ?_))))
  · have e : l.any (fun w => !wOk w) = true := any_hit (i := i) (d := dflt tW) (by simpa using k1) k2
    rw [wlCheck, if_neg hl, if_pos e]
  · simp at k6
  · refine Exists.intro (i + 1) (Exists.intro ([]) (And.intro ?_ (And.intro ?_ (And.intro (by rfl) (And.intro (by rfl) (And.intro True.intro (by rfl)))))))
    · exact ⟨Nat.succ_le_of_lt (by simpa using k1), any_next (d := dflt tW) (by simpa using k1) ht k2⟩
    · have hi' : i < l.length := by simpa using k1
      show l.length - (i + 1) < l.length - i
      omega
  · have e : l.any (fun w => !wOk w) = false := any_end (by simpa using k1) ht
    rw [wlCheck, if_neg hl, if_neg (by rw [e]; simp)]
def cx6 : Ctx := ⟨tys0, [(63, ([], c63))]⟩
theorem cx6_good : GoodCtx Try.prog cx6 := cx_cons good63 cx0_good
theorem take_getD {α : Type} {l : List α} {i k : Nat} {d : α} (h : k < i) : (l.take i).getD k d = l.getD k d := by
  simp only [List.getD_eq_getElem?_getD, List.getElem?_take_of_lt h]
def c38 : Ctr := fnC [dWs] rB (fun _ => True) (fun y => (decide (wlCheck y.1 = 0) && fineN y.1 y.1.length, ()))
set_option maxHeartbeats 4000000 in
theorem good38 : GoodC Try.prog 38 c38 := by
  refine goodF cx6_good 3 _ _ _ _ ⟨_, Try.func38, rfl, rfl⟩ fun (⟨l, _⟩ : List W × Unit) _ => ?_
  refine (And.intro (by rfl) (And.intro (by rfl) (And.intro (fun h0 => (fin_of rfl ?_)) (fun h0 => ?_))))
  · have e : decide (wlCheck l = 0) = false := by simpa using h0
    rw [e]; rfl
  have e0 : decide (wlCheck l = 0) = true := by simpa using h0
  refine ex4 _ (fun i : Nat => ⟨[.sl tW l, .any, .any, .int .i64 (i : Int), .any, .any, .any, .any, .any, .any, .any, .any, .any, .any, .any, .any, .any, .any, .any, .any, .any, .any, .any, .any, .any, .any, .any, .any, .any, .any, .any, .any, .any, .any, .any, .any, .any, .any, .any, .any, .any, .any, .any, .any, .any, .any, .any, .any, .any, .any, .any, .any, .any, .any, .any, .any, .any, .any, .any, .any, .any, .any, .any, .any, .any, .any, .any, .any, .any, .any, .any, .any, .any, .any, .any, .any, .any, .any, .any, .any, .any, .any, .any, .any, .any, .any, .any, .any, .any], [], 0⟩) (fun i => i ≤ l.length ∧ fineN l i = true) (fun i => l.length - i) (And.intro (Exists.intro (0) (Exists.intro ([]) (And.intro ?_ (And.intro (by rfl) (And.intro (by rfl) (And.intro True.intro (by rfl))))))) ?_)
  · simp [fineN]
  rintro i ⟨hi, hf⟩
  refine (fun k0 => (And.intro (fun k1 => (And.intro (by intros; (try subst_vars); (try simp only [Bool.cond_true_left, Bool.cond_false_right, Bool.or_eq_true, Bool.or_eq_false_iff, Bool.and_eq_true, Bool.not_eq_true', Bool.not_eq_false', decide_eq_true_eq, decide_eq_false_iff_not, Int.not_lt, Int.not_le] at *); (try simp only [inK, big, lim, List.length_cons, List.length_nil, List.length_append, List.length_drop, List.length_take, List.length_replicate] at *); omega) (And.intro (fun k2 => (by intros; (try subst_vars); (try simp only [Bool.cond_true_left, Bool.cond_false_right, Bool.or_eq_true, Bool.or_eq_false_iff, Bool.and_eq_true, Bool.not_eq_true', Bool.not_eq_false', decide_eq_true_eq, decide_eq_false_iff_not, Int.not_lt, Int.not_le] at *); (try simp only [inK, big, lim, List.length_cons, List.length_nil, List.length_append, List.length_drop, List.length_take, List.length_replicate] at *); omega)) (And.intro (fun k3 => (by intros; (try subst_vars); (try simp only [Bool.cond_true_left, Bool.cond_false_right, Bool.or_eq_true, Bool.or_eq_false_iff, Bool.and_eq_true, Bool.not_eq_true', Bool.not_eq_false', decide_eq_true_eq, decide_eq_false_iff_not, Int.not_lt, Int.not_le] at *); (try simp only [inK, big, lim, List.length_cons, List.length_nil, List.length_append, List.length_drop, List.length_take, List.length_replicate] at *); omega)) (And.intro (fun k4 => (by intros; (try subst_vars); (try simp only [Bool.cond_true_left, Bool.cond_false_right, Bool.or_eq_true, Bool.or_eq_false_iff, Bool.and_eq_true, Bool.not_eq_true', Bool.not_eq_false', decide_eq_true_eq, decide_eq_false_iff_not, Int.not_lt, Int.not_le] at *); (try simp only [inK, big, lim, List.length_cons, List.length_nil, List.length_append, List.length_drop, List.length_take, List.length_replicate] at *); omega)) (And.intro (fun k5 => (fin_of rfl ?_)) (fun k5 => ?_))))))) (fun k1 => (fin_of rfl ?_))))
  · have e : wKind (l.getD i (dflt tW)) = false := by simp [wKind] at k5 ⊢; grind
    have e2 : fineN l l.length = false := fineN_bad (j := i) (by rw [fineAt, e]; rfl) _ (by simpa using k1)
    rw [e0, e2]; rfl
  · have e : wKind (l.getD i (dflt tW)) = true := by simp [wKind] at k5 ⊢; grind
    have hi' : i < l.length := by simpa using k1
    refine ex4 _ (fun j : Nat => ⟨[.sl tW l, .any, .any, .int .i64 (↑i : Int), .int .i64 (j : Int), .any, .any, .any, .int .i64 (↑i : Int), .sl tW l, .int .i64 (↑l.length : Int), .bool (decide ((↑i : Int) < (↑l.length : Int))), .any, .any, .sl tW l, .int .i64 (↑i : Int), .eptr   [PV.int .i64 (l.getD (↑i : Int).toNat (dflt tW)).1, PV.int .i64 (l.getD (↑i : Int).toNat (dflt tW)).2.1,     PV.int .i64 (l.getD (↑i : Int).toNat (dflt tW)).2.2.1,     PV.int .i64 (l.getD (↑i : Int).toNat (dflt tW)).2.2.2.1,     PV.int .i64 (l.getD (↑i : Int).toNat (dflt tW)).2.2.2.2], .eptr   [PV.int .i64 (l.getD (↑i : Int).toNat (dflt tW)).2.1,     PV.int .i64 (l.getD (↑i : Int).toNat (dflt tW)).2.2.1,     PV.int .i64 (l.getD (↑i : Int).toNat (dflt tW)).2.2.2.1,     PV.int .i64 (l.getD (↑i : Int).toNat (dflt tW)).2.2.2.2], .int .i64 (l.getD (↑i : Int).toNat (dflt tW)).2.1, .bool !decide ((l.getD (↑i : Int).toNat (dflt tW)).2.1 = 64), .bool !decide ((l.getD (↑i : Int).toNat (dflt tW)).2.1 = 64), .any, .any, .any, .any, .any, .any, .bool   (bif !decide ((l.getD (↑i : Int).toNat (dflt tW)).2.1 = 64) then     !decide ((l.getD (↑i : Int).toNat (dflt tW)).2.1 = 65)   else false), .bool   (bif !decide ((l.getD (↑i : Int).toNat (dflt tW)).2.1 = 64) then     !decide ((l.getD (↑i : Int).toNat (dflt tW)).2.1 = 65)   else false), .any, .any, .any, .any, .any, .any, .any, .any, .any, .any, .any, .any, .any, .any, .bool   (bif       bif !decide ((l.getD (↑i : Int).toNat (dflt tW)).2.1 = 64) then         !decide ((l.getD (↑i : Int).toNat (dflt tW)).2.1 = 65)       else false then     true   else     bif decide ((l.getD (↑i : Int).toNat (dflt tW)).2.1 = 65) then       !decide ((l.getD (↑i : Int).toNat (dflt tW)).2.2.1 = 0)     else false), .any, .any, .any, .any, .any, .any, .any, .any, .any, .any, .any, .any, .any, .any, .any, .any, .any, .any, .any, .any, .any, .any, .any, .any, .any, .any, .any, .any, .any, .any, .any, .any, .any, .any, .any, .any, .any, .any, .any, .any, .any, .any, .any, .any, .any], [], 0⟩) (fun j => j ≤ i ∧ (l.take j).any (clash (l.getD i (dflt tW))) = false) (fun j => i - j) (And.intro (Exists.intro (0) (Exists.intro ([]) (And.intro ?_ (And.intro (by rfl) (And.intro (by rfl) (And.intro True.intro (by rfl))))))) ?_)
    · simp
    rintro j ⟨hj, hm⟩
    refine (And.intro (fun m0 => (And.intro (by rfl) (And.intro (by intros; (try subst_vars); (try simp only [Bool.cond_true_left, Bool.cond_false_right, Bool.or_eq_true, Bool.or_eq_false_iff, Bool.and_eq_true, Bool.not_eq_true', Bool.not_eq_false', decide_eq_true_eq, decide_eq_false_iff_not, Int.not_lt, Int.not_le] at *); (try simp only [inK, big, lim, List.length_cons, List.length_nil, List.length_append, List.length_drop, List.length_take, List.length_replicate] at *); omega) (And.intro (by intros; (try subst_vars); (try simp only [Bool.cond_true_left, Bool.cond_false_right, Bool.or_eq_true, Bool.or_eq_false_iff, Bool.and_eq_true, Bool.not_eq_true', Bool.not_eq_false', decide_eq_true_eq, decide_eq_false_iff_not, Int.not_lt, Int.not_le] at *); (try simp only [inK, big, lim, List.length_cons, List.length_nil, List.length_append, List.length_drop, List.length_take, List.length_replicate] at *); omega) (And.intro (fun m1 => (by intros; (try subst_vars); (try simp only [Bool.cond_true_left, Bool.cond_false_right, Bool.or_eq_true, Bool.or_eq_false_iff, Bool.and_eq_true, Bool.not_eq_true', Bool.not_eq_false', decide_eq_true_eq, decide_eq_false_iff_not, Int.not_lt, Int.not_le] at *); (try simp only [inK, big, lim, List.length_cons, List.length_nil, List.length_append, List.length_drop, List.length_take, List.length_replicate] at *); omega)) (And.intro (fun m2 => (by intros; (try subst_vars); (try simp only [Bool.cond_true_left, Bool.cond_false_right, Bool.or_eq_true, Bool.or_eq_false_iff, Bool.and_eq_true, Bool.not_eq_true', Bool.not_eq_false', decide_eq_true_eq, decide_eq_false_iff_not, Int.not_lt, Int.not_le] at *); (try simp only [inK, big, lim, List.length_cons, List.length_nil, List.length_append, List.length_drop, List.length_take, List.length_replicate] at *); omega)) (And.intro (fun m3 => (by intros; (try subst_vars); (try simp only [Bool.cond_true_left, Bool.cond_false_right, Bool.or_eq_true, Bool.or_eq_false_iff, Bool.and_eq_true, Bool.not_eq_true', Bool.not_eq_false', decide_eq_true_eq, decide_eq_false_iff_not, Int.not_lt, Int.not_le] at *); (try simp only [inK, big, lim, List.length_cons, List.length_nil, List.length_append, List.length_drop, List.length_take, List.length_replicate] at *); omega)) (And.intro (fun m4 => (by intros; (try subst_vars); (try simp only [Bool.cond_true_left, Bool.cond_false_right, Bool.or_eq_true, Bool.or_eq_false_iff, Bool.and_eq_true, Bool.not_eq_true', Bool.not_eq_false', decide_eq_true_eq, decide_eq_false_iff_not, Int.not_lt, Int.not_le] at *); (try simp only [inK, big, lim, List.length_cons, List.length_nil, List.length_append, List.length_drop, List.length_take, List.length_replicate] at *); omega)) (And.intro (fun m5 => (fin_of rfl ?_)) (fun m5 => (And.intro (by intros; (try subst_vars); (try simp only [Bool.cond_true_left, Bool.cond_false_right, Bool.or_eq_true, Bool.or_eq_false_iff, Bool.and_eq_true, Bool.not_eq_true', Bool.not_eq_false', decide_eq_true_eq, decide_eq_false_iff_not, Int.not_lt, Int.not_le] at *); (try simp only [inK, big, lim, List.length_cons, List.length_nil, List.length_append, List.length_drop, List.length_take, List.length_replicate] at *); omega) ?_))))))))))) (fun m0 => (And.intro (by intros; (try subst_vars); (try simp only [Bool.cond_true_left, Bool.cond_false_right, Bool.or_eq_true, Bool.or_eq_false_iff, Bool.and_eq_true, Bool.not_eq_true', Bool.not_eq_false', decide_eq_true_eq, decide_eq_false_iff_not, Int.not_lt, Int.not_le] at *); (try simp only [inK, big, lim, List.length_cons, List.length_nil, List.length_append, List.length_drop, List.length_take, List.length_replicate] at *); omega) ?_)))
    · have hji : j < i := by simpa using m0
      have e1 : (l.take i).any (clash (l.getD i (dflt tW))) = true := any_hit (i := j) (d := dflt tW) (by simp; omega) (by rw [take_getD hji, ← m5]; simp [clash, Bool.or_assoc])
      have e2 : fineN l l.length = false := fineN_bad (j := i) (by rw [fineAt, e, e1]; rfl) _ hi'
      rw [e0, e2]; rfl
    · have hji : j < i := by simpa using m0
      refine Exists.intro (j + 1) (Exists.intro ([]) (And.intro ?_ (And.intro ?_ (And.intro (by rfl) (And.intro (by rfl) (And.intro True.intro (by rfl)))))))
      · exact ⟨hji, any_next (d := dflt tW) (by omega) hm (by rw [← m5]; simp [clash, Bool.or_assoc])⟩
      · show i - (j + 1) < i - j
        omega
    · have hji : j = i := by simp at m0; omega
      rw [hji] at hm
      refine Exists.intro (i + 1) (Exists.intro ([]) (And.intro ?_ (And.intro ?_ (And.intro (by rfl) (And.intro (by rfl) (And.intro True.intro (by rfl)))))))
      · exact ⟨hi', by rw [fineN, hf, fineAt, e, hm]; rfl⟩
      · show l.length - (i + 1) < l.length - i
        omega
  · have hi' : i = l.length := by simp at k1; omega
    subst hi'
    rw [e0, hf]; rfl
def rVainP (o : ObT) (s : OS) (w : W) : Bool := clo s || ((decide (w.2.1 = 64) && (decide (((bu s).length : Int) < o.2.2.1) || foreign (qu s) 65 w.1)) || (decide (w.2.1 = 65) && (decide (0 < ((bu s).length : Int)) || foreign (qu s) 64 w.1)))
theorem cx7_good : GoodCtx Try.prog ⟨tys0, [(64, ([], c64))]⟩ := cx_cons good64 cx0_good
def c39 : Ctr := fnC [dObj, dOS] rB (fun _ => True) (fun y => ((qu y.2.1).any (rVainP y.1 y.2.1), ()))
theorem good39 : GoodC Try.prog 39 c39 := by
  refine goodF cx7_good 3 _ _ _ _ ⟨_, Try.func39, rfl, rfl⟩ fun (⟨⟨nm, kd, sz, ot⟩, ⟨ow, ct, tm, hs, q, bf, cs, cl, vl⟩, _⟩ : ObT × OS × Unit) _ => ?_
  refine (And.intro (by rfl) ?_)
  refine ex4 _ (fun i : Nat => ⟨[.any, .any, .ptr 0 0, .ptr 1 0, .any, .int .i64 (i : Int), .any, .any, .any, .any, .any, .any, .any, .any, .any, .any, .any, .any, .any, .any, .any, .any, .any, .any, .any, .any, .any, .any, .any, .any, .any, .any, .any, .any, .any, .any, .any, .any, .any, .any, .any, .any, .any, .any, .any, .any, .any, .any, .any, .any, .any, .any, .any, .any, .any, .any, .any], [.cells [.str nm, .int .i64 kd, .int .i64 sz, .int .i64 ot], .cells   [.int .i64 ow, .int .i64 ct, .int .i64 tm, .sl (.int .i64) hs, .sl tW q,     .sl (.int .i64) bf, .sl tCu cs, .bool cl, .int .i64 vl]], 2⟩) (fun i => i ≤ q.length ∧ (q.take i).any (rVainP (nm, kd, sz, ot) (ow, ct, tm, hs, q, bf, cs, cl, vl)) = false) (fun i => q.length - i) (And.intro (Exists.intro (0) (Exists.intro ([some 0, some 1]) (And.intro ?_ (And.intro (by rfl) (And.intro (by rfl) (And.intro (And.intro (And.intro (by rfl) (by rfl)) (And.intro (And.intro (by rfl) (by rfl)) True.intro)) (by rfl))))))) ?_)
  · simp
  rintro i ⟨hi, ht⟩
  have ff : ∀ op t, decide (0 ≤ firstAt (pFor op t) q 0) = foreign q op t := fun op t => firstAt_ge _ _ _ (by omega)
  refine (fun k0 => (And.intro (fun k1 => (And.intro (by intros; (try subst_vars); (try simp only [Bool.cond_true_left, Bool.cond_false_right, Bool.or_eq_true, Bool.or_eq_false_iff, Bool.and_eq_true, Bool.not_eq_true', Bool.not_eq_false', decide_eq_true_eq, decide_eq_false_iff_not, Int.not_lt, Int.not_le] at *); (try simp only [inK, big, lim, List.length_cons, List.length_nil, List.length_append, List.length_drop, List.length_take, List.length_replicate] at *); omega) (And.intro (fun k2 => (fin_of rfl ?_)) (fun k2 => (fun k3 => (And.intro (fun k4 => True.intro) (And.intro (fun k5 => (fin_of rfl ?_)) (fun k5 => (fun k6 => (And.intro (fun k7 => True.intro) (And.intro (fun k8 => (fin_of rfl ?_)) (fun k8 => (And.intro (by intros; (try subst_vars); (try simp only [Bool.cond_true_left, Bool.cond_false_right, Bool.or_eq_true, Bool.or_eq_false_iff, Bool.and_eq_true, Bool.not_eq_true', Bool.not_eq_false', decide_eq_true_eq, decide_eq_false_iff_not, Int.not_lt, Int.not_le] at *); (try simp only [inK, big, lim, List.length_cons, List.length_nil, List.length_append, List.length_drop, List.length_take, List.length_replicate] at *); omega) ?_))))))))))))) (fun k1 => (fin_of rfl ?_))))
  · have e : q.any (rVainP (nm, kd, sz, ot) (ow, ct, tm, hs, q, bf, cs, cl, vl)) = true := any_hit (i := i) (d := dflt tW) (by simpa using k1) (by have k2' : cl = true := k2; simp [rVainP, clo, k2'])
    rw [qu, e]
  · have e : q.any (rVainP (nm, kd, sz, ot) (ow, ct, tm, hs, q, bf, cs, cl, vl)) = true := any_hit (i := i) (d := dflt tW) (by simpa using k1) (by simp only [ff] at k5; simp [rVainP, clo, bu, qu] at k5 ⊢; grind)
    rw [qu, e]
  · have e : q.any (rVainP (nm, kd, sz, ot) (ow, ct, tm, hs, q, bf, cs, cl, vl)) = true := any_hit (i := i) (d := dflt tW) (by simpa using k1) (by simp only [ff] at k8; simp [rVainP, clo, bu, qu] at k8 ⊢; grind)
    rw [qu, e]
  · refine Exists.intro (i + 1) (Exists.intro ([some 0, some 1]) (And.intro ?_ (And.intro ?_ (And.intro (by rfl) (And.intro (by rfl) (And.intro (And.intro (And.intro (by rfl) (by rfl)) (And.intro (And.intro (by rfl) (by rfl)) True.intro)) (by rfl)))))))
    · exact ⟨Nat.succ_le_of_lt (by simpa using k1), any_next (d := dflt tW) (by simpa using k1) ht (by simp only [ff] at k5 k8; simp [rVainP, clo, bu, qu] at k2 k5 k8 ⊢; grind)⟩
    · have hi' : i < q.length := by simpa using k1
      show q.length - (i + 1) < q.length - i
      omega
  · have e : q.any (rVainP (nm, kd, sz, ot) (ow, ct, tm, hs, q, bf, cs, cl, vl)) = false := any_end (by simpa using k1) ht
    rw [qu, e]
theorem fineN_kind {l : List W} : ∀ {n : Nat}, fineN l n = true → ∀ i, i < n → fineAt l i = true
  | 0, _, i, h' => by omega
  | n + 1, h, i, h' => by
    simp only [fineN, Bool.and_eq_true] at h
    by_cases e : i = n
    · rw [e]; exact h.2
    · exact fineN_kind h.1 i (by omega)
theorem fineN_mem {l : List W} (h : fineN l l.length = true) {w : W} (hw : w ∈ l) : wKind w = true := by
  obtain ⟨i, hi, rfl⟩ := List.getElem_of_mem hw
  have := fineN_kind h i hi
  simp only [fineAt, Bool.and_eq_true] at this
  have := this.1
  simpa [List.getD_eq_getElem?_getD, List.getElem?_eq_getElem hi] using this
theorem any_or {α : Type} (c : Bool) (p : α → Bool) (l : List α) : l.any (fun x => c || p x) = ((c && !decide (l.length = 0)) || l.any p) := by
  cases c
  · simp
  · cases l <;> simp
theorem any_mem {α : Type} {p q : α → Bool} : ∀ (l : List α), (∀ x ∈ l, p x = q x) → l.any p = l.any q
  | [], _ => rfl
  | x :: l, h => by rw [List.any_cons, List.any_cons, h x (by simp), any_mem l fun y hy => h y (by simp [hy])]
theorem rVain_eq {o : ObT} {s : OS} (hk : ∀ w ∈ qu s, wKind w = true) (hb : ((bu s).length : Int) ≤ o.2.2.1) : (qu s).any (rVainP o s) = ((clo s && !decide ((qu s).length = 0)) || vain o s) := by
  rw [vain, ← any_or]
  refine any_mem _ fun w hw => ?_
  have h1 := hk w hw
  simp only [wKind, Bool.or_eq_true, Bool.and_eq_true, decide_eq_true_eq] at h1
  have h2 : decide (((bu s).length : Int) < o.2.2.1) = !decide (((bu s).length : Int) = o.2.2.1) := by
    rw [← decide_not]; exact decide_eq_decide.2 (by omega)
  rcases h1 with h1 | ⟨h1, _⟩
  · simp [rVainP, vainP, h1, h2]
  · simp [rVainP, vainP, h1, h2]
theorem sValid_alt {o : ObT} {s : OS} (h1 : plainB o s = true) (h2 : (bu s).any (fun n => !num n) = false) : sValid o s = !(bif !(decide (wlCheck (qu s) = 0) && fineN (qu s) (qu s).length) then true else (qu s).any (rVainP o s)) := by
  rw [sValid, h1, h2]
  cases hA : decide (wlCheck (qu s) = 0)
  · rfl
  cases hB : fineN (qu s) (qu s).length
  · rfl
  rw [rVain_eq (fun w hw => fineN_mem hB hw) (by simp only [plainB, Bool.and_eq_true, decide_eq_true_eq] at h1; exact h1.2.2.2.2.2.2)]
  simp [Bool.not_or, Bool.not_and]
def cx8 : Ctx := ⟨tys0, [(20, ([], c20)), (37, ([], c37)), (38, ([], c38)), (39, ([], c39))]⟩
theorem cx8_good : GoodCtx Try.prog cx8 := cx_cons good20 (cx_cons good37 (cx_cons good38 (cx_cons good39 cx0_good)))
def c12 : Ctr := fnC [dObj, dOS] [(false, tI)] (fun y => few y.2.1) (fun y => (sCheck y.1 y.2.1, ()))
set_option maxHeartbeats 4000000 in
theorem good12 : GoodC Try.prog 12 c12 := by
  refine goodF cx8_good 3 _ _ _ _ ⟨_, Try.func12, rfl, rfl⟩ fun (⟨⟨nm, kd, sz, ot⟩, ⟨ow, ct, tm, hs, q, bf, cs, cl, vl⟩, _⟩ : ObT × OS × Unit) hfew => ?_
  simp only [few] at hfew
  refine (And.intro (by rfl) (And.intro True.intro (fun (h0 : (Int × Int × Int × List Int × List (Int × Int × Int × Int × Int) × List Int × List (Int × List Int) × Bool × Int) ×   Int × PUnit) => (fun h1 => (And.intro (fun h2 => (fin_of rfl ?_)) (fun h2 => (fun h3 => (fun h4 => (fun h5 => (And.intro (fun h6 => (fin_of rfl ?_)) (fun h6 => ?_)))))))))))
  · subst h1
    have e : (sNew (nm, kd, sz, ot)).2 ≠ 0 := by simpa using h2
    rw [sCheck, if_pos e]
  · subst h1
    have e : ¬ (sNew (nm, kd, sz, ot)).2 ≠ 0 := by simpa using h2
    have e1 : plainB (nm, kd, sz, ot) (ow, ct, tm, hs, q, bf, cs, cl, vl) = false := by simp [plainB, bu, -List.length_eq_zero_iff] at h6 ⊢; intros; omega
    rw [sCheck, if_neg e, if_pos (by rw [sValid, e1]; rfl)]
  have e : ¬ (sNew (nm, kd, sz, ot)).2 ≠ 0 := by subst h1; simpa using h2
  have e1 : plainB (nm, kd, sz, ot) (ow, ct, tm, hs, q, bf, cs, cl, vl) = true := by simp [plainB, bu, -List.length_eq_zero_iff] at h6 ⊢; omega
  refine ex4 _ (fun i : Nat => ⟨[.any, .any, .ptr 0 0, .ptr 1 0, .any, .any, .any, .int .i64 (i : Int), .any, .any, .any, .any, .any, .any, .any, .any, .any, .any, .any, .any, .any, .any, .any, .any, .any, .any, .any, .any, .any, .any, .any, .any, .any, .any, .any, .any, .any, .any, .any, .any, .any, .any, .any, .any, .any, .any, .any, .any, .any, .any, .any, .any, .any, .any, .any, .any, .any, .any, .any, .any, .any, .any, .any, .any, .any, .any, .any, .any, .any, .any, .any, .any, .any, .any, .any, .any, .any], [.cells [.str nm, .int .i64 kd, .int .i64 sz, .int .i64 ot], .cells   [.int .i64 ow, .int .i64 ct, .int .i64 tm, .sl (.int .i64) hs, .sl tW q,     .sl (.int .i64) bf, .sl tCu cs, .bool cl, .int .i64 vl], .cells   [.int .i64 h0.1.1, .int .i64 h0.1.2.1, .int .i64 h0.1.2.2.1,     .sl (.int .i64) h0.1.2.2.2.1, .sl tW h0.1.2.2.2.2.1, .sl (.int .i64) h0.1.2.2.2.2.2.1,     .sl tCu h0.1.2.2.2.2.2.2.1, .bool h0.1.2.2.2.2.2.2.2.1, .int .i64 h0.1.2.2.2.2.2.2.2.2]], 3⟩) (fun i => i ≤ bf.length ∧ (bf.take i).any (fun n => !num n) = false) (fun i => bf.length - i) (And.intro (Exists.intro (0) (Exists.intro ([some 0, some 1, some 2]) (And.intro ?_ (And.intro (by rfl) (And.intro (by rfl) (And.intro (And.intro (And.intro (by rfl) (by rfl)) (And.intro (And.intro (by rfl) (by rfl)) (And.intro (And.intro (by rfl) (by rfl)) True.intro))) (by rfl))))))) ?_)
  · simp
  rintro i ⟨hi, ht⟩
  refine (fun k0 => (And.intro (fun k1 => (And.intro (by intros; (try subst_vars); (try simp only [Bool.cond_true_left, Bool.cond_false_right, Bool.or_eq_true, Bool.or_eq_false_iff, Bool.and_eq_true, Bool.not_eq_true', Bool.not_eq_false', decide_eq_true_eq, decide_eq_false_iff_not, Int.not_lt, Int.not_le] at *); (try simp only [inK, big, lim, List.length_cons, List.length_nil, List.length_append, List.length_drop, List.length_take, List.length_replicate] at *); omega) (And.intro True.intro (And.intro (fun k2 => (fin_of rfl ?_)) (fun k2 => (And.intro (by intros; (try subst_vars); (try simp only [Bool.cond_true_left, Bool.cond_false_right, Bool.or_eq_true, Bool.or_eq_false_iff, Bool.and_eq_true, Bool.not_eq_true', Bool.not_eq_false', decide_eq_true_eq, decide_eq_false_iff_not, Int.not_lt, Int.not_le] at *); (try simp only [inK, big, lim, List.length_cons, List.length_nil, List.length_append, List.length_drop, List.length_take, List.length_replicate] at *); omega) ?_)))))) (fun k1 => (And.intro True.intro (And.intro (fun k3 => True.intro) (And.intro (fun k4 => (fin_of rfl ?_)) (fun k4 => (fin_of rfl ?_))))))))
  · have e2 : bf.any (fun n => !num n) = true := any_hit (i := i) (d := 0) (by simpa using k1) k2
    rw [sCheck, if_neg e, if_pos (by rw [sValid, e1, bu, e2]; rfl)]
  · refine Exists.intro (i + 1) (Exists.intro ([some 0, some 1, some 2]) (And.intro ?_ (And.intro ?_ (And.intro (by rfl) (And.intro (by rfl) (And.intro (And.intro (And.intro (by rfl) (by rfl)) (And.intro (And.intro (by rfl) (by rfl)) (And.intro (And.intro (by rfl) (by rfl)) True.intro))) (by rfl)))))))
    · exact ⟨Nat.succ_le_of_lt (by simpa using k1), any_next (d := 0) (by simpa using k1) ht k2⟩
    · have hi' : i < bf.length := by simpa using k1
      show bf.length - (i + 1) < bf.length - i
      omega
  · have e2 : bf.any (fun n => !num n) = false := any_end (by simpa using k1) ht
    rw [sCheck, if_neg e, if_pos (by rw [sValid_alt e1 e2]; exact (congrArg Bool.not k4))]
  · have e2 : bf.any (fun n => !num n) = false := any_end (by simpa using k1) ht
    rw [sCheck, if_neg e, if_neg (by rw [sValid_alt e1 e2]; intro h; have h' := (congrArg Bool.not k4).symm.trans h; simp at h')]
end Go.Proofs.Ytnaejponobbahaa
