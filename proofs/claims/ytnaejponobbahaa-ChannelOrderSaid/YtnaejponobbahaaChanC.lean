/- Channel: Check, as a contract. -/
import Derived.Test.YtnaejponobbahaaChanB
set_option linter.unusedSimpArgs false
set_option linter.unusedVariables false
set_option maxRecDepth 100000
namespace Go.Proofs.Ytnaejponobbahaa
open Go.Sx

abbrev qu (s : OS) : List W := s.2.2.2.2.1
abbrev bu (s : OS) : List Int := s.2.2.2.2.2.1
abbrev clo (s : OS) : Bool := s.2.2.2.2.2.2.2.1
abbrev few (s : OS) : Prop := s.2.2.2.1.length ≤ 1000000 ∧ (qu s).length ≤ 1000000 ∧ (bu s).length ≤ 1000000 ∧ s.2.2.2.2.2.2.1.length ≤ 1000000
def clash (w x : W) : Bool := decide (x.1 = w.1) && (decide (x.2.2.2.2 = -1) || (decide (w.2.2.2.2 = -1) || decide (x.2.2.2.2 = w.2.2.2.2)))
def wKind (w : W) : Bool := decide (w.2.1 = 64) || (decide (w.2.1 = 65) && decide (w.2.2.1 = 0))
def fineAt (l : List W) (i : Nat) : Bool := wKind (l.getD i (dflt tW)) && !((l.take i).any (clash (l.getD i (dflt tW))))
def fineN (l : List W) : Nat → Bool
  | 0 => true
  | n + 1 => fineN l n && fineAt l n
theorem fineN_bad {l : List W} {j : Nat} (h : fineAt l j = false) : ∀ n, j < n → fineN l n = false
  | 0, h' => by omega
  | n + 1, h' => by
    by_cases e : j = n
    · subst e; simp [fineN, h]
    · simp [fineN, fineN_bad h n (by omega)]
def vainP (o : ObT) (s : OS) (w : W) : Bool := if w.2.1 = 64 then !decide (((bu s).length : Int) = o.2.2.1) || foreign (qu s) 65 w.1 else decide (0 < ((bu s).length : Int)) || foreign (qu s) 64 w.1
def vain (o : ObT) (s : OS) : Bool := (qu s).any (vainP o s)
def plainB (o : ObT) (s : OS) : Bool := decide (s.1 = -1) && (decide (s.2.1 = 0) && (decide (s.2.2.1 = 0) && (decide (s.2.2.2.2.2.2.2.2 = 0) && (decide (s.2.2.2.1.length = 0) && (decide (s.2.2.2.2.2.2.1.length = 0) && decide (((bu s).length : Int) ≤ o.2.2.1))))))
def sValid (o : ObT) (s : OS) : Bool := plainB o s && (!((bu s).any (fun n => !num n)) && (decide (wlCheck (qu s) = 0) && (fineN (qu s) (qu s).length && ((!clo s || decide ((qu s).length = 0)) && !vain o s))))
def sCheck (o : ObT) (s : OS) : Int := if (sNew o).2 ≠ 0 then (sNew o).2 else if sValid o s = false then 1 else 0

def c56 : Ctr := fnC [dWs, dI] rB (fun y => 0 ≤ y.2.1 ∧ y.2.1 < y.1.length) (fun y => (fineAt y.1 y.2.1.toNat, ()))
theorem good56 : GoodC Try.prog 56 c56 := by
  refine goodF cx0_good 4 _ _ _ _ ⟨_, Try.func56, rfl, rfl⟩ fun (⟨l, n, _⟩ : List W × Int × Unit) hn => ?_
  simp only at hn
  refine (And.intro (by rfl) (And.intro (by intros; (try subst_vars); (try simp only [Bool.cond_true_left, Bool.cond_false_right, Bool.or_eq_true, Bool.or_eq_false_iff, Bool.and_eq_true, Bool.not_eq_true', Bool.not_eq_false', decide_eq_true_eq, decide_eq_false_iff_not, Int.not_lt, Int.not_le] at *); (try simp only [inK, big, lim, List.length_cons, List.length_nil, List.length_append, List.length_drop, List.length_take, List.length_replicate] at *); omega) (And.intro (fun h0 => (fin_of rfl ?_)) (fun h0 => (And.intro ?_ (And.intro (by rfl) (And.intro (by rfl) (fun h1 => ?_))))))))
  · have e : wKind (l.getD n.toNat (dflt tW)) = false := by simp [wKind] at h0 ⊢; grind
    rw [fineAt, e]; rfl
  · exact ⟨hn.1, Int.le_of_lt hn.2⟩
  have ek : wKind (l.getD n.toNat (dflt tW)) = true := by simp [wKind] at h0 ⊢; grind
  refine ex4 _ (fun i : Nat => ⟨[.sl tW (List.take n.toNat l), .fn (Fn.func 76) [] [.ptr 0 0], .any, .any, .any, .any, .sl tW (List.take n.toNat l), .int .i64 (↑(List.take n.toNat l).length : Int), .int .i64 (i : Int), .any, .any, .any, .any, .any, .any, .any, .any, .any, .any], [.cells   [.int .i64 (l.getD n.toNat (dflt tW)).1, .int .i64 (l.getD n.toNat (dflt tW)).2.1,     .int .i64 (l.getD n.toNat (dflt tW)).2.2.1, .int .i64 (l.getD n.toNat (dflt tW)).2.2.2.1,     .int .i64 (l.getD n.toNat (dflt tW)).2.2.2.2]], 1⟩) (fun i => i ≤ (l.take n.toNat).length ∧ ((l.take n.toNat).take i).any (clash (l.getD n.toNat (dflt tW))) = false) (fun i => (l.take n.toNat).length - i) (And.intro (Exists.intro (0) (Exists.intro ([some 0]) (And.intro ?_ (And.intro (by rfl) (And.intro (by rfl) (And.intro (And.intro (And.intro (by rfl) (by rfl)) True.intro) (by rfl))))))) ?_)
  · exact ⟨Nat.zero_le _, rfl⟩
  rintro i ⟨hi, ht⟩
  refine (And.intro (fun k0 => (And.intro (by intros; (try subst_vars); (try simp only [Bool.cond_true_left, Bool.cond_false_right, Bool.or_eq_true, Bool.or_eq_false_iff, Bool.and_eq_true, Bool.not_eq_true', Bool.not_eq_false', decide_eq_true_eq, decide_eq_false_iff_not, Int.not_lt, Int.not_le] at *); (try simp only [inK, big, lim, List.length_cons, List.length_nil, List.length_append, List.length_drop, List.length_take, List.length_replicate] at *); omega) (And.intro (by rfl) (And.intro (fun k1 => (fin_of rfl ?_)) (fun k1 => (And.intro (by intros; (try subst_vars); (try simp only [Bool.cond_true_left, Bool.cond_false_right, Bool.or_eq_true, Bool.or_eq_false_iff, Bool.and_eq_true, Bool.not_eq_true', Bool.not_eq_false', decide_eq_true_eq, decide_eq_false_iff_not, Int.not_lt, Int.not_le] at *); (try simp only [inK, big, lim, List.length_cons, List.length_nil, List.length_append, List.length_drop, List.length_take, List.length_replicate] at *); omega) ?_)))))) (fun k0 => (fin_of rfl ?_)))
  · have e : (l.take n.toNat).any (clash (l.getD n.toNat (dflt tW))) = true := any_hit (i := i) (d := dflt tW) (by simp only [decide_eq_true_eq, decide_eq_false_iff_not, Int.ofNat_lt, Int.not_lt, Int.ofNat_le] at *; omega) (by rw [← k1]; simp [clash, Bool.or_assoc])
    rw [fineAt, ek, e]; simp
  · refine Exists.intro (i + 1) (Exists.intro ([some 0]) (And.intro ?_ (And.intro ?_ (And.intro (by rfl) (And.intro (by rfl) (And.intro (And.intro (And.intro (by rfl) (by rfl)) True.intro) (by rfl)))))))
    · exact ⟨(by simp only [decide_eq_true_eq, decide_eq_false_iff_not, Int.ofNat_lt, Int.not_lt, Int.ofNat_le] at *; omega), any_next (d := dflt tW) (by simp only [decide_eq_true_eq, decide_eq_false_iff_not, Int.ofNat_lt, Int.not_lt, Int.ofNat_le] at *; omega) ht (by rw [← k1]; simp [clash, Bool.or_assoc])⟩
    · have hi' : i < (l.take n.toNat).length := (by simp only [decide_eq_true_eq, decide_eq_false_iff_not, Int.ofNat_lt, Int.not_lt, Int.ofNat_le] at *; omega); show (l.take n.toNat).length - (i + 1) < (l.take n.toNat).length - i; omega
  · have e : (l.take n.toNat).any (clash (l.getD n.toNat (dflt tW))) = false := any_end (by simp only [decide_eq_true_eq, decide_eq_false_iff_not, Int.ofNat_lt, Int.not_lt, Int.ofNat_le] at *; omega) ht
    rw [fineAt, ek, e]; simp
def cx2 : Ctx := ⟨tys0, [(78, ([], c78))]⟩
theorem cx2_good : GoodCtx Try.prog cx2 := cx_cons good78 cx0_good
def c57 : Ctr := fnC [dObj, dOS] rB (fun _ => True) (fun y => (vain y.1 y.2.1, ()))
theorem good57 : GoodC Try.prog 57 c57 := by
  refine goodF cx2_good 4 _ _ _ _ ⟨_, Try.func57, rfl, rfl⟩ fun (⟨⟨nm, kd, sz, ot⟩, ⟨ow, ct, tm, hs, q, bf, cs, cl, vl⟩, _⟩ : ObT × OS × Unit) _ => ?_
  refine (And.intro (by rfl) (And.intro (by rfl) (And.intro (by rfl) (fun h0 => ?_))))
  refine ex4 _ (fun i : Nat => ⟨[.sl tW q, .fn (Fn.func 77) [] [.ptr 1 0, .ptr 0 0], .any, .any, .any, .any, .sl tW q, .int .i64 (↑q.length : Int), .int .i64 (i : Int), .any, .any, .any, .any, .any, .any, .any, .any, .any, .any], [.cells [.str nm, .int .i64 kd, .int .i64 sz, .int .i64 ot], .cells   [.int .i64 ow, .int .i64 ct, .int .i64 tm, .sl (.int .i64) hs, .sl tW q,     .sl (.int .i64) bf, .sl tCu cs, .bool cl, .int .i64 vl]], 2⟩) (fun i => i ≤ q.length ∧ (q.take i).any (vainP (nm, kd, sz, ot) (ow, ct, tm, hs, q, bf, cs, cl, vl)) = false) (fun i => q.length - i) (And.intro (Exists.intro (0) (Exists.intro ([some 0, some 1]) (And.intro ?_ (And.intro (by rfl) (And.intro (by rfl) (And.intro (And.intro (And.intro (by rfl) (by rfl)) (And.intro (And.intro (by rfl) (by rfl)) True.intro)) (by rfl))))))) ?_)
  · simp
  rintro i ⟨hi, ht⟩
  refine (And.intro (fun k0 => (And.intro (by intros; (try subst_vars); (try simp only [Bool.cond_true_left, Bool.cond_false_right, Bool.or_eq_true, Bool.or_eq_false_iff, Bool.and_eq_true, Bool.not_eq_true', Bool.not_eq_false', decide_eq_true_eq, decide_eq_false_iff_not, Int.not_lt, Int.not_le] at *); (try simp only [inK, big, lim, List.length_cons, List.length_nil, List.length_append, List.length_drop, List.length_take, List.length_replicate] at *); omega) (And.intro (by rfl) (And.intro (fun k1 => (fun k2 => (And.intro (fun k3 => True.intro) (And.intro (fun k4 => (fin_of rfl ?_)) (fun k4 => (And.intro (by intros; (try subst_vars); (try simp only [Bool.cond_true_left, Bool.cond_false_right, Bool.or_eq_true, Bool.or_eq_false_iff, Bool.and_eq_true, Bool.not_eq_true', Bool.not_eq_false', decide_eq_true_eq, decide_eq_false_iff_not, Int.not_lt, Int.not_le] at *); (try simp only [inK, big, lim, List.length_cons, List.length_nil, List.length_append, List.length_drop, List.length_take, List.length_replicate] at *); omega) ?_)))))) (fun k1 => (fun k5 => (And.intro (fun k6 => True.intro) (And.intro (fun k7 => (fin_of rfl ?_)) (fun k7 => (And.intro (by intros; (try subst_vars); (try simp only [Bool.cond_true_left, Bool.cond_false_right, Bool.or_eq_true, Bool.or_eq_false_iff, Bool.and_eq_true, Bool.not_eq_true', Bool.not_eq_false', decide_eq_true_eq, decide_eq_false_iff_not, Int.not_lt, Int.not_le] at *); (try simp only [inK, big, lim, List.length_cons, List.length_nil, List.length_append, List.length_drop, List.length_take, List.length_replicate] at *); omega) ?_)))))))))) (fun k0 => (fin_of rfl ?_)))
  · have e : q.any (vainP (nm, kd, sz, ot) (ow, ct, tm, hs, q, bf, cs, cl, vl)) = true := any_hit (i := i) (d := dflt tW) (by simp only [decide_eq_true_eq, decide_eq_false_iff_not, Int.ofNat_lt, Int.not_lt, Int.ofNat_le] at *; omega) (by simp [vainP] at k1 k4 ⊢; simp [k1, k4])
    simp [vain, e]
  · refine Exists.intro (i + 1) (Exists.intro ([some 0, some 1]) (And.intro ?_ (And.intro ?_ (And.intro (by rfl) (And.intro (by rfl) (And.intro (And.intro (And.intro (by rfl) (by rfl)) (And.intro (And.intro (by rfl) (by rfl)) True.intro)) (by rfl)))))))
    · exact ⟨(by simp only [decide_eq_true_eq, decide_eq_false_iff_not, Int.ofNat_lt, Int.not_lt, Int.ofNat_le] at *; omega), any_next (d := dflt tW) (by simp only [decide_eq_true_eq, decide_eq_false_iff_not, Int.ofNat_lt, Int.not_lt, Int.ofNat_le] at *; omega) ht (by simp [vainP] at k1 k4 ⊢; simp [k1, k4])⟩
    · have hi' : i < q.length := (by simp only [decide_eq_true_eq, decide_eq_false_iff_not, Int.ofNat_lt, Int.not_lt, Int.ofNat_le] at *; omega); show q.length - (i + 1) < q.length - i; omega
  · have e : q.any (vainP (nm, kd, sz, ot) (ow, ct, tm, hs, q, bf, cs, cl, vl)) = true := any_hit (i := i) (d := dflt tW) (by simp only [decide_eq_true_eq, decide_eq_false_iff_not, Int.ofNat_lt, Int.not_lt, Int.ofNat_le] at *; omega) (by simp [vainP] at k1 k7 ⊢; simp [k1, k7])
    simp [vain, e]
  · refine Exists.intro (i + 1) (Exists.intro ([some 0, some 1]) (And.intro ?_ (And.intro ?_ (And.intro (by rfl) (And.intro (by rfl) (And.intro (And.intro (And.intro (by rfl) (by rfl)) (And.intro (And.intro (by rfl) (by rfl)) True.intro)) (by rfl)))))))
    · exact ⟨(by simp only [decide_eq_true_eq, decide_eq_false_iff_not, Int.ofNat_lt, Int.not_lt, Int.ofNat_le] at *; omega), any_next (d := dflt tW) (by simp only [decide_eq_true_eq, decide_eq_false_iff_not, Int.ofNat_lt, Int.not_lt, Int.ofNat_le] at *; omega) ht (by simp [vainP] at k1 k7 ⊢; simp [k1, k7])⟩
    · have hi' : i < q.length := (by simp only [decide_eq_true_eq, decide_eq_false_iff_not, Int.ofNat_lt, Int.not_lt, Int.ofNat_le] at *; omega); show q.length - (i + 1) < q.length - i; omega
  · have e : q.any (vainP (nm, kd, sz, ot) (ow, ct, tm, hs, q, bf, cs, cl, vl)) = false := any_end (by simp only [decide_eq_true_eq, decide_eq_false_iff_not, Int.ofNat_lt, Int.not_lt, Int.ofNat_le] at *; omega) ht
    simp [vain, e]
def cx3 : Ctx := ⟨tys0, [(75, ([], c75)), (56, ([], c56)), (57, ([], c57)), (19, ([], c19)), (45, ([], c45))]⟩
theorem cx3_good : GoodCtx Try.prog cx3 := cx_cons good75 (cx_cons good56 (cx_cons good57 (cx_cons good19 (cx_cons good45 cx0_good))))
def c54 : Ctr := fnC [dObj, dOS] rB (fun y => few y.2.1) (fun y => (sValid y.1 y.2.1, ()))
set_option maxHeartbeats 4000000 in
theorem good54 : GoodC Try.prog 54 c54 := by
  refine goodF cx3_good 4 _ _ _ _ ⟨_, Try.func54, rfl, rfl⟩ fun (⟨⟨nm, kd, sz, ot⟩, ⟨ow, ct, tm, hs, q, bf, cs, cl, vl⟩, _⟩ : ObT × OS × Unit) hfew => ?_
  simp only [few] at hfew
  refine (And.intro (by rfl) (fun h0 => (fun h1 => (And.intro (fun h2 => (by intros; (try subst_vars); (try simp only [Bool.cond_true_left, Bool.cond_false_right, Bool.or_eq_true, Bool.or_eq_false_iff, Bool.and_eq_true, Bool.not_eq_true', Bool.not_eq_false', decide_eq_true_eq, decide_eq_false_iff_not, Int.not_lt, Int.not_le] at *); (try simp only [inK, big, lim, List.length_cons, List.length_nil, List.length_append, List.length_drop, List.length_take, List.length_replicate] at *); omega)) (fun h3 => (And.intro (fun h4 => (fin_of rfl ?_)) (fun h4 => (And.intro (by rfl) (And.intro (by rfl) (fun h5 => ?_))))))))))
  · have e : plainB (nm, kd, sz, ot) (ow, ct, tm, hs, q, bf, cs, cl, vl) = false := by simp [plainB, bu, -List.length_eq_zero_iff] at h4 ⊢; intros; omega
    rw [sValid, e]; rfl
  have e1 : plainB (nm, kd, sz, ot) (ow, ct, tm, hs, q, bf, cs, cl, vl) = true := by simp [plainB, bu, -List.length_eq_zero_iff] at h4 ⊢; omega
  refine ex4 _ (fun i : Nat => ⟨[.sl (.int .i64) bf, .fn (Fn.func 74) [] [], .any, .any, .any, .any, .sl (.int .i64) bf, .int .i64 (↑bf.length : Int), .int .i64 (i : Int), .any, .any, .any, .any, .any, .any, .any, .any, .any, .any], [.cells [.str nm, .int .i64 kd, .int .i64 sz, .int .i64 ot], .cells   [.int .i64 ow, .int .i64 ct, .int .i64 tm, .sl (.int .i64) hs, .sl tW q,     .sl (.int .i64) bf, .sl tCu cs, .bool cl, .int .i64 vl]], 2⟩) (fun i => i ≤ bf.length ∧ (bf.take i).any (fun n => !num n) = false) (fun i => bf.length - i) (And.intro (Exists.intro (0) (Exists.intro ([some 0, some 1]) (And.intro ?_ (And.intro (by rfl) (And.intro (by rfl) (And.intro (And.intro (And.intro (by rfl) (by rfl)) (And.intro (And.intro (by rfl) (by rfl)) True.intro)) (by rfl))))))) ?_)
  · simp
  rintro i ⟨hi, ht⟩
  refine (And.intro (fun k0 => (And.intro (by intros; (try subst_vars); (try simp only [Bool.cond_true_left, Bool.cond_false_right, Bool.or_eq_true, Bool.or_eq_false_iff, Bool.and_eq_true, Bool.not_eq_true', Bool.not_eq_false', decide_eq_true_eq, decide_eq_false_iff_not, Int.not_lt, Int.not_le] at *); (try simp only [inK, big, lim, List.length_cons, List.length_nil, List.length_append, List.length_drop, List.length_take, List.length_replicate] at *); omega) (And.intro (by rfl) (And.intro True.intro (And.intro (fun k1 => (And.intro (fun k2 => (by rfl)) (And.intro (fun k3 => (fin_of rfl ?_)) (fun k3 => (fun k4 => ?_))))) (fun k1 => (And.intro (by intros; (try subst_vars); (try simp only [Bool.cond_true_left, Bool.cond_false_right, Bool.or_eq_true, Bool.or_eq_false_iff, Bool.and_eq_true, Bool.not_eq_true', Bool.not_eq_false', decide_eq_true_eq, decide_eq_false_iff_not, Int.not_lt, Int.not_le] at *); (try simp only [inK, big, lim, List.length_cons, List.length_nil, List.length_append, List.length_drop, List.length_take, List.length_replicate] at *); omega) ?_))))))) (fun k0 => (And.intro (fun k5 => (by rfl)) (And.intro (fun k6 => (fin_of rfl ?_)) (fun k6 => (fun k7 => ?_))))))
  · have e : bf.any (fun n => !num n) = true := any_hit (i := i) (d := 0) (by simp only [decide_eq_true_eq, decide_eq_false_iff_not, Int.ofNat_lt, Int.not_lt, Int.ofNat_le] at *; omega) k1
    rw [sValid, e1, bu, e]; rfl
  · exfalso
    simp at k3
  · refine Exists.intro (i + 1) (Exists.intro ([some 0, some 1]) (And.intro ?_ (And.intro ?_ (And.intro (by rfl) (And.intro (by rfl) (And.intro (And.intro (And.intro (by rfl) (by rfl)) (And.intro (And.intro (by rfl) (by rfl)) True.intro)) (by rfl)))))))
    · exact ⟨(by simp only [decide_eq_true_eq, decide_eq_false_iff_not, Int.ofNat_lt, Int.not_lt, Int.ofNat_le] at *; omega), any_next (d := 0) (by simp only [decide_eq_true_eq, decide_eq_false_iff_not, Int.ofNat_lt, Int.not_lt, Int.ofNat_le] at *; omega) ht k1⟩
    · have hi' : i < bf.length := (by simp only [decide_eq_true_eq, decide_eq_false_iff_not, Int.ofNat_lt, Int.not_lt, Int.ofNat_le] at *; omega); show bf.length - (i + 1) < bf.length - i; omega
  · have e : bf.any (fun n => !num n) = false := any_end (by simp only [decide_eq_true_eq, decide_eq_false_iff_not, Int.ofNat_lt, Int.not_lt, Int.ofNat_le] at *; omega) ht
    have e2 : decide (wlCheck q = 0) = false := by simpa using k6
    rw [sValid, e1, bu, e, qu, e2]; rfl
  have e2 : bf.any (fun n => !num n) = false := any_end (by simp only [decide_eq_true_eq, decide_eq_false_iff_not, Int.ofNat_lt, Int.not_lt, Int.ofNat_le] at *; omega) ht
  have e3 : decide (wlCheck q = 0) = true := by simpa using k6
  refine ex4 _ (fun j : Nat => ⟨[.any, .any, .ptr 0 0, .ptr 1 0, .any, .any, .any, .any, .any, .any, .any, .any, .any, .any, .any, .any, .any, .any, .any, .any, .any, .any, .any, .any, .any, .any, .any, .any, .any, .any, .any, .any, .any, .any, .any, .any, .any, .any, .any, .any, .any, .any, .any, .any, .any, .any, .any, .any, .any, .any, .any, .ptr 1 4, .sl tW q, .int .i64 (↑q.length : Int), .int .i64 (j : Int), .any, .any, .any, .any, .any, .any, .any, .any, .any, .any, .any, .any, .any, .any, .any, .any, .any, .any, .any, .any, .any, .any, .any], [.cells [.str nm, .int .i64 kd, .int .i64 sz, .int .i64 ot], .cells   [.int .i64 ow, .int .i64 ct, .int .i64 tm, .sl (.int .i64) hs, .sl tW q,     .sl (.int .i64) bf, .sl tCu cs, .bool cl, .int .i64 vl]], 2⟩) (fun j => j ≤ q.length ∧ fineN q j = true) (fun j => q.length - j) (And.intro (Exists.intro (0) (Exists.intro ([some 0, some 1]) (And.intro ?_ (And.intro (by rfl) (And.intro (by rfl) (And.intro (And.intro (And.intro (by rfl) (by rfl)) (And.intro (And.intro (by rfl) (by rfl)) True.intro)) (by rfl))))))) ?_)
  · exact ⟨Nat.zero_le _, rfl⟩
  rintro j ⟨hj, hf⟩
  refine (And.intro (fun m0 => (And.intro ?_ (And.intro (fun m1 => (fin_of rfl ?_)) (fun m1 => (And.intro (by intros; (try subst_vars); (try simp only [Bool.cond_true_left, Bool.cond_false_right, Bool.or_eq_true, Bool.or_eq_false_iff, Bool.and_eq_true, Bool.not_eq_true', Bool.not_eq_false', decide_eq_true_eq, decide_eq_false_iff_not, Int.not_lt, Int.not_le] at *); (try simp only [inK, big, lim, List.length_cons, List.length_nil, List.length_append, List.length_drop, List.length_take, List.length_replicate] at *); omega) ?_))))) (fun m0 => (fun m2 => (And.intro (fun m3 => True.intro) (fin_of rfl ?_)))))
  · exact ⟨Int.natCast_nonneg _, by simpa using m0⟩
  · have e : fineN q q.length = false := fineN_bad (j := j) (by simpa using m1) _ (by simpa using m0)
    rw [sValid, e1, bu, e2, qu, e3, e]; rfl
  · refine Exists.intro (j + 1) (Exists.intro ([some 0, some 1]) (And.intro ?_ (And.intro ?_ (And.intro (by rfl) (And.intro (by rfl) (And.intro (And.intro (And.intro (by rfl) (by rfl)) (And.intro (And.intro (by rfl) (by rfl)) True.intro)) (by rfl)))))))
    · exact ⟨Nat.succ_le_of_lt (by simpa using m0), by rw [fineN, hf]; simpa using m1⟩
    · have hj' : j < q.length := by simpa using m0
      show q.length - (j + 1) < q.length - j; omega
  · have hj' : j = q.length := by simp at m0; omega
    subst hj'
    rw [sValid, e1, bu, e2, qu, e3, hf]
    simp
def cx4 : Ctx := ⟨tys0, [(54, ([], c54)), (19, ([], c19))]⟩
theorem cx4_good : GoodCtx Try.prog cx4 := cx_cons good54 (cx_cons good19 cx0_good)
def c23 : Ctr := fnC [dObj, dOS] [(false, tI)] (fun y => few y.2.1) (fun y => (sCheck y.1 y.2.1, ()))
theorem good23 : GoodC Try.prog 23 c23 := by
  refine goodF cx4_good 4 _ _ _ _ ⟨_, Try.func23, rfl, rfl⟩ fun (⟨⟨nm, kd, sz, ot⟩, ⟨ow, ct, tm, hs, q, bf, cs, cl, vl⟩, _⟩ : ObT × OS × Unit) hfew => ?_
  simp only [few] at hfew
  refine (And.intro (by rfl) (And.intro True.intro (fun (h0 : (Int × Int × Int × List Int × List (Int × Int × Int × Int × Int) × List Int × List (Int × List Int) × Bool × Int) ×   Int × PUnit) => (fun h1 => (And.intro (fun h2 => (fin_of rfl ?_)) (fun h2 => (And.intro (by intros; (try subst_vars); (try simp only [Bool.cond_true_left, Bool.cond_false_right, Bool.or_eq_true, Bool.or_eq_false_iff, Bool.and_eq_true, Bool.not_eq_true', Bool.not_eq_false', decide_eq_true_eq, decide_eq_false_iff_not, Int.not_lt, Int.not_le] at *); (try simp only [inK, big, lim, List.length_cons, List.length_nil, List.length_append, List.length_drop, List.length_take, List.length_replicate] at *); omega) (And.intro (fun h3 => (fin_of rfl ?_)) (fun h3 => (fin_of rfl ?_))))))))))
  · subst h1
    have e : (sNew (nm, kd, sz, ot)).2 ≠ 0 := by simpa using h2
    rw [sCheck, if_pos e]
  · subst h1
    have e : ¬ (sNew (nm, kd, sz, ot)).2 ≠ 0 := by simpa using h2
    rw [sCheck, if_neg e, if_pos (by simpa using h3)]
  · subst h1
    have e : ¬ (sNew (nm, kd, sz, ot)).2 ≠ 0 := by simpa using h2
    rw [sCheck, if_neg e, if_neg (by simpa using h3)]
end Go.Proofs.Ytnaejponobbahaa
