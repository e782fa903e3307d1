/- Partial orders: Covers, Concurrent and Extends, as contracts. -/
import Derived.Test.YtlaefkhbpnbahaaPoD
set_option linter.unusedSimpArgs false
set_option linter.unusedVariables false
set_option maxRecDepth 100000
namespace Go.Proofs.Ytlaefkhbpnbahaa
open Go.Sx

theorem chk_ok {n : Int} {l : List Ed} (h : checkF n l = 0) : 0 ≤ n ∧ n ≤ 200 ∧ l.length ≤ 2000 ∧ insideAll n l := by
  unfold checkF at h
  by_cases h1 : sizesF n l = 0
  · rw [if_neg (by simp [h1])] at h
    by_cases h2 : scanE n none l = 0
    · obtain ⟨a, b, c⟩ := sizes_ok h1
      exact ⟨a, b, c, scan_inside n none l h2⟩
    · rw [if_pos h2] at h; exact absurd h h2
  · rw [if_pos h1] at h; exact absurd h h1
theorem take_filter {α : Type} {p : α → Bool} {xs : List α} {i : Nat} {d : α} (h : i < xs.length) : (xs.take (i + 1)).filter p = (xs.take i).filter p ++ (if p (xs.getD i d) = true then [xs.getD i d] else []) := by
  rw [List.take_succ_eq_append_getElem h, List.filter_append, List.getD_eq_getElem?_getD, List.getElem?_eq_getElem h]
  simp only [List.filter_cons, List.filter_nil, Option.getD_some]
theorem range_any (k : Nat) (p : Nat → Bool) : (List.range (k + 1)).any p = ((List.range k).any p || p k) := by
  rw [List.range_succ, List.any_append]
  simp
/-- Is there an element between? -/
def covB (n : Nat) (f : Nat → Nat → Bool) (p : Ed) : Bool := (List.range n).any fun k => f p.1.toNat k && f k p.2.toNat
def coversF (n : Int) (l : List Ed) : List Ed × Int :=
  if checkF n l ≠ 0 then ([], checkF n l) else (l.filter (fun p => !covB n.toNat (inL l) p), 0)
def cxH : Ctx := ⟨tys0, [(18, ([], c18)), (39, ([], c39)), (45, ([], c45))]⟩
theorem cxH_good : GoodCtx Try.prog cxH := cx_cons good18 (cx_cons good39 (cx_cons good45 cx0_good))
def c25 : Ctr := fnC [dI, dEs] rEsI (fun _ => True) (fun y => ((coversF y.1 y.2.1).1, (coversF y.1 y.2.1).2, ()))
set_option maxHeartbeats 4000000 in
theorem good25 : GoodC Try.prog 25 c25 := by
  refine goodF cxH_good 6 _ _ _ _ ⟨_, Try.func25, rfl, rfl⟩ fun (⟨n, l, _⟩ : Int × List Ed × Unit) _ => ?_
  have mk : checkF n l = 0 → 0 ≤ n ∧ n ≤ 200 ∧ insideAll n l := fun h => ⟨(chk_ok h).1, (chk_ok h).2.1, (chk_ok h).2.2.2⟩
  refine (And.intro (by first | kernel_rfl | rfl) (And.intro True.intro (And.intro (fun h0 => (fin_of rfl ?_)) (fun h0 => (And.intro (by first | exact mk (by simpa using h0) | (intros; (try subst_vars); (try simp only [Bool.cond_true_left, Bool.cond_false_right, Bool.or_eq_true, Bool.or_eq_false_iff, Bool.and_eq_true, Bool.not_eq_true', Bool.not_eq_false', decide_eq_true_eq, decide_eq_false_iff_not, Int.not_lt, Int.not_le] at *); (try simp only [inK, big, lim, List.length_cons, List.length_nil, List.length_append, List.length_drop, List.length_take, List.length_replicate] at *); omega)) (fun (h1 : (Int × List (List Bool)) × PUnit) => (fun h2 => (fun h3 => ?_))))))))
  · have h0' : checkF n l ≠ 0 := by simpa using h0
    show ((coversF n l).1, (coversF n l).2, ()) = ([], checkF n l, ())
    rw [coversF, if_pos h0']
  have h0' : checkF n l = 0 := by simpa using h0
  obtain ⟨n0, n1, n2, hl⟩ := chk_ok h0'
  have ek : h1 = ((n, matF n l), ()) := h2
  subst ek
  rw [mat_tab n0 hl]
  have eg : coversF n l = (l.filter (fun p => !covB n.toNat (inL l) p), 0) := by rw [coversF, if_neg (by simp [h0'])]
  have nz : ((n.toNat : Nat) : Int) = n := Int.toNat_of_nonneg n0
  refine ex4 _ (fun i : Nat => ⟨[.any, .sl tE l, .any, .any, .any, .any, .any, .ptr 0 0, .own 1, .any, .any, .any, .any, .any, .any, .any, .any, .any, .any, .any, .any, .any, .any, .sl tE l, .int .i64 (↑l.length : Int), .int .i64 (i : Int), .any, .any, .any, .any, .any, .any, .any, .any, .any, .any, .any, .any, .any, .any, .any, .any, .any, .any, .any, .any, .any, .any, .any, .any, .any, .any, .any, .any, .any, .any, .any, .any, .any, .any, .any, .any, .any, .any, .any], [.cells [.int .i64 n, .sl tBs (tab n.toNat (inL l))], .rows tE ((l.take i).filter (fun p => !covB n.toNat (inL l) p))], 2⟩) (fun i => i ≤ l.length) (fun i => l.length - i) (And.intro (Exists.intro (0) (Exists.intro ([some 0, none]) (And.intro ?_ (And.intro (by rfl) (And.intro (by rfl) (And.intro (And.intro (And.intro (by rfl) (by rfl)) (And.intro (by rfl) True.intro)) (by rfl))))))) ?_)
  · exact Nat.zero_le _
  rintro i hi
  have idx : i < l.length → 0 ≤ (l.getD (i : Int).toNat (dflt tE)).1 ∧ (l.getD (i : Int).toNat (dflt tE)).1 < ((tab n.toNat (inL l)).length : Int) := fun h => by
    have := inside_get hl h
    rw [tab_len, Int.toNat_natCast]
    omega
  refine (And.intro (fun k0 => (And.intro (by first | (intros; (try subst_vars); (try simp only [Bool.cond_true_left, Bool.cond_false_right, Bool.or_eq_true, Bool.or_eq_false_iff, Bool.and_eq_true, Bool.not_eq_true', Bool.not_eq_false', decide_eq_true_eq, decide_eq_false_iff_not, Int.not_lt, Int.not_le] at *); (try simp only [inK, big, lim, List.length_cons, List.length_nil, List.length_append, List.length_drop, List.length_take, List.length_replicate] at *); omega) | exact idx (by simpa using k0)) (And.intro (by first | (intros; (try subst_vars); (try simp only [Bool.cond_true_left, Bool.cond_false_right, Bool.or_eq_true, Bool.or_eq_false_iff, Bool.and_eq_true, Bool.not_eq_true', Bool.not_eq_false', decide_eq_true_eq, decide_eq_false_iff_not, Int.not_lt, Int.not_le] at *); (try simp only [inK, big, lim, List.length_cons, List.length_nil, List.length_append, List.length_drop, List.length_take, List.length_replicate] at *); omega) | exact idx (by simpa using k0)) (fun k1 => ?_)))) (fun k0 => (fin_of rfl ?_)))
  · have hi' : i < l.length := by simpa using k0
    have hin := inside_get hl hi'
    have ha : (l.getD i (dflt tE)).1.toNat < n.toNat := by omega
    have hb' : (l.getD i (dflt tE)).2.toNat < n.toNat := by omega
    have lt : ∀ k : Nat, decide ((k : Int) < (((tab n.toNat (inL l)).getD (l.getD (i : Int).toNat (dflt tE)).1.toNat []).length : Int)) = true → k < n.toNat := fun k h => by
      have := of_decide_eq_true h
      rw [Int.toNat_natCast, tab_rlen _ ha] at this
      omega
    have ge : ∀ k : Nat, decide ((k : Int) < (((tab n.toNat (inL l)).getD (l.getD (i : Int).toNat (dflt tE)).1.toNat []).length : Int)) = false → n.toNat ≤ k := fun k h => by
      have := of_decide_eq_false h
      rw [Int.toNat_natCast, tab_rlen _ ha] at this
      omega
    have need1 : ∀ k : Nat, k < n.toNat → 0 ≤ (k : Int) ∧ (k : Int) < ((tab n.toNat (inL l)).length : Int) := fun k h => by rw [tab_len]; omega
    have need2 : ∀ k : Nat, k < n.toNat → 0 ≤ (l.getD (i : Int).toNat (dflt tE)).2 ∧ (l.getD (i : Int).toNat (dflt tE)).2 < (((tab n.toNat (inL l)).getD (k : Int).toNat (dflt tBs)).length : Int) := fun k h => by
      have e := tab_rlen (inL l) h
      show 0 ≤ (l.getD i (dflt tE)).2 ∧ (l.getD i (dflt tE)).2 < (((tab n.toNat (inL l)).getD k []).length : Int)
      rw [e]
      omega
    have room : (((l.take i).filter fun p => !covB n.toNat (inL l) p).length + 1) * 16 ≤ lim := by
      have h1 := List.length_filter_le (fun p => !covB n.toNat (inL l) p) (l.take i)
      have h2 := List.length_take_le i l
      simp only [lim]
      omega
    refine ex4 _ (fun p : Nat × Bool => ⟨[.any, .sl tE l, .any, .any, .any, .any, .any, .ptr 0 0, .own 1, .any, .ptr 2 0, .bool p.2, .any, .any, .any, .any, .any, .any, .any, .any, .any, .any, .any, .sl tE l, .int .i64 (↑l.length : Int), .int .i64 (↑i : Int), .bool (decide ((↑i : Int) < (↑l.length : Int))), .eptr   [PV.int .i64 (l.getD (↑i : Int).toNat (dflt tE)).1, PV.int .i64 (l.getD (↑i : Int).toNat (dflt tE)).2], .agg   [.int .i64 (l.getD (↑i : Int).toNat (dflt tE)).1, .int .i64 (l.getD (↑i : Int).toNat (dflt tE)).2], .ptr 0 1, .sl tBs (tab n.toNat (inL l)), .ptr 2 0, .int .i64 (l.getD (↑i : Int).toNat (dflt tE)).1, .eptr [PV.sl .bool (List.getD (tab n.toNat (inL l)) (Int.toNat (l.getD (↑i : Int).toNat (dflt tE)).1) (dflt tBs))], .sl .bool (List.getD (tab n.toNat (inL l)) (Int.toNat (l.getD (↑i : Int).toNat (dflt tE)).1) (dflt tBs)), .int .i64   (↑(List.length (List.getD (tab n.toNat (inL l)) (Int.toNat (l.getD (↑i : Int).toNat (dflt tE)).1) (dflt tBs))) : Int), .int .i64 (p.1 : Int), .any, .any, .any, .any, .any, .any, .any, .any, .any, .any, .any, .any, .any, .any, .any, .any, .any, .any, .any, .any, .any, .any, .any, .any, .any, .any, .any, .any], [.cells [.int .i64 n, .sl tBs (tab n.toNat (inL l))], .rows tE (List.filter (fun p => !covB n.toNat (inL l) p) (List.take i l)), .cells   [.int .i64 (l.getD (↑i : Int).toNat (dflt tE)).1, .int .i64 (l.getD (↑i : Int).toNat (dflt tE)).2]], 3⟩) (fun p => p.1 ≤ n.toNat ∧ p.2 = (List.range p.1).any fun k => inL l (l.getD i (dflt tE)).1.toNat k && inL l k (l.getD i (dflt tE)).2.toNat) (fun p => n.toNat - p.1) (And.intro (Exists.intro ((0, false)) (Exists.intro ([some 0, some 1, some 2]) (And.intro ?_ (And.intro (by rfl) (And.intro (by rfl) (And.intro (And.intro (And.intro (by rfl) (by rfl)) (And.intro (by rfl) (And.intro (And.intro (by rfl) (by rfl)) True.intro))) (by rfl))))))) ?_)
    · exact ⟨Nat.zero_le _, rfl⟩
    rintro ⟨k, b⟩ ⟨hk, hb⟩
    refine (And.intro (fun m0 => (And.intro (by first | exact room | (intros; (try subst_vars); (try simp only [Bool.cond_true_left, Bool.cond_false_right, Bool.or_eq_true, Bool.or_eq_false_iff, Bool.and_eq_true, Bool.not_eq_true', Bool.not_eq_false', decide_eq_true_eq, decide_eq_false_iff_not, Int.not_lt, Int.not_le] at *); (try simp only [inK, big, lim, List.length_cons, List.length_nil, List.length_append, List.length_drop, List.length_take, List.length_replicate] at *); omega) | exact need1 k (lt k m0) | exact need2 k (lt k m0)) (And.intro (by first | kernel_rfl | rfl) (And.intro (fun m1 => (by first | exact room | (intros; (try subst_vars); (try simp only [Bool.cond_true_left, Bool.cond_false_right, Bool.or_eq_true, Bool.or_eq_false_iff, Bool.and_eq_true, Bool.not_eq_true', Bool.not_eq_false', decide_eq_true_eq, decide_eq_false_iff_not, Int.not_lt, Int.not_le] at *); (try simp only [inK, big, lim, List.length_cons, List.length_nil, List.length_append, List.length_drop, List.length_take, List.length_replicate] at *); omega) | exact need1 k (lt k m0) | exact need2 k (lt k m0))) (And.intro (fun m2 => (by first | exact room | (intros; (try subst_vars); (try simp only [Bool.cond_true_left, Bool.cond_false_right, Bool.or_eq_true, Bool.or_eq_false_iff, Bool.and_eq_true, Bool.not_eq_true', Bool.not_eq_false', decide_eq_true_eq, decide_eq_false_iff_not, Int.not_lt, Int.not_le] at *); (try simp only [inK, big, lim, List.length_cons, List.length_nil, List.length_append, List.length_drop, List.length_take, List.length_replicate] at *); omega) | exact need1 k (lt k m0) | exact need2 k (lt k m0))) (And.intro (by first | exact room | (intros; (try subst_vars); (try simp only [Bool.cond_true_left, Bool.cond_false_right, Bool.or_eq_true, Bool.or_eq_false_iff, Bool.and_eq_true, Bool.not_eq_true', Bool.not_eq_false', decide_eq_true_eq, decide_eq_false_iff_not, Int.not_lt, Int.not_le] at *); (try simp only [inK, big, lim, List.length_cons, List.length_nil, List.length_append, List.length_drop, List.length_take, List.length_replicate] at *); omega) | exact need1 k (lt k m0) | exact need2 k (lt k m0)) ?_)))))) (fun m0 => (And.intro (fun m3 => (And.intro (by first | exact room | (intros; (try subst_vars); (try simp only [Bool.cond_true_left, Bool.cond_false_right, Bool.or_eq_true, Bool.or_eq_false_iff, Bool.and_eq_true, Bool.not_eq_true', Bool.not_eq_false', decide_eq_true_eq, decide_eq_false_iff_not, Int.not_lt, Int.not_le] at *); (try simp only [inK, big, lim, List.length_cons, List.length_nil, List.length_append, List.length_drop, List.length_take, List.length_replicate] at *); omega) | exact need1 k (lt k m0) | exact need2 k (lt k m0)) (And.intro (by first | exact room | (intros; (try subst_vars); (try simp only [Bool.cond_true_left, Bool.cond_false_right, Bool.or_eq_true, Bool.or_eq_false_iff, Bool.and_eq_true, Bool.not_eq_true', Bool.not_eq_false', decide_eq_true_eq, decide_eq_false_iff_not, Int.not_lt, Int.not_le] at *); (try simp only [inK, big, lim, List.length_cons, List.length_nil, List.length_append, List.length_drop, List.length_take, List.length_replicate] at *); omega) | exact need1 k (lt k m0) | exact need2 k (lt k m0)) ?_))) (fun m3 => (And.intro (by first | exact room | (intros; (try subst_vars); (try simp only [Bool.cond_true_left, Bool.cond_false_right, Bool.or_eq_true, Bool.or_eq_false_iff, Bool.and_eq_true, Bool.not_eq_true', Bool.not_eq_false', decide_eq_true_eq, decide_eq_false_iff_not, Int.not_lt, Int.not_le] at *); (try simp only [inK, big, lim, List.length_cons, List.length_nil, List.length_append, List.length_drop, List.length_take, List.length_replicate] at *); omega) | exact need1 k (lt k m0) | exact need2 k (lt k m0)) ?_)))))
    · have hk' := lt k m0
      refine Exists.intro ((k + 1, _)) (Exists.intro ([some 0, some 1, some 2]) (And.intro ?_ (And.intro ?_ (And.intro (by rfl) (And.intro (by rfl) (And.intro (And.intro (And.intro (by rfl) (by rfl)) (And.intro (by rfl) (And.intro (And.intro (by rfl) (by rfl)) True.intro))) (by rfl)))))))
      · refine ⟨hk', ?_⟩
        rw [range_any, ← hb]
        show (bif b then true else bif ((tab n.toNat (inL l)).getD (l.getD i (dflt tE)).1.toNat []).getD k false then ((tab n.toNat (inL l)).getD k []).getD (l.getD i (dflt tE)).2.toNat false else false) = _
        rw [tab_at _ ha hk', tab_at _ hk' hb']
        cases b <;> cases inL l (l.getD i (dflt tE)).1.toNat k <;> rfl
      · show n.toNat - (k + 1) < n.toNat - k
        omega
    · have hk' : k = n.toNat := Nat.le_antisymm hk (ge k m0)
      subst hk'
      have eb : covB n.toNat (inL l) (l.getD i (dflt tE)) = b := hb.symm
      refine Exists.intro (i + 1) (Exists.intro ([some 0, some 4]) (And.intro ?_ (And.intro ?_ (And.intro (by rfl) (And.intro (by rfl) (And.intro (And.intro (And.intro (by rfl) (by rfl)) (And.intro ?_ True.intro)) (by rfl)))))))
      · exact hi'
      · show l.length - (i + 1) < l.length - i
        omega
      · refine congrArg (Ob.rows tE) ?_
        rw [take_filter hi', eb, if_pos m3]
        rfl
    · have hk' : k = n.toNat := Nat.le_antisymm hk (ge k m0)
      subst hk'
      have eb : covB n.toNat (inL l) (l.getD i (dflt tE)) = b := hb.symm
      refine Exists.intro (i + 1) (Exists.intro ([some 0, some 1]) (And.intro ?_ (And.intro ?_ (And.intro (by rfl) (And.intro (by rfl) (And.intro (And.intro (And.intro (by rfl) (by rfl)) (And.intro ?_ True.intro)) (by rfl)))))))
      · exact hi'
      · show l.length - (i + 1) < l.length - i
        omega
      · refine congrArg (Ob.rows tE) ?_
        rw [take_filter hi', eb, if_neg (by rw [m3]; simp), List.append_nil]
  · have hi' : ¬ i < l.length := by simpa using k0
    rw [List.take_of_length_le (by omega)]
    show ((coversF n l).1, (coversF n l).2, ()) = _
    rw [eg]
/-- Neither is before the other one. -/
def concG (f : Nat → Nat → Bool) (i j : Nat) : Bool := decide (i < j) && (!f i j && !f j i)
def concF (n : Int) (l : List Ed) : List Ed := if checkF n l ≠ 0 then [] else pairsF n.toNat (concG (inL l))
theorem row_conc (n : Nat) (f : Nat → Nat → Bool) (i : Nat) : ∀ j, j ≤ i + 1 → rowP n (concG f) i j = []
  | 0, _ => rfl
  | j + 1, h => by
    rw [row_next, row_conc n f i j (by omega), if_neg]
    · rfl
    · simp [concG]; omega
def rEs : List (Bool × Ty) := [(false, tEs)]
def c21 : Ctr := fnC [dI, dEs] rEs (fun _ => True) (fun y => (concF y.1 y.2.1, ()))
set_option maxHeartbeats 4000000 in
theorem good21 : GoodC Try.prog 21 c21 := by
  refine goodF cxH_good 4 _ _ _ _ ⟨_, Try.func21, rfl, rfl⟩ fun (⟨n, l, _⟩ : Int × List Ed × Unit) _ => ?_
  have mk : checkF n l = 0 → 0 ≤ n ∧ n ≤ 200 ∧ insideAll n l := fun h => ⟨(chk_ok h).1, (chk_ok h).2.1, (chk_ok h).2.2.2⟩
  refine (And.intro (by first | kernel_rfl | rfl) (And.intro True.intro (And.intro (fun h0 => (fin_of rfl ?_)) (fun h0 => (And.intro (by first | exact mk (by simpa using h0) | (intros; (try subst_vars); (try simp only [Bool.cond_true_left, Bool.cond_false_right, Bool.or_eq_true, Bool.or_eq_false_iff, Bool.and_eq_true, Bool.not_eq_true', Bool.not_eq_false', decide_eq_true_eq, decide_eq_false_iff_not, Int.not_lt, Int.not_le] at *); (try simp only [inK, big, lim, List.length_cons, List.length_nil, List.length_append, List.length_drop, List.length_take, List.length_replicate] at *); omega)) (fun (h1 : (Int × List (List Bool)) × PUnit) => (fun h2 => ?_)))))))
  · have h0' : checkF n l ≠ 0 := by simpa using h0
    show (concF n l, ()) = ([], ())
    rw [concF, if_pos h0']
  have h0' : checkF n l = 0 := by simpa using h0
  obtain ⟨n0, n1, n2, hl⟩ := chk_ok h0'
  have ek : h1 = ((n, matF n l), ()) := h2
  subst ek
  rw [mat_tab n0 hl]
  have eg : concF n l = pairsF n.toNat (concG (inL l)) := by rw [concF, if_neg (by simp [h0'])]
  have nz : ((n.toNat : Nat) : Int) = n := Int.toNat_of_nonneg n0
  have lt : ∀ a : Nat, decide ((a : Int) < n) = true → a < n.toNat := fun a h => by have := of_decide_eq_true h; omega
  have ge : ∀ a : Nat, decide ((a : Int) < n) = false → n.toNat ≤ a := fun a h => by have := of_decide_eq_false h; omega
  have f1 : ∀ a : Nat, a < n.toNat → 0 ≤ (a : Int) ∧ (a : Int) < ((tab n.toNat (inL l)).length : Int) := fun a h => by rw [tab_len]; omega
  have f2 : ∀ a b : Nat, a < n.toNat → b < n.toNat → 0 ≤ (b : Int) ∧ (b : Int) < (((tab n.toNat (inL l)).getD (a : Int).toNat []).length : Int) := fun a b h h' => by
    rw [Int.toNat_natCast, tab_rlen _ h]; omega
  refine ex4 _ (fun i : Nat => ⟨[.int .i64 n, .any, .any, .any, .any, .ptr 0 0, .own 1, .any, .any, .any, .any, .any, .any, .any, .any, .any, .int .i64 n, .int .i64 (i : Int), .any, .any, .any, .any, .any, .any, .any, .any, .any, .any, .any, .any, .any, .any, .any, .any, .any, .any, .any, .any, .any, .any, .any, .any, .any, .any, .any, .any, .any, .any, .any, .any, .any, .any, .any, .any, .any], [.cells [.int .i64 n, .sl tBs (tab n.toNat (inL l))], .rows tE (accI n.toNat (concG (inL l)) i)], 2⟩) (fun i => i ≤ n.toNat) (fun i => n.toNat - i) (And.intro (Exists.intro (0) (Exists.intro ([some 0, none]) (And.intro ?_ (And.intro (by rfl) (And.intro (by rfl) (And.intro (And.intro (And.intro (by rfl) (by rfl)) (And.intro (by rfl) True.intro)) (by rfl))))))) ?_)
  · exact Nat.zero_le _
  rintro i hi
  refine (And.intro (fun k0 => (And.intro (by intros; (try subst_vars); (try simp only [Bool.cond_true_left, Bool.cond_false_right, Bool.or_eq_true, Bool.or_eq_false_iff, Bool.and_eq_true, Bool.not_eq_true', Bool.not_eq_false', decide_eq_true_eq, decide_eq_false_iff_not, Int.not_lt, Int.not_le] at *); (try simp only [inK, big, lim, List.length_cons, List.length_nil, List.length_append, List.length_drop, List.length_take, List.length_replicate] at *); omega) ?_)) (fun k0 => (fin_of rfl ?_)))
  · have hi' := lt _ k0
    refine ex4 _ (fun j : Nat => ⟨[.int .i64 n, .any, .any, .any, .any, .ptr 0 0, .own 1, .int .i64 (↑i : Int), .int .i64 (j : Int), .any, .any, .any, .any, .any, .any, .any, .int .i64 n, .int .i64 (↑i : Int), .bool (decide ((↑i : Int) < n)), .int .i64 (↑i : Int), .int .i64 (↑i : Int), .int .i64 ((↑i : Int) + 1), .any, .any, .any, .any, .any, .any, .any, .any, .any, .any, .any, .any, .any, .any, .any, .any, .any, .any, .any, .any, .any, .any, .any, .any, .any, .any, .any, .any, .any, .any, .any, .any, .any], [.cells [.int .i64 n, .sl tBs (tab n.toNat (inL l))], .rows tE (accI n.toNat (concG (inL l)) i ++ rowP n.toNat (concG (inL l)) i j)], 2⟩) (fun j => i < j ∧ j ≤ n.toNat) (fun j => n.toNat - j) (And.intro (Exists.intro ((i + 1)) (Exists.intro ([some 0, some 1]) (And.intro ?_ (And.intro (by rfl) (And.intro (by rfl) (And.intro (And.intro (And.intro (by rfl) (by rfl)) (And.intro ?_ True.intro)) (by rfl))))))) ?_)
    · exact ⟨Nat.lt_succ_self _, hi'⟩
    · exact congrArg (Ob.rows tE) (by rw [row_conc _ _ _ _ (Nat.le_refl _), List.append_nil])
    rintro j ⟨hij, hj⟩
    have room : ((accI n.toNat (concG (inL l)) i ++ rowP n.toNat (concG (inL l)) i j).length + 1) * 16 ≤ lim := by
      have := acc_row_len (concG (inL l)) (n := n.toNat) (i := i) (j := j) (by omega) hi hj
      simp only [lim]
      omega
    refine (And.intro (fun m0 => (And.intro (by first | exact room | (intros; (try subst_vars); (try simp only [Bool.cond_true_left, Bool.cond_false_right, Bool.or_eq_true, Bool.or_eq_false_iff, Bool.and_eq_true, Bool.not_eq_true', Bool.not_eq_false', decide_eq_true_eq, decide_eq_false_iff_not, Int.not_lt, Int.not_le] at *); (try simp only [inK, big, lim, List.length_cons, List.length_nil, List.length_append, List.length_drop, List.length_take, List.length_replicate] at *); omega) | exact f1 _ hi' | exact f1 _ (lt _ m0) | exact f2 _ _ hi' (lt _ m0) | exact f2 _ _ (lt _ m0) hi') (And.intro (by first | exact room | (intros; (try subst_vars); (try simp only [Bool.cond_true_left, Bool.cond_false_right, Bool.or_eq_true, Bool.or_eq_false_iff, Bool.and_eq_true, Bool.not_eq_true', Bool.not_eq_false', decide_eq_true_eq, decide_eq_false_iff_not, Int.not_lt, Int.not_le] at *); (try simp only [inK, big, lim, List.length_cons, List.length_nil, List.length_append, List.length_drop, List.length_take, List.length_replicate] at *); omega) | exact f1 _ hi' | exact f1 _ (lt _ m0) | exact f2 _ _ hi' (lt _ m0) | exact f2 _ _ (lt _ m0) hi') (And.intro (fun m1 => (by first | exact room | (intros; (try subst_vars); (try simp only [Bool.cond_true_left, Bool.cond_false_right, Bool.or_eq_true, Bool.or_eq_false_iff, Bool.and_eq_true, Bool.not_eq_true', Bool.not_eq_false', decide_eq_true_eq, decide_eq_false_iff_not, Int.not_lt, Int.not_le] at *); (try simp only [inK, big, lim, List.length_cons, List.length_nil, List.length_append, List.length_drop, List.length_take, List.length_replicate] at *); omega) | exact f1 _ hi' | exact f1 _ (lt _ m0) | exact f2 _ _ hi' (lt _ m0) | exact f2 _ _ (lt _ m0) hi')) (And.intro (fun m2 => (by first | exact room | (intros; (try subst_vars); (try simp only [Bool.cond_true_left, Bool.cond_false_right, Bool.or_eq_true, Bool.or_eq_false_iff, Bool.and_eq_true, Bool.not_eq_true', Bool.not_eq_false', decide_eq_true_eq, decide_eq_false_iff_not, Int.not_lt, Int.not_le] at *); (try simp only [inK, big, lim, List.length_cons, List.length_nil, List.length_append, List.length_drop, List.length_take, List.length_replicate] at *); omega) | exact f1 _ hi' | exact f1 _ (lt _ m0) | exact f2 _ _ hi' (lt _ m0) | exact f2 _ _ (lt _ m0) hi')) (And.intro (fun m3 => (And.intro (by first | exact room | (intros; (try subst_vars); (try simp only [Bool.cond_true_left, Bool.cond_false_right, Bool.or_eq_true, Bool.or_eq_false_iff, Bool.and_eq_true, Bool.not_eq_true', Bool.not_eq_false', decide_eq_true_eq, decide_eq_false_iff_not, Int.not_lt, Int.not_le] at *); (try simp only [inK, big, lim, List.length_cons, List.length_nil, List.length_append, List.length_drop, List.length_take, List.length_replicate] at *); omega) | exact f1 _ hi' | exact f1 _ (lt _ m0) | exact f2 _ _ hi' (lt _ m0) | exact f2 _ _ (lt _ m0) hi') (And.intro (by first | exact room | (intros; (try subst_vars); (try simp only [Bool.cond_true_left, Bool.cond_false_right, Bool.or_eq_true, Bool.or_eq_false_iff, Bool.and_eq_true, Bool.not_eq_true', Bool.not_eq_false', decide_eq_true_eq, decide_eq_false_iff_not, Int.not_lt, Int.not_le] at *); (try simp only [inK, big, lim, List.length_cons, List.length_nil, List.length_append, List.length_drop, List.length_take, List.length_replicate] at *); omega) | exact f1 _ hi' | exact f1 _ (lt _ m0) | exact f2 _ _ hi' (lt _ m0) | exact f2 _ _ (lt _ m0) hi') ?_))) (fun m3 => (And.intro (by first | exact room | (intros; (try subst_vars); (try simp only [Bool.cond_true_left, Bool.cond_false_right, Bool.or_eq_true, Bool.or_eq_false_iff, Bool.and_eq_true, Bool.not_eq_true', Bool.not_eq_false', decide_eq_true_eq, decide_eq_false_iff_not, Int.not_lt, Int.not_le] at *); (try simp only [inK, big, lim, List.length_cons, List.length_nil, List.length_append, List.length_drop, List.length_take, List.length_replicate] at *); omega) | exact f1 _ hi' | exact f1 _ (lt _ m0) | exact f2 _ _ hi' (lt _ m0) | exact f2 _ _ (lt _ m0) hi') ?_)))))))) (fun m0 => (And.intro (by first | exact room | (intros; (try subst_vars); (try simp only [Bool.cond_true_left, Bool.cond_false_right, Bool.or_eq_true, Bool.or_eq_false_iff, Bool.and_eq_true, Bool.not_eq_true', Bool.not_eq_false', decide_eq_true_eq, decide_eq_false_iff_not, Int.not_lt, Int.not_le] at *); (try simp only [inK, big, lim, List.length_cons, List.length_nil, List.length_append, List.length_drop, List.length_take, List.length_replicate] at *); omega) | exact f1 _ hi' | exact f1 _ (lt _ m0) | exact f2 _ _ hi' (lt _ m0) | exact f2 _ _ (lt _ m0) hi') ?_)))
    · have hj' := lt _ m0
      have e : concG (inL l) i j = true := by
        have h3 : (bif !((tab n.toNat (inL l)).getD i []).getD j false then !((tab n.toNat (inL l)).getD j []).getD i false else false) = true := m3
        rw [tab_at _ hi' hj', tab_at _ hj' hi'] at h3
        simp only [concG, decide_eq_true hij, Bool.true_and]
        revert h3
        cases inL l i j <;> cases inL l j i <;> simp
      refine Exists.intro (j + 1) (Exists.intro ([some 0, some 3]) (And.intro ?_ (And.intro ?_ (And.intro (by rfl) (And.intro (by rfl) (And.intro (And.intro (And.intro (by rfl) (by rfl)) (And.intro ?_ True.intro)) (by rfl)))))))
      · exact ⟨by omega, hj'⟩
      · show n.toNat - (j + 1) < n.toNat - j
        omega
      · refine congrArg (Ob.rows tE) ?_
        rw [row_next, if_pos e, List.append_assoc]
    · have hj' := lt _ m0
      have e : concG (inL l) i j = false := by
        have h3 : (bif !((tab n.toNat (inL l)).getD i []).getD j false then !((tab n.toNat (inL l)).getD j []).getD i false else false) = false := m3
        rw [tab_at _ hi' hj', tab_at _ hj' hi'] at h3
        simp only [concG, decide_eq_true hij, Bool.true_and]
        revert h3
        cases inL l i j <;> cases inL l j i <;> simp
      refine Exists.intro (j + 1) (Exists.intro ([some 0, some 1]) (And.intro ?_ (And.intro ?_ (And.intro (by rfl) (And.intro (by rfl) (And.intro (And.intro (And.intro (by rfl) (by rfl)) (And.intro ?_ True.intro)) (by rfl)))))))
      · exact ⟨by omega, hj'⟩
      · show n.toNat - (j + 1) < n.toNat - j
        omega
      · refine congrArg (Ob.rows tE) ?_
        rw [row_next, if_neg (by simp [e]), List.append_nil]
    · have ej : j = n.toNat := Nat.le_antisymm hj (ge _ m0)
      subst ej
      refine Exists.intro (i + 1) (Exists.intro ([some 0, some 1]) (And.intro ?_ (And.intro ?_ (And.intro (by rfl) (And.intro (by rfl) (And.intro (And.intro (And.intro (by rfl) (by rfl)) (And.intro ?_ True.intro)) (by rfl)))))))
      · exact hi'
      · show n.toNat - (i + 1) < n.toNat - i
        omega
      · refine congrArg (Ob.rows tE) ?_
        rw [acc_next]
  · have ei : i = n.toNat := Nat.le_antisymm hi (ge _ k0)
    subst ei
    show (concF n l, ()) = (accI n.toNat (concG (inL l)) n.toNat, ())
    rw [eg]; rfl

/-- Where a number stands. -/
def placeAt (o : List Int) (x : Int) : Int := if x ∈ o then (o.idxOf x : Int) else 0
def goodO (n : Int) (o : List Int) : Prop := (∀ x ∈ o, 0 ≤ x ∧ x < n) ∧ o.Nodup
instance (n : Int) (o : List Int) : Decidable (goodO n o) := by unfold goodO; infer_instance
def extF (n : Int) (l : List Ed) (o : List Int) : Bool :=
  decide (checkF n l = 0) && (decide ((o.length : Int) = n) && (decide (goodO n o) && !l.any fun p => decide (placeAt o p.2 ≤ placeAt o p.1)))
/-- The places so far. -/
def PlI (n : Int) (o : List Int) (i : Nat) (pl : List Int) (met : List Bool) : Prop :=
  i ≤ o.length ∧ goodO n (o.take i) ∧ pl.length = n.toNat ∧ met.length = n.toNat ∧
  (∀ x : Nat, x < n.toNat → met.getD x false = decide ((x : Int) ∈ o.take i)) ∧ (∀ x : Nat, x < n.toNat → pl.getD x 0 = placeAt (o.take i) x)
theorem pl_start (n : Int) (o : List Int) : PlI n o 0 (List.replicate n.toNat 0) (List.replicate n.toNat false) := by
  refine ⟨Nat.zero_le _, ⟨fun x hx => by simp at hx, by simp⟩, by simp, by simp, fun x hx => ?_, fun x hx => ?_⟩
  · simp [List.getD_eq_getElem?_getD, hx]
  · simp [List.getD_eq_getElem?_getD, hx, placeAt]
theorem take_get {o : List Int} {i : Nat} (h : i < o.length) : o.take (i + 1) = o.take i ++ [o.getD i 0] := by
  rw [List.take_succ_eq_append_getElem h, List.getD_eq_getElem?_getD, List.getElem?_eq_getElem h]
  rfl
theorem pl_mem {n : Int} {o : List Int} {i : Nat} {pl : List Int} {met : List Bool} (h : PlI n o i pl met) {x : Int} (hx : 0 ≤ x) (hx' : x < n) : met.getD x.toNat false = decide (x ∈ o.take i) := by
  rw [h.2.2.2.2.1 _ (by omega), Int.toNat_of_nonneg hx]
theorem get_set {α : Type} {d v : α} {l : List α} {x y : Nat} (h : y < l.length) : (l.set y v).getD x d = if y = x then v else l.getD x d := by
  by_cases e : y = x
  · subst e
    rw [if_pos rfl, List.getD_eq_getElem?_getD, List.getElem?_set_self h]; rfl
  · rw [if_neg e, List.getD_eq_getElem?_getD, List.getElem?_set_ne e, ← List.getD_eq_getElem?_getD]
theorem pl_next {n : Int} {o : List Int} {i : Nat} {pl : List Int} {met : List Bool} (h : PlI n o i pl met) (hi : i < o.length) (hx : 0 ≤ o.getD i 0) (hx' : o.getD i 0 < n) (hm : o.getD i 0 ∉ o.take i) :
    PlI n o (i + 1) (pl.set (o.getD i 0).toNat i) (met.set (o.getD i 0).toNat true) := by
  obtain ⟨h1, h2, h3, h4, h5, h6⟩ := h
  have et := take_get hi
  generalize o.getD i 0 = y at *
  have hy : y.toNat < n.toNat := by omega
  have hl : (o.take i).length = i := by rw [List.length_take]; omega
  refine ⟨hi, ?_, by simp [h3], by simp [h4], fun x hlt => ?_, fun x hlt => ?_⟩
  · rw [et]
    refine ⟨fun x hx => ?_, List.nodup_append.2 ⟨h2.2, by simp, fun a ha b hb => ?_⟩⟩
    · rcases List.mem_append.1 hx with h | h
      · exact h2.1 x h
      · rw [List.mem_singleton.1 h]; exact ⟨‹_›, ‹_›⟩
    · rw [List.mem_singleton.1 hb]
      intro e
      subst e
      exact hm ha
  · rw [et, get_set (by omega), h5 x hlt]
    by_cases hxx : y.toNat = x
    · have ex : (x : Int) = y := by omega
      rw [if_pos hxx, ex]
      simp
    · have ex : ¬ (x : Int) = y := by omega
      rw [if_neg hxx]
      refine decide_eq_decide.2 ?_
      simp [ex]
  · rw [et, get_set (by omega), h6 x hlt]
    by_cases hxx : y.toNat = x
    · have ex : (x : Int) = y := by omega
      rw [if_pos hxx, ex, placeAt, if_pos (by simp), List.idxOf_append, if_neg hm, hl]
      simp
    · have ex : ¬ (x : Int) = y := by omega
      rw [if_neg hxx]
      unfold placeAt
      by_cases hin : (x : Int) ∈ o.take i
      · rw [if_pos hin, if_pos (List.mem_append_left _ hin), List.idxOf_append, if_pos hin]
      · rw [if_neg hin, if_neg (by simp [hin, ex])]
theorem pl_bad {n : Int} {o : List Int} {i : Nat} (hi : i < o.length) (h : o.getD i 0 < 0 ∨ n ≤ o.getD i 0 ∨ o.getD i 0 ∈ o.take i) : ¬ goodO n o := by
  rintro ⟨h1, h2⟩
  have hm : o.getD i 0 ∈ o := by rw [List.getD_eq_getElem?_getD, List.getElem?_eq_getElem hi]; exact List.getElem_mem hi
  have := h1 _ hm
  rcases h with h | h | h
  · omega
  · omega
  · have e : o = o.take i ++ o.drop i := (List.take_append_drop i o).symm
    rw [e] at h2
    refine (List.nodup_append.1 h2).2.2 _ h _ ?_ rfl
    rw [List.drop_eq_getElem_cons hi, List.getD_eq_getElem?_getD, List.getElem?_eq_getElem hi]
    exact List.mem_cons_self
theorem pl_late {n : Int} {o : List Int} {pl : List Int} {met : List Bool} {l : List Ed} (h : PlI n o o.length pl met) (hl : insideAll n l) : l.any (lateE pl) = l.any fun p => decide (placeAt o p.2 ≤ placeAt o p.1) := by
  obtain ⟨h1, h2, h3, h4, h5, h6⟩ := h
  rw [List.take_length] at h6
  have e : ∀ p ∈ l, lateE pl p = decide (placeAt o p.2 ≤ placeAt o p.1) := fun p hp => by
    have hp' := out_false (hl p hp)
    unfold lateE
    rw [h6 _ (by omega), h6 _ (by omega), Int.toNat_of_nonneg hp'.1, Int.toNat_of_nonneg hp'.2.2.1]
  clear hl
  induction l with
  | nil => rfl
  | cons p l ih =>
    rw [List.any_cons, List.any_cons, e p (by simp), ih fun q hq => e q (by simp [hq])]
def cxI : Ctx := ⟨tys0, [(18, ([], c18)), (45, ([], c45))]⟩
theorem cxI_good : GoodCtx Try.prog cxI := cx_cons good18 (cx_cons good45 cx0_good)
def c28 : Ctr := fnC [dI, dEs, dIs] rB (fun _ => True) (fun y => (extF y.1 y.2.1 y.2.2.1, ()))
set_option maxHeartbeats 4000000 in
theorem good28 : GoodC Try.prog 28 c28 := by
  refine goodF cxI_good 4 _ _ _ _ ⟨_, Try.func28, rfl, rfl⟩ fun (⟨n, l, o, _⟩ : Int × List Ed × List Int × Unit) _ => ?_
  have dec : (bif !decide (checkF n l = 0) then true else !decide ((o.length : Int) = n)) = false → checkF n l = 0 ∧ (o.length : Int) = n := fun h => by
    by_cases h1 : checkF n l = 0 <;> by_cases h2 : (o.length : Int) = n <;> simp_all
  have mk : ∀ k : Nat, k ≤ 8 → checkF n l = 0 → 0 ≤ n ∧ n ≤ n ∧ n * (k : Int) ≤ (lim : Int) ∧ n ≤ (lim : Int) := fun k hk h => by
    obtain ⟨n0, n1, -⟩ := chk_ok h
    have : n * (k : Int) ≤ 200 * 8 := Int.mul_le_mul n1 (by omega) (by omega) (by omega)
    simp only [lim]
    omega
  refine (And.intro (by first | kernel_rfl | rfl) (And.intro True.intro (fun h0 => (And.intro (fun h1 => (fin_of rfl ?_)) (fun h1 => (And.intro (by first | exact mk _ (by decide) (dec h1).1 | (intros; (try subst_vars); (try simp only [Bool.cond_true_left, Bool.cond_false_right, Bool.or_eq_true, Bool.or_eq_false_iff, Bool.and_eq_true, Bool.not_eq_true', Bool.not_eq_false', decide_eq_true_eq, decide_eq_false_iff_not, Int.not_lt, Int.not_le] at *); (try simp only [inK, big, lim, List.length_cons, List.length_nil, List.length_append, List.length_drop, List.length_take, List.length_replicate] at *); omega)) (And.intro (by first | exact mk _ (by decide) (dec h1).1 | (intros; (try subst_vars); (try simp only [Bool.cond_true_left, Bool.cond_false_right, Bool.or_eq_true, Bool.or_eq_false_iff, Bool.and_eq_true, Bool.not_eq_true', Bool.not_eq_false', decide_eq_true_eq, decide_eq_false_iff_not, Int.not_lt, Int.not_le] at *); (try simp only [inK, big, lim, List.length_cons, List.length_nil, List.length_append, List.length_drop, List.length_take, List.length_replicate] at *); omega)) (fun h2 => ?_))))))))
  · show (extF n l o, ()) = (false, ())
    have : extF n l o = false := by
      unfold extF
      by_cases h2 : checkF n l = 0
      · have h3 : ¬ (o.length : Int) = n := fun e => by simp [h2, e] at h1
        simp [h3]
      · simp [h2]
    rw [this]
  obtain ⟨h0', ho⟩ := dec h1
  obtain ⟨n0, n1, n2, hl⟩ := chk_ok h0'
  have eg : extF n l o = (decide (goodO n o) && !l.any fun p => decide (placeAt o p.2 ≤ placeAt o p.1)) := by simp [extF, h0', ho]
  have nz : ((n.toNat : Nat) : Int) = n := Int.toNat_of_nonneg n0
  refine ex4 _ (fun p : Nat × List Int × List Bool => ⟨[.int .i64 n, .sl tE l, .sl (.int .i64) o, .any, .any, .any, .any, .ptr 1 0, .own 2, .any, .any, .any, .any, .any, .any, .any, .any, .any, .any, .any, .any, .any, .any, .any, .any, .sl (.int .i64) o, .int .i64 (↑o.length : Int), .int .i64 (p.1 : Int), .any, .any, .any, .any, .any, .any, .any, .any, .any, .any, .any, .any, .any, .any, .any, .any, .any, .any, .any, .any, .any, .any, .any, .any, .any, .any, .any, .any, .any], [.rows tI p.2.1, .cells [.own 0], .rows .bool p.2.2], 3⟩) (fun p => PlI n o p.1 p.2.1 p.2.2) (fun p => o.length - p.1) (And.intro (Exists.intro ((0, List.replicate n.toNat 0, List.replicate n.toNat false)) (Exists.intro ([some 0, some 1, some 2]) (And.intro ?_ (And.intro (by rfl) (And.intro (by rfl) (And.intro (And.intro (by rfl) (And.intro (And.intro (by rfl) (by rfl)) (And.intro (by rfl) True.intro))) (by rfl))))))) ?_)
  · exact pl_start n o
  rintro ⟨i, pl, met⟩ hp
  have hpi : PlI n o i pl met := hp
  have fa : (bif decide (o.getD i 0 < 0) then true else decide (n ≤ o.getD i 0)) = false → 0 ≤ o.getD i 0 ∧ o.getD i 0 < n := fun h => by
    generalize o.getD i 0 = x at h ⊢
    by_cases h1 : x < 0
    · simp [h1] at h
    · simp [h1] at h
      omega
  have fm : (bif decide (o.getD i 0 < 0) then true else decide (n ≤ o.getD i 0)) = false → 0 ≤ o.getD i 0 ∧ o.getD i 0 < (met.length : Int) := fun h => by
    rw [hpi.2.2.2.1, nz]; exact fa h
  have fb : (bif bif decide (o.getD i 0 < 0) then true else decide (n ≤ o.getD i 0) then true else met.getD (o.getD i 0).toNat false) = false → (bif decide (o.getD i 0 < 0) then true else decide (n ≤ o.getD i 0)) = false ∧ met.getD (o.getD i 0).toNat false = false := fun h => by
    revert h
    cases (bif decide (o.getD i 0 < 0) then true else decide (n ≤ o.getD i 0)) <;> simp
  have fp : (bif decide (o.getD i 0 < 0) then true else decide (n ≤ o.getD i 0)) = false → 0 ≤ o.getD i 0 ∧ o.getD i 0 < (pl.length : Int) := fun h => by
    rw [hpi.2.2.1, nz]; exact fa h
  have fl : insideAll (pl.length : Int) l := by rw [hpi.2.2.1, nz]; exact hl
  refine (And.intro (fun k0 => (And.intro (by first | (intros; (try subst_vars); (try simp only [Bool.cond_true_left, Bool.cond_false_right, Bool.or_eq_true, Bool.or_eq_false_iff, Bool.and_eq_true, Bool.not_eq_true', Bool.not_eq_false', decide_eq_true_eq, decide_eq_false_iff_not, Int.not_lt, Int.not_le] at *); (try simp only [inK, big, lim, List.length_cons, List.length_nil, List.length_append, List.length_drop, List.length_take, List.length_replicate] at *); omega) | exact fm k1 | exact fm (fb k2).1 | exact fp (fb k2).1 | exact fl) (And.intro (fun k1 => (by first | (intros; (try subst_vars); (try simp only [Bool.cond_true_left, Bool.cond_false_right, Bool.or_eq_true, Bool.or_eq_false_iff, Bool.and_eq_true, Bool.not_eq_true', Bool.not_eq_false', decide_eq_true_eq, decide_eq_false_iff_not, Int.not_lt, Int.not_le] at *); (try simp only [inK, big, lim, List.length_cons, List.length_nil, List.length_append, List.length_drop, List.length_take, List.length_replicate] at *); omega) | exact fm k1 | exact fm (fb k2).1 | exact fp (fb k2).1 | exact fl)) (And.intro (fun k2 => (fin_of rfl ?_)) (fun k2 => (And.intro (by first | (intros; (try subst_vars); (try simp only [Bool.cond_true_left, Bool.cond_false_right, Bool.or_eq_true, Bool.or_eq_false_iff, Bool.and_eq_true, Bool.not_eq_true', Bool.not_eq_false', decide_eq_true_eq, decide_eq_false_iff_not, Int.not_lt, Int.not_le] at *); (try simp only [inK, big, lim, List.length_cons, List.length_nil, List.length_append, List.length_drop, List.length_take, List.length_replicate] at *); omega) | exact fm k1 | exact fm (fb k2).1 | exact fp (fb k2).1 | exact fl) (And.intro (by first | (intros; (try subst_vars); (try simp only [Bool.cond_true_left, Bool.cond_false_right, Bool.or_eq_true, Bool.or_eq_false_iff, Bool.and_eq_true, Bool.not_eq_true', Bool.not_eq_false', decide_eq_true_eq, decide_eq_false_iff_not, Int.not_lt, Int.not_le] at *); (try simp only [inK, big, lim, List.length_cons, List.length_nil, List.length_append, List.length_drop, List.length_take, List.length_replicate] at *); omega) | exact fm k1 | exact fm (fb k2).1 | exact fp (fb k2).1 | exact fl) (And.intro (by first | (intros; (try subst_vars); (try simp only [Bool.cond_true_left, Bool.cond_false_right, Bool.or_eq_true, Bool.or_eq_false_iff, Bool.and_eq_true, Bool.not_eq_true', Bool.not_eq_false', decide_eq_true_eq, decide_eq_false_iff_not, Int.not_lt, Int.not_le] at *); (try simp only [inK, big, lim, List.length_cons, List.length_nil, List.length_append, List.length_drop, List.length_take, List.length_replicate] at *); omega) | exact fm k1 | exact fm (fb k2).1 | exact fp (fb k2).1 | exact fl) ?_)))))))) (fun k0 => (And.intro (by first | (intros; (try subst_vars); (try simp only [Bool.cond_true_left, Bool.cond_false_right, Bool.or_eq_true, Bool.or_eq_false_iff, Bool.and_eq_true, Bool.not_eq_true', Bool.not_eq_false', decide_eq_true_eq, decide_eq_false_iff_not, Int.not_lt, Int.not_le] at *); (try simp only [inK, big, lim, List.length_cons, List.length_nil, List.length_append, List.length_drop, List.length_take, List.length_replicate] at *); omega) | exact fm k1 | exact fm (fb k2).1 | exact fp (fb k2).1 | exact fl) (fin_of rfl ?_))))
  · have hi : i < o.length := by simpa using k0
    have hb : ¬ goodO n o := by
      refine pl_bad hi ?_
      by_cases h1 : o.getD i 0 < 0
      · exact Or.inl h1
      · by_cases h2 : n ≤ o.getD i 0
        · exact Or.inr (Or.inl h2)
        · refine Or.inr (Or.inr ?_)
          have k2' : (bif bif decide (o.getD i 0 < 0) then true else decide (n ≤ o.getD i 0) then true else met.getD (o.getD i 0).toNat false) = true := k2
          rw [pl_mem hpi (by omega) (by omega)] at k2'
          rw [decide_eq_false h1, decide_eq_false h2] at k2'
          exact of_decide_eq_true k2'
    show (extF n l o, ()) = (false, ())
    rw [eg, decide_eq_false hb]; rfl
  · have hi : i < o.length := by simpa using k0
    obtain ⟨f1, f2⟩ := fb k2
    obtain ⟨f3, f4⟩ := fa f1
    rw [pl_mem hpi f3 f4] at f2
    refine Exists.intro ((i + 1, pl.set (o.getD i 0).toNat (i : Int), met.set (o.getD i 0).toNat true)) (Exists.intro ([some 0, some 1, some 2]) (And.intro ?_ (And.intro ?_ (And.intro (by rfl) (And.intro (by rfl) (And.intro (And.intro (by rfl) (And.intro (And.intro (by rfl) (by rfl)) (And.intro (by rfl) True.intro))) (by rfl)))))))
    · exact pl_next hpi hi f3 f4 (of_decide_eq_false f2)
    · show o.length - (i + 1) < o.length - i
      omega
  · have hi : i = o.length := by
      have := hpi.1
      have : ¬ i < o.length := by simpa using k0
      omega
    subst hi
    have hg : goodO n o := by
      have := hpi.2.1
      rwa [List.take_length] at this
    show (extF n l o, ()) = (!l.any (lateE pl), ())
    rw [eg, decide_eq_true hg, pl_late hpi hl]; rfl
end Go.Proofs.Ytlaefkhbpnbahaa
