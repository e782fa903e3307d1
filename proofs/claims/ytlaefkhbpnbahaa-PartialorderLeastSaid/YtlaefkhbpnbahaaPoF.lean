/- Partial orders: Least, as a contract. -/
import Derived.Test.YtlaefkhbpnbahaaPoE
set_option linter.unusedSimpArgs false
set_option linter.unusedVariables false
set_option maxRecDepth 100000
namespace Go.Proofs.Ytlaefkhbpnbahaa
open Go.Sx

/-- Not used, and nothing unused before it. -/
def freeB (n : Nat) (f : Nat → Nat → Bool) (u : List Bool) (i : Nat) : Bool := !(u.getD i false || (List.range n).any fun k => f k i && !u.getD k false)
def leastK (n : Nat) (f : Nat → Nat → Bool) : Nat → List Bool × List Int
  | 0 => (List.replicate n false, [])
  | k + 1 => match (List.range n).find? (freeB n f (leastK n f k).1) with
    | some i => ((leastK n f k).1.set i true, (leastK n f k).2 ++ [(i : Int)])
    | none => leastK n f k
theorem least_len (n : Nat) (f : Nat → Nat → Bool) : ∀ k, (leastK n f k).1.length = n
  | 0 => by simp [leastK]
  | k + 1 => by
    rw [leastK]
    split
    · rw [List.length_set]; exact least_len n f k
    · exact least_len n f k
theorem least_olen (n : Nat) (f : Nat → Nat → Bool) : ∀ k, (leastK n f k).2.length ≤ k
  | 0 => by simp [leastK]
  | k + 1 => by
    have := least_olen n f k
    rw [leastK]
    split
    · simp; exact this
    · omega
theorem least_none {n : Nat} {f : Nat → Nat → Bool} {k : Nat} (h : (List.range n).any (freeB n f (leastK n f k).1) = false) : leastK n f (k + 1) = leastK n f k := by
  have e : (List.range n).find? (freeB n f (leastK n f k).1) = none := List.find?_eq_none.2 fun x hx => by
    have := List.any_eq_false.1 h x hx
    simpa using this
  rw [leastK, e]
theorem find_hit {n x : Nat} {p : Nat → Bool} (hx : x < n) (h : (List.range x).any p = false) (hp : p x = true) : (List.range n).find? p = some x := by
  refine List.find?_range_eq_some.2 ⟨hp, List.mem_range.2 hx, fun j hj => ?_⟩
  have := List.any_eq_false.1 h j (List.mem_range.2 hj)
  simpa using this
theorem least_hit {n : Nat} {f : Nat → Nat → Bool} {k x : Nat} (hx : x < n) (h : (List.range x).any (freeB n f (leastK n f k).1) = false) (hp : freeB n f (leastK n f k).1 x = true) :
    leastK n f (k + 1) = ((leastK n f k).1.set x true, (leastK n f k).2 ++ [(x : Int)]) := by
  rw [leastK, find_hit hx h hp]
def leastF (n : Int) (l : List Ed) : List Int × Int :=
  if checkF n l ≠ 0 then ([], checkF n l) else ((leastK n.toNat (inL l) n.toNat).2, 0)
def cxJ : Ctx := ⟨tys0, [(18, ([], c18)), (39, ([], c39))]⟩
theorem cxJ_good : GoodCtx Try.prog cxJ := cx_cons good18 (cx_cons good39 cx0_good)
@[reducible] def rIsI : List (Bool × Ty) := [(false, tIs), (false, tI)]
def c33 : Ctr := fnC [dI, dEs] rIsI (fun _ => True) (fun y => ((leastF y.1 y.2.1).1, (leastF y.1 y.2.1).2, ()))
set_option maxHeartbeats 4000000 in
theorem good33 : GoodC Try.prog 33 c33 := by
  refine goodF cxJ_good 9 _ _ _ _ ⟨_, Try.func33, rfl, rfl⟩ fun (⟨n, l, _⟩ : Int × List Ed × Unit) _ => ?_
  have mk : checkF n l = 0 → 0 ≤ n ∧ n ≤ 200 ∧ insideAll n l := fun h => ⟨(chk_ok h).1, (chk_ok h).2.1, (chk_ok h).2.2.2⟩
  have mk1 : checkF n l = 0 → 0 ≤ n ∧ n ≤ n ∧ n * ((1 : Nat) : Int) ≤ (lim : Int) ∧ n ≤ (lim : Int) := fun h => by
    obtain ⟨n0, n1, -⟩ := chk_ok h
    simp only [lim]
    omega
  refine (And.intro (by first | kernel_rfl | rfl) (And.intro True.intro (And.intro (fun h0 => (fin_of rfl ?_)) (fun h0 => (And.intro (by first | exact mk (by simpa using h0) | exact mk1 (by simpa using h0) | (intros; (try subst_vars); (try simp only [Bool.cond_true_left, Bool.cond_false_right, Bool.or_eq_true, Bool.or_eq_false_iff, Bool.and_eq_true, Bool.not_eq_true', Bool.not_eq_false', decide_eq_true_eq, decide_eq_false_iff_not, Int.not_lt, Int.not_le] at *); (try simp only [inK, big, lim, List.length_cons, List.length_nil, List.length_append, List.length_drop, List.length_take, List.length_replicate] at *); omega)) (fun (h1 : (Int × List (List Bool)) × PUnit) => (fun h2 => (And.intro (by first | exact mk (by simpa using h0) | exact mk1 (by simpa using h0) | (intros; (try subst_vars); (try simp only [Bool.cond_true_left, Bool.cond_false_right, Bool.or_eq_true, Bool.or_eq_false_iff, Bool.and_eq_true, Bool.not_eq_true', Bool.not_eq_false', decide_eq_true_eq, decide_eq_false_iff_not, Int.not_lt, Int.not_le] at *); (try simp only [inK, big, lim, List.length_cons, List.length_nil, List.length_append, List.length_drop, List.length_take, List.length_replicate] at *); omega)) ?_))))))))
  · have h0' : checkF n l ≠ 0 := by simpa using h0
    show ((leastF n l).1, (leastF n l).2, ()) = ([], checkF n l, ())
    rw [leastF, if_pos h0']
  have h0' : checkF n l = 0 := by simpa using h0
  obtain ⟨n0, n1, n2, hl⟩ := chk_ok h0'
  have ek : h1 = ((n, matF n l), ()) := h2
  subst ek
  rw [mat_tab n0 hl]
  have eg : leastF n l = ((leastK n.toNat (inL l) n.toNat).2, 0) := by rw [leastF, if_neg (by simp [h0'])]
  have nz : ((n.toNat : Nat) : Int) = n := Int.toNat_of_nonneg n0
  have lt : ∀ a : Nat, decide ((a : Int) < n) = true → a < n.toNat := fun a h => by have := of_decide_eq_true h; omega
  have ge : ∀ a : Nat, decide ((a : Int) < n) = false → n.toNat ≤ a := fun a h => by have := of_decide_eq_false h; omega
  refine ex4 _ (fun i : Nat => ⟨[.int .i64 n, .any, .any, .any, .any, .any, .any, .ptr 0 0, .ptr 2 0, .ptr 3 0, .any, .any, .any, .any, .any, .any, .any, .any, .any, .any, .any, .any, .int .i64 n, .int .i64 (i : Int), .any, .any, .any, .any, .any, .any, .any, .any, .any, .any, .any, .any, .any, .any], [.cells [.int .i64 n, .sl tBs (tab n.toNat (inL l))], .rows .bool (leastK n.toNat (inL l) i).1, .cells [.own 1], .cells [.own 4], .rows tI (leastK n.toNat (inL l) i).2], 5⟩) (fun i => i ≤ n.toNat) (fun i => n.toNat - i) (And.intro (Exists.intro (0) (Exists.intro ([some 0, some 1, some 2, some 3, none]) (And.intro ?_ (And.intro (by rfl) (And.intro (by rfl) (And.intro (And.intro (And.intro (by rfl) (by rfl)) (And.intro (by rfl) (And.intro (And.intro (by rfl) (by rfl)) (And.intro (And.intro (by rfl) (by rfl)) (And.intro (by rfl) True.intro))))) (by rfl))))))) ?_)
  · exact Nat.zero_le _
  rintro i hi
  refine (And.intro (fun k0 => (And.intro (by first | kernel_rfl | rfl) (And.intro (by first | kernel_rfl | rfl) (And.intro (by first | kernel_rfl | rfl) ?_)))) (fun k0 => (fin_of rfl ?_)))
  · have hi' := lt _ k0
    have f1 : ∀ a : Nat, a < n.toNat → 0 ≤ (a : Int) ∧ (a : Int) < ((tab n.toNat (inL l)).length : Int) := fun a h => by rw [tab_len]; omega
    have f2 : ∀ a b : Nat, a < n.toNat → b < n.toNat → 0 ≤ (b : Int) ∧ (b : Int) < (((tab n.toNat (inL l)).getD (a : Int).toNat []).length : Int) := fun a b h h' => by
      rw [Int.toNat_natCast, tab_rlen _ h]; omega
    have ul : (leastK n.toNat (inL l) i).1.length = n.toNat := least_len _ _ _
    have f3 : ∀ a : Nat, a < n.toNat → 0 ≤ (a : Int) ∧ (a : Int) < ((leastK n.toNat (inL l) i).1.length : Int) := fun a h => by rw [ul]; omega
    have room : ((leastK n.toNat (inL l) i).2.length + 1) * 8 ≤ lim := by
      have := least_olen n.toNat (inL l) i
      simp only [lim]
      omega
    refine ex4 _ (fun x : Nat => ⟨[.yld 7, .ptr 5 0, .ptr 6 0, .any, .any, .any, .any, .ptr 5 0, .int .i64 n, .int .i64 (x : Int), .any, .any, .any, .any, .any, .any, .any, .any, .any, .any, .any, .any, .any, .any, .any, .any, .any, .any, .any, .any, .any, .any, .any, .any, .any, .any, .any, .any, .any, .any, .any, .any, .any, .any, .any, .any, .any, .any, .any], [.cells [.int .i64 n, .sl tBs (tab n.toNat (inL l))], .rows .bool (leastK n.toNat (inL l) i).1, .cells [.own 1], .cells [.own 4], .rows tI (leastK n.toNat (inL l) i).2, .cells [.int .i64 n, .sl tBs (tab n.toNat (inL l))], .cells [.own 1], .loop .ready .no ([28]) _ _ [.int .i64 n, .any, .any, .any, .any, .any, .any, .ptr 0 0, .ptr 2 0, .ptr 3 0, .any, .any, .any, .any, .any, .any, .any, .any, .any, .any, .any, .any, .int .i64 n, .int .i64 (↑i : Int), .bool (decide ((↑i : Int) < n)), .agg [.int .i64 n, .sl tBs (tab n.toNat (inL l))], .own 1, .fn (Fn.func 63) [] [.ptr 5 0, .ptr 6 0], .any, .any, .any, .any, .any, .any, .any, .any, .any, .any]], 8⟩) (fun x => x ≤ n.toNat ∧ (List.range x).any (freeB n.toNat (inL l) (leastK n.toNat (inL l) i).1) = false) (fun x => n.toNat - x) (And.intro (Exists.intro (0) (Exists.intro ([some 0, some 1, some 2, some 3, some 4, some 5, some 6, some 7]) (And.intro ?_ (And.intro (by rfl) (And.intro (by rfl) (And.intro (And.intro (And.intro (by rfl) (by rfl)) (And.intro (by rfl) (And.intro (And.intro (by rfl) (by rfl)) (And.intro (And.intro (by rfl) (by rfl)) (And.intro (by rfl) (And.intro (And.intro (by rfl) (by rfl)) (And.intro (And.intro (by rfl) (by rfl)) (And.intro (And.intro (And.intro rfl (And.intro rfl (And.intro rfl (And.intro rfl rfl)))) (And.intro (by rfl) (by rfl))) True.intro)))))))) (by rfl))))))) ?_)
    · exact ⟨Nat.zero_le _, rfl⟩
    rintro x ⟨hx, hv⟩
    refine (And.intro (fun m0 => (And.intro (by first | (intros; (try subst_vars); (try simp only [Bool.cond_true_left, Bool.cond_false_right, Bool.or_eq_true, Bool.or_eq_false_iff, Bool.and_eq_true, Bool.not_eq_true', Bool.not_eq_false', decide_eq_true_eq, decide_eq_false_iff_not, Int.not_lt, Int.not_le] at *); (try simp only [inK, big, lim, List.length_cons, List.length_nil, List.length_append, List.length_drop, List.length_take, List.length_replicate] at *); omega) | exact f3 _ (lt _ m0)) ?_)) (fun m0 => (And.intro (by first | (intros; (try subst_vars); (try simp only [Bool.cond_true_left, Bool.cond_false_right, Bool.or_eq_true, Bool.or_eq_false_iff, Bool.and_eq_true, Bool.not_eq_true', Bool.not_eq_false', decide_eq_true_eq, decide_eq_false_iff_not, Int.not_lt, Int.not_le] at *); (try simp only [inK, big, lim, List.length_cons, List.length_nil, List.length_append, List.length_drop, List.length_take, List.length_replicate] at *); omega) | exact f3 _ (lt _ m0)) ?_)))
    · have hx' := lt _ m0
      refine ex4 _ (fun p : Nat × Bool => ⟨[.yld 7, .ptr 5 0, .ptr 6 0, .any, .int .i64 (↑x : Int), .bool p.2, .any, .ptr 5 0, .int .i64 n, .int .i64 (↑x : Int), .bool (decide ((↑x : Int) < n)), .int .i64 (↑x : Int), .own 1, .int .i64 (↑x : Int), .any, .bool ((leastK n.toNat (inL l) i).1.getD (↑x : Int).toNat (dflt .bool)), .ptr 5 0, .int .i64 n, .int .i64 (p.1 : Int), .any, .any, .any, .any, .any, .any, .any, .any, .any, .any, .any, .any, .any, .any, .any, .any, .any, .any, .any, .any, .any, .any, .any, .any, .any, .any, .any, .any, .any, .any], [.cells [.int .i64 n, .sl tBs (tab n.toNat (inL l))], .rows .bool (leastK n.toNat (inL l) i).1, .cells [.own 1], .cells [.own 4], .rows tI (leastK n.toNat (inL l) i).2, .cells [.int .i64 n, .sl tBs (tab n.toNat (inL l))], .cells [.own 1], .loop .ready .no ([28]) _ _ [.int .i64 n, .any, .any, .any, .any, .any, .any, .ptr 0 0, .ptr 2 0, .ptr 3 0, .any, .any, .any, .any, .any, .any, .any, .any, .any, .any, .any, .any, .int .i64 n, .int .i64 (↑i : Int), .bool (decide ((↑i : Int) < n)), .agg [.int .i64 n, .sl tBs (tab n.toNat (inL l))], .own 1, .fn (Fn.func 63) [] [.ptr 5 0, .ptr 6 0], .any, .any, .any, .any, .any, .any, .any, .any, .any, .any]], 8⟩) (fun p => p.1 ≤ n.toNat ∧ p.2 = ((leastK n.toNat (inL l) i).1.getD x false || (List.range p.1).any fun k => inL l k x && !(leastK n.toNat (inL l) i).1.getD k false)) (fun p => n.toNat - p.1) (And.intro (Exists.intro ((0, (leastK n.toNat (inL l) i).1.getD x false)) (Exists.intro ([some 0, some 1, some 2, some 3, some 4, some 5, some 6, some 7]) (And.intro ?_ (And.intro (by rfl) (And.intro (by rfl) (And.intro (And.intro (And.intro (by rfl) (by rfl)) (And.intro (by rfl) (And.intro (And.intro (by rfl) (by rfl)) (And.intro (And.intro (by rfl) (by rfl)) (And.intro (by rfl) (And.intro (And.intro (by rfl) (by rfl)) (And.intro (And.intro (by rfl) (by rfl)) (And.intro (And.intro (And.intro rfl (And.intro rfl (And.intro rfl (And.intro rfl rfl)))) (And.intro (by rfl) (by rfl))) True.intro)))))))) (by rfl))))))) ?_)
      · exact ⟨Nat.zero_le _, by simp⟩
      rintro ⟨k, b⟩ ⟨hk, hb⟩
      refine (And.intro (fun w0 => (And.intro (fun w1 => (by first | exact room | (intros; (try subst_vars); (try simp only [Bool.cond_true_left, Bool.cond_false_right, Bool.or_eq_true, Bool.or_eq_false_iff, Bool.and_eq_true, Bool.not_eq_true', Bool.not_eq_false', decide_eq_true_eq, decide_eq_false_iff_not, Int.not_lt, Int.not_le] at *); (try simp only [inK, big, lim, List.length_cons, List.length_nil, List.length_append, List.length_drop, List.length_take, List.length_replicate] at *); omega) | exact f1 _ (lt _ w0) | exact f2 _ _ (lt _ w0) hx' | exact f3 _ (lt _ w0) | exact f3 _ hx')) (And.intro (fun w2 => (by first | exact room | (intros; (try subst_vars); (try simp only [Bool.cond_true_left, Bool.cond_false_right, Bool.or_eq_true, Bool.or_eq_false_iff, Bool.and_eq_true, Bool.not_eq_true', Bool.not_eq_false', decide_eq_true_eq, decide_eq_false_iff_not, Int.not_lt, Int.not_le] at *); (try simp only [inK, big, lim, List.length_cons, List.length_nil, List.length_append, List.length_drop, List.length_take, List.length_replicate] at *); omega) | exact f1 _ (lt _ w0) | exact f2 _ _ (lt _ w0) hx' | exact f3 _ (lt _ w0) | exact f3 _ hx')) (And.intro (fun w3 => (by first | exact room | (intros; (try subst_vars); (try simp only [Bool.cond_true_left, Bool.cond_false_right, Bool.or_eq_true, Bool.or_eq_false_iff, Bool.and_eq_true, Bool.not_eq_true', Bool.not_eq_false', decide_eq_true_eq, decide_eq_false_iff_not, Int.not_lt, Int.not_le] at *); (try simp only [inK, big, lim, List.length_cons, List.length_nil, List.length_append, List.length_drop, List.length_take, List.length_replicate] at *); omega) | exact f1 _ (lt _ w0) | exact f2 _ _ (lt _ w0) hx' | exact f3 _ (lt _ w0) | exact f3 _ hx')) (And.intro (by first | exact room | (intros; (try subst_vars); (try simp only [Bool.cond_true_left, Bool.cond_false_right, Bool.or_eq_true, Bool.or_eq_false_iff, Bool.and_eq_true, Bool.not_eq_true', Bool.not_eq_false', decide_eq_true_eq, decide_eq_false_iff_not, Int.not_lt, Int.not_le] at *); (try simp only [inK, big, lim, List.length_cons, List.length_nil, List.length_append, List.length_drop, List.length_take, List.length_replicate] at *); omega) | exact f1 _ (lt _ w0) | exact f2 _ _ (lt _ w0) hx' | exact f3 _ (lt _ w0) | exact f3 _ hx') ?_))))) (fun w0 => (And.intro (fun w4 => ?_) (fun w5 => (And.intro (fun w6 => (And.intro (by first | exact room | (intros; (try subst_vars); (try simp only [Bool.cond_true_left, Bool.cond_false_right, Bool.or_eq_true, Bool.or_eq_false_iff, Bool.and_eq_true, Bool.not_eq_true', Bool.not_eq_false', decide_eq_true_eq, decide_eq_false_iff_not, Int.not_lt, Int.not_le] at *); (try simp only [inK, big, lim, List.length_cons, List.length_nil, List.length_append, List.length_drop, List.length_take, List.length_replicate] at *); omega) | exact f1 _ (lt _ w0) | exact f2 _ _ (lt _ w0) hx' | exact f3 _ (lt _ w0) | exact f3 _ hx') ?_)) (fun w6 => (And.intro (by first | exact room | (intros; (try subst_vars); (try simp only [Bool.cond_true_left, Bool.cond_false_right, Bool.or_eq_true, Bool.or_eq_false_iff, Bool.and_eq_true, Bool.not_eq_true', Bool.not_eq_false', decide_eq_true_eq, decide_eq_false_iff_not, Int.not_lt, Int.not_le] at *); (try simp only [inK, big, lim, List.length_cons, List.length_nil, List.length_append, List.length_drop, List.length_take, List.length_replicate] at *); omega) | exact f1 _ (lt _ w0) | exact f2 _ _ (lt _ w0) hx' | exact f3 _ (lt _ w0) | exact f3 _ hx') ?_)))))))
      · have hk' := lt _ w0
        refine Exists.intro ((k + 1, _)) (Exists.intro ([some 0, some 1, some 2, some 3, some 4, some 5, some 6, some 7]) (And.intro ?_ (And.intro ?_ (And.intro (by rfl) (And.intro (by rfl) (And.intro (And.intro (And.intro (by rfl) (by rfl)) (And.intro (by rfl) (And.intro (And.intro (by rfl) (by rfl)) (And.intro (And.intro (by rfl) (by rfl)) (And.intro (by rfl) (And.intro (And.intro (by rfl) (by rfl)) (And.intro (And.intro (by rfl) (by rfl)) (And.intro (And.intro (And.intro rfl (And.intro rfl (And.intro rfl (And.intro rfl rfl)))) (And.intro (by rfl) (by rfl))) True.intro)))))))) (by rfl)))))))
        · refine ⟨hk', ?_⟩
          rw [range_any, ← Bool.or_assoc, ← hb]
          show (bif b then true else bif ((tab n.toNat (inL l)).getD k []).getD x false then !(leastK n.toNat (inL l) i).1.getD k false else false) = _
          rw [tab_at _ hk' hx']
          cases b <;> cases inL l k x <;> cases (leastK n.toNat (inL l) i).1.getD k false <;> rfl
        · show n.toNat - (k + 1) < n.toNat - k
          omega
      · have ek : k = n.toNat := Nat.le_antisymm hk (ge _ w0)
        subst ek
        have ef : freeB n.toNat (inL l) (leastK n.toNat (inL l) i).1 x = true := by
          have : freeB n.toNat (inL l) (leastK n.toNat (inL l) i).1 x = !b := congrArg (fun c => !c) hb.symm
          rw [this]; exact w4
        have el := least_hit hx' hv ef
        refine ⟨f3 _ hx', ?_⟩
        refine (And.intro (by first | exact room | (intros; (try subst_vars); (try simp only [Bool.cond_true_left, Bool.cond_false_right, Bool.or_eq_true, Bool.or_eq_false_iff, Bool.and_eq_true, Bool.not_eq_true', Bool.not_eq_false', decide_eq_true_eq, decide_eq_false_iff_not, Int.not_lt, Int.not_le] at *); (try simp only [inK, big, lim, List.length_cons, List.length_nil, List.length_append, List.length_drop, List.length_take, List.length_replicate] at *); omega)) (And.intro (fun y0 => (And.intro (by first | exact room | (intros; (try subst_vars); (try simp only [Bool.cond_true_left, Bool.cond_false_right, Bool.or_eq_true, Bool.or_eq_false_iff, Bool.and_eq_true, Bool.not_eq_true', Bool.not_eq_false', decide_eq_true_eq, decide_eq_false_iff_not, Int.not_lt, Int.not_le] at *); (try simp only [inK, big, lim, List.length_cons, List.length_nil, List.length_append, List.length_drop, List.length_take, List.length_replicate] at *); omega)) ?_)) (fun y0 => (And.intro (by first | exact room | (intros; (try subst_vars); (try simp only [Bool.cond_true_left, Bool.cond_false_right, Bool.or_eq_true, Bool.or_eq_false_iff, Bool.and_eq_true, Bool.not_eq_true', Bool.not_eq_false', decide_eq_true_eq, decide_eq_false_iff_not, Int.not_lt, Int.not_le] at *); (try simp only [inK, big, lim, List.length_cons, List.length_nil, List.length_append, List.length_drop, List.length_take, List.length_replicate] at *); omega)) ?_))))
        · refine Exists.intro (i + 1) (Exists.intro ([some 0, some 1, some 2, some 3, some 9]) (And.intro ?_ (And.intro ?_ (And.intro (by rfl) (And.intro (by rfl) (And.intro (And.intro (And.intro (by rfl) (by rfl)) (And.intro ?_ (And.intro (And.intro (by rfl) (by rfl)) (And.intro (And.intro (by rfl) (by rfl)) (And.intro ?_ True.intro))))) (by rfl)))))))
          · exact hi'
          · show n.toNat - (i + 1) < n.toNat - i
            omega
          · refine congrArg (Ob.rows .bool) ?_
            rw [el]; rfl
          · refine congrArg (Ob.rows tI) ?_
            rw [el]
        · have e : b = false := by simpa using w4
          subst e
          exact nomatch y0
      · have e : b = true := by simpa using w5
        subst e
        exact nomatch w6
      · have ek : k = n.toNat := Nat.le_antisymm hk (ge _ w0)
        subst ek
        have e : b = true := by simpa using w5
        have ef : freeB n.toNat (inL l) (leastK n.toNat (inL l) i).1 x = false := by
          have : freeB n.toNat (inL l) (leastK n.toNat (inL l) i).1 x = !b := congrArg (fun c => !c) hb.symm
          rw [this, e]; rfl
        refine Exists.intro (x + 1) (Exists.intro ([some 0, some 1, some 2, some 3, some 4, some 5, some 6, some 7]) (And.intro ?_ (And.intro ?_ (And.intro (by rfl) (And.intro (by rfl) (And.intro (And.intro (And.intro (by rfl) (by rfl)) (And.intro (by rfl) (And.intro (And.intro (by rfl) (by rfl)) (And.intro (And.intro (by rfl) (by rfl)) (And.intro (by rfl) (And.intro (And.intro (by rfl) (by rfl)) (And.intro (And.intro (by rfl) (by rfl)) (And.intro (And.intro (And.intro rfl (And.intro rfl (And.intro rfl (And.intro rfl rfl)))) (And.intro (by rfl) (by rfl))) True.intro)))))))) (by rfl)))))))
        · exact ⟨hx', range_next hv ef⟩
        · show n.toNat - (x + 1) < n.toNat - x
          omega
    · have e : x = n.toNat := Nat.le_antisymm hx (ge _ m0)
      subst e
      have el := least_none hv
      refine Exists.intro (i + 1) (Exists.intro ([some 0, some 1, some 2, some 3, some 4]) (And.intro ?_ (And.intro ?_ (And.intro (by rfl) (And.intro (by rfl) (And.intro (And.intro (And.intro (by rfl) (by rfl)) (And.intro ?_ (And.intro (And.intro (by rfl) (by rfl)) (And.intro (And.intro (by rfl) (by rfl)) (And.intro ?_ True.intro))))) (by rfl)))))))
      · exact hi'
      · show n.toNat - (i + 1) < n.toNat - i
        omega
      · refine congrArg (Ob.rows .bool) ?_
        rw [el]
      · refine congrArg (Ob.rows tI) ?_
        rw [el]
  · have e : i = n.toNat := Nat.le_antisymm hi (ge _ k0)
    subst e
    show ((leastF n l).1, (leastF n l).2, ()) = ((leastK n.toNat (inL l) n.toNat).2, 0, ())
    rw [eg]
end Go.Proofs.Ytlaefkhbpnbahaa
