/- Partial orders: comparing lists, and the example. -/
import Derived.Test.YtlaefkhbpnbahaaPoM1
set_option linter.unusedSimpArgs false
set_option linter.unusedVariables false
set_option maxRecDepth 100000
namespace Go.Proofs.Ytlaefkhbpnbahaa
open Go.Sx

def cxS : Ctx := ⟨tys0, [(35, ([], c35)), (23, ([], c23))]⟩
theorem cxS_good : GoodCtx Try.prog cxS := cx_cons good35 (cx_cons good23 cx0_good)
def c16 : Ctr := fnC [dIss, dIss] rB (fun _ => True) (fun y => (decide (y.1 = y.2.1), ()))
theorem good16 : GoodC Try.prog 16 c16 := by
  refine goodF cxS_good 4 _ _ _ _ ⟨_, Try.func16, rfl, rfl⟩ fun (⟨xs, ys, _⟩ : List (List Int) × List (List Int) × Unit) _ => ?_
  refine (And.intro (by first | kernel_rfl | rfl) (fun h0 => (fun h1 => (And.intro (fun h2 => (fin_of rfl ?_)) (fun h2 => ?_)))))
  · have h2' : (!decide ((xs.length : Int) = ys.length)) = true := h2
    have e : ¬ xs = ys := by rintro rfl; simp at h2'
    show (decide (xs = ys), ()) = (false, ())
    rw [decide_eq_false e]
  have h2' : (!decide ((xs.length : Int) = ys.length)) = false := h2
  have hl : xs.length = ys.length := by
    have := of_decide_eq_true (Bool.not_eq_false' .. ▸ h2')
    omega
  refine ex4 _ (fun i : Nat => ⟨[.sl tIs xs, .sl tIs ys, .any, .any, .any, .int .i64 (i : Int), .any, .any, .any, .any, .any, .any, .any, .any, .any, .any, .any, .any, .any, .any, .any, .any, .any, .any, .any, .any, .any], [], 0⟩) (fun i => i ≤ xs.length ∧ xs.take i = ys.take i) (fun i => xs.length - i) (And.intro (Exists.intro (0) (Exists.intro ([]) (And.intro ?_ (And.intro (by rfl) (And.intro (by rfl) (And.intro True.intro (by rfl))))))) ?_)
  · exact ⟨Nat.zero_le _, by simp⟩
  rintro i ⟨hi, ht⟩
  refine (fun k0 => (And.intro (fun k1 => (And.intro (by first | kernel_rfl | rfl) (And.intro (by intros; (try subst_vars); (try simp only [Bool.cond_true_left, Bool.cond_false_right, Bool.or_eq_true, Bool.or_eq_false_iff, Bool.and_eq_true, Bool.not_eq_true', Bool.not_eq_false', decide_eq_true_eq, decide_eq_false_iff_not, Int.not_lt, Int.not_le] at *); (try simp only [inK, big, lim, List.length_cons, List.length_nil, List.length_append, List.length_drop, List.length_take, List.length_replicate] at *); omega) (And.intro (by intros; (try subst_vars); (try simp only [Bool.cond_true_left, Bool.cond_false_right, Bool.or_eq_true, Bool.or_eq_false_iff, Bool.and_eq_true, Bool.not_eq_true', Bool.not_eq_false', decide_eq_true_eq, decide_eq_false_iff_not, Int.not_lt, Int.not_le] at *); (try simp only [inK, big, lim, List.length_cons, List.length_nil, List.length_append, List.length_drop, List.length_take, List.length_replicate] at *); omega) (And.intro True.intro (And.intro (fun k2 => (fin_of rfl ?_)) (fun k2 => (And.intro (by intros; (try subst_vars); (try simp only [Bool.cond_true_left, Bool.cond_false_right, Bool.or_eq_true, Bool.or_eq_false_iff, Bool.and_eq_true, Bool.not_eq_true', Bool.not_eq_false', decide_eq_true_eq, decide_eq_false_iff_not, Int.not_lt, Int.not_le] at *); (try simp only [inK, big, lim, List.length_cons, List.length_nil, List.length_append, List.length_drop, List.length_take, List.length_replicate] at *); omega) ?_)))))))) (fun k1 => (fin_of rfl ?_))))
  · have hi' : i < xs.length := by simpa using k1
    have k2' : (!decide (xs.getD i (dflt tIs) = ys.getD i (dflt tIs))) = true := k2
    have e : ¬ xs = ys := by rintro rfl; simp at k2'
    show (decide (xs = ys), ()) = (false, ())
    rw [decide_eq_false e]
  · have hi' : i < xs.length := by simpa using k1
    have k2' : (!decide (xs.getD i (dflt tIs) = ys.getD i (dflt tIs))) = false := k2
    refine Exists.intro (i + 1) (Exists.intro ([]) (And.intro ?_ (And.intro ?_ (And.intro (by rfl) (And.intro (by rfl) (And.intro True.intro (by rfl)))))))
    · exact ⟨hi', take_ext_succ (d := dflt tIs) hi' (by omega) ht (by simpa using k2')⟩
    · show xs.length - (i + 1) < xs.length - i
      omega
  · have hi' : ¬ i < xs.length := by simpa using k1
    rw [List.take_of_length_le (by omega), List.take_of_length_le (by omega)] at ht
    show (decide (xs = ys), ()) = (true, ())
    rw [decide_eq_true ht]
def hasF (l : List Ed) (e : Ed) : Bool := l.any fun p => decide (p.1 = e.1) && decide (p.2 = e.2)
def c19 : Ctr := fnC [dEs, dEs] rB (fun _ => True) (fun y => (y.1.all (hasF y.2.1), ()))
theorem good19 : GoodC Try.prog 19 c19 := by
  refine goodF cxS_good 4 _ _ _ _ ⟨_, Try.func19, rfl, rfl⟩ fun (⟨xs, ys, _⟩ : List Ed × List Ed × Unit) _ => ?_
  refine (And.intro (by first | kernel_rfl | rfl) (fun h0 => ?_))
  refine ex4 _ (fun i : Nat => ⟨[.sl tE xs, .sl tE ys, .any, .any, .any, .any, .any, .sl tE xs, .int .i64 (↑xs.length : Int), .int .i64 (i : Int), .any, .any, .any, .any, .any, .any, .any, .any, .any, .any, .any], [], 0⟩) (fun i => i ≤ xs.length ∧ (xs.take i).any (fun e => !hasF ys e) = false) (fun i => xs.length - i) (And.intro (Exists.intro (0) (Exists.intro ([]) (And.intro ?_ (And.intro (by rfl) (And.intro (by rfl) (And.intro True.intro (by rfl))))))) ?_)
  · exact ⟨Nat.zero_le _, by simp⟩
  rintro i ⟨hi, ht⟩
  refine (And.intro (fun k0 => (And.intro (by intros; (try subst_vars); (try simp only [Bool.cond_true_left, Bool.cond_false_right, Bool.or_eq_true, Bool.or_eq_false_iff, Bool.and_eq_true, Bool.not_eq_true', Bool.not_eq_false', decide_eq_true_eq, decide_eq_false_iff_not, Int.not_lt, Int.not_le] at *); (try simp only [inK, big, lim, List.length_cons, List.length_nil, List.length_append, List.length_drop, List.length_take, List.length_replicate] at *); omega) (And.intro True.intro (And.intro (fun k1 => (fin_of rfl ?_)) (fun k1 => (And.intro (by intros; (try subst_vars); (try simp only [Bool.cond_true_left, Bool.cond_false_right, Bool.or_eq_true, Bool.or_eq_false_iff, Bool.and_eq_true, Bool.not_eq_true', Bool.not_eq_false', decide_eq_true_eq, decide_eq_false_iff_not, Int.not_lt, Int.not_le] at *); (try simp only [inK, big, lim, List.length_cons, List.length_nil, List.length_append, List.length_drop, List.length_take, List.length_replicate] at *); omega) ?_)))))) (fun k0 => (fin_of rfl ?_)))
  · have hi' : i < xs.length := by simpa using k0
    have k1' : (!hasF ys (xs.getD i (dflt tE))) = true := k1
    have e := any_hit (p := fun e => !hasF ys e) hi' k1'
    have e2 : xs.all (hasF ys) = false := by rw [List.all_eq_not_any_not, e]; rfl
    show (xs.all (hasF ys), ()) = (false, ())
    rw [e2]
  · have hi' : i < xs.length := by simpa using k0
    have k1' : (!hasF ys (xs.getD i (dflt tE))) = false := k1
    refine Exists.intro (i + 1) (Exists.intro ([]) (And.intro ?_ (And.intro ?_ (And.intro (by rfl) (And.intro (by rfl) (And.intro True.intro (by rfl)))))))
    · exact ⟨hi', any_next hi' ht k1'⟩
    · show xs.length - (i + 1) < xs.length - i
      omega
  · have hi' : ¬ i < xs.length := by simpa using k0
    have e := any_end (p := fun e => !hasF ys e) hi' ht
    have e2 : xs.all (hasF ys) = true := by rw [List.all_eq_not_any_not, e]; rfl
    show (xs.all (hasF ys), ()) = (true, ())
    rw [e2]
end Go.Proofs.Ytlaefkhbpnbahaa
/- Partial orders: the example. -/
namespace Go.Proofs.Ytlaefkhbpnbahaa
open Go.Sx

theorem ex_gen : genF 4 [(0, 1), (1, 2)] = ([(0, 1), (0, 2), (1, 2)], 0) := by decide
theorem ex_cov : coversF 4 [(0, 1), (0, 2), (1, 2)] = ([(0, 1), (1, 2)], 0) := by decide
theorem ex_ext : extsF 4 [(0, 1), (0, 2), (1, 2)] 10 = ([[0, 1, 2, 3], [0, 1, 3, 2], [0, 3, 1, 2], [3, 0, 1, 2]], 0) := by decide
theorem ex_conc : concF 4 [(0, 1), (0, 2), (1, 2)] = [(0, 3), (1, 3), (2, 3)] := by decide
/-- A contract at some given arguments: what it hands back is written out. -/
def pickC (a : List AK) (r : List (Bool × Ty)) (pick : AK.dens a → Nat) (tab : List (AK.dens a × Rens r)) : Ctr := fun args =>
  match ofAVs a args with
  | some y => (match tab[pick y]? with
    | some p => some ⟨⟨some (y = p.1), none, [], resAV r p.2⟩, fun k => k (resAV r p.2)⟩
    | none => none)
  | none => none
theorem good_pick {P : Program} {g : FuncId} {a : List AK} {r : List (Bool × Ty)} {need : AK.dens a → Prop} {f : AK.dens a → Rens r} (h : GoodC P g (fnC a r need f)) (pick : AK.dens a → Nat) (tab : List (AK.dens a × Rens r))
    (ht : ∀ p ∈ tab, need p.1 ∧ f p.1 = p.2) : GoodC P g (pickC a r pick tab) := by
  refine ⟨h.1, fun args cg hC k hk => ?_, fun args cr gen hC hn w F0 vs hF hsz hrd => ?_⟩
  · unfold pickC at hC
    split at hC
    · split at hC
      · cases hC
        exact hk
      · cases hC
    · cases hC
  · unfold pickC at hC
    split at hC
    · rename_i y hy
      split at hC
      · rename_i p hp
        cases hC
        have hn' : y = p.1 := hn
        obtain ⟨h1, h2⟩ := ht p (List.mem_of_getElem? hp)
        subst hn'
        have hC' : fnC a r need f args = some ⟨⟨some (need p.1), none, [], resAV r (f p.1)⟩, if rich r then fun k => ∀ z, z = f p.1 → k (resAV r z) else fun k => k (resAV r (f p.1))⟩ := by
          unfold fnC
          rw [hy]
        rw [h2] at hC'
        exact h.calls _ _ _ hC' h1 w F0 vs hF hsz hrd
      · cases hC
    · cases hC
@[reducible] def Lx : List Ed := [(0, 1), (0, 2), (1, 2)]
def c17k : Ctr := pickC [dI, dEs] rEsI (fun _ => 0) [((4, [(0, 1), (1, 2)], ()), ([(0, 1), (0, 2), (1, 2)], 0, ()))]
theorem good17k : GoodC Try.prog 17 c17k := by
  refine good_pick good17 _ _ fun p hp => ?_
  simp only [List.mem_cons, List.not_mem_nil, or_false] at hp
  subst hp
  exact ⟨trivial, by show ((genF 4 [(0, 1), (1, 2)]).1, (genF 4 [(0, 1), (1, 2)]).2, ()) = _; rw [ex_gen]⟩
def c25k : Ctr := pickC [dI, dEs] rEsI (fun _ => 0) [((4, [(0, 1), (0, 2), (1, 2)], ()), ([(0, 1), (1, 2)], 0, ()))]
theorem good25k : GoodC Try.prog 25 c25k := by
  refine good_pick good25 _ _ fun p hp => ?_
  simp only [List.mem_cons, List.not_mem_nil, or_false] at hp
  subst hp
  exact ⟨trivial, by show ((coversF 4 [(0, 1), (0, 2), (1, 2)]).1, (coversF 4 [(0, 1), (0, 2), (1, 2)]).2, ()) = _; rw [ex_cov]⟩
def c14k : Ctr := pickC [dI, dEs, dI] rIssI (fun _ => 0) [((4, [(0, 1), (0, 2), (1, 2)], 10, ()), ([[0, 1, 2, 3], [0, 1, 3, 2], [0, 3, 1, 2], [3, 0, 1, 2]], 0, ()))]
theorem good14k : GoodC Try.prog 14 c14k := by
  refine good_pick good14 _ _ fun p hp => ?_
  simp only [List.mem_cons, List.not_mem_nil, or_false] at hp
  subst hp
  exact ⟨trivial, by show ((extsF 4 [(0, 1), (0, 2), (1, 2)] 10).1, (extsF 4 [(0, 1), (0, 2), (1, 2)] 10).2, ()) = _; rw [ex_ext]⟩
def c21k : Ctr := pickC [dI, dEs] rEs (fun _ => 0) [((4, [(0, 1), (0, 2), (1, 2)], ()), ([(0, 3), (1, 3), (2, 3)], ()))]
theorem good21k : GoodC Try.prog 21 c21k := by
  refine good_pick good21 _ _ fun p hp => ?_
  simp only [List.mem_cons, List.not_mem_nil, or_false] at hp
  subst hp
  exact ⟨trivial, by show (concF 4 [(0, 1), (0, 2), (1, 2)], ()) = _; rw [ex_conc]⟩
def cxW : Ctx := ⟨tys0, [(17, ([], c17k)), (25, ([], c25k)), (14, ([], c14k)), (21, ([], c21k)), (20, ([], c20)), (16, ([], c16))]⟩
theorem cxW_good : GoodCtx Try.prog cxW := cx_cons good17k (cx_cons good25k (cx_cons good14k (cx_cons good21k (cx_cons good20 (cx_cons good16 cx0_good)))))
def c13 : Ctr := fnC [] rB (fun _ => True) (fun _ => (true, ()))
set_option maxHeartbeats 4000000 in
theorem good13 : GoodC Try.prog 13 c13 := by
  refine goodF cxW_good 3 _ _ _ _ ⟨_, Try.func13, rfl, rfl⟩ fun _ _ => ?_
  refine (And.intro (by first | kernel_rfl | rfl) (And.intro (by rfl) (And.intro (by rfl) (And.intro (by rfl) (And.intro (fun h0 => True.intro) (And.intro (fun h1 => True.intro) (And.intro (fun h2 => True.intro) (And.intro (fun h3 => (by rfl)) (And.intro (fun h4 => True.intro) (fin_of rfl (by first | rfl | decide)))))))))))
end Go.Proofs.Ytlaefkhbpnbahaa
/- Partial orders: the plain laws of the closure. -/
namespace Go.Proofs.Ytlaefkhbpnbahaa
open Go.Sx

theorem close_mono (f : Nat → Nat → Bool) {i j : Nat} (h : f i j = true) : ∀ k, closeK f k i j = true
  | 0 => h
  | k + 1 => by
    have := close_mono f h k
    simp [closeK, warsh, this]
theorem close_succ (f : Nat → Nat → Bool) (k i j : Nat) : closeK f (k + 1) i j = true ↔ closeK f k i j = true ∨ (closeK f k i k = true ∧ closeK f k k j = true) := by
  simp [closeK, warsh]
theorem close_trans (f : Nat → Nat → Bool) : ∀ k i v j, v < k → closeK f k i v = true → closeK f k v j = true → closeK f k i j = true
  | 0, _, _, _, h, _, _ => absurd h (Nat.not_lt_zero _)
  | k + 1, i, v, j, h, h1, h2 => by
    rw [close_succ] at h1 h2 ⊢
    by_cases hv : v = k
    · subst hv
      exact .inr ⟨h1.elim id fun h => h.1, h2.elim id fun h => h.2⟩
    · have ih := close_trans f k
      have hv' : v < k := by omega
      rcases h1 with h1 | ⟨h1, h1'⟩ <;> rcases h2 with h2 | ⟨h2, h2'⟩
      · exact .inl (ih i v j hv' h1 h2)
      · exact .inr ⟨ih i v k hv' h1 h2, h2'⟩
      · exact .inr ⟨h1, ih k v j hv' h1' h2⟩
      · exact .inr ⟨h1, h2'⟩
theorem close_least (f g : Nat → Nat → Bool) (hf : ∀ i j, f i j = true → g i j = true) (hg : ∀ i v j, g i v = true → g v j = true → g i j = true) : ∀ k i j, closeK f k i j = true → g i j = true
  | 0, i, j, h => hf i j h
  | k + 1, i, j, h => by
    rw [close_succ] at h
    rcases h with h | ⟨h, h'⟩
    · exact close_least f g hf hg k i j h
    · exact hg i k j (close_least f g hf hg k i k h) (close_least f g hf hg k k j h')
theorem mem_pairs {n : Nat} {f : Nat → Nat → Bool} {p : Ed} : p ∈ pairsF n f ↔ ∃ i j : Nat, i < n ∧ j < n ∧ f i j = true ∧ p = ((i : Int), (j : Int)) := by
  simp only [pairsF, List.mem_flatMap, List.mem_map, List.mem_filter, List.mem_range]
  constructor
  · rintro ⟨i, hi, j, ⟨hj, hf⟩, rfl⟩
    exact ⟨i, j, hi, hj, hf, rfl⟩
  · rintro ⟨i, j, hi, hj, hf, rfl⟩
    exact ⟨i, hi, j, ⟨hj, hf⟩, rfl⟩
theorem inL_iff {l : List Ed} {i j : Nat} : inL l i j = true ↔ ((i : Int), (j : Int)) ∈ l := by
  simp only [inL, List.any_eq_true, Bool.and_eq_true, decide_eq_true_eq]
  constructor
  · rintro ⟨⟨a, b⟩, h, h1, h2⟩
    simp only at h1 h2
    subst h1; subst h2
    exact h
  · intro h
    exact ⟨_, h, rfl, rfl⟩
theorem inL_pairs {n : Nat} {f : Nat → Nat → Bool} {i j : Nat} (hi : i < n) (hj : j < n) : inL (pairsF n f) i j = f i j := by
  rw [Bool.eq_iff_iff, inL_iff, mem_pairs]
  constructor
  · rintro ⟨a, b, _, _, h, e⟩
    have e1 : i = a := by have := congrArg Prod.fst e; simp only at this; omega
    have e2 : j = b := by have := congrArg Prod.snd e; simp only at this; omega
    rw [e1, e2]; exact h
  · exact fun h => ⟨i, j, hi, hj, h, rfl⟩
theorem inL_out {n : Nat} {f : Nat → Nat → Bool} {i j : Nat} (h : inL (pairsF n f) i j = true) : i < n ∧ j < n ∧ f i j = true := by
  rw [inL_iff, mem_pairs] at h
  obtain ⟨a, b, h1, h2, h3, e⟩ := h
  have e1 : i = a := by have := congrArg Prod.fst e; simp only at this; omega
  have e2 : j = b := by have := congrArg Prod.snd e; simp only at this; omega
  rw [e1, e2]; exact ⟨h1, h2, h3⟩

theorem cmp_lt {a b : Ed} : cmpE a b < 0 ↔ lessE a b = true := by
  unfold cmpE cmpI lessE
  simp only [Bool.or_eq_true, Bool.and_eq_true, decide_eq_true_eq]
  split <;> split <;> omega
/-- In ascending order. -/
def asc (l : List Ed) : Prop := l.Pairwise fun a b => lessE a b = true
theorem less_trans {a b c : Ed} (h : lessE a b = true) (h' : lessE b c = true) : lessE a c = true := by
  unfold lessE at *
  simp only [Bool.or_eq_true, Bool.and_eq_true, decide_eq_true_eq] at *
  omega
theorem less_irr {a : Ed} : lessE a a = false := by
  unfold lessE
  simp

theorem asc_cons2 {q p : Ed} {l : List Ed} : asc (q :: p :: l) ↔ lessE q p = true ∧ asc (p :: l) := by
  constructor
  · intro h
    exact ⟨(List.pairwise_cons.1 h).1 p (by simp), (List.pairwise_cons.1 h).2⟩
  · rintro ⟨h, h'⟩
    refine List.pairwise_cons.2 ⟨fun r hr => ?_, h'⟩
    rcases List.mem_cons.1 hr with rfl | hr
    · exact h
    · exact less_trans h ((List.pairwise_cons.1 h').1 r hr)
theorem scan_iff (n : Int) : ∀ (q : Option Ed) (l : List Ed), scanE n q l = 0 ↔ insideAll n l ∧ asc (q.toList ++ l)
  | q, [] => by
    refine ⟨fun _ => ⟨fun p hp => by simp at hp, ?_⟩, fun _ => rfl⟩
    cases q <;> simp [asc]
  | q, p :: l => by
    have ih := scan_iff n (some p) l
    have ei : insideAll n (p :: l) ↔ outB n p = false ∧ insideAll n l := by simp [insideAll]
    rw [ei, scanE]
    cases ho : outB n p with
    | true => simp
    | false =>
      rw [if_neg (by simp)]
      cases q with
      | none =>
        rw [if_neg (by simp [badPrev]), ih]
        simp
      | some q =>
        have eb : badPrev (some q) p = true ↔ ¬ lessE q p = true := by
          rw [← cmp_lt]
          simp [badPrev]
        by_cases hb : lessE q p = true
        · rw [if_neg (by rw [eb]; exact fun h => h hb), ih]
          show _ ↔ (_ ∧ _) ∧ asc (q :: p :: l)
          rw [asc_cons2]
          simp [hb]
        · rw [if_pos (eb.2 hb)]
          refine ⟨fun h => absurd h (by decide), fun h => ?_⟩
          have h2 : asc (q :: p :: l) := h.2
          exact absurd (asc_cons2.1 h2).1 hb

theorem asc_row (n : Nat) (f : Nat → Nat → Bool) (i j : Nat) : asc (rowP n f i j) ∧ ∀ p ∈ rowP n f i j, p.1 = (i : Int) := by
  refine ⟨?_, fun p hp => ?_⟩
  · unfold asc rowP
    rw [List.pairwise_map]
    refine (List.Pairwise.filter _ List.pairwise_lt_range).imp fun {a b} h => ?_
    simp only [lessE, Bool.or_eq_true, Bool.and_eq_true, decide_eq_true_eq]
    exact Or.inr ⟨trivial, Int.ofNat_lt.2 h⟩
  · unfold rowP at hp
    obtain ⟨b, _, rfl⟩ := List.mem_map.1 hp
    rfl
theorem asc_acc (n : Nat) (f : Nat → Nat → Bool) : ∀ i, asc (accI n f i) ∧ ∀ p ∈ accI n f i, p.1 < (i : Int)
  | 0 => by simp [accI, asc]
  | i + 1 => by
    obtain ⟨h1, h2⟩ := asc_acc n f i
    obtain ⟨h3, h4⟩ := asc_row n f i n
    rw [acc_next]
    refine ⟨List.pairwise_append.2 ⟨h1, h3, fun a ha b hb => ?_⟩, fun p hp => ?_⟩
    · have := h2 a ha
      have := h4 b hb
      simp only [lessE, Bool.or_eq_true, Bool.and_eq_true, decide_eq_true_eq]
      omega
    · rcases List.mem_append.1 hp with hp | hp
      · have := h2 p hp; omega
      · have := h4 p hp; omega
theorem asc_pairs (n : Nat) (f : Nat → Nat → Bool) : asc (pairsF n f) := (asc_acc n f n).1

theorem asc_ext : ∀ {l m : List Ed}, asc l → asc m → (∀ p, p ∈ l ↔ p ∈ m) → l = m
  | [], [], _, _, _ => rfl
  | [], b :: m, _, _, h => absurd ((h b).2 (by simp)) (by simp)
  | a :: l, [], _, _, h => absurd ((h a).1 (by simp)) (by simp)
  | a :: l, b :: m, hl, hm, h => by
    obtain ⟨l1, l2⟩ := List.pairwise_cons.1 hl
    obtain ⟨m1, m2⟩ := List.pairwise_cons.1 hm
    have e : a = b := by
      rcases List.mem_cons.1 ((h a).1 (by simp)) with e | ha
      · exact e
      · rcases List.mem_cons.1 ((h b).2 (by simp)) with e | hb
        · exact e.symm
        · have := less_trans (l1 b hb) (m1 a ha)
          rw [less_irr] at this
          cases this
    subst e
    refine congrArg (a :: ·) (asc_ext l2 m2 fun p => ⟨fun hp => ?_, fun hp => ?_⟩)
    · rcases List.mem_cons.1 ((h p).1 (by simp [hp])) with e | h'
      · have := l1 p hp
        rw [e, less_irr] at this
        cases this
      · exact h'
    · rcases List.mem_cons.1 ((h p).2 (by simp [hp])) with e | h'
      · have := m1 p hp
        rw [e, less_irr] at this
        cases this
      · exact h'
end Go.Proofs.Ytlaefkhbpnbahaa
/- Partial orders: plain laws of the closure and of the covering pairs. -/
namespace Go.Proofs.Ytlaefkhbpnbahaa
open Go.Sx
/-- A strict partial order on n elements. -/
structure Ord (n : Int) (l : List Ed) : Prop where
  n0 : 0 ≤ n
  n1 : n ≤ 200
  len : l.length ≤ 2000
  ins : insideAll n l
  asc : asc l
  irr : ∀ i, inL l i i = false
  tr : ∀ i v j, inL l i v = true → inL l v j = true → inL l i j = true
theorem inL_ins {n : Int} {l : List Ed} (h : insideAll n l) {i j : Nat} (e : inL l i j = true) : i < n.toNat ∧ j < n.toNat := by
  have := out_false (h _ (inL_iff.1 e))
  simp only at this
  omega
theorem mem_inL {n : Int} {l : List Ed} (h : insideAll n l) {p : Ed} (hp : p ∈ l) : inL l p.1.toNat p.2.toNat = true ∧ ((p.1.toNat : Nat) : Int) = p.1 ∧ ((p.2.toNat : Nat) : Int) = p.2 ∧ p.1.toNat < n.toNat ∧ p.2.toNat < n.toNat := by
  have := out_false (h _ hp)
  have e1 : ((p.1.toNat : Nat) : Int) = p.1 := by omega
  have e2 : ((p.2.toNat : Nat) : Int) = p.2 := by omega
  refine ⟨?_, e1, e2, by omega, by omega⟩
  rw [inL_iff, e1, e2]
  exact hp
theorem sizes_iff {n : Int} {l : List Ed} : sizesF n l = 0 ↔ 0 ≤ n ∧ n ≤ 200 ∧ l.length ≤ 2000 := by
  refine ⟨sizes_ok, fun h => ?_⟩
  rw [sizesF, if_neg (by omega), if_neg (by omega)]
theorem open_iff {n : Int} {l : List Ed} (h0 : 0 ≤ n) (hl : insideAll n l) : l.any (openE n.toNat (matF n l)) = false ↔ ∀ i v j, inL l i v = true → inL l v j = true → inL l i j = true := by
  rw [mat_tab h0 hl, List.any_eq_false]
  constructor
  · intro h i v j h1 h2
    obtain ⟨hi, hv⟩ := inL_ins hl h1
    obtain ⟨_, hj⟩ := inL_ins hl h2
    have := h _ (inL_iff.1 h1)
    simp only [openE, lacks, Int.toNat_natCast, List.any_eq_true, not_exists, not_and, List.mem_range, Bool.and_eq_true] at this
    have := this j hj
    rw [tab_at _ hv hj, tab_at _ hi hj] at this
    simpa using this h2
  · intro h p hp
    obtain ⟨h1, e1, e2, l1, l2⟩ := mem_inL hl hp
    simp only [openE, lacks, List.any_eq_true, not_exists, not_and, List.mem_range, Bool.and_eq_true]
    intro k hk
    rw [tab_at _ l2 hk, tab_at _ l1 hk]
    intro h2
    simpa using h _ _ _ h1 h2
theorem loop_iff {n : Int} {l : List Ed} (hl : insideAll n l) : l.any loopE = false ↔ ∀ i, inL l i i = false := by
  rw [List.any_eq_false]
  constructor
  · intro h i
    rw [Bool.eq_false_iff]
    intro e
    exact h _ (inL_iff.1 e) (by simp [loopE])
  · intro h p hp e
    obtain ⟨h1, e1, e2, l1, l2⟩ := mem_inL hl hp
    have e3 : p.1 = p.2 := by simpa [loopE] using e
    rw [e3] at h1
    rw [h] at h1
    cases h1
theorem check_iff {n : Int} {l : List Ed} : checkF n l = 0 ↔ Ord n l := by
  rw [checkF]
  by_cases h1 : sizesF n l = 0
  · rw [if_neg (by simp [h1])]
    by_cases h2 : scanE n none l = 0
    · rw [if_neg (by simp [h2])]
      have hs := sizes_ok h1
      have hi := (scan_iff n none l).1 h2
      have ho := open_iff hs.1 hi.1
      have hp := loop_iff hi.1
      cases h3 : l.any loopE with
      | true =>
        rw [if_pos rfl]
        refine ⟨fun h => absurd h (by decide), fun h => ?_⟩
        rw [hp.2 h.irr] at h3; cases h3
      | false =>
        rw [if_neg (by simp)]
        cases h4 : l.any (openE n.toNat (matF n l)) with
        | true =>
          rw [if_pos rfl]
          refine ⟨fun h => absurd h (by decide), fun h => ?_⟩
          rw [ho.2 h.tr] at h4; cases h4
        | false =>
          rw [if_neg (by simp)]
          exact ⟨fun _ => ⟨hs.1, hs.2.1, hs.2.2, hi.1, hi.2, hp.1 h3, ho.1 h4⟩, fun _ => rfl⟩
    · rw [if_pos h2]
      exact ⟨fun h => absurd h h2, fun h => absurd ((scan_iff n none l).2 ⟨h.ins, h.asc⟩) h2⟩
  · rw [if_pos h1]
    exact ⟨fun h => absurd h h1, fun h => absurd (sizes_iff.2 ⟨h.n0, h.n1, h.len⟩) h1⟩
/-- An ascending list of pairs is the list of the pairs of its relation. -/
theorem pairs_self {n : Int} {l : List Ed} (h : insideAll n l) (ha : asc l) : pairsF n.toNat (inL l) = l := by
  refine asc_ext (asc_pairs _ _) ha fun p => ?_
  rw [mem_pairs]
  constructor
  · rintro ⟨i, j, _, _, hf, rfl⟩
    exact inL_iff.1 hf
  · intro hp
    obtain ⟨h1, e1, e2, l1, l2⟩ := mem_inL h hp
    exact ⟨_, _, l1, l2, h1, by rw [e1, e2]⟩
theorem pairs_congr {n : Nat} {f g : Nat → Nat → Bool} (h : ∀ i j, i < n → j < n → f i j = g i j) : pairsF n f = pairsF n g := by
  refine asc_ext (asc_pairs _ _) (asc_pairs _ _) fun p => ?_
  rw [mem_pairs, mem_pairs]
  constructor <;> rintro ⟨i, j, hi, hj, hf, rfl⟩ <;> refine ⟨i, j, hi, hj, ?_, rfl⟩
  · rw [← h i j hi hj]; exact hf
  · rw [h i j hi hj]; exact hf
theorem pairs_ins (n : Int) (f : Nat → Nat → Bool) : insideAll n (pairsF n.toNat f) := by
  intro p hp
  obtain ⟨i, j, hi, hj, _, rfl⟩ := mem_pairs.1 hp
  simp only [outB, Bool.or_eq_false_iff, decide_eq_false_iff_not]
  omega
theorem asc_nodup : ∀ {l : List Ed}, asc l → l.Nodup := fun {l} h => h.imp fun {a b} h e => by
  subst e; rw [less_irr] at h; cases h
theorem sub_len {α : Type} [DecidableEq α] : ∀ {l m : List α}, l.Nodup → (∀ p ∈ l, p ∈ m) → l.length ≤ m.length
  | [], _, _, _ => Nat.zero_le _
  | a :: l, m, hn, h => by
    have ha := h a (by simp)
    have hn' := List.nodup_cons.1 hn
    have ih := sub_len (l := l) (m := m.erase a) hn'.2 fun p hp => by
      have hne : p ≠ a := fun e => hn'.1 (e ▸ hp)
      rw [List.mem_erase_of_ne hne]
      exact h p (by simp [hp])
    rw [List.length_erase_of_mem ha] at ih
    have := List.length_pos_of_mem ha
    simp only [List.length_cons]
    omega
theorem pairs_len (n : Nat) (f : Nat → Nat → Bool) : (pairsF n f).length ≤ n * n := acc_len n f n
/-- The closure of pairs. -/
def cl (n : Int) (l : List Ed) : Nat → Nat → Bool := closeK (inL l) n.toNat
theorem cl_mono {n : Int} {l : List Ed} {i j : Nat} (h : inL l i j = true) : cl n l i j = true := close_mono _ h _
theorem cl_ins {n : Int} {l : List Ed} (hl : insideAll n l) {i j : Nat} (h : cl n l i j = true) : i < n.toNat ∧ j < n.toNat := by
  have := close_least (inL l) (fun a b => decide (a < n.toNat ∧ b < n.toNat)) (fun a b e => decide_eq_true (inL_ins hl e)) (fun a b c h1 h2 => by
    have := of_decide_eq_true h1
    have := of_decide_eq_true h2
    exact decide_eq_true (by omega)) _ _ _ h
  exact of_decide_eq_true this
theorem cl_trans {n : Int} {l : List Ed} (hl : insideAll n l) {i v j : Nat} (h : cl n l i v = true) (h' : cl n l v j = true) : cl n l i j = true :=
  close_trans _ _ i v j (cl_ins hl h).2 h h'
theorem cl_least {n : Int} {l : List Ed} {g : Nat → Nat → Bool} (hf : ∀ i j, inL l i j = true → g i j = true) (hg : ∀ i v j, g i v = true → g v j = true → g i j = true) {i j : Nat} (h : cl n l i j = true) : g i j = true :=
  close_least _ g hf hg _ i j h
theorem gen_cases (n : Int) (l : List Ed) : (genF n l).2 ≠ 0 ∧ (genF n l).1 = [] ∨
    genF n l = (pairsF n.toNat (cl n l), 0) ∧ 0 ≤ n ∧ n ≤ 200 ∧ l.length ≤ 2000 ∧ insideAll n l ∧ (∀ i, cl n l i i = false) ∧ (pairsF n.toNat (cl n l)).length ≤ 2000 := by
  unfold genF
  by_cases h1 : sizesF n l = 0
  · rw [if_neg (by simp [h1])]
    cases h2 : l.any (outB n) with
    | true => exact .inl ⟨by simp, rfl⟩
    | false =>
      have hl : insideAll n l := fun p hp => by simpa using List.any_eq_false.1 h2 p hp
      rw [if_neg (by simp)]
      cases h3 : (List.range n.toNat).any (fun i => closeK (inL l) n.toNat i i) with
      | true => exact .inl ⟨by simp, rfl⟩
      | false =>
        rw [if_neg (by simp)]
        by_cases h4 : 2000 < ((pairsF n.toNat (closeK (inL l) n.toNat)).length : Int)
        · rw [if_pos h4]; exact .inl ⟨by simp, rfl⟩
        · rw [if_neg h4]
          have hs := sizes_ok h1
          refine .inr ⟨rfl, hs.1, hs.2.1, hs.2.2, hl, fun i => ?_, by unfold cl; omega⟩
          rw [Bool.eq_false_iff]
          intro e
          have := List.any_eq_false.1 h3 i (List.mem_range.2 (cl_ins hl e).1)
          exact this e
  · rw [if_pos h1]
    exact .inl ⟨h1, rfl⟩
theorem gen_some {n : Int} {l : List Ed} (n0 : 0 ≤ n) (n1 : n ≤ 200) (hn : l.length ≤ 2000) (hl : insideAll n l) (g : Nat → Nat → Bool) (hf : ∀ i j, inL l i j = true → g i j = true)
    (hg : ∀ i v j, g i v = true → g v j = true → g i j = true) (hi : ∀ i, g i i = false) (hc : (pairsF n.toNat (cl n l)).length ≤ 2000) : genF n l = (pairsF n.toNat (cl n l), 0) := by
  unfold genF
  rw [if_neg (by simp [sizes_iff.2 ⟨n0, n1, hn⟩]), if_neg, if_neg, if_neg]
  · rfl
  · have : (pairsF n.toNat (closeK (inL l) n.toNat)).length ≤ 2000 := hc
    omega
  · simp only [List.any_eq_true, not_exists, not_and]
    intro x _ e
    have := cl_least hf hg e
    rw [hi] at this; cases this
  · simp only [List.any_eq_true, not_exists, not_and]
    intro p hp
    rw [hl p hp]; decide
theorem cl_self {n : Int} {l : List Ed} (h : Ord n l) : ∀ i j, cl n l i j = inL l i j := fun i j => by
  rw [Bool.eq_iff_iff]
  exact ⟨fun e => cl_least (fun _ _ h => h) h.tr e, cl_mono⟩
theorem gen_self {n : Int} {l : List Ed} (h : Ord n l) : genF n l = (l, 0) := by
  have e : pairsF n.toNat (cl n l) = l := by
    rw [pairs_congr (fun i j _ _ => cl_self h i j), pairs_self h.ins h.asc]
  rw [gen_some h.n0 h.n1 h.len h.ins (inL l) (fun _ _ h => h) h.tr h.irr (by rw [e]; exact h.len), e]
theorem ord_pairs {n : Int} {f : Nat → Nat → Bool} (n0 : 0 ≤ n) (n1 : n ≤ 200) (hc : (pairsF n.toNat f).length ≤ 2000) (hi : ∀ i, f i i = false)
    (hg : ∀ i v j, f i v = true → f v j = true → f i j = true) : Ord n (pairsF n.toNat f) := by
  refine ⟨n0, n1, hc, pairs_ins n f, asc_pairs _ _, fun i => ?_, fun i v j h h' => ?_⟩
  · rw [Bool.eq_false_iff]
    intro e
    have := (inL_out e).2.2
    rw [hi] at this; cases this
  · obtain ⟨h1, h2, h3⟩ := inL_out h
    obtain ⟨h4, h5, h6⟩ := inL_out h'
    rw [inL_pairs h1 h5]
    exact hg i v j h3 h6
theorem gen_ord {n : Int} {l a : List Ed} (h : genF n l = (a, 0)) : Ord n a ∧ (∀ p ∈ l, p ∈ a) ∧ ∀ p : Ed, p ∈ a ↔ ∃ i j : Nat, cl n l i j = true ∧ p = ((i : Int), (j : Int)) := by
  rcases gen_cases n l with ⟨h1, _⟩ | ⟨h1, n0, n1, hn, hl, hi, hc⟩
  · rw [h] at h1; exact absurd rfl h1
  · rw [h1] at h
    have ea : a = pairsF n.toNat (cl n l) := (congrArg Prod.fst h).symm
    subst ea
    have hm : ∀ p : Ed, p ∈ pairsF n.toNat (cl n l) ↔ ∃ i j : Nat, cl n l i j = true ∧ p = ((i : Int), (j : Int)) := fun p => by
      rw [mem_pairs]
      constructor
      · rintro ⟨i, j, _, _, h, e⟩; exact ⟨i, j, h, e⟩
      · rintro ⟨i, j, h, e⟩; exact ⟨i, j, (cl_ins hl h).1, (cl_ins hl h).2, h, e⟩
    refine ⟨ord_pairs n0 n1 hc hi fun i v j => cl_trans hl, fun p hp => ?_, hm⟩
    obtain ⟨h1, e1, e2, l1, l2⟩ := mem_inL hl hp
    rw [hm]
    exact ⟨_, _, cl_mono h1, by rw [e1, e2]⟩
/-- A strict partial order that contains the pairs contains what is generated. -/
theorem gen_in {n : Int} {l m : List Ed} (hn : l.length ≤ 2000) (hm : Ord n m) (h : ∀ p ∈ l, p ∈ m) : ∃ a, genF n l = (a, 0) ∧ ∀ p ∈ a, p ∈ m := by
  have hl : insideAll n l := fun p hp => hm.ins p (h p hp)
  have hf : ∀ i j, inL l i j = true → inL m i j = true := fun i j e => inL_iff.2 (h _ (inL_iff.1 e))
  have hs : ∀ p ∈ pairsF n.toNat (cl n l), p ∈ m := fun p hp => by
    obtain ⟨i, j, _, _, e, rfl⟩ := mem_pairs.1 hp
    exact inL_iff.1 (cl_least hf hm.tr e)
  have hc := sub_len (asc_nodup (asc_pairs n.toNat (cl n l))) hs
  refine ⟨_, gen_some hm.n0 hm.n1 hn hl (inL m) hf hm.tr hm.irr (by have := hm.len; omega), hs⟩
theorem inL_app {l m : List Ed} {i j : Nat} : inL (l ++ m) i j = (inL l i j || inL m i j) := by
  simp [inL]
theorem inL_one {p : Ed} {i j : Nat} : inL [p] i j = true ↔ p = ((i : Int), (j : Int)) := by
  rw [inL_iff, List.mem_singleton]
  exact eq_comm
/-- One pair of concurrent elements more. -/
def addG (l : List Ed) (i j u v : Nat) : Bool := inL l u v || ((decide (u = i) || inL l u i) && (decide (v = j) || inL l j v))
theorem refine_ok {n : Int} {l : List Ed} {i j : Nat} (h : Ord n l) (hn : n ≤ 8) (hl : l.length ≤ 60) (hi : i < n.toNat) (hj : j < n.toNat) (hne : i ≠ j) (h1 : inL l i j = false) (h2 : inL l j i = false) :
    ∃ a, genF n (l ++ [((i : Int), (j : Int))]) = (a, 0) ∧ (∀ p ∈ l, p ∈ a) ∧ ((i : Int), (j : Int)) ∈ a ∧ ((j : Int), (i : Int)) ∉ a := by
  have n0 := h.n0
  have hins : insideAll n (l ++ [((i : Int), (j : Int))]) := fun p hp => by
    rcases List.mem_append.1 hp with hp | hp
    · exact h.ins p hp
    · rw [List.mem_singleton.1 hp]
      simp only [outB, Bool.or_eq_false_iff, decide_eq_false_iff_not]
      omega
  have hlen : (l ++ [((i : Int), (j : Int))]).length ≤ 2000 := by simp; omega
  have hc : (pairsF n.toNat (cl n (l ++ [((i : Int), (j : Int))]))).length ≤ 2000 := by
    have h1 := pairs_len n.toNat (cl n (l ++ [((i : Int), (j : Int))]))
    have h2 : n.toNat ≤ 8 := by omega
    have := Nat.mul_le_mul h2 h2
    omega
  have hg := gen_some h.n0 h.n1 hlen hins (addG l i j) (fun u v e => by
      rw [inL_app, Bool.or_eq_true, inL_one] at e
      rcases e with e | e
      · simp [addG, e]
      · have e1 : u = i := by have := congrArg Prod.fst e; simp only at this; omega
        have e2 : v = j := by have := congrArg Prod.snd e; simp only at this; omega
        simp [addG, e1, e2]) (fun u w v e e' => by
      simp only [addG, Bool.or_eq_true, Bool.and_eq_true, decide_eq_true_eq] at e e' ⊢
      have tr := h.tr
      have h2' : ¬ inL l j i = true := by simp [h2]
      grind) (fun u => by
      have tr := h.tr
      have irr := h.irr
      rw [Bool.eq_false_iff]
      intro e
      simp only [addG, Bool.or_eq_true, Bool.and_eq_true, decide_eq_true_eq] at e
      have h2' : ¬ inL l j i = true := by simp [h2]
      have irr' : ¬ inL l u u = true := by simp [irr u]
      grind) hc
  have ho := gen_ord hg
  refine ⟨_, hg, fun p hp => ho.2.1 p (List.mem_append_left _ hp), ho.2.1 _ (by simp), fun hb => ?_⟩
  have hf := ho.2.1 ((i : Int), (j : Int)) (by simp)
  have e := ho.1.tr i j i (inL_iff.2 hf) (inL_iff.2 hb)
  rw [ho.1.irr] at e; cases e
/-- The covering pairs. -/
def covL (n : Int) (l : List Ed) : List Ed := l.filter fun p => !covB n.toNat (inL l) p
def btw (n : Int) (l : List Ed) (i j : Nat) : List Nat := (List.range n.toNat).filter fun k => inL l i k && inL l k j
theorem cov_chain {n : Int} {l : List Ed} (h : Ord n l) : ∀ (b i j : Nat), (btw n l i j).length ≤ b → inL l i j = true → cl n (covL n l) i j = true := by
  have hcl : insideAll n (covL n l) := fun p hp => h.ins p (List.mem_filter.1 hp).1
  intro b
  induction b with
  | zero =>
    intro i j hb e
    refine cl_mono ?_
    rw [inL_iff, covL, List.mem_filter]
    refine ⟨inL_iff.1 e, ?_⟩
    have e0 : btw n l i j = [] := List.eq_nil_of_length_eq_zero (by omega)
    simp only [covB, Bool.not_eq_true', Int.toNat_natCast]
    rw [List.any_eq_false]
    intro k hk hk'
    have : k ∈ btw n l i j := List.mem_filter.2 ⟨hk, hk'⟩
    rw [e0] at this; cases this
  | succ b ih =>
    intro i j hb e
    cases hc : covB n.toNat (inL l) ((i : Int), (j : Int)) with
    | false =>
      refine cl_mono ?_
      rw [inL_iff, covL, List.mem_filter]
      exact ⟨inL_iff.1 e, by rw [hc]; rfl⟩
    | true =>
      simp only [covB, Int.toNat_natCast, List.any_eq_true, Bool.and_eq_true, List.mem_range] at hc
      obtain ⟨k, hk, h1, h2⟩ := hc
      have hkm : k ∈ btw n l i j := List.mem_filter.2 ⟨List.mem_range.2 hk, by simp [h1, h2]⟩
      have nd : (List.range n.toNat).Nodup := List.nodup_range
      have l1 : (btw n l i k).length ≤ b := by
        have := sub_len (l := k :: btw n l i k) (m := btw n l i j) (List.nodup_cons.2 ⟨fun hm => by
          have := (List.mem_filter.1 hm).2
          simp [h.irr] at this, nd.filter _⟩) fun p hp => by
          rcases List.mem_cons.1 hp with rfl | hp
          · exact hkm
          · have := List.mem_filter.1 hp
            simp only [Bool.and_eq_true] at this
            exact List.mem_filter.2 ⟨this.1, by simp [this.2.1, h.tr _ _ _ this.2.2 h2]⟩
        simp only [List.length_cons] at this
        omega
      have l2 : (btw n l k j).length ≤ b := by
        have := sub_len (l := k :: btw n l k j) (m := btw n l i j) (List.nodup_cons.2 ⟨fun hm => by
          have := (List.mem_filter.1 hm).2
          simp [h.irr] at this, nd.filter _⟩) fun p hp => by
          rcases List.mem_cons.1 hp with rfl | hp
          · exact hkm
          · have := List.mem_filter.1 hp
            simp only [Bool.and_eq_true] at this
            exact List.mem_filter.2 ⟨this.1, by simp [this.2.2, h.tr _ _ _ h1 this.2.1]⟩
        simp only [List.length_cons] at this
        omega
      exact cl_trans hcl (ih i k l1 h1) (ih k j l2 h2)
theorem cov_gen {n : Int} {l : List Ed} (h : Ord n l) : genF n (covL n l) = (l, 0) := by
  have hsub : ∀ p ∈ covL n l, p ∈ l := fun p hp => (List.mem_filter.1 hp).1
  have hlen : (covL n l).length ≤ 2000 := Nat.le_trans (List.length_filter_le _ _) h.len
  obtain ⟨a, ha, hs⟩ := gen_in hlen h hsub
  have ho := gen_ord ha
  have e : a = l := asc_ext ho.1.asc h.asc fun p => ⟨hs p, fun hp => by
    obtain ⟨h1, e1, e2, l1, l2⟩ := mem_inL h.ins hp
    rw [ho.2.2]
    exact ⟨_, _, cov_chain h _ _ _ (Nat.le_refl _) h1, by rw [e1, e2]⟩⟩
  rw [ha, e]
/-- Without one of the covering pairs something less is generated. -/
theorem cov_less {n : Int} {l : List Ed} (h : Ord n l) {i : Nat} (hi : i < (covL n l).length) (d : Ed) : ∃ b, genF n ((covL n l).eraseIdx i) = (b, 0) ∧ (covL n l).getD i d ∉ b := by
  have hsub : ∀ p ∈ covL n l, p ∈ l := fun p hp => (List.mem_filter.1 hp).1
  have hsub' : ∀ p ∈ (covL n l).eraseIdx i, p ∈ l := fun p hp => hsub p (List.mem_of_mem_eraseIdx hp)
  have hlen : (covL n l).length ≤ 2000 := Nat.le_trans (List.length_filter_le _ _) h.len
  have hlen' : ((covL n l).eraseIdx i).length ≤ 2000 := Nat.le_trans (List.length_eraseIdx_le _ _) hlen
  obtain ⟨b, hb, hs⟩ := gen_in hlen' h hsub'
  refine ⟨b, hb, fun hm => ?_⟩
  have eg : (covL n l).getD i d = (covL n l)[i] := by simp [List.getD_eq_getElem?_getD, List.getElem?_eq_getElem hi]
  have hc : (covL n l)[i] ∈ covL n l := List.getElem_mem hi
  obtain ⟨hcl, hcb⟩ := List.mem_filter.1 hc
  rw [eg] at hm
  have nd : (covL n l).Nodup := (asc_nodup h.asc).filter _
  generalize hp : (covL n l)[i] = p at *
  obtain ⟨h1, e1, e2, l1, l2⟩ := mem_inL h.ins hcl
  have ho := gen_ord hb
  obtain ⟨u, v, huv, e⟩ := (ho.2.2 p).1 hm
  have := cl_least (g := fun x y => inL l x y && !decide (x = u ∧ y = v)) (fun x y hxy => by
    have hxm := inL_iff.1 hxy
    have : inL l x y = true := inL_iff.2 (hsub' _ hxm)
    simp only [this, Bool.true_and, Bool.not_eq_true', decide_eq_false_iff_not]
    rintro ⟨rfl, rfl⟩
    rw [← e, ← hp] at hxm
    rw [List.mem_eraseIdx_iff_getElem] at hxm
    obtain ⟨k, hk, hne, hk'⟩ := hxm
    exact hne ((List.getElem_inj nd).1 hk')) (fun x w y h1' h2' => by
    simp only [Bool.and_eq_true, Bool.not_eq_true', decide_eq_false_iff_not] at h1' h2' ⊢
    refine ⟨h.tr _ _ _ h1'.1 h2'.1, ?_⟩
    rintro ⟨rfl, rfl⟩
    simp only [covB, Bool.not_eq_true', List.any_eq_false, List.mem_range] at hcb
    have := hcb w (inL_ins h.ins h1'.1).2
    rw [e] at this
    simp [h1'.1, h2'.1] at this) huv
  simp at this
end Go.Proofs.Ytlaefkhbpnbahaa
/- Partial orders: plain laws of the linear extensions. -/
namespace Go.Proofs.Ytlaefkhbpnbahaa
open Go.Sx
/-- All linear extensions that begin so. -/
def exE (n : Nat) (f : Nat → Nat → Bool) : Nat → List Bool → List Int → List (List Int)
  | 0, _, pre => [pre]
  | d + 1, used, pre => (List.range n).flatMap fun x => if freeB n f used x = true then exE n f d (used.set x true) (pre ++ [(x : Int)]) else []
theorem take_app {α : Type} {a b c : List α} {m : Nat} (ha : a.length ≤ m) : ((a ++ b).take m ++ c).take m = (a ++ (b ++ c)).take m := by
  by_cases h : (a ++ b).length ≤ m
  · rw [List.take_of_length_le h, List.append_assoc]
  · rw [← List.append_assoc]
    have h' : m ≤ (a ++ b).length := by omega
    rw [List.take_append_of_le_length h', List.take_append_of_le_length (by rw [List.length_take]; omega), List.take_take, Nat.min_self]
theorem step_fold {n len m d : Nat} {f : Nat → Nat → Bool} {used : List Bool} {pre : List Int} (hlen : len < n)
    (ih : ∀ (x : Nat) (s : List (List Int) × List Int), s.1.length ≤ m → s.2.length = n → (extD n f m d (used.set x true) (len + 1) s).1 = (s.1 ++ exE n f d (used.set x true) (s.2.take (len + 1))).take m ∧
      (extD n f m d (used.set x true) (len + 1) s).2.length = n ∧ (extD n f m d (used.set x true) (len + 1) s).2.take (len + 1) = s.2.take (len + 1)) :
    ∀ (L : List Nat) (s : List (List Int) × List Int), s.1.length ≤ m → s.2.length = n → s.2.take len = pre →
      (L.foldl (extStep n f m (d + 1) used len) s).1 = (s.1 ++ L.flatMap fun x => if freeB n f used x = true then exE n f d (used.set x true) (pre ++ [(x : Int)]) else []).take m ∧
      (L.foldl (extStep n f m (d + 1) used len) s).2.length = n ∧ (L.foldl (extStep n f m (d + 1) used len) s).2.take len = pre
  | [], s, h1, h2, h3 => ⟨by simp [List.take_of_length_le h1], h2, h3⟩
  | x :: L, s, h1, h2, h3 => by
    rw [List.foldl_cons, List.flatMap_cons]
    by_cases hf : freeB n f used x = true
    · by_cases hm : (s.1.length : Int) < m
      · have es : extStep n f m (d + 1) used len s x = extD n f m d (used.set x true) (len + 1) (s.1, s.2.set len (x : Int)) := if_pos ⟨hf, hm⟩
        have et : (s.2.set len (x : Int)).take (len + 1) = pre ++ [(x : Int)] := by
          rw [List.take_succ_eq_append_getElem (by simp; omega), List.take_set_of_le (Nat.le_refl _), h3]
          simp
        obtain ⟨i1, i2, i3⟩ := ih x (s.1, s.2.set len (x : Int)) h1 (by simpa using h2)
        simp only [et] at i1 i3
        rw [es, if_pos hf]
        have l1 : (extD n f m d (used.set x true) (len + 1) (s.1, s.2.set len (x : Int))).1.length ≤ m := by rw [i1, List.length_take]; omega
        have l3 : (extD n f m d (used.set x true) (len + 1) (s.1, s.2.set len (x : Int))).2.take len = pre := by
          have := congrArg (List.take len) i3
          rw [List.take_take, Nat.min_eq_left (by omega)] at this
          rw [this, ← h3, List.take_append_of_le_length (by rw [List.length_take]; omega), List.take_take, Nat.min_self]
        obtain ⟨j1, j2, j3⟩ := step_fold hlen ih L _ l1 i2 l3
        refine ⟨?_, j2, j3⟩
        rw [j1, i1, take_app h1]
      · have es : extStep n f m (d + 1) used len s x = s := if_neg fun h => hm h.2
        rw [es]
        obtain ⟨j1, j2, j3⟩ := step_fold hlen ih L s h1 h2 h3
        refine ⟨?_, j2, j3⟩
        have e : s.1.length = m := by omega
        rw [j1, List.take_append_of_le_length (by omega), List.take_append_of_le_length (by omega)]
    · have es : extStep n f m (d + 1) used len s x = s := if_neg fun h => hf h.1
      rw [es, if_neg hf, List.nil_append]
      exact step_fold hlen ih L s h1 h2 h3
theorem ext_all (n m : Nat) (f : Nat → Nat → Bool) : ∀ (d : Nat) (used : List Bool) (len : Nat) (s : List (List Int) × List Int), len + d = n → s.1.length ≤ m → s.2.length = n →
    (extD n f m d used len s).1 = (s.1 ++ exE n f d used (s.2.take len)).take m ∧ (extD n f m d used len s).2.length = n ∧ (extD n f m d used len s).2.take len = s.2.take len
  | 0, used, len, s, hd, h1, h2 => by
    rw [extD, exE]
    by_cases hm : s.1.length < m
    · rw [if_pos ⟨by omega, by omega⟩]
      exact ⟨(List.take_of_length_le (by rw [List.length_append]; simp only [List.length_cons, List.length_nil]; omega)).symm, h2, rfl⟩
    · rw [if_neg (by omega)]
      exact ⟨by rw [List.take_append_of_le_length (by omega), List.take_of_length_le h1], h2, rfl⟩
  | d + 1, used, len, s, hd, h1, h2 => by
    rw [extD_eq, if_neg (by omega)]
    exact step_fold (by omega) (fun x s => ext_all n m f d _ (len + 1) s (by omega)) _ s h1 h2 rfl
theorem exts_eq {n most : Int} {l : List Ed} (h : checkF n l = 0) (h1 : 0 ≤ most) (h2 : most ≤ 5000) : extsF n l most = ((exE n.toNat (inL l) n.toNat (List.replicate n.toNat false) []).take most.toNat, 0) := by
  rw [extsF, if_neg (by simp [h]), if_neg (by omega)]
  have := (ext_all n.toNat most.toNat (inL l) n.toNat (List.replicate n.toNat false) 0 ([], List.replicate n.toNat 0) (by omega) (by simp) (by simp)).1
  rw [Int.toNat_of_nonneg h1] at this
  rw [this]
  rfl
theorem freeB_iff {n : Nat} {f : Nat → Nat → Bool} {u : List Bool} {x : Nat} : freeB n f u x = true ↔ u.getD x false = false ∧ ∀ k, k < n → f k x = true → u.getD k false = true := by
  simp only [freeB, Bool.not_eq_true', Bool.or_eq_false_iff, List.any_eq_false, List.mem_range, Bool.and_eq_true, Bool.not_eq_true', not_and]
  constructor
  · rintro ⟨h1, h2⟩
    exact ⟨h1, fun k hk hf => by simpa using h2 k hk hf⟩
  · rintro ⟨h1, h2⟩
    exact ⟨h1, fun k hk hf => by simpa using h2 k hk hf⟩
theorem getD_set {u : List Bool} {x k : Nat} (h : x < u.length) : (u.set x true).getD k false = (decide (k = x) || u.getD k false) := by
  simp only [List.getD_eq_getElem?_getD, List.getElem?_set, h, if_true]
  by_cases e : x = k
  · subst e; simp
  · rw [if_neg e]
    simp [Ne.symm e]
/-- What may follow when some are used. -/
def okS (n : Nat) (f : Nat → Nat → Bool) : List Bool → List Nat → Prop
  | _, [] => True
  | u, x :: s => x < n ∧ freeB n f u x = true ∧ okS n f (u.set x true) s
def ints (s : List Nat) : List Int := s.map fun (x : Nat) => (x : Int)
theorem mem_exE (n : Nat) (f : Nat → Nat → Bool) : ∀ (d : Nat) (u : List Bool) (pre o : List Int), o ∈ exE n f d u pre ↔ ∃ s : List Nat, o = pre ++ ints s ∧ s.length = d ∧ okS n f u s
  | 0, u, pre, o => by
    rw [exE, List.mem_singleton]
    constructor
    · rintro rfl; exact ⟨[], by simp [ints], rfl, trivial⟩
    · rintro ⟨s, h1, h2, _⟩
      have : s = [] := List.eq_nil_of_length_eq_zero h2
      subst this
      simpa [ints] using h1
  | d + 1, u, pre, o => by
    rw [exE, List.mem_flatMap]
    constructor
    · rintro ⟨x, hx, h⟩
      by_cases hf : freeB n f u x = true
      · rw [if_pos hf, mem_exE n f d] at h
        obtain ⟨s, h1, h2, h3⟩ := h
        exact ⟨x :: s, by rw [h1]; simp [ints], by simp [h2], List.mem_range.1 hx, hf, h3⟩
      · rw [if_neg hf] at h; cases h
    · rintro ⟨s, h1, h2, h3⟩
      match s, h2, h3 with
      | x :: s, h2, h3 =>
        refine ⟨x, List.mem_range.2 h3.1, ?_⟩
        rw [if_pos h3.2.1, mem_exE n f d]
        exact ⟨s, by rw [h1]; simp [ints], by simpa using h2, h3.2.2⟩
theorem okS_iff (n : Nat) (f : Nat → Nat → Bool) : ∀ (s : List Nat) (u : List Bool), u.length = n → (okS n f u s ↔ (∀ x ∈ s, x < n ∧ u.getD x false = false) ∧ s.Nodup ∧ ∀ s1 x s2, s = s1 ++ x :: s2 → ∀ k, k < n → f k x = true → u.getD k false = true ∨ k ∈ s1)
  | [], u, _ => by simp [okS]
  | y :: s, u, hu => by
    rw [okS]
    constructor
    · rintro ⟨hy, hf, hs⟩
      rw [okS_iff n f s _ (by simpa using hu)] at hs
      obtain ⟨h1, h2, h3⟩ := hs
      have hf' := freeB_iff.1 hf
      refine ⟨fun x hx => ?_, List.nodup_cons.2 ⟨fun hm => ?_, h2⟩, fun s1 x s2 e k hk hkx => ?_⟩
      · rcases List.mem_cons.1 hx with rfl | hx
        · exact ⟨hy, hf'.1⟩
        · have := h1 x hx
          rw [getD_set (by omega)] at this
          simp only [Bool.or_eq_false_iff] at this
          exact ⟨this.1, this.2.2⟩
      · have := (h1 y hm).2
        rw [getD_set (by omega)] at this
        simp at this
      · cases s1 with
        | nil =>
          simp only [List.nil_append, List.cons.injEq] at e
          obtain ⟨rfl, rfl⟩ := e
          exact .inl (hf'.2 k hk hkx)
        | cons z s1 =>
          simp only [List.cons_append, List.cons.injEq] at e
          obtain ⟨rfl, e⟩ := e
          have := h3 s1 x s2 e k hk hkx
          rw [getD_set (by omega)] at this
          simp only [Bool.or_eq_true, decide_eq_true_eq] at this
          simp only [List.mem_cons]
          grind
    · rintro ⟨h1, h2, h3⟩
      obtain ⟨hy, hy'⟩ := h1 y (by simp)
      have hn := List.nodup_cons.1 h2
      refine ⟨hy, freeB_iff.2 ⟨hy', fun k hk hky => ?_⟩, ?_⟩
      · have := h3 [] y s rfl k hk hky
        simpa using this
      · rw [okS_iff n f s _ (by simpa using hu)]
        refine ⟨fun x hx => ?_, hn.2, fun s1 x s2 e k hk hkx => ?_⟩
        · obtain ⟨a, b⟩ := h1 x (by simp [hx])
          have hne : x ≠ y := fun e => hn.1 (e ▸ hx)
          rw [getD_set (by omega)]
          exact ⟨a, by rw [b]; simp [hne]⟩
        · have := h3 (y :: s1) x s2 (by rw [e]; rfl) k hk hkx
          rw [getD_set (by omega)]
          simp only [List.mem_cons, Bool.or_eq_true, decide_eq_true_eq] at this ⊢
          grind
end Go.Proofs.Ytlaefkhbpnbahaa
/- Partial orders: plain laws of the linear extensions, continued. -/
namespace Go.Proofs.Ytlaefkhbpnbahaa
open Go.Sx
theorem count_set {u : List Bool} {x : Nat} (h : u.getD x false = false) (hx : x < u.length) : (u.set x true).count false + 1 = u.count false := by
  induction u generalizing x with
  | nil => cases hx
  | cons a u ih =>
    cases x with
    | zero =>
      have ha : a = false := by simpa using h
      subst ha
      simp
    | succ x =>
      have := ih (x := x) (by simpa using h) (by simpa using hx)
      rw [List.set_cons_succ, List.count_cons, List.count_cons]
      omega
theorem count_range {n : Nat} {u : List Bool} (hu : u.length = n) : ((List.range n).filter fun x => !u.getD x false).length = u.count false := by
  subst hu
  induction u with
  | nil => rfl
  | cons a u ih =>
    rw [List.length_cons, List.range_succ_eq_map, List.filter_cons, List.filter_map, List.count_cons, ← ih]
    cases a <;> simp [Function.comp_def]
theorem free_nat (n : Nat) (f : Nat → Nat → Bool) (u : List Bool) : ((List.range n).filter (freeB n f u)).length ≤ ((List.range n).filter fun x => !u.getD x false).length := by
  rw [← List.countP_eq_length_filter, ← List.countP_eq_length_filter]
  exact List.countP_mono_left fun x _ h => by rw [(freeB_iff.1 h).1]; rfl
def fct : Nat → Nat
  | 0 => 1
  | d + 1 => (d + 1) * fct d
theorem flat_len {α : Type} (p : Nat → Bool) (g : Nat → List α) (m : Nat) : ∀ (L : List Nat), (∀ x ∈ L, p x = true → (g x).length ≤ m) → (L.flatMap fun x => if p x = true then g x else []).length ≤ (L.filter p).length * m
  | [], _ => by simp
  | x :: L, h => by
    have ih := flat_len p g m L fun y hy => h y (by simp [hy])
    rw [List.flatMap_cons, List.length_append, List.filter_cons]
    by_cases hp : p x = true
    · have := h x (by simp) hp
      rw [if_pos hp, if_pos hp, List.length_cons, Nat.add_mul]
      omega
    · rw [if_neg hp, if_neg hp]
      simpa using ih
theorem exE_len (n : Nat) (f : Nat → Nat → Bool) : ∀ (d : Nat) (u : List Bool) (pre : List Int), u.length = n → u.count false = d → (exE n f d u pre).length ≤ fct d
  | 0, _, _, _, _ => Nat.le_refl _
  | d + 1, u, pre, hu, hc => by
    rw [exE, fct]
    have h1 := flat_len (freeB n f u) (fun x => exE n f d (u.set x true) (pre ++ [(x : Int)])) (fct d) (List.range n) fun x hx hf => by
      have hx' : x < u.length := by have := List.mem_range.1 hx; omega
      have := count_set (freeB_iff.1 hf).1 hx'
      exact exE_len n f d _ _ (by simpa using hu) (by omega)
    have h2 := free_nat n f u
    rw [count_range hu, hc] at h2
    exact Nat.le_trans h1 (Nat.mul_le_mul_right _ h2)
theorem fct_small {n : Nat} (h : n ≤ 6) : fct n ≤ 720 := by
  match n, h with
  | 0, _ | 1, _ | 2, _ | 3, _ | 4, _ | 5, _ | 6, _ => decide
theorem start_count (n : Nat) : (List.replicate n false).count false = n := by simp
/-- The list of all linear extensions. -/
def allE (n : Int) (l : List Ed) : List (List Int) := exE n.toNat (inL l) n.toNat (List.replicate n.toNat false) []
theorem exts_small {n : Int} {l : List Ed} (h : Ord n l) (hn : n ≤ 6) : extsF n l 720 = (allE n l, 0) := by
  rw [exts_eq (check_iff.2 h) (by omega) (by omega), List.take_of_length_le]
  · rfl
  · have h1 := exE_len n.toNat (inL l) n.toNat (List.replicate n.toNat false) [] (by simp) (start_count _)
    have h2 := fct_small (n := n.toNat) (by omega)
    show _ ≤ 720
    omega

/-- There is a free element as long as not all are used. -/
theorem free_some {n : Nat} {f : Nat → Nat → Bool} (irr : ∀ i, f i i = false) (tr : ∀ i v j, f i v = true → f v j = true → f i j = true) {u : List Bool} :
    ∀ (b x : Nat), x < n → u.getD x false = false → ((List.range n).filter fun k => f k x && !u.getD k false).length ≤ b → ∃ y, y < n ∧ freeB n f u y = true := by
  intro b
  induction b with
  | zero =>
    intro x hx hu hb
    refine ⟨x, hx, freeB_iff.2 ⟨hu, fun k hk hf => ?_⟩⟩
    have e := List.eq_nil_of_length_eq_zero (Nat.le_zero.1 hb)
    have : k ∉ (List.range n).filter fun k => f k x && !u.getD k false := by rw [e]; simp
    rw [List.mem_filter] at this
    simp only [List.mem_range, hk, hf, true_and, Bool.true_and, Bool.not_eq_true', Bool.not_eq_false] at this
    exact this
  | succ b ih =>
    intro x hx hu hb
    by_cases hc : ∃ k, k < n ∧ f k x = true ∧ u.getD k false = false
    · obtain ⟨k, hk, hf, hku⟩ := hc
      refine ih k hk hku ?_
      have nd : (List.range n).Nodup := List.nodup_range
      have := sub_len (l := k :: (List.range n).filter fun j => f j k && !u.getD j false) (m := (List.range n).filter fun j => f j x && !u.getD j false)
        (List.nodup_cons.2 ⟨fun hm => by
          have := (List.mem_filter.1 hm).2
          simp [irr] at this, nd.filter _⟩) fun p hp => by
        rcases List.mem_cons.1 hp with rfl | hp
        · exact List.mem_filter.2 ⟨List.mem_range.2 hk, by rw [hf, hku]; rfl⟩
        · obtain ⟨h1, h2⟩ := List.mem_filter.1 hp
          rw [Bool.and_eq_true] at h2
          exact List.mem_filter.2 ⟨h1, by rw [tr _ _ _ h2.1 hf, h2.2]; rfl⟩
      simp only [List.length_cons] at this
      omega
    · refine ⟨x, hx, freeB_iff.2 ⟨hu, fun k hk hf => ?_⟩⟩
      cases hku : u.getD k false with
      | true => rfl
      | false => exact absurd ⟨k, hk, hf, hku⟩ hc
theorem unused_some {n : Nat} {u : List Bool} (hu : u.length = n) (hc : 0 < u.count false) : ∃ x, x < n ∧ u.getD x false = false := by
  rw [← count_range hu] at hc
  obtain ⟨x, hx⟩ := List.exists_mem_of_length_pos hc
  obtain ⟨h1, h2⟩ := List.mem_filter.1 hx
  exact ⟨x, List.mem_range.1 h1, by simpa using h2⟩
theorem flat_head {α : Type} (g : Nat → List α) (p : Nat → Bool) : ∀ (L : List Nat) (x : Nat), L.find? p = some x → (g x).head? ≠ none → (L.flatMap fun x => if p x = true then g x else []).head? = (g x).head?
  | [], x, h, _ => by cases h
  | y :: L, x, h, hg => by
    rw [List.flatMap_cons]
    by_cases hp : p y = true
    · rw [List.find?_cons_of_pos hp] at h
      cases h
      rw [if_pos hp, List.head?_append]
      cases hh : (g y).head? with
      | none => exact absurd hh hg
      | some a => rfl
    · rw [List.find?_cons_of_neg hp] at h
      rw [if_neg hp, List.nil_append]
      exact flat_head g p L x h hg
theorem exE_head {n : Nat} {f : Nat → Nat → Bool} (irr : ∀ i, f i i = false) (tr : ∀ i v j, f i v = true → f v j = true → f i j = true) : ∀ (d : Nat) (u : List Bool) (pre : List Int), u.length = n → u.count false = d →
    (exE n f d u pre).head? ≠ none
  | 0, u, pre, _, _ => by simp [exE]
  | d + 1, u, pre, hu, hc => by
    obtain ⟨x, hx, hxu⟩ := unused_some hu (by omega)
    obtain ⟨y, hy, hf⟩ := free_some irr tr (u := u) _ x hx hxu (Nat.le_refl _)
    cases he : (List.range n).find? (freeB n f u) with
    | none =>
      have := List.find?_eq_none.1 he y (List.mem_range.2 hy)
      exact absurd hf this
    | some z =>
      have hz : z < n := List.mem_range.1 (List.mem_of_find?_eq_some he)
      have hzf : freeB n f u z = true := List.find?_some he
      have := count_set (freeB_iff.1 hzf).1 (by omega)
      have ih := exE_head irr tr d (u.set z true) (pre ++ [(z : Int)]) (by simpa using hu) (by omega)
      rw [exE, flat_head (fun x => exE n f d (u.set x true) (pre ++ [(x : Int)])) _ _ z he ih]
      exact ih
theorem least_head {n : Nat} {f : Nat → Nat → Bool} (irr : ∀ i, f i i = false) (tr : ∀ i v j, f i v = true → f v j = true → f i j = true) : ∀ k, k ≤ n →
    (leastK n f k).1.count false = n - k ∧ (exE n f n (List.replicate n false) []).head? = (exE n f (n - k) (leastK n f k).1 (leastK n f k).2).head?
  | 0, _ => ⟨start_count n, rfl⟩
  | k + 1, hk => by
    obtain ⟨h1, h2⟩ := least_head (n := n) irr tr k (by omega)
    have hl := least_len n f k
    obtain ⟨x, hx, hxu⟩ := unused_some hl (by omega)
    obtain ⟨y, hy, hf⟩ := free_some irr tr (u := (leastK n f k).1) _ x hx hxu (Nat.le_refl _)
    rw [leastK]
    cases he : (List.range n).find? (freeB n f (leastK n f k).1) with
    | none =>
      have := List.find?_eq_none.1 he y (List.mem_range.2 hy)
      exact absurd hf this
    | some z =>
      have hz : z < n := List.mem_range.1 (List.mem_of_find?_eq_some he)
      have hzf : freeB n f (leastK n f k).1 z = true := List.find?_some he
      have hc := count_set (u := (leastK n f k).1) (freeB_iff.1 hzf).1 (by omega)
      refine ⟨by show ((leastK n f k).1.set z true).count false = _; omega, ?_⟩
      rw [h2, show n - k = (n - (k + 1)) + 1 by omega]
      have ih := exE_head irr tr (n - (k + 1)) ((leastK n f k).1.set z true) ((leastK n f k).2 ++ [(z : Int)]) (by simpa using hl) (by omega)
      rw [exE, flat_head (fun x => exE n f (n - (k + 1)) ((leastK n f k).1.set x true) ((leastK n f k).2 ++ [(x : Int)])) _ _ z he ih]
theorem all_head {n : Int} {l : List Ed} (h : Ord n l) : (allE n l).head? = some (leastF n l).1 ∧ leastF n l = ((leastF n l).1, 0) := by
  have e : leastF n l = ((leastK n.toNat (inL l) n.toNat).2, 0) := by rw [leastF, if_neg (by simp [check_iff.2 h])]
  have := (least_head h.irr h.tr n.toNat (Nat.le_refl _)).2
  rw [e]
  refine ⟨?_, rfl⟩
  rw [allE, this, Nat.sub_self, exE]
  rfl
theorem full_mem {n : Nat} {s : List Nat} (h1 : ∀ x ∈ s, x < n) (h2 : s.Nodup) (h3 : s.length = n) {k : Nat} (hk : k < n) : k ∈ s := by
  refine Classical.byContradiction fun hc => ?_
  have := sub_len (l := k :: s) (m := List.range n) (List.nodup_cons.2 ⟨hc, h2⟩) fun p hp => by
    rcases List.mem_cons.1 hp with rfl | hp
    · exact List.mem_range.2 hk
    · exact List.mem_range.2 (h1 p hp)
  simp only [List.length_cons, List.length_range] at this
  omega
theorem idx_ints (s : List Nat) (k : Nat) : (ints s).idxOf (k : Int) = s.idxOf k := by
  induction s with
  | nil => rfl
  | cons a s ih =>
    show ((a : Int) :: ints s).idxOf (k : Int) = _
    rw [List.idxOf_cons, List.idxOf_cons, ih]
    by_cases h : a = k
    · subst h; simp
    · have h' : ¬ ((a : Int) = (k : Int)) := by omega
      rw [show ((a : Int) == (k : Int)) = false from beq_false_of_ne h', show (a == k) = false from beq_false_of_ne h]
theorem mem_ints {s : List Nat} {k : Nat} : (k : Int) ∈ ints s ↔ k ∈ s := by
  simp only [ints, List.mem_map]
  constructor
  · rintro ⟨a, ha, e⟩
    have : a = k := by omega
    exact this ▸ ha
  · exact fun h => ⟨k, h, rfl⟩
theorem ints_nodup {s : List Nat} : (ints s).Nodup ↔ s.Nodup := by
  unfold ints List.Nodup
  rw [List.pairwise_map]
  constructor <;> intro h <;> refine h.imp fun {a b} h e => h ?_ <;> omega
theorem idx_split {s1 s2 : List Nat} {x k : Nat} (h : (s1 ++ x :: s2).Nodup) : k ∈ s1 ↔ (s1 ++ x :: s2).idxOf k < (s1 ++ x :: s2).idxOf x := by
  have hx : x ∉ s1 := fun hx => by
    have := (List.nodup_append.1 h).2.2 x hx x (by simp)
    exact this rfl
  rw [List.idxOf_append, List.idxOf_append, if_neg hx]
  simp only [List.idxOf_cons_self, Nat.zero_add]
  by_cases hk : k ∈ s1
  · rw [if_pos hk]
    exact ⟨fun _ => List.idxOf_lt_length_of_mem hk, fun _ => hk⟩
  · rw [if_neg hk]
    exact ⟨fun h => absurd h hk, fun h => by omega⟩
/-- A linear extension. -/
def lin (n : Nat) (f : Nat → Nat → Bool) (s : List Nat) : Prop := (∀ x ∈ s, x < n) ∧ s.Nodup ∧ s.length = n ∧ ∀ k x, k < n → x < n → f k x = true → s.idxOf k < s.idxOf x
theorem mem_all {n : Int} {l : List Ed} {o : List Int} : o ∈ allE n l ↔ ∃ s, o = ints s ∧ lin n.toNat (inL l) s := by
  rw [allE, mem_exE]
  have nou : ∀ k : Nat, (List.replicate n.toNat false).getD k false = false := fun k => by
    rw [List.getD_eq_getElem?_getD, List.getElem?_replicate]
    split <;> rfl
  constructor
  · rintro ⟨s, e, hl, hs⟩
    rw [okS_iff _ _ _ _ (by simp)] at hs
    obtain ⟨h1, h2, h3⟩ := hs
    refine ⟨s, by simpa using e, fun x hx => (h1 x hx).1, h2, hl, fun k x hk hx hf => ?_⟩
    have hm := full_mem (fun x hx => (h1 x hx).1) h2 hl hx
    obtain ⟨s1, s2, rfl⟩ := List.append_of_mem hm
    have := h3 s1 x s2 rfl k hk hf
    rw [nou] at this
    rcases this with h | h
    · cases h
    · exact (idx_split h2).1 h
  · rintro ⟨s, e, h1, h2, h3, h4⟩
    refine ⟨s, by simpa using e, h3, ?_⟩
    rw [okS_iff _ _ _ _ (by simp)]
    refine ⟨fun x hx => ⟨h1 x hx, nou x⟩, h2, fun s1 x s2 e k hk hf => .inr ?_⟩
    subst e
    exact (idx_split h2).2 (h4 k x hk (h1 x (by simp)) hf)
theorem ext_iff {n : Int} {l : List Ed} (h : Ord n l) {o : List Int} : extF n l o = true ↔ o ∈ allE n l := by
  rw [mem_all]
  simp only [extF, Bool.and_eq_true, decide_eq_true_eq, Bool.not_eq_true', List.any_eq_false, check_iff]
  constructor
  · rintro ⟨_, hl, ⟨hg, hn⟩, hp⟩
    have e : o = ints (o.map Int.toNat) := by
      rw [ints, List.map_map]
      refine (List.map_id o).symm.trans (List.map_congr_left fun x hx => ?_)
      have := hg x hx
      show x = ((x.toNat : Nat) : Int)
      omega
    generalize hs : o.map Int.toNat = s at e
    subst e
    have h2 := ints_nodup.1 hn
    have h1 : ∀ x ∈ s, x < n.toNat := fun x hx => by
      have := hg _ (mem_ints.2 hx)
      omega
    have h3 : s.length = n.toNat := by
      rw [ints, List.length_map] at hl
      omega
    refine ⟨s, rfl, h1, h2, h3, fun k x hk hx hf => ?_⟩
    have := hp _ (inL_iff.1 hf)
    simp only [placeAt] at this
    rw [if_pos (mem_ints.2 (full_mem h1 h2 h3 hx)), if_pos (mem_ints.2 (full_mem h1 h2 h3 hk)), idx_ints, idx_ints] at this
    omega
  · rintro ⟨s, rfl, h1, h2, h3, h4⟩
    refine ⟨h, ?_, ⟨fun x hx => ?_, ints_nodup.2 h2⟩, fun p hp => ?_⟩
    · rw [ints, List.length_map]
      have := h.n0
      omega
    · simp only [ints, List.mem_map] at hx
      obtain ⟨a, ha, rfl⟩ := hx
      have := h1 a ha
      omega
    · obtain ⟨hi, e1, e2, l1, l2⟩ := mem_inL h.ins hp
      have := h4 _ _ l1 l2 hi
      rw [← e1, ← e2]
      simp only [placeAt]
      rw [if_pos (mem_ints.2 (full_mem h1 h2 h3 l1)), if_pos (mem_ints.2 (full_mem h1 h2 h3 l2)), idx_ints, idx_ints]
      omega
/-- Lexicographic comparison. -/
def cmpL : List Int → List Int → Int
  | [], [] => 0
  | [], _ :: _ => -1
  | _ :: _, [] => 1
  | a :: l, b :: m => if cmpI a b ≠ 0 then cmpI a b else cmpL l m
theorem cmpL_lt {x y : Int} (h : x < y) (a b : List Int) : ∀ pre : List Int, cmpL (pre ++ x :: a) (pre ++ y :: b) < 0
  | [] => by
    show (if cmpI x y ≠ 0 then cmpI x y else cmpL a b) < 0
    have : cmpI x y = -1 := by rw [cmpI, if_pos h]
    rw [this, if_pos (by decide)]; decide
  | z :: pre => by
    show (if cmpI z z ≠ 0 then cmpI z z else cmpL (pre ++ x :: a) (pre ++ y :: b)) < 0
    have : cmpI z z = 0 := by rw [cmpI, if_neg (by omega), if_neg (by omega)]
    rw [this, if_neg (by simp)]
    exact cmpL_lt h a b pre
theorem exE_asc (n : Nat) (f : Nat → Nat → Bool) : ∀ (d : Nat) (u : List Bool) (pre : List Int), (exE n f d u pre).Pairwise fun a b => cmpL a b < 0
  | 0, _, _ => by simp [exE]
  | d + 1, u, pre => by
    rw [exE, List.pairwise_flatMap]
    refine ⟨fun x _ => ?_, List.pairwise_lt_range.imp fun {x y} hxy a ha b hb => ?_⟩
    · by_cases hf : freeB n f u x = true
      · rw [if_pos hf]; exact exE_asc n f d _ _
      · rw [if_neg hf]; exact List.Pairwise.nil
    · by_cases hf : freeB n f u x = true
      · by_cases hg : freeB n f u y = true
        · rw [if_pos hf, mem_exE] at ha
          rw [if_pos hg, mem_exE] at hb
          obtain ⟨s, rfl, _⟩ := ha
          obtain ⟨t, rfl, _⟩ := hb
          rw [List.append_assoc, List.append_assoc]
          exact cmpL_lt (by omega) _ _ pre
        · rw [if_neg hg] at hb; cases hb
      · rw [if_neg hf] at ha; cases ha
theorem all_asc (n : Int) (l : List Ed) : (allE n l).Pairwise fun a b => cmpL a b < 0 := exE_asc _ _ _ _ _
/-- Does the one stand before the other? -/
def bef (i j : Nat) (o : List Int) : Bool := decide (o.idxOf (i : Int) < o.idxOf (j : Int))
theorem all_some {n : Int} {l : List Ed} (h : Ord n l) : ∃ o, o ∈ allE n l := by
  have := (all_head h).1
  exact ⟨_, List.mem_of_head? this⟩
theorem bef_neg {n : Int} {l : List Ed} {o : List Int} (ho : o ∈ allE n l) {i j : Nat} (hi : i < n.toNat) (hj : j < n.toNat) (hne : i ≠ j) : bef i j o = !bef j i o := by
  obtain ⟨s, rfl, h1, h2, h3, h4⟩ := mem_all.1 ho
  simp only [bef, idx_ints]
  have : s.idxOf i ≠ s.idxOf j := fun e => hne (by
    have a := List.getElem_idxOf (List.idxOf_lt_length_of_mem (full_mem h1 h2 h3 hi))
    have b := List.getElem_idxOf (List.idxOf_lt_length_of_mem (full_mem h1 h2 h3 hj))
    rw [← a, ← b]
    simp only [e])
  rw [← decide_not]
  exact decide_eq_decide.2 (by omega)
theorem all_sub {n : Int} {l m : List Ed} (hs : ∀ p ∈ l, p ∈ m) {o : List Int} (h : o ∈ allE n m) : o ∈ allE n l := by
  obtain ⟨s, e, h1, h2, h3, h4⟩ := mem_all.1 h
  exact mem_all.2 ⟨s, e, h1, h2, h3, fun k x hk hx hf => h4 k x hk hx (inL_iff.2 (hs _ (inL_iff.1 hf)))⟩
theorem meet_before {n : Int} {l : List Ed} (h : Ord n l) (hn : n ≤ 8) (hl : l.length ≤ 60) {i j : Nat} (hi : i < n.toNat) (hj : j < n.toNat) (hne : i ≠ j) : (∀ o ∈ allE n l, bef i j o = true) ↔ inL l i j = true := by
  constructor
  · intro ha
    refine Classical.byContradiction fun hc => ?_
    have hc' : inL l i j = false := by simpa using hc
    have key : ∃ o ∈ allE n l, bef j i o = true := by
      cases hji : inL l j i with
      | true =>
        obtain ⟨o, ho⟩ := all_some h
        obtain ⟨s, rfl, h1, h2, h3, h4⟩ := mem_all.1 ho
        exact ⟨_, ho, by simp only [bef, idx_ints]; exact decide_eq_true (h4 j i hj hi hji)⟩
      | false =>
        obtain ⟨a, hg, hs, hin, _⟩ := refine_ok h hn hl hj hi (Ne.symm hne) hji hc'
        obtain ⟨o, ho⟩ := all_some (gen_ord hg).1
        obtain ⟨s, rfl, h1, h2, h3, h4⟩ := mem_all.1 ho
        exact ⟨_, all_sub hs ho, by simp only [bef, idx_ints]; exact decide_eq_true (h4 j i hj hi (inL_iff.2 hin))⟩
    obtain ⟨o, ho, hb⟩ := key
    have := ha o ho
    rw [bef_neg ho hi hj hne, hb] at this
    cases this
  · intro hf o ho
    obtain ⟨s, rfl, h1, h2, h3, h4⟩ := mem_all.1 ho
    simp only [bef, idx_ints]
    exact decide_eq_true (h4 i j hi hj hf)
/-- How many of the linear extensions have i before j. -/
def firsts (n : Int) (l : List Ed) (i j : Nat) : Nat := (allE n l).countP (bef i j)
theorem meet_all {n : Int} {l : List Ed} (h : Ord n l) (hn : n ≤ 8) (hl : l.length ≤ 60) {i j : Nat} (hi : i < n.toNat) (hj : j < n.toNat) (hne : i ≠ j) : firsts n l i j = (allE n l).length ↔ inL l i j = true := by
  rw [← meet_before h hn hl hi hj hne, firsts, List.countP_eq_length]
theorem meet_conc {n : Int} {l : List Ed} (h : Ord n l) (hn : n ≤ 8) (hl : l.length ≤ 60) {i j : Nat} (hi : i < n.toNat) (hj : j < n.toNat) (hne : i ≠ j) : (0 < firsts n l i j ∧ firsts n l i j < (allE n l).length) ↔ inL l i j = false ∧ inL l j i = false := by
  have h1 := meet_all h hn hl hi hj hne
  have h2 := meet_before h hn hl hj hi (Ne.symm hne)
  have h3 : firsts n l i j ≤ (allE n l).length := List.countP_le_length
  have h4 : firsts n l i j = 0 ↔ inL l j i = true := by
    rw [← h2, firsts, List.countP_eq_zero]
    constructor
    · intro hz o ho
      have := hz o ho
      rw [bef_neg ho hi hj hne] at this
      simpa using this
    · intro hz o ho
      have := hz o ho
      rw [bef_neg ho hi hj hne, this]; simp
  rw [Bool.eq_false_iff, Bool.eq_false_iff, Ne, Ne, ← h1, ← h4]
  omega
end Go.Proofs.Ytlaefkhbpnbahaa
/- Partial orders: relations in one row; Check of the reference. -/
namespace Go.Proofs.Ytlaefkhbpnbahaa
open Go.Sx
/-- A relation as one row. -/
def flat (n : Nat) (f : Nat → Nat → Bool) : List Bool := (List.range (n * n)).map fun x => f (x / n) (x % n)
theorem flatN_len (n : Nat) (f : Nat → Nat → Bool) : (flat n f).length = n * n := by simp [flat]
theorem ix_lt {n i j : Nat} (hi : i < n) (hj : j < n) : i * n + j < n * n := by
  have h1 : i * n + n ≤ n * n := by
    rw [← Nat.succ_mul]
    exact Nat.mul_le_mul_right n hi
  omega
theorem ix_div {n i j : Nat} (hj : j < n) : (i * n + j) / n = i := by
  rw [Nat.add_comm, Nat.add_mul_div_right _ _ (by omega), Nat.div_eq_of_lt hj, Nat.zero_add]
theorem ix_mod {n i j : Nat} (hj : j < n) : (i * n + j) % n = j := by
  rw [Nat.add_comm, Nat.add_mul_mod_self_right, Nat.mod_eq_of_lt hj]
theorem ix_parts {n x : Nat} (h : x < n * n) : x / n < n ∧ x % n < n ∧ (x / n) * n + x % n = x := by
  have hn : 0 < n := by
    rcases Nat.eq_zero_or_pos n with rfl | h'
    · simp at h
    · exact h'
  refine ⟨Nat.div_lt_of_lt_mul h, Nat.mod_lt _ hn, ?_⟩
  rw [Nat.mul_comm]
  exact Nat.div_add_mod x n
theorem flat_at {n i j : Nat} (f : Nat → Nat → Bool) (hi : i < n) (hj : j < n) : (flat n f).getD (i * n + j) false = f i j := by
  rw [flat, List.getD_eq_getElem?_getD, List.getElem?_map, List.getElem?_range (ix_lt hi hj)]
  show f ((i * n + j) / n) ((i * n + j) % n) = _
  rw [ix_div hj, ix_mod hj]
theorem flat_congr {n : Nat} {f g : Nat → Nat → Bool} (h : ∀ i j, i < n → j < n → f i j = g i j) : flat n f = flat n g := by
  refine List.map_congr_left fun x hx => ?_
  obtain ⟨h1, h2, _⟩ := ix_parts (List.mem_range.1 hx)
  exact h _ _ h1 h2
theorem flat_set {n i j : Nat} (f : Nat → Nat → Bool) (v : Bool) (hi : i < n) (hj : j < n) : (flat n f).set (i * n + j) v = flat n fun a b => if a = i ∧ b = j then v else f a b := by
  rw [flat, set_range, flat]
  refine List.map_congr_left fun x hx => ?_
  obtain ⟨h1, h2, h3⟩ := ix_parts (List.mem_range.1 hx)
  by_cases h : x = i * n + j
  · rw [if_pos h, if_pos]
    rw [h, ix_div hj, ix_mod hj]
    exact ⟨rfl, rfl⟩
  · rw [if_neg h, if_neg]
    rintro ⟨e1, e2⟩
    rw [e1, e2] at h3
    exact h h3.symm
theorem flat_zero (n : Nat) : List.replicate (n * n) false = flat n fun _ _ => false := by
  rw [flat, List.map_const']
  simp
/-- The pairs of a relation in one row. -/
def pairsT (n : Nat) (t : List Bool) : List Ed := ((List.range (n * n)).filter fun x => t.getD x false).map fun (x : Nat) => (((x / n : Nat) : Int), ((x % n : Nat) : Int))
theorem pairsT_eq (n : Nat) (f : Nat → Nat → Bool) : pairsT n (flat n f) = pairsF n f := by
  refine asc_ext ?_ (asc_pairs _ _) fun p => ?_
  · unfold asc pairsT
    rw [List.pairwise_map]
    have hl : ((List.range (n * n)).filter fun x => (flat n f).getD x false).Pairwise (fun a b => (a < n * n ∧ b < n * n) ∧ a < b) := by
      refine List.Pairwise.and (List.Pairwise.imp_of_mem ?_ (List.Pairwise.filter _ List.pairwise_lt_range)) (List.Pairwise.filter _ List.pairwise_lt_range)
      intro a b ha hb _
      exact ⟨List.mem_range.1 (List.mem_filter.1 ha).1, List.mem_range.1 (List.mem_filter.1 hb).1⟩
    refine hl.imp fun {a b} h => ?_
    obtain ⟨⟨h1, h2⟩, h3⟩ := h
    obtain ⟨a1, a2, a3⟩ := ix_parts h1
    obtain ⟨b1, b2, b3⟩ := ix_parts h2
    simp only [lessE, Bool.or_eq_true, Bool.and_eq_true, decide_eq_true_eq]
    have hd : a / n ≤ b / n := Nat.div_le_div_right (Nat.le_of_lt h3)
    rcases Nat.lt_or_eq_of_le hd with hd | hd
    · left; omega
    · right
      refine ⟨by omega, ?_⟩
      rw [hd] at a3
      omega
  · rw [mem_pairs]
    simp only [pairsT, List.mem_map, List.mem_filter, List.mem_range]
    constructor
    · rintro ⟨x, ⟨hx, hf⟩, rfl⟩
      obtain ⟨h1, h2, h3⟩ := ix_parts hx
      rw [← h3, flat_at _ h1 h2] at hf
      exact ⟨_, _, h1, h2, hf, rfl⟩
    · rintro ⟨i, j, hi, hj, hf, rfl⟩
      refine ⟨i * n + j, ⟨ix_lt hi hj, by rw [flat_at _ hi hj]; exact hf⟩, ?_⟩
      rw [ix_div hj, ix_mod hj]
def setT (n : Nat) (t : List Bool) (p : Ed) : List Bool := t.set (p.1.toNat * n + p.2.toNat) true
theorem fold_flat {n : Nat} : ∀ (l : List Ed) (f : Nat → Nat → Bool), insideAll n l → l.foldl (setT n) (flat n f) = flat n fun i j => f i j || inL l i j
  | [], f, _ => by simp [inL]
  | p :: l, f, hl => by
    have hp := out_false (hl p (by simp))
    rw [List.foldl_cons, setT, flat_set f true (by omega) (by omega), fold_flat l _ fun q hq => hl q (by simp [hq])]
    refine flat_congr fun i j hi hj => ?_
    have e : (decide (p.1 = (i : Int)) && decide (p.2 = (j : Int))) = decide (i = p.1.toNat ∧ j = p.2.toNat) := by
      rw [← Bool.decide_and]
      refine decide_eq_decide.2 ?_
      constructor <;> rintro ⟨h1, h2⟩ <;> constructor <;> omega
    simp only [inL, List.any_cons, e]
    by_cases h : i = p.1.toNat ∧ j = p.2.toNat
    · simp [h]
    · simp [h]
/-- Not transitive: the closure has more pairs. -/
theorem mismatch_iff {n : Int} {l : List Ed} (h : insideAll n l) (ha : asc l) : (pairsF n.toNat (cl n l)).length = l.length ↔ ∀ i v j, inL l i v = true → inL l v j = true → inL l i j = true := by
  constructor
  · intro e
    have hs : ∀ p ∈ l, p ∈ pairsF n.toNat (cl n l) := fun p hp => by
      obtain ⟨h1, e1, e2, l1, l2⟩ := mem_inL h hp
      exact mem_pairs.2 ⟨_, _, l1, l2, cl_mono h1, by rw [e1, e2]⟩
    have hb : ∀ p ∈ pairsF n.toNat (cl n l), p ∈ l := fun p hp => by
      refine Classical.byContradiction fun hc => ?_
      have := sub_len (l := p :: l) (m := pairsF n.toNat (cl n l)) (List.nodup_cons.2 ⟨hc, asc_nodup ha⟩) fun q hq => by
        rcases List.mem_cons.1 hq with rfl | hq
        · exact hp
        · exact hs q hq
      simp only [List.length_cons] at this
      omega
    intro i v j h1 h2
    have hc := cl_trans h (cl_mono h1) (cl_mono h2)
    have hi := cl_ins h hc
    exact inL_iff.2 (hb _ (mem_pairs.2 ⟨i, j, hi.1, hi.2, hc, rfl⟩))
  · intro tr
    have e : pairsF n.toNat (cl n l) = pairsF n.toNat (inL l) := pairs_congr fun i j _ _ => by
      rw [Bool.eq_iff_iff]
      exact ⟨fun e => cl_least (fun _ _ h => h) tr e, cl_mono⟩
    rw [e, pairs_self h ha]
/-- Check, as the reference makes it. -/
def refCheckF (n : Int) (l : List Ed) : Int :=
  if sizesF n l ≠ 0 then sizesF n l else if scanE n none l ≠ 0 then scanE n none l else if (List.range n.toNat).any (fun i => inL l i i) = true then 21
  else if ((pairsF n.toNat (cl n l)).length : Int) ≠ l.length then 10 else 0
theorem refl_iff {n : Int} {l : List Ed} (h : insideAll n l) : (List.range n.toNat).any (fun i => inL l i i) = l.any loopE := by
  rw [Bool.eq_iff_iff, List.any_eq_true, List.any_eq_true]
  constructor
  · rintro ⟨i, _, hi⟩
    exact ⟨_, inL_iff.1 hi, by simp [loopE]⟩
  · rintro ⟨p, hp, he⟩
    obtain ⟨h1, e1, e2, l1, l2⟩ := mem_inL h hp
    have e3 : p.1 = p.2 := by simpa [loopE] using he
    rw [e3] at h1 l1
    exact ⟨_, List.mem_range.2 l1, h1⟩
theorem ref_check (n : Int) (l : List Ed) : refCheckF n l = checkF n l := by
  rw [refCheckF, checkF]
  by_cases h1 : sizesF n l = 0
  · have a1 : ¬ (sizesF n l ≠ 0) := fun h => h h1
    rw [if_neg a1, if_neg a1]
    by_cases h2 : scanE n none l = 0
    · have a2 : ¬ (scanE n none l ≠ 0) := fun h => h h2
      rw [if_neg a2, if_neg a2]
      obtain ⟨hi, ha⟩ := (scan_iff n none l).1 h2
      have ha' : asc l := ha
      have n0 := (sizes_ok h1).1
      rw [refl_iff hi]
      by_cases h3 : l.any loopE = true
      · rw [if_pos h3, if_pos h3]
      · rw [if_neg h3, if_neg h3]
        have hm := mismatch_iff hi ha'
        have ho := open_iff n0 hi
        by_cases h4 : l.any (openE n.toNat (matF n l)) = true
        · rw [if_pos h4, if_pos]
          intro e
          rw [ho.2 (hm.1 (by omega))] at h4; cases h4
        · rw [if_neg h4, if_neg]
          have := hm.2 (ho.1 (by simpa using h4))
          omega
    · rw [if_pos h2, if_pos h2]
  · rw [if_pos h1, if_pos h1]
theorem bif_t {x y : Bool} (h : (bif x then y else false) = true) : x = true ∧ y = true := by
  cases x <;> simp_all
theorem bif_f {x y : Bool} (h : (bif x then y else false) = false) : x = false ∨ x = true ∧ y = false := by
  cases x <;> simp_all
theorem inJ_k (f : Nat → Nat → Bool) (k i j : Nat) : inJ f k i j i k = f i k ∨ f k k = true ∧ k < j := by
  unfold inJ
  rw [if_neg (by omega)]
  by_cases h : k < j
  · rw [if_pos ⟨rfl, h⟩]
    cases h2 : f k k
    · left; simp
    · exact .inr ⟨rfl, h⟩
  · rw [if_neg (by omega)]; exact .inl rfl
theorem inJ_step (N : Nat) (f : Nat → Nat → Bool) {k i j : Nat} (hi : i < N) (hj : j < N) (hk : k < N) :
    (flat N (inJ f k i j)).set (i * N + j) (inJ f k i j i j || inJ f k i j k j) = flat N (inJ f k i (j + 1)) := by
  rw [flat_set _ _ hi hj]
  refine flat_congr fun a b ha hb => ?_
  have ek : inJ f k i j k j = f k j := by
    unfold inJ
    by_cases h1 : k < i
    · rw [if_pos h1]; simp [warsh]
    · rw [if_neg h1, if_neg (by omega)]
  have ei : inJ f k i j i j = f i j := by
    unfold inJ
    rw [if_neg (by omega), if_neg (by omega)]
  rw [ek, ei]
  unfold inJ
  by_cases h1 : a < i
  · rw [if_neg (by omega), if_pos h1, if_pos h1]
  · by_cases h2 : a = i
    · subst h2
      by_cases h3 : b = j
      · subst h3
        rw [if_pos ⟨rfl, rfl⟩, if_neg h1, if_pos ⟨rfl, by omega⟩]
      · rw [if_neg (by omega), if_neg h1, if_neg h1]
        by_cases h4 : b < j
        · rw [if_pos ⟨rfl, h4⟩, if_pos ⟨rfl, by omega⟩]
        · rw [if_neg (by omega), if_neg (by omega)]
    · rw [if_neg (by omega), if_neg h1, if_neg (by omega), if_neg h1, if_neg (by omega)]
theorem inJ_end (N : Nat) (f : Nat → Nat → Bool) {k i j : Nat} (hj : j ≤ N) (h : j = 0 ∨ f i k = true) (hx : inJ f k i j i k = false ∨ N ≤ j) : flat N (inJ f k i j) = flat N (midI f k (i + 1)) := by
  refine flat_congr fun a b ha hb => ?_
  unfold inJ midI
  by_cases h1 : a < i
  · rw [if_pos h1, if_pos (by omega)]
  · rw [if_neg h1]
    by_cases h2 : a = i
    · subst h2
      rw [if_pos (show a < a + 1 by omega)]
      by_cases hjn : N ≤ j
      · rw [if_pos ⟨rfl, by omega⟩]
        rcases h with h | h
        · omega
        · simp [warsh, h]
      · have hx' : inJ f k a j a k = false := by
          rcases hx with hx | hx
          · exact hx
          · omega
        have hfk : f a k = false := by
          rcases inJ_k f k a j with e | ⟨e, hkj⟩
          · rw [← e]; exact hx'
          · have : inJ f k a j a k = true := by
              unfold inJ
              rw [if_neg (by omega), if_pos ⟨rfl, hkj⟩, e]; simp
            rw [this] at hx'; cases hx'
        rcases h with h | h
        · subst h
          rw [if_neg (by omega)]
          simp [warsh, hfk]
        · rw [hfk] at h; cases h
    · rw [if_neg (by omega), if_neg (by omega)]
theorem midI_end (N : Nat) (f : Nat → Nat → Bool) {k i : Nat} (h : N ≤ i) : flat N (midI f k i) = flat N (warsh k f) := flat_congr fun a b ha hb => by
  unfold midI
  rw [if_pos (by omega)]
end Go.Proofs.Ytlaefkhbpnbahaa
/- Partial orders: Extends of the reference. -/
namespace Go.Proofs.Ytlaefkhbpnbahaa
open Go.Sx
/-- Where a number stands, or -1. -/
def placeM (o : List Int) (x : Int) : Int := if x ∈ o then (o.idxOf x : Int) else -1
def rowM (N : Nat) (o : List Int) : List Int := (List.range N).map fun (x : Nat) => placeM o (x : Int)
theorem rowM_len (N : Nat) (o : List Int) : (rowM N o).length = N := by simp [rowM]
theorem rowM_at {N : Nat} (o : List Int) {x : Int} (h : 0 ≤ x) (h' : x < (N : Int)) : (rowM N o).getD x.toNat 0 = placeM o x := by
  have hx : x.toNat < N := by omega
  have e : ((x.toNat : Nat) : Int) = x := by omega
  rw [rowM, List.getD_eq_getElem?_getD, List.getElem?_map, List.getElem?_range hx]
  show placeM o ((x.toNat : Nat) : Int) = _
  rw [e]
theorem rowM_zero (N : Nat) : rowM N [] = List.replicate N (-1) := by
  rw [rowM]
  simp [placeM, List.map_const']
theorem rowM_next {N : Nat} {o : List Int} {i : Nat} (hi : i < o.length) (h : 0 ≤ o.getD i 0) (hm : o.getD i 0 ∉ o.take i) : (rowM N (o.take i)).set (o.getD i 0).toNat (i : Int) = rowM N (o.take (i + 1)) := by
  rw [rowM, set_range, rowM, take_get hi]
  refine List.map_congr_left fun a _ => ?_
  have hl : (o.take i).length = i := by rw [List.length_take]; omega
  have e : (((o.getD i 0).toNat : Nat) : Int) = o.getD i 0 := by omega
  by_cases ha : a = (o.getD i 0).toNat
  · rw [if_pos ha, ha, e, placeM, if_pos (by simp), List.idxOf_append, if_neg hm, hl]
    simp
  · rw [if_neg ha]
    have hne : (a : Int) ≠ o.getD i 0 := by omega
    unfold placeM
    by_cases hin : (a : Int) ∈ o.take i
    · rw [if_pos hin, if_pos (by simp [hin]), List.idxOf_append, if_pos hin]
    · rw [if_neg hin, if_neg (by simp only [List.mem_append, List.mem_singleton, not_or]; exact ⟨hin, hne⟩)]
theorem placeM_neg {o : List Int} {x : Int} : placeM o x < 0 ↔ x ∉ o := by
  unfold placeM
  by_cases h : x ∈ o
  · rw [if_pos h]; simp [h]
  · rw [if_neg h]; simp [h]
theorem goodO_take {n : Int} {o : List Int} {i : Nat} (hi : i < o.length) (h : goodO n (o.take i)) (h0 : 0 ≤ o.getD i 0) (h1 : o.getD i 0 < n) (hm : o.getD i 0 ∉ o.take i) : goodO n (o.take (i + 1)) := by
  rw [take_get hi]
  refine ⟨fun x hx => ?_, ?_⟩
  · rcases List.mem_append.1 hx with hx | hx
    · exact h.1 x hx
    · rw [List.mem_singleton.1 hx]; exact ⟨h0, h1⟩
  · refine List.nodup_append.2 ⟨h.2, by simp, fun a ha b hb e => ?_⟩
    rw [List.mem_singleton.1 hb] at e
    exact hm (e ▸ ha)
/-- Extends, as the reference makes it, when the rest is right. -/
theorem ref_late {n : Int} {l : List Ed} {o : List Int} (h : Ord n l) (hl : (o.length : Int) = n) (hg : goodO n o) : (l.any fun p => decide (placeM o p.2 < placeM o p.1)) = l.any fun p => decide (placeAt o p.2 ≤ placeAt o p.1) := by
  have full : ∀ x : Int, 0 ≤ x → x < n → x ∈ o := fun x h0 h1 => by
    refine Classical.byContradiction fun hc => ?_
    have hs := sub_len (l := (x :: o).map Int.toNat) (m := List.range n.toNat) (by
      unfold List.Nodup
      rw [List.pairwise_map]
      refine List.Pairwise.imp_of_mem ?_ (List.nodup_cons.2 ⟨hc, hg.2⟩)
      intro a b ha hb hab e
      have ra : 0 ≤ a := by
        rcases List.mem_cons.1 ha with rfl | ha
        · exact h0
        · exact (hg.1 a ha).1
      have rb : 0 ≤ b := by
        rcases List.mem_cons.1 hb with rfl | hb
        · exact h0
        · exact (hg.1 b hb).1
      exact hab (by omega)) fun p hp => by
      obtain ⟨a, ha, rfl⟩ := List.mem_map.1 hp
      have ra : 0 ≤ a ∧ a < n := by
        rcases List.mem_cons.1 ha with rfl | ha
        · exact ⟨h0, h1⟩
        · exact hg.1 a ha
      exact List.mem_range.2 (by omega)
    simp only [List.length_map, List.length_cons, List.length_range] at hs
    omega
  rw [Bool.eq_iff_iff, List.any_eq_true, List.any_eq_true]
  have key : ∀ p ∈ l, (placeM o p.2 < placeM o p.1 ↔ placeAt o p.2 ≤ placeAt o p.1) := fun p hp => by
    have hr := out_false (h.ins p hp)
    have m1 := full p.1 hr.1 hr.2.1
    have m2 := full p.2 hr.2.2.1 hr.2.2.2
    unfold placeM placeAt
    rw [if_pos m1, if_pos m2, if_pos m1, if_pos m2]
    have hne : o.idxOf p.1 ≠ o.idxOf p.2 := fun e => by
      have a := List.getElem_idxOf (List.idxOf_lt_length_of_mem m1)
      have b := List.getElem_idxOf (List.idxOf_lt_length_of_mem m2)
      have e2 : p.1 = p.2 := by rw [← a, ← b]; simp only [e]
      obtain ⟨h1, _⟩ := mem_inL h.ins hp
      rw [e2, h.irr] at h1; cases h1
    omega
  constructor
  · rintro ⟨p, hp, e⟩
    exact ⟨p, hp, decide_eq_true ((key p hp).1 (of_decide_eq_true e))⟩
  · rintro ⟨p, hp, e⟩
    exact ⟨p, hp, decide_eq_true ((key p hp).2 (of_decide_eq_true e))⟩
end Go.Proofs.Ytlaefkhbpnbahaa
/- Partial orders: Least of the reference. -/
namespace Go.Proofs.Ytlaefkhbpnbahaa
open Go.Sx
theorem least_step {n : Nat} {f : Nat → Nat → Bool} (irr : ∀ i, f i i = false) (tr : ∀ i v j, f i v = true → f v j = true → f i j = true) {k : Nat} (hk : k < n) :
    ∃ z, z < n ∧ (List.range n).find? (freeB n f (leastK n f k).1) = some z ∧ freeB n f (leastK n f k).1 z = true := by
  have hc := (least_head (n := n) irr tr k (by omega)).1
  have hl := least_len n f k
  obtain ⟨x, hx, hxu⟩ := unused_some hl (by rw [hc]; omega)
  obtain ⟨y, hy, hf⟩ := free_some irr tr (u := (leastK n f k).1) _ x hx hxu (Nat.le_refl _)
  cases he : (List.range n).find? (freeB n f (leastK n f k).1) with
  | none =>
    have := List.find?_eq_none.1 he y (List.mem_range.2 hy)
    exact absurd hf this
  | some z => exact ⟨z, List.mem_range.1 (List.mem_of_find?_eq_some he), rfl, List.find?_some he⟩
theorem least_out {n : Nat} {f : Nat → Nat → Bool} (irr : ∀ i, f i i = false) (tr : ∀ i v j, f i v = true → f v j = true → f i j = true) : ∀ k, k ≤ n → (leastK n f k).2.length = k
  | 0, _ => rfl
  | k + 1, hk => by
    obtain ⟨z, hz, he, _⟩ := least_step (n := n) irr tr (k := k) (by omega)
    have ih := least_out (n := n) irr tr k (by omega)
    rw [leastK, he]
    show ((leastK n f k).2 ++ [(z : Int)]).length = _
    rw [List.length_append, ih]; rfl
/-- A free element, as the reference asks for it. -/
def blkE (u : List Bool) (x : Nat) (p : Ed) : Bool := decide (p.2 = (x : Int)) && !u.getD p.1.toNat false
theorem free_ref {n : Int} {l : List Ed} (h : insideAll n l) {u : List Bool} {x : Nat} (hx : x < n.toNat) : freeB n.toNat (inL l) u x = (!u.getD x false && !l.any (blkE u x)) := by
  rw [Bool.eq_iff_iff, freeB_iff]
  simp only [Bool.and_eq_true, Bool.not_eq_true', List.any_eq_false]
  constructor
  · rintro ⟨h1, h2⟩
    refine ⟨h1, fun p hp hb => ?_⟩
    simp only [blkE, Bool.and_eq_true, decide_eq_true_eq, Bool.not_eq_true'] at hb
    obtain ⟨h3, e1, e2, l1, l2⟩ := mem_inL h hp
    have e3 : p.2.toNat = x := by omega
    rw [e3] at h3
    rw [h2 _ l1 h3] at hb
    exact absurd hb.2 (by decide)
  · rintro ⟨h1, h2⟩
    refine ⟨h1, fun k hk hf => ?_⟩
    have := h2 _ (inL_iff.1 hf)
    simp only [blkE, Bool.and_eq_true, decide_eq_true_eq, Bool.not_eq_true', not_and, true_implies, Bool.not_eq_false] at this
    simpa using this
end Go.Proofs.Ytlaefkhbpnbahaa
/- Partial orders: Extensions of the reference. -/
namespace Go.Proofs.Ytlaefkhbpnbahaa
open Go.Sx
/-- The search of the reference. -/
def extR (n : Nat) (f : Nat → Nat → Bool) (m : Nat) : Nat → List Bool → List Int → List (List Int) → List (List Int)
  | 0, _, done, out => if m ≤ out.length then out else out ++ [done]
  | d + 1, used, done, out => if m ≤ out.length then out else
    (List.range n).foldl (fun out x => if freeB n f used x = true then extR n f m d (used.set x true) (done ++ [(x : Int)]) out else out) out
def refStep (n : Nat) (f : Nat → Nat → Bool) (m d : Nat) (used : List Bool) (done : List Int) (out : List (List Int)) (x : Nat) : List (List Int) :=
  if freeB n f used x = true then extR n f m d (used.set x true) (done ++ [(x : Int)]) out else out
theorem extR_succ (n : Nat) (f : Nat → Nat → Bool) (m d : Nat) (used : List Bool) (done : List Int) (out : List (List Int)) (h : ¬ m ≤ out.length) :
    extR n f m (d + 1) used done out = (List.range n).foldl (refStep n f m d used done) out := by
  rw [extR, if_neg h]
  rfl
theorem ref_fold {n m d : Nat} {f : Nat → Nat → Bool} {used : List Bool} {done : List Int}
    (ih : ∀ (x : Nat) (out : List (List Int)), out.length ≤ m → extR n f m d (used.set x true) (done ++ [(x : Int)]) out = (out ++ exE n f d (used.set x true) (done ++ [(x : Int)])).take m) :
    ∀ (L : List Nat) (out : List (List Int)), out.length ≤ m → L.foldl (refStep n f m d used done) out = (out ++ L.flatMap fun x => if freeB n f used x = true then exE n f d (used.set x true) (done ++ [(x : Int)]) else []).take m
  | [], out, h => by simp [List.take_of_length_le h]
  | x :: L, out, h => by
    rw [List.foldl_cons, List.flatMap_cons, refStep]
    by_cases hf : freeB n f used x = true
    · rw [if_pos hf, if_pos hf, ref_fold ih L _ (by rw [ih x out h, List.length_take]; omega), ih x out h, take_app h]
    · rw [if_neg hf, if_neg hf, List.nil_append]
      exact ref_fold ih L out h
theorem extR_eq (n m : Nat) (f : Nat → Nat → Bool) : ∀ (d : Nat) (used : List Bool) (done : List Int) (out : List (List Int)), out.length ≤ m → extR n f m d used done out = (out ++ exE n f d used done).take m
  | 0, used, done, out, h => by
    rw [extR, exE]
    by_cases hm : m ≤ out.length
    · rw [if_pos hm, List.take_append_of_le_length hm, List.take_of_length_le h]
    · rw [if_neg hm]
      exact (List.take_of_length_le (by rw [List.length_append]; simp only [List.length_cons, List.length_nil]; omega)).symm
  | d + 1, used, done, out, h => by
    by_cases hm : m ≤ out.length
    · rw [extR, if_pos hm, List.take_append_of_le_length hm, List.take_of_length_le h]
    · rw [extR_succ _ _ _ _ _ _ _ hm, exE]
      exact ref_fold (fun x out ho => extR_eq n m f d _ _ out ho) _ out h
/-- Extensions, as the reference makes it. -/
def refExtsF (n : Int) (l : List Ed) (most : Int) : List (List Int) × Int :=
  if checkF n l ≠ 0 then ([], checkF n l) else if most < 0 ∨ 5000 < most then ([], 2) else
  (extR n.toNat (inL l) most.toNat n.toNat (List.replicate n.toNat false) [] [], 0)
theorem ref_exts (n : Int) (l : List Ed) (most : Int) : refExtsF n l most = extsF n l most := by
  by_cases h1 : checkF n l = 0
  · have a1 : ¬ (checkF n l ≠ 0) := fun h => h h1
    by_cases h2 : most < 0 ∨ 5000 < most
    · rw [refExtsF, extsF, if_neg a1, if_neg a1, if_pos h2, if_pos h2]
    · rw [exts_eq h1 (by omega) (by omega), refExtsF, if_neg a1, if_neg h2, extR_eq _ _ _ _ _ _ _ (by simp)]
      rfl
  · rw [refExtsF, extsF, if_pos h1, if_pos h1]
theorem freeB_used {n : Nat} {f : Nat → Nat → Bool} {u : List Bool} {x : Nat} (h : freeB n f u x = true) (hx : x < u.length) : u.getD x false = false ∧ (u.set x true).count false + 1 = u.count false :=
  ⟨(freeB_iff.1 h).1, count_set (freeB_iff.1 h).1 hx⟩
theorem foldR_len {n m d : Nat} {f : Nat → Nat → Bool} {used : List Bool} {done : List Int} (L : List Nat) (out : List (List Int)) (h : out.length ≤ m) : (L.foldl (refStep n f m d used done) out).length ≤ m := by
  rw [ref_fold (fun x out ho => extR_eq n m f d _ _ out ho) L out h, List.length_take]
  omega
end Go.Proofs.Ytlaefkhbpnbahaa
/- Partial orders: the law Least. -/
namespace Go.Proofs.Ytlaefkhbpnbahaa
open Go.Sx
def cxL : Ctx := ⟨tys0, [(12, ([], c12)), (13, ([], c13)), (17, ([], c17)), (18, ([], c18)), (19, ([], c19)), (20, ([], c20))]⟩
theorem cxL_good : GoodCtx Try.prog cxL := cx_cons good12 (cx_cons good13 (cx_cons good17 (cx_cons good18 (cx_cons good19 (cx_cons good20 cx0_good)))))
theorem has_iff {l : List Ed} {e : Ed} : hasF l e = true ↔ e ∈ l := by
  simp only [hasF, List.any_eq_true, Bool.and_eq_true, decide_eq_true_eq]
  constructor
  · rintro ⟨p, hp, h1, h2⟩
    have : p = e := Prod.ext h1 h2
    exact this ▸ hp
  · exact fun h => ⟨e, h, rfl, rfl⟩
theorem all_has {l m : List Ed} : l.all (hasF m) = true ↔ ∀ p ∈ l, p ∈ m := by
  rw [List.all_eq_true]
  exact ⟨fun h p hp => has_iff.1 (h p hp), fun h p hp => has_iff.2 (h p hp)⟩
theorem great_len {n : Int} {l : List Ed} (h : greatB n l = false) : l.length ≤ 60 ∧ (8 < n → 200 < n) := by
  simp only [greatB, Bool.or_eq_false_iff, Bool.and_eq_false_iff, decide_eq_false_iff_not] at h
  omega
theorem law4 : LawOk Try.prog 4 [tI, tEs, tEs] [false, false, false] := by
  refine ⟨cxL, 3, cxL_good, fun (⟨n, l, m, _⟩ : Int × List Ed × List Ed × Unit) fine => ?_⟩
  have good : (bif greatB n l then true else decide (60 < (m.length : Int))) = false → l.length ≤ 60 ∧ m.length ≤ 60 := fun h => by
    cases hg : greatB n l with
    | true => rw [hg] at h; cases h
    | false =>
      rw [hg] at h
      have := great_len hg
      have : ¬ (60 < (m.length : Int)) := of_decide_eq_false h
      omega
  refine (And.intro (by first | kernel_rfl | rfl) (And.intro True.intro (fun h0 => (And.intro (fun h1 => (And.intro True.intro (fin_of rfl ?_))) (fun h1 => (And.intro True.intro (fun (h2 : List (Int × Int) × Int × PUnit) => (fun h3 => (And.intro (fun h4 => (fun h5 => (And.intro (fun h6 => True.intro) (And.intro (fun h7 => True.intro) (And.intro (fun h8 => True.intro) (fin_of rfl ?_)))))) (fun h4 => (And.intro True.intro (And.intro (fun h9 => True.intro) (And.intro (fun h10 => (fin_of rfl ?_)) (fun h10 => (And.intro True.intro (fun (h11 : List (Int × Int) × Int × PUnit) => (fun h12 => (And.intro (fun h13 => True.intro) (And.intro (fun h14 => (fin_of rfl ?_)) (fun h14 => (And.intro True.intro (And.intro (fun h15 => True.intro) (And.intro (fun h16 => True.intro) (And.intro (fun h17 => True.intro) (fin_of rfl ?_)))))))))))))))))))))))))
  · rfl
  · obtain ⟨hl, hm⟩ := good h1
    subst h3
    have h4' : (genF n l).2 ≠ 0 := by
      have : (!decide ((genF n l).2 = 0)) = true := h4
      simpa using this
    show (true, ()) = ((bif bif decide ((((genF n l).1).length : Int) = 0) then bif !decide (checkF n m = 0) then true else !l.all (hasF m) else false then true else false), ())
    rcases gen_cases n l with ⟨_, e⟩ | ⟨e, _⟩
    · rw [e]
      by_cases hc : checkF n m = 0
      · have : l.all (hasF m) = false := by
          rw [Bool.eq_false_iff]
          intro ha
          obtain ⟨a, ha, _⟩ := gen_in (by omega) (check_iff.1 hc) (all_has.1 ha)
          rw [ha] at h4'; exact h4' rfl
        rw [this, hc]; rfl
      · rw [decide_eq_false hc]; rfl
    · rw [e] at h4'; exact absurd rfl h4'
  all_goals
    obtain ⟨hl, hm⟩ := good h1
    subst h3
    obtain ⟨a, ha⟩ : ∃ a, genF n l = (a, 0) := ⟨(genF n l).1, by
      have : (!decide ((genF n l).2 = 0)) = false := h4
      exact Prod.ext rfl (by simpa using this)⟩
    have ho := gen_ord ha
  · have h10' : (bif !decide (checkF n (genF n l).1 = 0) then true else !l.all (hasF (genF n l).1)) = true := h10
    rw [ha, check_iff.2 ho.1, all_has.2 ho.2.1] at h10'
    cases h10'
  · subst h12
    have h14' : (bif !decide ((genF n (genF n l).1).2 = 0) then true else !decide ((genF n l).1 = (genF n (genF n l).1).1)) = true := h14
    rw [ha] at h14'
    simp only [gen_self ho.1] at h14'
    simp at h14'
  · show (true, ()) = ((bif bif bif !decide (checkF n m = 0) then true else !l.all (hasF m) then true else (genF n l).1.all (hasF m) then true else false), ())
    rw [ha]
    by_cases hc : checkF n m = 0
    · cases hw : l.all (hasF m) with
      | false => rw [hc]; rfl
      | true =>
        obtain ⟨b, hb, hb'⟩ := gen_in (n := n) (l := l) (by omega) (check_iff.1 hc) (all_has.1 hw)
        rw [ha] at hb
        cases hb
        rw [all_has.2 hb', hc]; rfl
    · rw [decide_eq_false hc]; rfl
end Go.Proofs.Ytlaefkhbpnbahaa
