/- Flow: the runs of the laws, as a contract. -/
import Derived.Test.YtokkndniihhgjaaFlowP
import Derived.Test.YtokkndniihhgjaaFlowE
set_option linter.unusedSimpArgs false
set_option linter.unusedVariables false
namespace Go.Proofs.Ytokkndniihhgjaa
open Go.Sx

abbrev RunSt := Cred × Int × List Int × List Int
def stepS (s : RunSt) (o : Int × Int) : RunSt :=
  if (doS s.1 o).2.2 ≠ 0 then s else ((doS s.1 o).1, if o.1 = 1 then s.2.1 + o.2 else s.2.1, if o.1 = 2 then s.2.2.1 ++ [o.2] else s.2.2.1, if o.1 = 3 then s.2.2.2 ++ [(doS s.1 o).2.1] else s.2.2.2)
def runS (c : Cred) (l : List (Int × Int)) : RunSt := l.foldl stepS (c, 0, [], [])

theorem runS_take {c : Cred} {l : List (Int × Int)} {i : Nat} {d : Int × Int} (h : i < l.length) : runS c (l.take (i + 1)) = stepS (runS c (l.take i)) (l.getD i d) := by
  unfold runS
  rw [List.take_succ_eq_append_getElem h, List.foldl_append]
  simp [List.getD_eq_getElem?_getD, List.getElem?_eq_getElem h]

/-- What stays so in a run. -/
def RunInv (c0 : Cred) (n : Nat) (s : RunSt) : Prop :=
  fCheck s.1 = 0 ∧ s.1.1 = c0.1 ∧ s.2.1 = s.1.2.1 - c0.2.1 ∧ (s.2.2.1.length : Int) = s.1.2.2.1 - c0.2.2.1 ∧ (s.2.2.2.length : Int) = s.1.2.2.2.1 - c0.2.2.2.1 ∧ s.2.2.1.length ≤ n ∧ s.2.2.2.length ≤ n ∧ c0.2.2.2.2.1 ++ s.2.2.1 = s.2.2.2 ++ s.1.2.2.2.2.1

theorem stepS_inv {c0 : Cred} {n : Nat} {s : RunSt} {o : Int × Int} (h : RunInv c0 n s) : RunInv c0 (n + 1) (stepS s o) := by
  obtain ⟨h1, h2, h3, h4, h5, h6, h7, h8⟩ := h
  unfold stepS
  by_cases e : (doS s.1 o).2.2 = 0
  · rw [if_neg (by simpa using e)]
    unfold doS at e ⊢
    by_cases o1 : o.1 = 1
    · rw [if_pos o1] at e ⊢
      obtain ⟨a1, a2, a3, a4, a5, a6, a7⟩ := fReq_ok e
      refine ⟨a2, ?_⟩
      simp only [a7, o1, if_true, Int.reduceEq, if_false]
      exact ⟨h2, by omega, h4, h5, by omega, by omega, h8⟩
    · rw [if_neg o1] at e ⊢
      by_cases o2 : o.1 = 2
      · rw [if_pos o2] at e ⊢
        obtain ⟨a1, a2, a3, a4, a5, a6⟩ := fSend_ok e
        refine ⟨a2, ?_⟩
        simp only [a6, o2, if_true, Int.reduceEq, if_false, List.length_append, List.length_cons, List.length_nil]
        exact ⟨h2, h3, by omega, h5, by omega, by omega, by rw [← List.append_assoc, h8, List.append_assoc]⟩
      · rw [if_neg o2] at e ⊢
        by_cases o3 : o.1 = 3
        · rw [if_pos o3] at e ⊢
          obtain ⟨a1, a2, x, l, a4, a5⟩ := fTake_ok e
          rw [a5] at a2 ⊢
          refine ⟨a2, ?_⟩
          simp only [o3, if_true, Int.reduceEq, if_false, List.length_append, List.length_cons, List.length_nil]
          exact ⟨h2, h3, h4, by omega, by omega, by omega, by rw [h8, a4]; simp⟩
        · rw [if_neg o3] at e ⊢
          obtain ⟨a1, a2, a3, a4⟩ := fClose_ok e
          refine ⟨a2, ?_⟩
          simp only [a4, o1, o2, o3, if_false]
          exact ⟨h2, h3, h4, h5, by omega, by omega, h8⟩
  · rw [if_pos e]
    exact ⟨h1, h2, h3, h4, h5, by omega, by omega, h8⟩

theorem runS_inv {c0 : Cred} (h0 : fCheck c0 = 0) (l : List (Int × Int)) : ∀ i, i ≤ l.length → RunInv c0 i (runS c0 (l.take i)) := by
  intro i
  induction i with
  | zero =>
    intro _
    simp only [List.take_zero, runS, List.foldl_nil]
    exact ⟨h0, rfl, by simp, by simp, by simp, by simp, by simp, by simp⟩
  | succ i ih =>
    intro h
    rw [runS_take (d := (0, 0)) (by omega)]
    exact stepS_inv (ih (by omega))

@[reducible] def dEdges : AK := .dat false (.sl tEdge)
def c30 : Ctr := fnC [dCred, dEdges] [(true, tCred), (false, tI), (false, tIs), (false, tIs)] (fun y => fCheck y.1 = 0 ∧ y.2.1.length ≤ 1000) (fun y => ((runS y.1 y.2.1).1, (runS y.1 y.2.1).2.1, (runS y.1 y.2.1).2.2.1, (runS y.1 y.2.1).2.2.2, ()))
set_option maxRecDepth 100000 in
set_option maxHeartbeats 4000000 in
theorem good30 : GoodC Try.prog 30 c30 := by
  refine goodF cxM_good 3 _ _ _ _ ⟨_, Try.func30, rfl, rfl⟩ fun (⟨⟨cap, gr, se, ta, xs, cl⟩, l, _⟩ : Cred × List (Int × Int) × Unit) hneed => ?_
  refine (And.intro (by rfl) (fun h0 => ?_))
  refine ex4 _ (fun p : Nat × RunSt => ⟨[.any, .sl tEdge l, .ptr 0 0, .any, .ptr 1 0, .any, .any, .any, .int .i64 p.2.2.1, .own 2, .own 3, .any, .any, .any, .any, .any, .sl tEdge l, .int .i64 (↑l.length : Int), .int .i64 (p.1 : Int), .any, .any, .any, .any, .any, .any, .any, .any, .any, .any, .any, .any, .any, .any, .any, .any, .any, .any, .any, .any, .any, .any, .any, .any, .any, .any, .any, .any, .any, .any, .any, .any, .any, .any, .any, .any, .any, .any, .any], [.cells [.int .i64 p.2.1.1, .int .i64 p.2.1.2.1, .int .i64 p.2.1.2.2.1, .int .i64 p.2.1.2.2.2.1, .sl tI p.2.1.2.2.2.2.1, .bool p.2.1.2.2.2.2.2], .cells   [.int .i64 0, .int .i64 0, .int .i64 0, .int .i64 0, .cap0, .bool false], .rows tI p.2.2.2.1, .rows tI p.2.2.2.2], 4⟩) (fun p => p.1 ≤ l.length ∧ p.2 = runS (cap, gr, se, ta, xs, cl) (l.take p.1)) (fun p => l.length - p.1) (And.intro (Exists.intro ((0, ((cap, gr, se, ta, xs, cl), 0, [], []))) (Exists.intro ([some 0, some 1, none, none]) (And.intro ?_ (And.intro (by rfl) (And.intro (by rfl) (And.intro (And.intro (And.intro (by rfl) (by rfl)) (And.intro (And.intro (by rfl) (by rfl)) (And.intro (by rfl) (And.intro (by rfl) True.intro)))) (by rfl))))))) ?_)
  · simp [runS]
  rintro ⟨i, s⟩ ⟨hi, hs⟩
  simp only at hi hs
  simp only at hneed
  have hinv := runS_inv (c0 := (cap, gr, se, ta, xs, cl)) hneed.1 l i hi
  rw [← hs] at hinv
  obtain ⟨v1, v2, v3, v4, v5, v6, v7, v8⟩ := hinv
  refine (And.intro (fun k0 => (And.intro (by intros; (try subst_vars); (try simp only [Bool.cond_true_left, Bool.cond_false_right, Bool.or_eq_true, Bool.or_eq_false_iff, Bool.and_eq_true, Bool.not_eq_true', Bool.not_eq_false', decide_eq_true_eq, decide_eq_false_iff_not, Int.not_lt, Int.not_le] at *); (try simp only [inK, big, lim, List.length_cons, List.length_nil, List.length_append, List.length_drop, List.length_take, List.length_replicate] at *); omega) (And.intro True.intro (fun (k1 : (Int × Int × Int × Int × List Int × Bool) × Int × Int × PUnit) => (fun k2 => (And.intro (fun k3 => (And.intro (by intros; (try subst_vars); (try simp only [Bool.cond_true_left, Bool.cond_false_right, Bool.or_eq_true, Bool.or_eq_false_iff, Bool.and_eq_true, Bool.not_eq_true', Bool.not_eq_false', decide_eq_true_eq, decide_eq_false_iff_not, Int.not_lt, Int.not_le] at *); (try simp only [inK, big, lim, List.length_cons, List.length_nil, List.length_append, List.length_drop, List.length_take, List.length_replicate] at *); omega) ?_)) (fun k3 => (And.intro (fun k4 => (And.intro ?_ (And.intro (by intros; (try subst_vars); (try simp only [Bool.cond_true_left, Bool.cond_false_right, Bool.or_eq_true, Bool.or_eq_false_iff, Bool.and_eq_true, Bool.not_eq_true', Bool.not_eq_false', decide_eq_true_eq, decide_eq_false_iff_not, Int.not_lt, Int.not_le] at *); (try simp only [inK, big, lim, List.length_cons, List.length_nil, List.length_append, List.length_drop, List.length_take, List.length_replicate] at *); omega) ?_))) (fun k4 => (And.intro (fun k5 => (And.intro (by intros; (try subst_vars); (try simp only [Bool.cond_true_left, Bool.cond_false_right, Bool.or_eq_true, Bool.or_eq_false_iff, Bool.and_eq_true, Bool.not_eq_true', Bool.not_eq_false', decide_eq_true_eq, decide_eq_false_iff_not, Int.not_lt, Int.not_le] at *); (try simp only [inK, big, lim, List.length_cons, List.length_nil, List.length_append, List.length_drop, List.length_take, List.length_replicate] at *); omega) (And.intro (by intros; (try subst_vars); (try simp only [Bool.cond_true_left, Bool.cond_false_right, Bool.or_eq_true, Bool.or_eq_false_iff, Bool.and_eq_true, Bool.not_eq_true', Bool.not_eq_false', decide_eq_true_eq, decide_eq_false_iff_not, Int.not_lt, Int.not_le] at *); (try simp only [inK, big, lim, List.length_cons, List.length_nil, List.length_append, List.length_drop, List.length_take, List.length_replicate] at *); omega) ?_))) (fun k5 => (And.intro (fun k6 => (And.intro (by intros; (try subst_vars); (try simp only [Bool.cond_true_left, Bool.cond_false_right, Bool.or_eq_true, Bool.or_eq_false_iff, Bool.and_eq_true, Bool.not_eq_true', Bool.not_eq_false', decide_eq_true_eq, decide_eq_false_iff_not, Int.not_lt, Int.not_le] at *); (try simp only [inK, big, lim, List.length_cons, List.length_nil, List.length_append, List.length_drop, List.length_take, List.length_replicate] at *); omega) (And.intro (by intros; (try subst_vars); (try simp only [Bool.cond_true_left, Bool.cond_false_right, Bool.or_eq_true, Bool.or_eq_false_iff, Bool.and_eq_true, Bool.not_eq_true', Bool.not_eq_false', decide_eq_true_eq, decide_eq_false_iff_not, Int.not_lt, Int.not_le] at *); (try simp only [inK, big, lim, List.length_cons, List.length_nil, List.length_append, List.length_drop, List.length_take, List.length_replicate] at *); omega) ?_))) (fun k6 => (And.intro (by intros; (try subst_vars); (try simp only [Bool.cond_true_left, Bool.cond_false_right, Bool.or_eq_true, Bool.or_eq_false_iff, Bool.and_eq_true, Bool.not_eq_true', Bool.not_eq_false', decide_eq_true_eq, decide_eq_false_iff_not, Int.not_lt, Int.not_le] at *); (try simp only [inK, big, lim, List.length_cons, List.length_nil, List.length_append, List.length_drop, List.length_take, List.length_replicate] at *); omega) ?_)))))))))))))) (fun k0 => (fin_of rfl ?_)))
  · have hi' : i < l.length := by simp at k0; omega
    have k2' : k1 = ((doS s.1 (l.getD i (dflt tEdge))).1, (doS s.1 (l.getD i (dflt tEdge))).2.1, (doS s.1 (l.getD i (dflt tEdge))).2.2, ()) := k2
    clear k2
    refine Exists.intro ((i + 1, s)) (Exists.intro ([some 0, some 1, some 2, some 3]) (And.intro ?_ (And.intro ?_ (And.intro (by rfl) (And.intro (by rfl) (And.intro (And.intro (And.intro (by rfl) (by rfl)) (And.intro (And.intro (by rfl) (by rfl)) (And.intro (by rfl) (And.intro (by rfl) True.intro)))) (by rfl)))))))
    · refine ⟨hi', ?_⟩
      rw [runS_take (d := dflt tEdge) hi', ← hs]
      clear hs
      subst k2'
      simp only [Int.toNat_natCast, Bool.cond_true_left, Bool.cond_false_right, Bool.or_eq_true, Bool.or_eq_false_iff, Bool.and_eq_true, Bool.not_eq_true', Bool.not_eq_false', decide_eq_true_eq, decide_eq_false_iff_not] at k3
      simp at k3
      simp [stepS, k3]
    · simp only; omega
  · have k2' : k1 = ((doS s.1 (l.getD i (dflt tEdge))).1, (doS s.1 (l.getD i (dflt tEdge))).2.1, (doS s.1 (l.getD i (dflt tEdge))).2.2, ()) := k2
    clear k2
    subst k2'
    simp only [Int.toNat_natCast, Bool.cond_true_left, Bool.cond_false_right, Bool.or_eq_true, Bool.or_eq_false_iff, Bool.and_eq_true, Bool.not_eq_true', Bool.not_eq_false', decide_eq_true_eq, decide_eq_false_iff_not] at k3 k4 ⊢
    simp only [doS, k4, if_true] at k3
    obtain ⟨a1, a2, a3, a4, a5, a6, a7⟩ := fReq_ok k3
    have hb := (ok_iff _).1 hneed.1
    have hb1 := (ok_iff _).1 a1
    simp only at hb v3
    simp only [inK]
    omega
  · have hi' : i < l.length := by simp at k0; omega
    have k2' : k1 = ((doS s.1 (l.getD i (dflt tEdge))).1, (doS s.1 (l.getD i (dflt tEdge))).2.1, (doS s.1 (l.getD i (dflt tEdge))).2.2, ()) := k2
    clear k2
    refine Exists.intro ((i + 1, (k1.1, s.2.1 + (l.getD i (dflt tEdge)).2, s.2.2.1, s.2.2.2))) (Exists.intro ([some 0, some 1, some 2, some 3]) (And.intro ?_ (And.intro ?_ (And.intro (by rfl) (And.intro (by rfl) (And.intro (And.intro (And.intro (by rfl) (by rfl)) (And.intro (And.intro (by rfl) (by rfl)) (And.intro (by rfl) (And.intro (by rfl) True.intro)))) (by rfl)))))))
    · refine ⟨hi', ?_⟩
      rw [runS_take (d := dflt tEdge) hi', ← hs]
      clear hs
      subst k2'
      simp only [Int.toNat_natCast, Bool.cond_true_left, Bool.cond_false_right, Bool.or_eq_true, Bool.or_eq_false_iff, Bool.and_eq_true, Bool.not_eq_true', Bool.not_eq_false', decide_eq_true_eq, decide_eq_false_iff_not] at k3 k4
      simp at k3 k4
      simp [stepS, k3, k4]
    · simp only; omega
  · have hi' : i < l.length := by simp at k0; omega
    have k2' : k1 = ((doS s.1 (l.getD i (dflt tEdge))).1, (doS s.1 (l.getD i (dflt tEdge))).2.1, (doS s.1 (l.getD i (dflt tEdge))).2.2, ()) := k2
    clear k2
    refine Exists.intro ((i + 1, (k1.1, s.2.1, s.2.2.1 ++ [(l.getD i (dflt tEdge)).2], s.2.2.2))) (Exists.intro ([some 0, some 1, some 7, some 3]) (And.intro ?_ (And.intro ?_ (And.intro (by rfl) (And.intro (by rfl) (And.intro (And.intro (And.intro (by rfl) (by rfl)) (And.intro (And.intro (by rfl) (by rfl)) (And.intro (by rfl) (And.intro (by rfl) True.intro)))) (by rfl)))))))
    · refine ⟨hi', ?_⟩
      rw [runS_take (d := dflt tEdge) hi', ← hs]
      clear hs
      subst k2'
      simp only [Int.toNat_natCast, Bool.cond_true_left, Bool.cond_false_right, Bool.or_eq_true, Bool.or_eq_false_iff, Bool.and_eq_true, Bool.not_eq_true', Bool.not_eq_false', decide_eq_true_eq, decide_eq_false_iff_not] at k3 k4 k5
      simp at k3 k4 k5
      simp [stepS, k3, k4, k5]
    · simp only; omega
  · have hi' : i < l.length := by simp at k0; omega
    have k2' : k1 = ((doS s.1 (l.getD i (dflt tEdge))).1, (doS s.1 (l.getD i (dflt tEdge))).2.1, (doS s.1 (l.getD i (dflt tEdge))).2.2, ()) := k2
    clear k2
    refine Exists.intro ((i + 1, (k1.1, s.2.1, s.2.2.1, s.2.2.2 ++ [k1.2.1]))) (Exists.intro ([some 0, some 1, some 2, some 7]) (And.intro ?_ (And.intro ?_ (And.intro (by rfl) (And.intro (by rfl) (And.intro (And.intro (And.intro (by rfl) (by rfl)) (And.intro (And.intro (by rfl) (by rfl)) (And.intro (by rfl) (And.intro (by rfl) True.intro)))) (by rfl)))))))
    · refine ⟨hi', ?_⟩
      rw [runS_take (d := dflt tEdge) hi', ← hs]
      clear hs
      subst k2'
      simp only [Int.toNat_natCast, Bool.cond_true_left, Bool.cond_false_right, Bool.or_eq_true, Bool.or_eq_false_iff, Bool.and_eq_true, Bool.not_eq_true', Bool.not_eq_false', decide_eq_true_eq, decide_eq_false_iff_not] at k3 k4 k5 k6
      simp at k3 k4 k5 k6
      simp [stepS, k3, k4, k5, k6]
    · simp only; omega
  · have hi' : i < l.length := by simp at k0; omega
    have k2' : k1 = ((doS s.1 (l.getD i (dflt tEdge))).1, (doS s.1 (l.getD i (dflt tEdge))).2.1, (doS s.1 (l.getD i (dflt tEdge))).2.2, ()) := k2
    clear k2
    refine Exists.intro ((i + 1, (k1.1, s.2.1, s.2.2.1, s.2.2.2))) (Exists.intro ([some 0, some 1, some 2, some 3]) (And.intro ?_ (And.intro ?_ (And.intro (by rfl) (And.intro (by rfl) (And.intro (And.intro (And.intro (by rfl) (by rfl)) (And.intro (And.intro (by rfl) (by rfl)) (And.intro (by rfl) (And.intro (by rfl) True.intro)))) (by rfl)))))))
    · refine ⟨hi', ?_⟩
      rw [runS_take (d := dflt tEdge) hi', ← hs]
      clear hs
      subst k2'
      simp only [Int.toNat_natCast, Bool.cond_true_left, Bool.cond_false_right, Bool.or_eq_true, Bool.or_eq_false_iff, Bool.and_eq_true, Bool.not_eq_true', Bool.not_eq_false', decide_eq_true_eq, decide_eq_false_iff_not] at k3 k4 k5 k6
      simp at k3 k4 k5 k6
      simp [stepS, k3, k4, k5, k6]
    · simp only; omega
  · have hi' : i = l.length := by simp at k0; omega
    rw [hi', List.take_length] at hs
    show ((runS (cap, gr, se, ta, xs, cl) l).1, (runS (cap, gr, se, ta, xs, cl) l).2.1, (runS (cap, gr, se, ta, xs, cl) l).2.2.1, (runS (cap, gr, se, ta, xs, cl) l).2.2.2, ()) = (s.1, s.2.1, s.2.2.1, s.2.2.2, ())
    rw [hs]
end Go.Proofs.Ytokkndniihhgjaa
