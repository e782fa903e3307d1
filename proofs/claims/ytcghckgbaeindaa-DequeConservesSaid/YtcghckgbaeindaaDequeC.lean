/- Deque: Play and the reference's Play, as contracts. -/
import Derived.Test.YtcghckgbaeindaaDequeP
set_option linter.unusedSimpArgs false
set_option linter.unusedVariables false
set_option maxRecDepth 100000
namespace Go.Proofs.Ytcghckgbaeindaa
open Go.Sx

def popS (s : List Int × List Int) : List Int × List Int := if s.1.length = 0 then (s.1, s.2 ++ [-1]) else (s.1.take (s.1.length - 1), s.2 ++ [s.1.getD (s.1.length - 1) 0])
def stealS (s : List Int × List Int) : List Int × List Int := if s.1.length = 0 then (s.1, s.2 ++ [-1]) else (s.1.drop 1, s.2 ++ [s.1.getD 0 0])
def playS : List (Int × Int) → List Int × List Int → List Int × List Int × Int
  | [], s => (s.1, s.2, 0)
  | o :: r, s => if o.1 = 1 then (if (dPush s.1 o.2).2 = 0 then playS r ((dPush s.1 o.2).1, s.2) else ([], [], (dPush s.1 o.2).2)) else if o.1 = 2 then playS r (popS s) else if o.1 = 3 then playS r (stealS s) else ([], [], 8)
def dPlay (l : List Int) (ops : List (Int × Int)) : List Int × List Int × Int :=
  if ¬ dCheck l = 0 then ([], [], dCheck l) else if 1000 < (ops.length : Int) then ([], [], 4) else playS ops (l, [])

theorem playS_drop {l : List (Int × Int)} {i : Nat} {s : List Int × List Int} (h : i < l.length) : playS (l.drop i) s =
    if (l.getD i (dflt tEdge)).1 = 1 then (if (dPush s.1 (l.getD i (dflt tEdge)).2).2 = 0 then playS (l.drop (i + 1)) ((dPush s.1 (l.getD i (dflt tEdge)).2).1, s.2) else ([], [], (dPush s.1 (l.getD i (dflt tEdge)).2).2))
    else if (l.getD i (dflt tEdge)).1 = 2 then playS (l.drop (i + 1)) (popS s) else if (l.getD i (dflt tEdge)).1 = 3 then playS (l.drop (i + 1)) (stealS s) else ([], [], 8) := by
  have e : l.getD i (dflt tEdge) = l[i] := by simp [List.getD_eq_getElem?_getD, List.getElem?_eq_getElem h]
  rw [List.drop_eq_getElem_cons h, playS, e]
theorem dPop_ok {l : List Int} (h : dCheck l = 0) : dPop l = if l.length = 0 then ([], 0, 23) else (l.take (l.length - 1), l.getD (l.length - 1) 0, 0) := by
  unfold dPop
  rw [if_neg (by simpa using h)]
theorem dSteal_ok {l : List Int} (h : dCheck l = 0) : dSteal l = if l.length = 0 then ([], 0, 23) else (l.drop 1, l.getD 0 0, 0) := by
  unfold dSteal
  rw [if_neg (by simpa using h)]

def c26f : Ctr := fnC [dIs] [(false, tIs)] (fun y => y.1.length ≤ 1000000) (fun y => (y.1, ()))
theorem good26f : GoodC Try.prog 26 c26f := by
  refine goodF cx2_good 3 _ _ _ _ ⟨_, Try.func26, rfl, rfl⟩ fun (⟨xs, _⟩ : List Int × Unit) hlen => ?_
  simp only at hlen
  refine (And.intro (by first | kernel_rfl | rfl) (fun h0 => (fun h1 => (And.intro (fun h2 => (fin_of rfl (by simp_all))) (fun h2 => (And.intro (by intros; (try subst_vars); (try simp only [Bool.cond_true_left, Bool.cond_false_right, Bool.or_eq_true, Bool.or_eq_false_iff, Bool.and_eq_true, Bool.not_eq_true', Bool.not_eq_false', decide_eq_true_eq, decide_eq_false_iff_not, Int.not_lt, Int.not_le] at *); (try simp only [inK, big, lim, List.length_cons, List.length_nil, List.length_append, List.length_drop, List.length_take, List.length_replicate] at *); omega) (fin_of rfl (by simp_all))))))))

def cx4 : Ctx := ⟨tys0, [(12, ([], c12)), (13, ([], c13)), (14, ([], c14)), (15, ([], c15)), (16, ([], c16)), (17, ([], c17)), (18, ([], c18)), (19, ([], c19)), (21, ([], c21)), (22, ([], c22)), (26, ([], c26f))]⟩
theorem cx4_good : GoodCtx Try.prog cx4 := cx_cons good12 (cx_cons good13 (cx_cons good14 (cx_cons good15 (cx_cons good16 (cx_cons good17 (cx_cons good18 (cx_cons good19 (cx_cons good21 (cx_cons good22 (cx_cons good26f cx0_good))))))))))

@[reducible] def rPlay : List (Bool × Ty) := [(false, tIs), (false, tIs), (false, tI)]
def c23 : Ctr := fnC [dIs, dEdges] rPlay (fun _ => True) (fun y => ((dPlay y.1 y.2.1).1, (dPlay y.1 y.2.1).2.1, (dPlay y.1 y.2.1).2.2, ()))
set_option maxHeartbeats 4000000 in
theorem good23 : GoodC Try.prog 23 c23 := by
  refine goodF cx4_good 4 _ _ _ _ ⟨_, Try.func23, rfl, rfl⟩ fun (⟨xs, l, _⟩ : List Int × List (Int × Int) × Unit) _ => ?_
  have hb := @dCheck_len xs
  refine (And.intro (by first | kernel_rfl | rfl) (And.intro True.intro (And.intro (fun h0 => (fin_of rfl (by (try subst_vars); (try simp only [Bool.cond_true_left, Bool.cond_false_right, Bool.or_eq_true, Bool.or_eq_false_iff, Bool.and_eq_true, Bool.not_eq_true', Bool.not_eq_false', decide_eq_true_eq, decide_eq_false_iff_not] at *); first | (rw [dPlay, if_pos (by assumption)]; done) | (rw [dPlay, if_neg (by simpa using h0), if_pos (by assumption)]; done)))) (fun h0 => (fun h1 => (And.intro (fun h2 => (fin_of rfl (by (try subst_vars); (try simp only [Bool.cond_true_left, Bool.cond_false_right, Bool.or_eq_true, Bool.or_eq_false_iff, Bool.and_eq_true, Bool.not_eq_true', Bool.not_eq_false', decide_eq_true_eq, decide_eq_false_iff_not] at *); first | (rw [dPlay, if_pos (by assumption)]; done) | (rw [dPlay, if_neg (by simpa using h0), if_pos (by assumption)]; done)))) (fun h2 => (And.intro (by intros; (try subst_vars); (try simp only [Bool.cond_true_left, Bool.cond_false_right, Bool.or_eq_true, Bool.or_eq_false_iff, Bool.and_eq_true, Bool.not_eq_true', Bool.not_eq_false', decide_eq_true_eq, decide_eq_false_iff_not, Int.not_lt, Int.not_le] at *); (try simp only [inK, big, lim, List.length_cons, List.length_nil, List.length_append, List.length_drop, List.length_take, List.length_replicate] at *); omega) (fun (h3 : List Int × PUnit) => (fun h4 => (And.intro (by first | kernel_rfl | rfl) (fun h5 => ?_))))))))))))
  have hck : dCheck xs = 0 := by simpa using h0
  simp only at h4
  subst h4
  refine ex4 _ (fun p : Nat × (List Int × List Int) => ⟨[.any, .sl tEdge l, .any, .any, .any, .any, .any, .any, .ptr 0 0, .ptr 2 0, .any, .any, .any, .any, .any, .any, .any, .any, .any, .any, .any, .any, .any, .any, .any, .any, .sl tEdge l, .int .i64 (↑l.length : Int), .int .i64 (p.1 : Int), .any, .any, .any, .any, .any, .any, .any, .any, .any, .any, .any, .any, .any, .any, .any, .any, .any, .any, .any, .any, .any, .any, .any, .any, .any, .any, .any, .any, .any, .any, .any, .any], [.cells [.sl tI p.2.1, .own 3], .cells [.val Value.nilFunc, .fn (Fn.func 36) [] [], .fn (Fn.func 38) [] [], .fn (Fn.func 40) [] []], .cells [.val Value.nilFunc, .fn (Fn.func 36) [] [], .fn (Fn.func 38) [] [], .fn (Fn.func 40) [] []], .rows tI p.2.2], 4⟩) (fun p => p.1 ≤ l.length ∧ dCheck p.2.1 = 0 ∧ p.2.2.length ≤ p.1 ∧ playS l (xs, []) = playS (l.drop p.1) p.2) (fun p => l.length - p.1) (And.intro (Exists.intro ((0, (xs, []))) (Exists.intro ([some 0, some 1, some 2, none]) (And.intro ?_ (And.intro (by rfl) (And.intro (by rfl) (And.intro (And.intro (And.intro (by rfl) (by rfl)) (And.intro (And.intro (by rfl) (by rfl)) (And.intro (And.intro (by rfl) (by rfl)) (And.intro (by rfl) True.intro)))) (by rfl))))))) ?_)
  · exact ⟨Nat.zero_le _, hck, Nat.le_refl _, rfl⟩
  rintro ⟨i, m, out⟩ ⟨hi, hc, ho, ht⟩
  simp only at hi hc ho ht
  have hml := dCheck_len hc
  have hp : dPlay xs l = playS (l.drop i) (m, out) := by rw [← ht, dPlay, if_neg (by simpa using hck), if_neg (by simpa using h2)]
  refine (And.intro (fun k0 => (And.intro (by intros; (try subst_vars); (try simp only [Bool.cond_true_left, Bool.cond_false_right, Bool.or_eq_true, Bool.or_eq_false_iff, Bool.and_eq_true, Bool.not_eq_true', Bool.not_eq_false', decide_eq_true_eq, decide_eq_false_iff_not, Int.not_lt, Int.not_le] at *); (try simp only [inK, big, lim, List.length_cons, List.length_nil, List.length_append, List.length_drop, List.length_take, List.length_replicate] at *); omega) (And.intro (fun k1 => (fin_of rfl ?_)) (fun k1 => (And.intro (by kernel_rfl) (And.intro (by intros; (try subst_vars); (try simp only [Bool.cond_true_left, Bool.cond_false_right, Bool.or_eq_true, Bool.or_eq_false_iff, Bool.and_eq_true, Bool.not_eq_true', Bool.not_eq_false', decide_eq_true_eq, decide_eq_false_iff_not, Int.not_lt, Int.not_le] at *); (try simp only [inK, big, lim, List.length_cons, List.length_nil, List.length_append, List.length_drop, List.length_take, List.length_replicate] at *); omega) ?_)))))) (fun k0 => (And.intro (by first | kernel_rfl | rfl) (fin_of rfl ?_))))
  · have hi' : i < l.length := by simp only [Bool.cond_true_left, Bool.cond_false_right, Bool.or_eq_true, Bool.or_eq_false_iff, Bool.and_eq_true, Bool.not_eq_true', Bool.not_eq_false', decide_eq_true_eq, decide_eq_false_iff_not] at *; omega
    simp only [Bool.cond_true_left, Bool.cond_false_right, Bool.or_eq_true, Bool.or_eq_false_iff, Bool.and_eq_true, Bool.not_eq_true', Bool.not_eq_false', decide_eq_true_eq, decide_eq_false_iff_not, Int.toNat_natCast, dflt] at k1 ⊢
    rw [hp, playS_drop hi']
    simp only [dflt]
    rw [if_neg (by omega), if_neg (by omega), if_neg (by omega)]
  · have hi' : i < l.length := by simp only [Bool.cond_true_left, Bool.cond_false_right, Bool.or_eq_true, Bool.or_eq_false_iff, Bool.and_eq_true, Bool.not_eq_true', Bool.not_eq_false', decide_eq_true_eq, decide_eq_false_iff_not] at *; omega
    simp only [Bool.cond_true_left, Bool.cond_false_right, Bool.or_eq_true, Bool.or_eq_false_iff, Bool.and_eq_true, Bool.not_eq_true', Bool.not_eq_false', decide_eq_true_eq, decide_eq_false_iff_not, Int.not_lt, Int.not_le, Int.toNat_natCast] at k1
    have hk : (l.getD i (dflt tEdge)).1 = 1 ∨ (l.getD i (dflt tEdge)).1 = 2 ∨ (l.getD i (dflt tEdge)).1 = 3 := by omega
    rcases hk with hk | hk | hk
    · have hd : playS (l.drop i) (m, out) = if (dPush m (l.getD i (dflt tEdge)).2).2 = 0 then playS (l.drop (i + 1)) ((dPush m (l.getD i (dflt tEdge)).2).1, out) else ([], [], (dPush m (l.getD i (dflt tEdge)).2).2) := by
        rw [playS_drop hi', if_pos hk]
      rw [show (l.getD ((i : Int)).toNat (dflt tEdge)).1 = 1 from hk]
      refine (And.intro (by rfl) (And.intro (by rfl) (And.intro (by intros; (try subst_vars); (try simp only [Bool.cond_true_left, Bool.cond_false_right, Bool.or_eq_true, Bool.or_eq_false_iff, Bool.and_eq_true, Bool.not_eq_true', Bool.not_eq_false', decide_eq_true_eq, decide_eq_false_iff_not, Int.not_lt, Int.not_le] at *); (try simp only [inK, big, lim, List.length_cons, List.length_nil, List.length_append, List.length_drop, List.length_take, List.length_replicate] at *); omega) (And.intro (by rfl) (And.intro (by rfl) (And.intro (by rfl) (And.intro (by rfl) (And.intro (by rfl) (And.intro (by rfl) (And.intro (by first | kernel_rfl | rfl) (And.intro (by first | kernel_rfl | rfl) (And.intro True.intro (fun (m0 : List Int × Int × PUnit) => (fun m1 => (And.intro (fun m2 => (And.intro (fun m3 => (fin_of rfl ?_)) (fun m3 => (And.intro (by intros; (try subst_vars); (try simp only [Bool.cond_true_left, Bool.cond_false_right, Bool.or_eq_true, Bool.or_eq_false_iff, Bool.and_eq_true, Bool.not_eq_true', Bool.not_eq_false', decide_eq_true_eq, decide_eq_false_iff_not, Int.not_lt, Int.not_le] at *); (try simp only [inK, big, lim, List.length_cons, List.length_nil, List.length_append, List.length_drop, List.length_take, List.length_replicate] at *); omega) ?_)))) (fun m2 => (And.intro (fun m4 => (fin_of rfl ?_)) (fun m4 => (And.intro (by intros; (try subst_vars); (try simp only [Bool.cond_true_left, Bool.cond_false_right, Bool.or_eq_true, Bool.or_eq_false_iff, Bool.and_eq_true, Bool.not_eq_true', Bool.not_eq_false', decide_eq_true_eq, decide_eq_false_iff_not, Int.not_lt, Int.not_le] at *); (try simp only [inK, big, lim, List.length_cons, List.length_nil, List.length_append, List.length_drop, List.length_take, List.length_replicate] at *); omega) ?_)))))))))))))))))))
      · exfalso
        rw [m2] at m3
        simp at m3
      · have e : m0 = ((dPush m (l.getD i (dflt tEdge)).2).1, (dPush m (l.getD i (dflt tEdge)).2).2, ()) := m1
        have e0 : m0.2.1 = 0 := by simpa using m2
        refine Exists.intro ((i + 1, (m0.1, out))) (Exists.intro ([some 0, some 1, some 2, some 3]) (And.intro ?_ (And.intro ?_ (And.intro (by rfl) (And.intro (by rfl) (And.intro (And.intro (And.intro (by rfl) (by rfl)) (And.intro (And.intro (by rfl) (by rfl)) (And.intro (And.intro (by rfl) (by rfl)) (And.intro (by rfl) True.intro)))) (by rfl)))))))
        · subst e
          have hpu := push_ok e0
          exact ⟨hi', hpu.2.1, by simp only; omega, by rw [ht, hd, if_pos e0]⟩
        · simp only; omega
      · have e : m0 = ((dPush m (l.getD i (dflt tEdge)).2).1, (dPush m (l.getD i (dflt tEdge)).2).2, ()) := m1
        have e0 : ¬ m0.2.1 = 0 := by simpa using m2
        subst e
        simp only at e0 ⊢
        rw [hp, hd, if_neg e0]
      · exfalso
        rw [m2] at m4
        simp at m4
    · have hd : playS (l.drop i) (m, out) = playS (l.drop (i + 1)) (popS (m, out)) := by
        rw [playS_drop hi', if_neg (by omega), if_pos hk]
      rw [show (l.getD ((i : Int)).toNat (dflt tEdge)).1 = 2 from hk]
      refine (And.intro (by rfl) (And.intro (by rfl) (And.intro (by intros; (try subst_vars); (try simp only [Bool.cond_true_left, Bool.cond_false_right, Bool.or_eq_true, Bool.or_eq_false_iff, Bool.and_eq_true, Bool.not_eq_true', Bool.not_eq_false', decide_eq_true_eq, decide_eq_false_iff_not, Int.not_lt, Int.not_le] at *); (try simp only [inK, big, lim, List.length_cons, List.length_nil, List.length_append, List.length_drop, List.length_take, List.length_replicate] at *); omega) (And.intro (by rfl) (And.intro (by rfl) (And.intro (by rfl) (And.intro (by rfl) (And.intro (by rfl) (And.intro (by rfl) (And.intro (by first | kernel_rfl | rfl) (And.intro (by first | kernel_rfl | rfl) (And.intro True.intro (fun (m0 : List Int × Int × Int × PUnit) => (fun m1 => (And.intro (fun m2 => (And.intro (by intros; (try subst_vars); (try simp only [Bool.cond_true_left, Bool.cond_false_right, Bool.or_eq_true, Bool.or_eq_false_iff, Bool.and_eq_true, Bool.not_eq_true', Bool.not_eq_false', decide_eq_true_eq, decide_eq_false_iff_not, Int.not_lt, Int.not_le] at *); (try simp only [inK, big, lim, List.length_cons, List.length_nil, List.length_append, List.length_drop, List.length_take, List.length_replicate] at *); omega) (And.intro (fun m3 => False.elim (Bool.false_ne_true (Eq.trans (by kernel_rfl) m3))) (fun m3 => (And.intro (by intros; (try subst_vars); (try simp only [Bool.cond_true_left, Bool.cond_false_right, Bool.or_eq_true, Bool.or_eq_false_iff, Bool.and_eq_true, Bool.not_eq_true', Bool.not_eq_false', decide_eq_true_eq, decide_eq_false_iff_not, Int.not_lt, Int.not_le] at *); (try simp only [inK, big, lim, List.length_cons, List.length_nil, List.length_append, List.length_drop, List.length_take, List.length_replicate] at *); omega) ?_))))) (fun m2 => (And.intro (by intros; (try subst_vars); (try simp only [Bool.cond_true_left, Bool.cond_false_right, Bool.or_eq_true, Bool.or_eq_false_iff, Bool.and_eq_true, Bool.not_eq_true', Bool.not_eq_false', decide_eq_true_eq, decide_eq_false_iff_not, Int.not_lt, Int.not_le] at *); (try simp only [inK, big, lim, List.length_cons, List.length_nil, List.length_append, List.length_drop, List.length_take, List.length_replicate] at *); omega) (And.intro (fun m4 => False.elim (Bool.false_ne_true (Eq.trans (by kernel_rfl) m4))) (fun m4 => (And.intro (by intros; (try subst_vars); (try simp only [Bool.cond_true_left, Bool.cond_false_right, Bool.or_eq_true, Bool.or_eq_false_iff, Bool.and_eq_true, Bool.not_eq_true', Bool.not_eq_false', decide_eq_true_eq, decide_eq_false_iff_not, Int.not_lt, Int.not_le] at *); (try simp only [inK, big, lim, List.length_cons, List.length_nil, List.length_append, List.length_drop, List.length_take, List.length_replicate] at *); omega) ?_))))))))))))))))))))
      · have e : m0 = ((dPop m).1, (dPop m).2.1, (dPop m).2.2, ()) := m1
        rw [dPop_ok hc] at e
        refine Exists.intro ((i + 1, (m, out ++ [-1]))) (Exists.intro ([some 0, some 1, some 2, some 6]) (And.intro ?_ (And.intro ?_ (And.intro (by rfl) (And.intro (by rfl) (And.intro (And.intro (And.intro (by rfl) (by rfl)) (And.intro (And.intro (by rfl) (by rfl)) (And.intro (And.intro (by rfl) (by rfl)) (And.intro (by rfl) True.intro)))) (by rfl)))))))
        · by_cases hm : m.length = 0
          · exact ⟨hi', hc, by simp only [List.length_append, List.length_cons, List.length_nil]; omega, by rw [ht, hd]; simp [popS, hm]⟩
          · exfalso
            rw [e] at m2
            simp [hm] at m2
        · simp only; omega
      · have e : m0 = ((dPop m).1, (dPop m).2.1, (dPop m).2.2, ()) := m1
        rw [dPop_ok hc] at e
        refine Exists.intro ((i + 1, (m0.1, out ++ [m0.2.1]))) (Exists.intro ([some 0, some 1, some 2, some 6]) (And.intro ?_ (And.intro ?_ (And.intro (by rfl) (And.intro (by rfl) (And.intro (And.intro (And.intro (by rfl) (by rfl)) (And.intro (And.intro (by rfl) (by rfl)) (And.intro (And.intro (by rfl) (by rfl)) (And.intro (by rfl) True.intro)))) (by rfl)))))))
        · by_cases hm : m.length = 0
          · exfalso
            rw [e] at m2
            simp [hm] at m2
          · rw [if_neg hm] at e
            subst e
            exact ⟨hi', take_ok _ hc, by simp only [List.length_append, List.length_cons, List.length_nil]; omega, by rw [ht, hd]; simp [popS, hm]⟩
        · simp only; omega
    · have hd : playS (l.drop i) (m, out) = playS (l.drop (i + 1)) (stealS (m, out)) := by
        rw [playS_drop hi', if_neg (by omega), if_neg (by omega), if_pos hk]
      rw [show (l.getD ((i : Int)).toNat (dflt tEdge)).1 = 3 from hk]
      refine (And.intro (by rfl) (And.intro (by rfl) (And.intro (by intros; (try subst_vars); (try simp only [Bool.cond_true_left, Bool.cond_false_right, Bool.or_eq_true, Bool.or_eq_false_iff, Bool.and_eq_true, Bool.not_eq_true', Bool.not_eq_false', decide_eq_true_eq, decide_eq_false_iff_not, Int.not_lt, Int.not_le] at *); (try simp only [inK, big, lim, List.length_cons, List.length_nil, List.length_append, List.length_drop, List.length_take, List.length_replicate] at *); omega) (And.intro (by rfl) (And.intro (by rfl) (And.intro (by rfl) (And.intro (by rfl) (And.intro (by rfl) (And.intro (by rfl) (And.intro (by first | kernel_rfl | rfl) (And.intro (by first | kernel_rfl | rfl) (And.intro True.intro (fun (m0 : List Int × Int × Int × PUnit) => (fun m1 => (And.intro (fun m2 => (And.intro (by intros; (try subst_vars); (try simp only [Bool.cond_true_left, Bool.cond_false_right, Bool.or_eq_true, Bool.or_eq_false_iff, Bool.and_eq_true, Bool.not_eq_true', Bool.not_eq_false', decide_eq_true_eq, decide_eq_false_iff_not, Int.not_lt, Int.not_le] at *); (try simp only [inK, big, lim, List.length_cons, List.length_nil, List.length_append, List.length_drop, List.length_take, List.length_replicate] at *); omega) (And.intro (fun m3 => False.elim (Bool.false_ne_true (Eq.trans (by kernel_rfl) m3))) (fun m3 => (And.intro (by intros; (try subst_vars); (try simp only [Bool.cond_true_left, Bool.cond_false_right, Bool.or_eq_true, Bool.or_eq_false_iff, Bool.and_eq_true, Bool.not_eq_true', Bool.not_eq_false', decide_eq_true_eq, decide_eq_false_iff_not, Int.not_lt, Int.not_le] at *); (try simp only [inK, big, lim, List.length_cons, List.length_nil, List.length_append, List.length_drop, List.length_take, List.length_replicate] at *); omega) ?_))))) (fun m2 => (And.intro (by intros; (try subst_vars); (try simp only [Bool.cond_true_left, Bool.cond_false_right, Bool.or_eq_true, Bool.or_eq_false_iff, Bool.and_eq_true, Bool.not_eq_true', Bool.not_eq_false', decide_eq_true_eq, decide_eq_false_iff_not, Int.not_lt, Int.not_le] at *); (try simp only [inK, big, lim, List.length_cons, List.length_nil, List.length_append, List.length_drop, List.length_take, List.length_replicate] at *); omega) (And.intro (fun m4 => False.elim (Bool.false_ne_true (Eq.trans (by kernel_rfl) m4))) (fun m4 => (And.intro (by intros; (try subst_vars); (try simp only [Bool.cond_true_left, Bool.cond_false_right, Bool.or_eq_true, Bool.or_eq_false_iff, Bool.and_eq_true, Bool.not_eq_true', Bool.not_eq_false', decide_eq_true_eq, decide_eq_false_iff_not, Int.not_lt, Int.not_le] at *); (try simp only [inK, big, lim, List.length_cons, List.length_nil, List.length_append, List.length_drop, List.length_take, List.length_replicate] at *); omega) ?_))))))))))))))))))))
      · have e : m0 = ((dSteal m).1, (dSteal m).2.1, (dSteal m).2.2, ()) := m1
        rw [dSteal_ok hc] at e
        refine Exists.intro ((i + 1, (m, out ++ [-1]))) (Exists.intro ([some 0, some 1, some 2, some 6]) (And.intro ?_ (And.intro ?_ (And.intro (by rfl) (And.intro (by rfl) (And.intro (And.intro (And.intro (by rfl) (by rfl)) (And.intro (And.intro (by rfl) (by rfl)) (And.intro (And.intro (by rfl) (by rfl)) (And.intro (by rfl) True.intro)))) (by rfl)))))))
        · by_cases hm : m.length = 0
          · exact ⟨hi', hc, by simp only [List.length_append, List.length_cons, List.length_nil]; omega, by rw [ht, hd]; simp [stealS, hm]⟩
          · exfalso
            rw [e] at m2
            simp [hm] at m2
        · simp only; omega
      · have e : m0 = ((dSteal m).1, (dSteal m).2.1, (dSteal m).2.2, ()) := m1
        rw [dSteal_ok hc] at e
        refine Exists.intro ((i + 1, (m0.1, out ++ [m0.2.1]))) (Exists.intro ([some 0, some 1, some 2, some 6]) (And.intro ?_ (And.intro ?_ (And.intro (by rfl) (And.intro (by rfl) (And.intro (And.intro (And.intro (by rfl) (by rfl)) (And.intro (And.intro (by rfl) (by rfl)) (And.intro (And.intro (by rfl) (by rfl)) (And.intro (by rfl) True.intro)))) (by rfl)))))))
        · by_cases hm : m.length = 0
          · exfalso
            rw [e] at m2
            simp [hm] at m2
          · rw [if_neg hm] at e
            subst e
            exact ⟨hi', drop_ok _ hc, by simp only [List.length_append, List.length_cons, List.length_nil]; omega, by rw [ht, hd]; simp [stealS, hm]⟩
        · simp only; omega
  · have hi' : i = l.length := by simp only [Bool.cond_true_left, Bool.cond_false_right, Bool.or_eq_true, Bool.or_eq_false_iff, Bool.and_eq_true, Bool.not_eq_true', Bool.not_eq_false', decide_eq_true_eq, decide_eq_false_iff_not] at *; omega
    show ((dPlay xs l).1, (dPlay xs l).2.1, (dPlay xs l).2.2, ()) = (m, out, 0, ())
    rw [hp, hi', List.drop_length]
    rfl
end Go.Proofs.Ytcghckgbaeindaa
