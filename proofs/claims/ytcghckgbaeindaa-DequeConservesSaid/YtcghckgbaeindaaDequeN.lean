/- Deque: the law DequeConserves, walked. -/
import Derived.Test.YtcghckgbaeindaaDequeM
set_option linter.unusedSimpArgs false
set_option linter.unusedVariables false
set_option maxRecDepth 100000
namespace Go.Proofs.Ytcghckgbaeindaa
open Go.Sx

theorem take_snoc {α : Type} {l : List α} {i : Nat} (d : α) (h : i < l.length) : l.take (i + 1) = l.take i ++ [l.getD i d] := by
  rw [List.take_add_one, List.getD_eq_getElem?_getD, List.getElem?_eq_getElem h]
  rfl
theorem push_next {l : List (Int × Int)} {i : Nat} (h : i < l.length) (h1 : (l.getD i (dflt tEdge)).1 = 1) : pushV (l.take (i + 1)) = pushV (l.take i) ++ [(l.getD i (dflt tEdge)).2] ∧ others (l.take (i + 1)) = others (l.take i) := by
  rw [take_snoc (dflt tEdge) h]
  generalize l.take i = a
  generalize l.getD i (dflt tEdge) = o at h1 ⊢
  simp [pushV, others, h1]
theorem push_other {l : List (Int × Int)} {i : Nat} (h : i < l.length) (h1 : ¬ (l.getD i (dflt tEdge)).1 = 1) : pushV (l.take (i + 1)) = pushV (l.take i) ∧ others (l.take (i + 1)) = others (l.take i) + 1 := by
  rw [take_snoc (dflt tEdge) h]
  generalize l.take i = a
  generalize l.getD i (dflt tEdge) = o at h1 ⊢
  simp [pushV, others, h1]
theorem real_in {l : List Int} {i : Nat} (h : i < l.length) (h1 : ¬ l.getD i 0 = -1) : real (l.take (i + 1)) = real (l.take i) ++ [l.getD i 0] := by
  rw [take_snoc 0 h, real_app]
  congr 1
  generalize l.getD i 0 = x at h1 ⊢
  simp [real, h1]
theorem real_out {l : List Int} {i : Nat} (h : i < l.length) (h1 : l.getD i 0 = -1) : real (l.take (i + 1)) = real (l.take i) := by
  rw [take_snoc 0 h, real_app, h1]
  simp [real]
theorem others_len (l : List (Int × Int)) (i : Nat) : others (l.take i) ≤ l.length := by
  rw [others]
  refine Nat.le_trans (List.length_filter_le _ _) ?_
  rw [List.length_take]
  exact Nat.min_le_right _ _
theorem push_len (l : List (Int × Int)) (i : Nat) : (pushV (l.take i)).length ≤ l.length := by
  rw [pushV, List.length_map]
  refine Nat.le_trans (List.length_filter_le _ _) ?_
  rw [List.length_take]
  exact Nat.min_le_right _ _
theorem real_len (l : List Int) (i : Nat) : (real (l.take i)).length ≤ l.length := by
  rw [real]
  refine Nat.le_trans (List.length_filter_le _ _) ?_
  rw [List.length_take]
  exact Nat.min_le_right _ _
def cxN : Ctx := ⟨tys0, [(11, ([], c11)), (20, ([], c20)), (21, ([], c21)), (23, ([], c23)), (26, ([], c26))]⟩
theorem cxN_good : GoodCtx Try.prog cxN := cx_cons good11 (cx_cons good20 (cx_cons good21 (cx_cons good23 (cx_cons good26 cx0_good))))
set_option maxRecDepth 100000 in
set_option maxHeartbeats 4000000 in
theorem law10w (xs : List Int) (l : List (Int × Int)) : callS cxN Try.prog (sortSem 27) 10 (argAVs [false, false] [tIs, .sl tEdge] (xs, l, ())) [] 0 (finK ⟨none, none, [], resAV [(false, .bool)] (true, ())⟩) := by
  refine (And.intro (by first | kernel_rfl | rfl) (fun h0 => (fun h1 => (And.intro (fun h2 => (And.intro True.intro (fin_of rfl (by subst_vars; rfl)))) (fun h2 => (And.intro True.intro (fun (h3 : List Int × List Int × Int × PUnit) => (fun h4 => (And.intro (fun h5 => (fun h6 => (fun h7 => (And.intro ?_ (And.intro (fun h8 => True.intro) (fin_of rfl ?_)))))) (fun h5 => (And.intro (by intros; (try subst_vars); (try simp only [Bool.cond_true_left, Bool.cond_false_right, Bool.or_eq_true, Bool.or_eq_false_iff, Bool.and_eq_true, Bool.not_eq_true', Bool.not_eq_false', decide_eq_true_eq, decide_eq_false_iff_not, Int.not_lt, Int.not_le] at *); (try simp only [inK, big, lim, List.length_cons, List.length_nil, List.length_append, List.length_drop, List.length_take, List.length_replicate] at *); omega) (fun h9 => ?_))))))))))))
  · have hf := dPlay_fail (m := xs) (l := l) (by have : ¬ h3.2.2.1 = 0 := by simpa using h5
                                                 rw [h4] at this; exact this)
    have e1 : h3.1 = [] := (congrArg (·.1) h4).trans hf.1
    have e2 : h3.2.1 = [] := (congrArg (·.2.1) h4).trans hf.2
    show -9223372036854775808 ≤ ((h3.1.length : Nat) : Int) + ((h3.2.1.length : Nat) : Int) ∧ ((h3.1.length : Nat) : Int) + ((h3.2.1.length : Nat) : Int) ≤ 9223372036854775807
    rw [e1, e2]
    decide
  · have hf := dPlay_fail (m := xs) (l := l) (by have : ¬ h3.2.2.1 = 0 := by simpa using h5
                                                 rw [h4] at this; exact this)
    have e1 : h3.1 = [] := (congrArg (·.1) h4).trans hf.1
    have e2 : h3.2.1 = [] := (congrArg (·.2.1) h4).trans hf.2
    show (true, ()) = (bif decide (((h3.1.length : Nat) : Int) + ((h3.2.1.length : Nat) : Int) = 0) then true else false, ())
    rw [e1, e2]
    rfl
  obtain ⟨m, out, e, _⟩ := h3
  have em : m = (dPlay xs l).1 := congrArg (·.1) h4
  have eo : out = (dPlay xs l).2.1 := congrArg (·.2.1) h4
  have ee : e = (dPlay xs l).2.2 := congrArg (·.2.2.1) h4
  have e0 : e = 0 := by simpa using h5
  have hll : l.length ≤ 40 ∧ xs.length ≤ 40 := by
    have := h2
    simp only [Bool.cond_eq_ite] at this
    grind
  obtain ⟨hl, hxl⟩ := hll
  obtain ⟨kp, ko, kc⟩ := kept hl (ee.symm.trans e0)
  rw [← em, ← eo] at kp
  rw [← eo] at ko
  rw [← em] at kc
  have hml := dCheck_len kc
  have hol : out.length ≤ 40 := by
    rw [ko]
    have := others_len l l.length
    rw [List.take_length] at this
    omega
  refine ex4 _ (fun p : Nat × List Int × Int => ⟨[.any, .sl tEdge l, .any, .any, .any, .sl (.int .i64) m, .sl (.int .i64) out, .any, .own 0, .int .i64 p.2.2, .any, .any, .any, .any, .any, .any, .any, .any, .any, .any, .any, .any, .any, .any, .any, .any, .any, .any, .any, .any, .any, .any, .any, .any, .any, .any, .any, .any, .any, .any, .any, .any, .any, .any, .sl tEdge l, .int .i64 (↑l.length : Int), .int .i64 (p.1 : Int), .any, .any, .any, .any, .any, .any, .any, .any, .any, .any, .any, .any, .any, .any, .any, .any, .any, .any, .any, .any, .any, .any, .any, .any, .any, .any, .any, .any, .any, .any, .any, .any, .any, .any, .any, .any, .any, .any, .any, .any, .any, .any, .any, .any, .any, .any, .any, .any, .any, .any], [.rows tI p.2.1], 1⟩) (fun p => p.1 ≤ l.length ∧ p.2.1 = xs ++ pushV (l.take p.1) ∧ p.2.2 = (others (l.take p.1) : Int)) (fun p => l.length - p.1) (And.intro (Exists.intro ((0, xs, 0)) (Exists.intro ([some 0]) (And.intro ?_ (And.intro (by rfl) (And.intro (by rfl) (And.intro (And.intro (by rfl) True.intro) (by rfl))))))) ?_)
  · exact ⟨Nat.zero_le _, (List.append_nil xs).symm, rfl⟩
  rintro ⟨i, ins, tk⟩ ⟨hi, hin, htk⟩
  simp only at hi hin htk
  have hil : ins.length ≤ 80 := by
    have := push_len l i
    rw [hin, List.length_append]
    omega
  have hot := others_len l i
  refine (And.intro (fun k0 => (And.intro (by intros; (try subst_vars); (try simp only [Bool.cond_true_left, Bool.cond_false_right, Bool.or_eq_true, Bool.or_eq_false_iff, Bool.and_eq_true, Bool.not_eq_true', Bool.not_eq_false', decide_eq_true_eq, decide_eq_false_iff_not, Int.not_lt, Int.not_le] at *); (try simp only [inK, big, lim, List.length_cons, List.length_nil, List.length_append, List.length_drop, List.length_take, List.length_replicate] at *); omega) (And.intro (fun k1 => (And.intro (by intros; (try subst_vars); (try simp only [Bool.cond_true_left, Bool.cond_false_right, Bool.or_eq_true, Bool.or_eq_false_iff, Bool.and_eq_true, Bool.not_eq_true', Bool.not_eq_false', decide_eq_true_eq, decide_eq_false_iff_not, Int.not_lt, Int.not_le] at *); (try simp only [inK, big, lim, List.length_cons, List.length_nil, List.length_append, List.length_drop, List.length_take, List.length_replicate] at *); omega) (And.intro (by intros; (try subst_vars); (try simp only [Bool.cond_true_left, Bool.cond_false_right, Bool.or_eq_true, Bool.or_eq_false_iff, Bool.and_eq_true, Bool.not_eq_true', Bool.not_eq_false', decide_eq_true_eq, decide_eq_false_iff_not, Int.not_lt, Int.not_le] at *); (try simp only [inK, big, lim, List.length_cons, List.length_nil, List.length_append, List.length_drop, List.length_take, List.length_replicate] at *); omega) ?_))) (fun k1 => (And.intro (by intros; (try subst_vars); (try simp only [Bool.cond_true_left, Bool.cond_false_right, Bool.or_eq_true, Bool.or_eq_false_iff, Bool.and_eq_true, Bool.not_eq_true', Bool.not_eq_false', decide_eq_true_eq, decide_eq_false_iff_not, Int.not_lt, Int.not_le] at *); (try simp only [inK, big, lim, List.length_cons, List.length_nil, List.length_append, List.length_drop, List.length_take, List.length_replicate] at *); omega) (And.intro (by intros; (try subst_vars); (try simp only [Bool.cond_true_left, Bool.cond_false_right, Bool.or_eq_true, Bool.or_eq_false_iff, Bool.and_eq_true, Bool.not_eq_true', Bool.not_eq_false', decide_eq_true_eq, decide_eq_false_iff_not, Int.not_lt, Int.not_le] at *); (try simp only [inK, big, lim, List.length_cons, List.length_nil, List.length_append, List.length_drop, List.length_take, List.length_replicate] at *); omega) ?_)))))) (fun k0 => (And.intro (by intros; (try subst_vars); (try simp only [Bool.cond_true_left, Bool.cond_false_right, Bool.or_eq_true, Bool.or_eq_false_iff, Bool.and_eq_true, Bool.not_eq_true', Bool.not_eq_false', decide_eq_true_eq, decide_eq_false_iff_not, Int.not_lt, Int.not_le] at *); (try simp only [inK, big, lim, List.length_cons, List.length_nil, List.length_append, List.length_drop, List.length_take, List.length_replicate] at *); omega) (fun k2 => ?_))))
  · have hn : i < l.length := by simpa using k0
    obtain ⟨e1, e2⟩ := push_next hn (of_decide_eq_true k1)
    refine Exists.intro ((i + 1, ins ++ [(l.getD i (dflt tEdge)).2], tk)) (Exists.intro ([some 3]) (And.intro ?_ (And.intro ?_ (And.intro (by rfl) (And.intro (by rfl) (And.intro (And.intro (by rfl) True.intro) (by rfl)))))))
    · refine ⟨hn, ?_, ?_⟩
      · show ins ++ [_] = xs ++ pushV (l.take (i + 1))
        rw [e1, hin, List.append_assoc]
      · show tk = (others (l.take (i + 1)) : Int)
        rw [e2, htk]
    · show l.length - (i + 1) < l.length - i
      omega
  · have hn : i < l.length := by simpa using k0
    obtain ⟨e1, e2⟩ := push_other hn (of_decide_eq_false k1)
    refine Exists.intro ((i + 1, ins, tk + 1)) (Exists.intro ([some 0]) (And.intro ?_ (And.intro ?_ (And.intro (by rfl) (And.intro (by rfl) (And.intro (And.intro (by rfl) True.intro) (by rfl)))))))
    · refine ⟨hn, ?_, ?_⟩
      · show ins = xs ++ pushV (l.take (i + 1))
        rw [e1, hin]
      · show tk + 1 = (others (l.take (i + 1)) : Int)
        rw [e2, htk]
        rfl
    · show l.length - (i + 1) < l.length - i
      omega
  have hn : ¬ i < l.length := by simpa using k0
  have hi' : l.take i = l := List.take_of_length_le (by omega)
  rw [hi'] at hin htk
  refine ex4 _ (fun p : Nat × List Int => ⟨[.any, .any, .any, .any, .any, .sl (.int .i64) m, .sl (.int .i64) out, .any, .own 0, .int .i64 tk, .any, .any, .own 1, .any, .any, .any, .any, .any, .any, .any, .any, .any, .any, .any, .any, .any, .any, .any, .any, .any, .any, .any, .any, .any, .any, .any, .any, .any, .any, .any, .any, .any, .any, .any, .any, .any, .any, .any, .any, .any, .any, .any, .any, .any, .any, .any, .any, .any, .any, .any, .any, .any, .any, .sl (.int .i64) out, .int .i64 (↑out.length : Int), .int .i64 (p.1 : Int), .any, .any, .any, .any, .any, .any, .any, .any, .any, .any, .any, .any, .any, .any, .any, .any, .any, .any, .any, .any, .any, .any, .any, .any, .any, .any, .any, .any, .any, .any, .any], [.rows tI ins, .rows tI p.2], 2⟩) (fun p => p.1 ≤ out.length ∧ p.2 = m ++ real (out.take p.1)) (fun p => out.length - p.1) (And.intro (Exists.intro ((0, m)) (Exists.intro ([some 0, some 1]) (And.intro ?_ (And.intro (by rfl) (And.intro (by rfl) (And.intro (And.intro (by rfl) (And.intro (by rfl) True.intro)) (by rfl))))))) ?_)
  · exact ⟨Nat.zero_le _, (List.append_nil m).symm⟩
  rintro ⟨j, en⟩ ⟨hj, hen⟩
  simp only at hj hen
  have hel : en.length ≤ 80 := by
    have := real_len out j
    rw [hen, List.length_append]
    omega
  refine (And.intro (fun u0 => (And.intro (by intros; (try subst_vars); (try simp only [Bool.cond_true_left, Bool.cond_false_right, Bool.or_eq_true, Bool.or_eq_false_iff, Bool.and_eq_true, Bool.not_eq_true', Bool.not_eq_false', decide_eq_true_eq, decide_eq_false_iff_not, Int.not_lt, Int.not_le] at *); (try simp only [inK, big, lim, List.length_cons, List.length_nil, List.length_append, List.length_drop, List.length_take, List.length_replicate] at *); omega) (And.intro (fun u1 => (And.intro (by intros; (try subst_vars); (try simp only [Bool.cond_true_left, Bool.cond_false_right, Bool.or_eq_true, Bool.or_eq_false_iff, Bool.and_eq_true, Bool.not_eq_true', Bool.not_eq_false', decide_eq_true_eq, decide_eq_false_iff_not, Int.not_lt, Int.not_le] at *); (try simp only [inK, big, lim, List.length_cons, List.length_nil, List.length_append, List.length_drop, List.length_take, List.length_replicate] at *); omega) (And.intro (by intros; (try subst_vars); (try simp only [Bool.cond_true_left, Bool.cond_false_right, Bool.or_eq_true, Bool.or_eq_false_iff, Bool.and_eq_true, Bool.not_eq_true', Bool.not_eq_false', decide_eq_true_eq, decide_eq_false_iff_not, Int.not_lt, Int.not_le] at *); (try simp only [inK, big, lim, List.length_cons, List.length_nil, List.length_append, List.length_drop, List.length_take, List.length_replicate] at *); omega) ?_))) (fun u1 => (And.intro (by intros; (try subst_vars); (try simp only [Bool.cond_true_left, Bool.cond_false_right, Bool.or_eq_true, Bool.or_eq_false_iff, Bool.and_eq_true, Bool.not_eq_true', Bool.not_eq_false', decide_eq_true_eq, decide_eq_false_iff_not, Int.not_lt, Int.not_le] at *); (try simp only [inK, big, lim, List.length_cons, List.length_nil, List.length_append, List.length_drop, List.length_take, List.length_replicate] at *); omega) ?_))))) (fun u0 => (And.intro (by rfl) ?_)))
  · have hm : j < out.length := by simpa using u0
    have hx : ¬ out.getD j 0 = -1 := by
      have h1 : (!decide (out.getD j 0 = -1)) = true := u1
      simpa using h1
    refine Exists.intro ((j + 1, en ++ [out.getD j 0])) (Exists.intro ([some 0, some 3]) (And.intro ?_ (And.intro ?_ (And.intro (by rfl) (And.intro (by rfl) (And.intro (And.intro (by rfl) (And.intro (by rfl) True.intro)) (by rfl)))))))
    · refine ⟨hm, ?_⟩
      show en ++ [_] = m ++ real (out.take (j + 1))
      rw [real_in hm hx, hen, List.append_assoc]
    · show out.length - (j + 1) < out.length - j
      omega
  · have hm : j < out.length := by simpa using u0
    have hx : out.getD j 0 = -1 := by
      have h1 : (!decide (out.getD j 0 = -1)) = false := u1
      simpa using h1
    refine Exists.intro ((j + 1, en)) (Exists.intro ([some 0, some 1]) (And.intro ?_ (And.intro ?_ (And.intro (by rfl) (And.intro (by rfl) (And.intro (And.intro (by rfl) (And.intro (by rfl) True.intro)) (by rfl)))))))
    · refine ⟨hm, ?_⟩
      show en = m ++ real (out.take (j + 1))
      rw [real_out hm hx, hen]
    · show out.length - (j + 1) < out.length - j
      omega
  have hm : ¬ j < out.length := by simpa using u0
  rw [List.take_of_length_le (by omega)] at hen
  refine ⟨0, ins, by kernel_rfl, by kernel_rfl, by omega, ?_⟩
  refine (And.intro (by rfl) ?_)
  refine ⟨1, en, by kernel_rfl, by kernel_rfl, by omega, ?_⟩
  refine (fun w0 => (And.intro (fun w1 => True.intro) (And.intro (fun w2 => True.intro) (And.intro (fun w3 => True.intro) (fin_of rfl ?_)))))
  have a1 : (out.length : Int) = tk := by rw [htk, ko]
  have a2 : sortI ins = sortI en := by rw [hin, hen, kp]
  show (true, ()) = (bif bif bif decide ((out.length : Int) = tk) then decide (sortI ins = sortI en) else false then decide (dCheck m = 0) else false then true else false, ())
  rw [decide_eq_true a1, decide_eq_true a2, decide_eq_true kc]
  rfl
theorem law10 : LawOkS Try.prog 10 [tIs, .sl tEdge] [false, false] := by
  refine ⟨callS cxN Try.prog (sortSem 27), callS_ok cxN_good (drawnOk cxN_good) sort27, fun (⟨xs, l, _⟩ : List Int × List (Int × Int) × Unit) _ => ?_⟩
  exact law10w xs l
end Go.Proofs.Ytcghckgbaeindaa
