/- Deque: the law DequeParts, walked. -/
import Derived.Test.YtcghckgbaeindaaDequeK
set_option linter.unusedSimpArgs false
set_option linter.unusedVariables false
set_option maxRecDepth 100000
namespace Go.Proofs.Ytcghckgbaeindaa
open Go.Sx

theorem playS_out : ∀ (r : List (Int × Int)) (m out : List Int), playS r (m, out) = if (playS r (m, [])).2.2 = 0 then ((playS r (m, [])).1, out ++ (playS r (m, [])).2.1, 0) else playS r (m, [])
  | [], m, out => by simp [playS]
  | o :: r, m, out => by
    have pop : ∀ q : List Int, popS (m, q) = ((popS (m, [])).1, q ++ (popS (m, [])).2) := fun q => by
      unfold popS
      split <;> simp
    have steal : ∀ q : List Int, stealS (m, q) = ((stealS (m, [])).1, q ++ (stealS (m, [])).2) := fun q => by
      unfold stealS
      split <;> simp
    by_cases h1 : o.1 = 1
    · by_cases h2 : (dPush m o.2).2 = 0
      · have e : ∀ q : List Int, playS (o :: r) (m, q) = playS r ((dPush m o.2).1, q) := fun q => by rw [playS, if_pos h1, if_pos h2]
        rw [e, e]
        exact playS_out r _ out
      · have e : ∀ q : List Int, playS (o :: r) (m, q) = ([], [], (dPush m o.2).2) := fun q => by rw [playS, if_pos h1, if_neg h2]
        rw [e, e, if_neg h2]
    · have two : ∀ (f : List Int × List Int → List Int × List Int), (∀ q : List Int, f (m, q) = ((f (m, [])).1, q ++ (f (m, [])).2)) → playS r (f (m, out)) = if (playS r (f (m, []))).2.2 = 0 then ((playS r (f (m, []))).1, out ++ (playS r (f (m, []))).2.1, 0) else playS r (f (m, [])) := by
        intro f hf
        have a1 := playS_out r (f (m, [])).1 (out ++ (f (m, [])).2)
        have a2 := playS_out r (f (m, [])).1 (f (m, [])).2
        rw [hf out, a1]
        have e2 : playS r (f (m, [])) = playS r ((f (m, [])).1, (f (m, [])).2) := rfl
        rw [e2, a2]
        by_cases h0 : (playS r ((f (m, [])).1, [])).2.2 = 0
        · rw [if_pos h0, if_pos h0, if_pos rfl, List.append_assoc]
        · rw [if_neg h0, if_neg h0, if_neg h0]
      by_cases h2 : o.1 = 2
      · have e : ∀ q : List Int, playS (o :: r) (m, q) = playS r (popS (m, q)) := fun q => by rw [playS, if_neg h1, if_pos h2]
        rw [e, e]
        exact two popS pop
      · by_cases h3 : o.1 = 3
        · have e : ∀ q : List Int, playS (o :: r) (m, q) = playS r (stealS (m, q)) := fun q => by rw [playS, if_neg h1, if_neg h2, if_pos h3]
          rw [e, e]
          exact two stealS steal
        · have e : ∀ q : List Int, playS (o :: r) (m, q) = ([], [], 8) := fun q => by rw [playS, if_neg h1, if_neg h2, if_neg h3]
          rw [e, e, if_neg (by simp)]
theorem playS_check : ∀ (r : List (Int × Int)) (m out : List Int), dCheck m = 0 → (playS r (m, out)).2.2 = 0 → dCheck (playS r (m, out)).1 = 0
  | [], m, out, h, _ => h
  | o :: r, m, out, h, h0 => by
    by_cases h1 : o.1 = 1
    · by_cases h2 : (dPush m o.2).2 = 0
      · have e : playS (o :: r) (m, out) = playS r ((dPush m o.2).1, out) := by rw [playS, if_pos h1, if_pos h2]
        rw [e] at h0 ⊢
        exact playS_check r _ _ (push_ok h2).2.1 h0
      · have e : playS (o :: r) (m, out) = ([], [], (dPush m o.2).2) := by rw [playS, if_pos h1, if_neg h2]
        rw [e] at h0
        exact absurd h0 h2
    · by_cases h2 : o.1 = 2
      · have e : playS (o :: r) (m, out) = playS r (popS (m, out)) := by rw [playS, if_neg h1, if_pos h2]
        rw [e] at h0 ⊢
        have hq : dCheck (popS (m, out)).1 = 0 := by
          unfold popS
          split
          · exact h
          · exact take_ok _ h
        exact playS_check r (popS (m, out)).1 (popS (m, out)).2 hq h0
      · by_cases h3 : o.1 = 3
        · have e : playS (o :: r) (m, out) = playS r (stealS (m, out)) := by rw [playS, if_neg h1, if_neg h2, if_pos h3]
          rw [e] at h0 ⊢
          have hq : dCheck (stealS (m, out)).1 = 0 := by
            unfold stealS
            split
            · exact h
            · exact drop_ok _ h
          exact playS_check r (stealS (m, out)).1 (stealS (m, out)).2 hq h0
        · have e : playS (o :: r) (m, out) = ([], [], 8) := by rw [playS, if_neg h1, if_neg h2, if_neg h3]
          rw [e] at h0
          simp at h0
theorem dPlay_few {m : List Int} {l : List (Int × Int)} (hm : dCheck m = 0) (h : l.length ≤ 1000) : dPlay m l = playS l (m, []) := by
  rw [dPlay, if_neg (by simpa using hm), if_neg (by omega)]
/-- What is played in two parts. -/
theorem parts {xs : List Int} {l : List (Int × Int)} (hl : l.length ≤ 40) (k : Nat) :
    ((dPlay xs (l.take k)).2.2 ≠ 0 → (dPlay xs l).2.2 = (dPlay xs (l.take k)).2.2) ∧
    ((dPlay xs (l.take k)).2.2 = 0 → (dPlay (dPlay xs (l.take k)).1 (l.drop k)).2.2 = (dPlay xs l).2.2 ∧
      ((dPlay xs l).2.2 = 0 → (dPlay (dPlay xs (l.take k)).1 (l.drop k)).1 = (dPlay xs l).1 ∧ (dPlay xs (l.take k)).2.1 ++ (dPlay (dPlay xs (l.take k)).1 (l.drop k)).2.1 = (dPlay xs l).2.1)) := by
  have hk : (l.take k).length ≤ 1000 := by rw [List.length_take]; omega
  have hd : (l.drop k).length ≤ 1000 := by rw [List.length_drop]; omega
  by_cases hx : dCheck xs = 0
  · have hap := playS_append (l.take k) (l.drop k) (xs, [])
    rw [List.take_append_drop] at hap
    rw [dPlay_few hx hk, dPlay_few hx (Nat.le_trans hl (by decide)), hap]
    by_cases h0 : (playS (l.take k) (xs, [])).2.2 = 0
    · rw [if_pos h0]
      have hc := playS_check _ _ _ hx h0
      rw [dPlay_few hc hd]
      refine ⟨fun h => absurd h0 h, fun _ => ?_⟩
      rw [playS_out (l.drop k) (playS (l.take k) (xs, [])).1 (playS (l.take k) (xs, [])).2.1]
      by_cases h1 : (playS (l.drop k) ((playS (l.take k) (xs, [])).1, [])).2.2 = 0
      · rw [if_pos h1]
        exact ⟨h1, fun _ => ⟨rfl, rfl⟩⟩
      · rw [if_neg h1]
        exact ⟨rfl, fun h => absurd h h1⟩
    · rw [if_neg h0]
      exact ⟨fun _ => rfl, fun h => absurd h h0⟩
  · have e : ∀ q : List (Int × Int), dPlay xs q = ([], [], dCheck xs) := fun q => by rw [dPlay, if_pos hx]
    rw [e, e]
    exact ⟨fun _ => rfl, fun h => absurd h hx⟩
theorem playS_len : ∀ (r : List (Int × Int)) (m out : List Int), (playS r (m, out)).2.1.length ≤ out.length + r.length
  | [], m, out => Nat.le_refl _
  | o :: r, m, out => by
    by_cases h1 : o.1 = 1
    · by_cases h2 : (dPush m o.2).2 = 0
      · have e : playS (o :: r) (m, out) = playS r ((dPush m o.2).1, out) := by rw [playS, if_pos h1, if_pos h2]
        have := playS_len r (dPush m o.2).1 out
        rw [e, List.length_cons]
        omega
      · have e : playS (o :: r) (m, out) = ([], [], (dPush m o.2).2) := by rw [playS, if_pos h1, if_neg h2]
        rw [e]
        exact Nat.zero_le _
    · by_cases h2 : o.1 = 2
      · have e : playS (o :: r) (m, out) = playS r (popS (m, out)) := by rw [playS, if_neg h1, if_pos h2]
        have h3 : (popS (m, out)).2.length = out.length + 1 := by unfold popS; split <;> simp
        have : (playS r (popS (m, out))).2.1.length ≤ (popS (m, out)).2.length + r.length := playS_len r (popS (m, out)).1 (popS (m, out)).2
        rw [e, List.length_cons]
        omega
      · by_cases h3 : o.1 = 3
        · have e : playS (o :: r) (m, out) = playS r (stealS (m, out)) := by rw [playS, if_neg h1, if_neg h2, if_pos h3]
          have h3 : (stealS (m, out)).2.length = out.length + 1 := by unfold stealS; split <;> simp
          have : (playS r (stealS (m, out))).2.1.length ≤ (stealS (m, out)).2.length + r.length := playS_len r (stealS (m, out)).1 (stealS (m, out)).2
          rw [e, List.length_cons]
          omega
        · have e : playS (o :: r) (m, out) = ([], [], 8) := by rw [playS, if_neg h1, if_neg h2, if_neg h3]
          rw [e]
          exact Nat.zero_le _
theorem dPlay_len (m : List Int) (l : List (Int × Int)) : (dPlay m l).2.1.length ≤ l.length := by
  unfold dPlay
  split
  · exact Nat.zero_le _
  · split
    · exact Nat.zero_le _
    · have := playS_len l m []
      simpa using this
def cxL : Ctx := ⟨tysK, (11, ([], c11)) :: (25, ([], c25)) :: cxK.tab⟩
theorem cxL_good : GoodCtx Try.prog cxL := cx_cons good11 (cx_cons good25 (cx_cons good12 (cx_cons good13 (cx_cons good14 (cx_cons good15 (cx_cons good16 (cx_cons good17 (cx_cons good18 (cx_cons good19 (cx_cons good20 (cx_cons good21 (cx_cons good22 (cx_cons good23 (cx_cons good26f cxKk_good))))))))))))))
set_option maxRecDepth 100000 in
set_option maxHeartbeats 4000000 in
theorem law9 : LawOk Try.prog 9 [tIs, .sl tEdge, .int .u8] [false, false, false] := by
  refine ⟨cxL, 3, cxL_good, fun (⟨xs, l, at', _⟩ : List Int × List (Int × Int) × Int × Unit) fine => ?_⟩
  have hat : inK .u8 at' := fine.2.2.1
  have ha0 := hat.1
  have ha1 : at' ≤ 255 := hat.2
  clear fine
  have hk : 0 ≤ at'.tmod ((l.length : Int) + 1) ∧ at'.tmod ((l.length : Int) + 1) ≤ (l.length : Int) := by
    have h1 := Int.tmod_lt_of_pos at' (b := (l.length : Int) + 1) (by omega)
    exact ⟨Int.tmod_nonneg _ ha0, by omega⟩
  refine (And.intro (by first | kernel_rfl | rfl) (fun h0 => (fun h1 => (And.intro (fun h2 => (And.intro True.intro (fin_of rfl (by subst_vars; rfl)))) (fun h2 => (And.intro (by first | exact hk | exact ⟨Int.le_trans (by decide) ha0, Int.le_trans ha1 (by decide)⟩ | (intros; (try subst_vars); (try simp only [Bool.cond_true_left, Bool.cond_false_right, Bool.or_eq_true, Bool.or_eq_false_iff, Bool.and_eq_true, Bool.not_eq_true', Bool.not_eq_false', decide_eq_true_eq, decide_eq_false_iff_not, Int.not_lt, Int.not_le] at *); (try simp only [inK, big, lim, List.length_cons, List.length_nil, List.length_append, List.length_drop, List.length_take, List.length_replicate] at *); omega)) (fun h3 => (And.intro (by first | exact hk | exact ⟨Int.le_trans (by decide) ha0, Int.le_trans ha1 (by decide)⟩ | (intros; (try subst_vars); (try simp only [Bool.cond_true_left, Bool.cond_false_right, Bool.or_eq_true, Bool.or_eq_false_iff, Bool.and_eq_true, Bool.not_eq_true', Bool.not_eq_false', decide_eq_true_eq, decide_eq_false_iff_not, Int.not_lt, Int.not_le] at *); (try simp only [inK, big, lim, List.length_cons, List.length_nil, List.length_append, List.length_drop, List.length_take, List.length_replicate] at *); omega)) (And.intro (by first | exact hk | exact ⟨Int.le_trans (by decide) ha0, Int.le_trans ha1 (by decide)⟩ | (intros; (try subst_vars); (try simp only [Bool.cond_true_left, Bool.cond_false_right, Bool.or_eq_true, Bool.or_eq_false_iff, Bool.and_eq_true, Bool.not_eq_true', Bool.not_eq_false', decide_eq_true_eq, decide_eq_false_iff_not, Int.not_lt, Int.not_le] at *); (try simp only [inK, big, lim, List.length_cons, List.length_nil, List.length_append, List.length_drop, List.length_take, List.length_replicate] at *); omega)) (And.intro True.intro (fun (h4 : List Int × List Int × Int × PUnit) => (fun h5 => (And.intro (by first | exact hk | exact ⟨Int.le_trans (by decide) ha0, Int.le_trans ha1 (by decide)⟩ | (intros; (try subst_vars); (try simp only [Bool.cond_true_left, Bool.cond_false_right, Bool.or_eq_true, Bool.or_eq_false_iff, Bool.and_eq_true, Bool.not_eq_true', Bool.not_eq_false', decide_eq_true_eq, decide_eq_false_iff_not, Int.not_lt, Int.not_le] at *); (try simp only [inK, big, lim, List.length_cons, List.length_nil, List.length_append, List.length_drop, List.length_take, List.length_replicate] at *); omega)) (And.intro True.intro (fun (h6 : List Int × List Int × Int × PUnit) => (fun h7 => (And.intro (fun h8 => (And.intro (fun h9 => True.intro) (fin_of rfl ?_))) (fun h8 => (And.intro (by first | exact hk | exact ⟨Int.le_trans (by decide) ha0, Int.le_trans ha1 (by decide)⟩ | (intros; (try subst_vars); (try simp only [Bool.cond_true_left, Bool.cond_false_right, Bool.or_eq_true, Bool.or_eq_false_iff, Bool.and_eq_true, Bool.not_eq_true', Bool.not_eq_false', decide_eq_true_eq, decide_eq_false_iff_not, Int.not_lt, Int.not_le] at *); (try simp only [inK, big, lim, List.length_cons, List.length_nil, List.length_append, List.length_drop, List.length_take, List.length_replicate] at *); omega)) (And.intro True.intro (fun (h10 : List Int × List Int × Int × PUnit) => (fun h11 => (And.intro (fun h12 => True.intro) (And.intro (fun h13 => ?_) (And.intro (fun h14 => True.intro) (And.intro (fun h15 => True.intro) (fin_of rfl ?_)))))))))))))))))))))))))))
  · have hll : l.length ≤ 40 := by
      have := h2
      simp only [Bool.cond_eq_ite] at this
      grind
    have P := parts (xs := xs) hll (at'.tmod ((l.length : Int) + 1)).toNat
    have h0' : ¬ h6.2.2.1 = 0 := by simpa using h8
    subst h7
    subst h5
    have e := P.1 h0'
    show (true, ()) = (bif decide ((dPlay xs l).2.2 = (dPlay xs (l.take (at'.tmod ((l.length : Int) + 1)).toNat)).2.2) then true else false, ())
    rw [decide_eq_true e]
    rfl
  · have hll : l.length ≤ 40 := by
      have := h2
      simp only [Bool.cond_eq_ite] at this
      grind
    have e1 : h6.2.1.length ≤ l.length := by
      have : h6.2.1 = (dPlay xs (l.take (at'.tmod ((l.length : Int) + 1)).toNat)).2.1 := congrArg (·.2.1) h7
      rw [this]
      refine Nat.le_trans (dPlay_len _ _) ?_
      rw [List.length_take]
      exact Nat.min_le_right _ _
    have e2 : h10.2.1.length ≤ l.length := by
      have : h10.2.1 = (dPlay h6.1 (l.drop (at'.tmod ((l.length : Int) + 1)).toNat)).2.1 := congrArg (·.2.1) h11
      rw [this]
      refine Nat.le_trans (dPlay_len _ _) ?_
      rw [List.length_drop]
      omega
    show [h6.2.1, h10.2.1].flatten.length ≤ 1000
    simp only [List.flatten_cons, List.flatten_nil, List.length_append, List.length_nil]
    omega
  · have hll : l.length ≤ 40 := by
      have := h2
      simp only [Bool.cond_eq_ite] at this
      grind
    have P := parts (xs := xs) hll (at'.tmod ((l.length : Int) + 1)).toNat
    have h0' : h6.2.2.1 = 0 := by simpa using h8
    have e6 : h6 = ((dPlay xs (l.take (at'.tmod ((l.length : Int) + 1)).toNat)).1, (dPlay xs (l.take (at'.tmod ((l.length : Int) + 1)).toNat)).2.1, (dPlay xs (l.take (at'.tmod ((l.length : Int) + 1)).toNat)).2.2, ()) := h7
    have e10 : h10 = ((dPlay h6.1 (l.drop (at'.tmod ((l.length : Int) + 1)).toNat)).1, (dPlay h6.1 (l.drop (at'.tmod ((l.length : Int) + 1)).toNat)).2.1, (dPlay h6.1 (l.drop (at'.tmod ((l.length : Int) + 1)).toNat)).2.2, ()) := h11
    have e4 : h4 = ((dPlay xs l).1, (dPlay xs l).2.1, (dPlay xs l).2.2, ()) := h5
    subst e6
    subst e10
    subst e4
    obtain ⟨e, e2⟩ := P.2 h0'
    show (true, ()) = (bif bif decide ((dPlay (dPlay xs (l.take (at'.tmod ((l.length : Int) + 1)).toNat)).1 (l.drop (at'.tmod ((l.length : Int) + 1)).toNat)).2.2 = (dPlay xs l).2.2) then bif !decide ((dPlay xs l).2.2 = 0) then true else bif decide ((dPlay (dPlay xs (l.take (at'.tmod ((l.length : Int) + 1)).toNat)).1 (l.drop (at'.tmod ((l.length : Int) + 1)).toNat)).1 = (dPlay xs l).1) then decide ([(dPlay xs (l.take (at'.tmod ((l.length : Int) + 1)).toNat)).2.1, (dPlay (dPlay xs (l.take (at'.tmod ((l.length : Int) + 1)).toNat)).1 (l.drop (at'.tmod ((l.length : Int) + 1)).toNat)).2.1].flatten = (dPlay xs l).2.1) else false else false then true else false, ())
    rw [decide_eq_true e]
    by_cases h9 : (dPlay xs l).2.2 = 0
    · obtain ⟨e3, e4⟩ := e2 h9
      rw [decide_eq_true e3, decide_eq_true (show [_, _].flatten = _ by rw [List.flatten_cons, List.flatten_cons, List.flatten_nil, List.append_nil]; exact e4)]
      cases decide ((dPlay xs l).2.2 = 0) <;> rfl
    · rw [decide_eq_false h9]
      rfl
end Go.Proofs.Ytcghckgbaeindaa
