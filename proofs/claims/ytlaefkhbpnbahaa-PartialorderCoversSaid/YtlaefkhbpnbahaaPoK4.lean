/- Partial orders: the law Covers. -/
import Derived.Test.YtlaefkhbpnbahaaPoN3
set_option linter.unusedSimpArgs false
set_option linter.unusedVariables false
set_option maxRecDepth 100000
namespace Go.Proofs.Ytlaefkhbpnbahaa
open Go.Sx
theorem del_eq {α : Type} (c : List α) (i : Nat) (hi : i < c.length) (x : Nat) (rest : List α) :
    List.take ((i : Int).toNat + (List.take (c.length - ((i : Int) + 1).toNat) (List.drop ((i : Int) + 1).toNat c)).length)
      (List.drop 0 (List.take (0 + (((i : Int).toNat + (List.take (c.length - ((i : Int) + 1).toNat) (List.drop ((i : Int) + 1).toNat c)).length : Nat) : Int).toNat)
        (List.take (0 + (i : Int).toNat) c ++ (List.take (c.length - ((i : Int) + 1).toNat) (List.drop ((i : Int) + 1).toNat c) ++ List.drop x c)) ++ rest)) = c.eraseIdx i := by
  have e1 : ((i : Int) + 1).toNat = i + 1 := by omega
  have e2 : List.take (c.length - (i + 1)) (List.drop (i + 1) c) = List.drop (i + 1) c := List.take_of_length_le (by rw [List.length_drop]; exact Nat.le_refl _)
  rw [e1, e2]
  simp only [Int.toNat_natCast, Nat.zero_add, List.drop_zero]
  have e3 : (List.take i c ++ List.drop (i + 1) c).length = i + (List.drop (i + 1) c).length := by
    rw [List.length_append, List.length_take, Nat.min_eq_left (by omega)]
  rw [List.eraseIdx_eq_take_drop_succ, ← List.append_assoc, ← e3, List.take_append_of_le_length (Nat.le_refl _), List.take_length, List.take_append_of_le_length (Nat.le_refl _), List.take_length]
def cxF7 : Ctx := ⟨tys0, [(12, ([], c12)), (13, ([], c13)), (17, ([], c17)), (18, ([], c18)), (19, ([], c19)), (20, ([], c20)), (22, ([], c22)), (23, ([], c23)), (25, ([], c25))]⟩
theorem cxF7_good : GoodCtx Try.prog cxF7 := cx_cons good12 (cx_cons good13 (cx_cons good17 (cx_cons good18 (cx_cons good19 (cx_cons good20 (cx_cons good22 (cx_cons good23 (cx_cons good25 cx0_good))))))))
set_option maxHeartbeats 4000000 in
theorem law7 : LawOk Try.prog 7 [tI, tEs] [false, false] := by
  refine ⟨cxF7, 4, cxF7_good, fun (⟨n, l, _⟩ : Int × List Ed × Unit) fine => ?_⟩
  refine (And.intro (by first | kernel_rfl | rfl) (And.intro True.intro (And.intro (fun h0 => (And.intro True.intro (fin_of rfl (by rfl)))) (fun h0 => (And.intro True.intro (fun (h1 : List (Int × Int) × Int × PUnit) => (fun h2 => (And.intro (fun h3 => (And.intro True.intro (fun h4 => (And.intro (fun h5 => True.intro) (fin_of rfl ?_))))) (fun h3 => (And.intro True.intro (fun (h6 : List (Int × Int) × Int × PUnit) => (fun h7 => (And.intro (fun h8 => True.intro) (And.intro (fun h9 => True.intro) (And.intro (fun h10 => (fin_of rfl ?_)) (fun h10 => (fun h11 => ?_)))))))))))))))))
  · obtain ⟨c, e⟩ : ∃ c, coversF n l = c := ⟨_, rfl⟩
    subst h2
    show (true, ()) = ((bif bif decide ((coversF n l).2 = checkF n l) then decide (((coversF n l).1.length : Int) = 0) else false then true else false), ())
    have h3' : (!decide ((coversF n l).2 = 0)) = true := h3
    by_cases hc : checkF n l = 0
    · rw [coversF, if_neg (by simp [hc])] at h3'
      cases h3'
    · rw [coversF, if_pos hc]
      simp
  · subst h2
    subst h7
    have h3' : (!decide ((coversF n l).2 = 0)) = false := h3
    by_cases hc : checkF n l = 0
    · have h10' : (bif bif !decide ((genF n (coversF n l).1).2 = 0) then true else !decide ((genF n (coversF n l).1).1 = l) then true else !(coversF n l).1.all (hasF l)) = true := h10
      have e : (coversF n l).1 = covL n l := by rw [coversF, if_neg (by simp [hc])]; rfl
      rw [e, cov_gen (check_iff.1 hc), all_has.2 (show ∀ p ∈ covL n l, p ∈ l from fun p hp => (List.mem_filter.1 hp).1)] at h10'
      simp at h10'
    · rw [coversF, if_pos hc] at h3'
      exact absurd hc (by simpa using h3')
  subst h2
  subst h7
  have h3' : (!decide ((coversF n l).2 = 0)) = false := h3
  have hc : checkF n l = 0 := by
    refine Classical.byContradiction fun hc => ?_
    rw [coversF, if_pos hc] at h3'
    exact absurd hc (by simpa using h3')
  have e : (coversF n l).1 = covL n l := by rw [coversF, if_neg (by simp [hc])]; rfl
  refine ex4 _ (fun i : Nat => ⟨[.int .i64 n, .any, .any, .any, .any, .sl tE (coversF n l).1, .any, .any, .any, .any, .any, .any, .any, .any, .any, .any, .any, .any, .any, .any, .any, .any, .any, .any, .any, .any, .any, .any, .any, .any, .any, .any, .any, .any, .any, .any, .any, .any, .any, .any, .any, .any, .any, .any, .any, .any, .any, .any, .any, .any, .any, .any, .any, .any, .any, .any, .any, .sl tE (coversF n l).1, .int .i64 (↑(coversF n l).1.length : Int), .int .i64 (i : Int), .any, .any, .any, .any, .any, .any, .any, .any, .any, .any, .any, .any, .any, .any, .any, .any, .any, .any, .any, .any, .any, .any, .any, .any, .any, .any, .any, .any, .any, .any, .any], [], 0⟩) (fun i => i ≤ (coversF n l).1.length) (fun i => (coversF n l).1.length - i) (And.intro (Exists.intro (0) (Exists.intro ([]) (And.intro ?_ (And.intro (by rfl) (And.intro (by rfl) (And.intro True.intro (by rfl))))))) ?_)
  · exact Nat.zero_le _
  rintro i hi
  have clen : (coversF n l).1.length ≤ 2000 := by
    rw [e]
    exact Nat.le_trans (List.length_filter_le _ _) (check_iff.1 hc).len
  have lti : decide ((i : Int) < ((coversF n l).1.length : Int)) = true → i < (coversF n l).1.length := fun h => by have := of_decide_eq_true h; omega
  refine (And.intro (fun k0 => (And.intro (by first | exact clen | (intros; (try subst_vars); (try simp only [Bool.cond_true_left, Bool.cond_false_right, Bool.or_eq_true, Bool.or_eq_false_iff, Bool.and_eq_true, Bool.not_eq_true', Bool.not_eq_false', decide_eq_true_eq, decide_eq_false_iff_not, Int.not_lt, Int.not_le] at *); (try simp only [inK, big, lim, List.length_cons, List.length_nil, List.length_append, List.length_drop, List.length_take, List.length_replicate] at *); omega) | (have hi' := lti k0; refine ⟨⟨?_, ?_, ?_⟩, ?_⟩ <;> simp only [roomP, List.length_append, List.length_take, List.length_drop, Int.toNat_natCast] <;> omega)) (And.intro (by first | exact clen | (intros; (try subst_vars); (try simp only [Bool.cond_true_left, Bool.cond_false_right, Bool.or_eq_true, Bool.or_eq_false_iff, Bool.and_eq_true, Bool.not_eq_true', Bool.not_eq_false', decide_eq_true_eq, decide_eq_false_iff_not, Int.not_lt, Int.not_le] at *); (try simp only [inK, big, lim, List.length_cons, List.length_nil, List.length_append, List.length_drop, List.length_take, List.length_replicate] at *); omega) | (have hi' := lti k0; refine ⟨⟨?_, ?_, ?_⟩, ?_⟩ <;> simp only [roomP, List.length_append, List.length_take, List.length_drop, Int.toNat_natCast] <;> omega)) (And.intro (by first | kernel_rfl | rfl) (fun k1 => (And.intro (by first | exact clen | (intros; (try subst_vars); (try simp only [Bool.cond_true_left, Bool.cond_false_right, Bool.or_eq_true, Bool.or_eq_false_iff, Bool.and_eq_true, Bool.not_eq_true', Bool.not_eq_false', decide_eq_true_eq, decide_eq_false_iff_not, Int.not_lt, Int.not_le] at *); (try simp only [inK, big, lim, List.length_cons, List.length_nil, List.length_append, List.length_drop, List.length_take, List.length_replicate] at *); omega) | (have hi' := lti k0; refine ⟨⟨?_, ?_, ?_⟩, ?_⟩ <;> simp only [roomP, List.length_append, List.length_take, List.length_drop, Int.toNat_natCast] <;> omega)) (And.intro (fun (k2 : decide ((↑i : Int) = (↑i : Int) + (1 : Int)) = true) => absurd (of_decide_eq_true k2) (by omega)) (fun k2 => (fun k3 => (And.intro (by first | kernel_rfl | rfl) (And.intro (by first | exact clen | (intros; (try subst_vars); (try simp only [Bool.cond_true_left, Bool.cond_false_right, Bool.or_eq_true, Bool.or_eq_false_iff, Bool.and_eq_true, Bool.not_eq_true', Bool.not_eq_false', decide_eq_true_eq, decide_eq_false_iff_not, Int.not_lt, Int.not_le] at *); (try simp only [inK, big, lim, List.length_cons, List.length_nil, List.length_append, List.length_drop, List.length_take, List.length_replicate] at *); omega) | (have hi' := lti k0; refine ⟨⟨?_, ?_, ?_⟩, ?_⟩ <;> simp only [roomP, List.length_append, List.length_take, List.length_drop, Int.toNat_natCast] <;> omega)) (And.intro (by first | exact clen | (intros; (try subst_vars); (try simp only [Bool.cond_true_left, Bool.cond_false_right, Bool.or_eq_true, Bool.or_eq_false_iff, Bool.and_eq_true, Bool.not_eq_true', Bool.not_eq_false', decide_eq_true_eq, decide_eq_false_iff_not, Int.not_lt, Int.not_le] at *); (try simp only [inK, big, lim, List.length_cons, List.length_nil, List.length_append, List.length_drop, List.length_take, List.length_replicate] at *); omega) | (have hi' := lti k0; refine ⟨⟨?_, ?_, ?_⟩, ?_⟩ <;> simp only [roomP, List.length_append, List.length_take, List.length_drop, Int.toNat_natCast] <;> omega)) (And.intro (by first | exact clen | (intros; (try subst_vars); (try simp only [Bool.cond_true_left, Bool.cond_false_right, Bool.or_eq_true, Bool.or_eq_false_iff, Bool.and_eq_true, Bool.not_eq_true', Bool.not_eq_false', decide_eq_true_eq, decide_eq_false_iff_not, Int.not_lt, Int.not_le] at *); (try simp only [inK, big, lim, List.length_cons, List.length_nil, List.length_append, List.length_drop, List.length_take, List.length_replicate] at *); omega) | (have hi' := lti k0; refine ⟨⟨?_, ?_, ?_⟩, ?_⟩ <;> simp only [roomP, List.length_append, List.length_take, List.length_drop, Int.toNat_natCast] <;> omega)) (And.intro (by first | exact clen | (intros; (try subst_vars); (try simp only [Bool.cond_true_left, Bool.cond_false_right, Bool.or_eq_true, Bool.or_eq_false_iff, Bool.and_eq_true, Bool.not_eq_true', Bool.not_eq_false', decide_eq_true_eq, decide_eq_false_iff_not, Int.not_lt, Int.not_le] at *); (try simp only [inK, big, lim, List.length_cons, List.length_nil, List.length_append, List.length_drop, List.length_take, List.length_replicate] at *); omega) | (have hi' := lti k0; refine ⟨⟨?_, ?_, ?_⟩, ?_⟩ <;> simp only [roomP, List.length_append, List.length_take, List.length_drop, Int.toNat_natCast] <;> omega)) (And.intro True.intro (fun (k4 : List (Int × Int) × Int × PUnit) => (fun k5 => (And.intro (by first | kernel_rfl | rfl) (And.intro (fun k6 => (by first | exact clen | (intros; (try subst_vars); (try simp only [Bool.cond_true_left, Bool.cond_false_right, Bool.or_eq_true, Bool.or_eq_false_iff, Bool.and_eq_true, Bool.not_eq_true', Bool.not_eq_false', decide_eq_true_eq, decide_eq_false_iff_not, Int.not_lt, Int.not_le] at *); (try simp only [inK, big, lim, List.length_cons, List.length_nil, List.length_append, List.length_drop, List.length_take, List.length_replicate] at *); omega) | (have hi' := lti k0; refine ⟨⟨?_, ?_, ?_⟩, ?_⟩ <;> simp only [roomP, List.length_append, List.length_take, List.length_drop, Int.toNat_natCast] <;> omega))) (And.intro (fun k7 => (by first | exact clen | (intros; (try subst_vars); (try simp only [Bool.cond_true_left, Bool.cond_false_right, Bool.or_eq_true, Bool.or_eq_false_iff, Bool.and_eq_true, Bool.not_eq_true', Bool.not_eq_false', decide_eq_true_eq, decide_eq_false_iff_not, Int.not_lt, Int.not_le] at *); (try simp only [inK, big, lim, List.length_cons, List.length_nil, List.length_append, List.length_drop, List.length_take, List.length_replicate] at *); omega) | (have hi' := lti k0; refine ⟨⟨?_, ?_, ?_⟩, ?_⟩ <;> simp only [roomP, List.length_append, List.length_take, List.length_drop, Int.toNat_natCast] <;> omega))) (And.intro (fun k8 => True.intro) (And.intro (fun k9 => (fin_of rfl ?_)) (fun k9 => (And.intro (by first | exact clen | (intros; (try subst_vars); (try simp only [Bool.cond_true_left, Bool.cond_false_right, Bool.or_eq_true, Bool.or_eq_false_iff, Bool.and_eq_true, Bool.not_eq_true', Bool.not_eq_false', decide_eq_true_eq, decide_eq_false_iff_not, Int.not_lt, Int.not_le] at *); (try simp only [inK, big, lim, List.length_cons, List.length_nil, List.length_append, List.length_drop, List.length_take, List.length_replicate] at *); omega) | (have hi' := lti k0; refine ⟨⟨?_, ?_, ?_⟩, ?_⟩ <;> simp only [roomP, List.length_append, List.length_take, List.length_drop, Int.toNat_natCast] <;> omega)) ?_)))))))))))))))))))))))) (fun k0 => (And.intro True.intro (fin_of rfl ?_))))
  · have hi' := lti k0
    obtain ⟨b, hb, hnb⟩ := cov_less (check_iff.1 hc) (i := i) (by rw [← e]; exact hi') (dflt tE)
    rw [← e] at hb hnb
    have k5' : k4 = ((genF n ((coversF n l).1.eraseIdx i)).1, (genF n ((coversF n l).1.eraseIdx i)).2, ()) :=
      k5.trans (congrArg (fun z => ((genF n z).1, (genF n z).2, ())) (del_eq (coversF n l).1 i hi' _ _))
    rw [hb] at k5'
    subst k5'
    have k9' : (bif !decide ((0 : Int) = 0) then true else hasF b ((coversF n l).1.getD i (dflt tE))) = true := k9
    have : hasF b ((coversF n l).1.getD i (dflt tE)) = false := by
      rw [Bool.eq_false_iff]
      exact fun h => hnb (has_iff.1 h)
    rw [this] at k9'
    cases k9'
  · have hi' := lti k0
    refine Exists.intro (i + 1) (Exists.intro ([]) (And.intro ?_ (And.intro ?_ (And.intro (by rfl) (And.intro (by rfl) (And.intro True.intro (by rfl)))))))
    · exact hi'
    · show (coversF n l).1.length - (i + 1) < (coversF n l).1.length - i
      omega
  · rfl
end Go.Proofs.Ytlaefkhbpnbahaa
