/- Stages: the law of doing it twice. -/
import Derived.Test.YticmijfmgmkkcaaGreatZa7
set_option linter.unusedSimpArgs false
set_option linter.unusedVariables false
set_option maxRecDepth 100000
namespace Go.Proofs.YticmijfmgmkkcaaGreat
open Go.Sx

theorem str_one {l : List Int} (h1 : l.length ≤ 200) (h2 : l.any notNum = false) : strF [l] = 0 := by
  simp only [strF]
  rw [if_neg (by show ¬ decide (200 < (l.length : Int)) = true; simp; omega), if_neg (by rw [h2]; simp)]
theorem any_sub {l m : List Int} (h : l.any notNum = false) (hs : ∀ x ∈ m, x ∈ l) : m.any notNum = false :=
  List.any_eq_false.2 fun x hx => List.any_eq_false.1 h x (hs x hx)
theorem long_one {l : List Int} (h : l.length ≤ 200) : [l].any longB = false := by
  have : ¬ 200 < (l.length : Int) := by omega
  simp [longB, this]
theorem one_of {ins : List (List Int)} (h : ins.length = 1) : ins = [ins.getD 0 []] := by
  match ins, h with
  | [a], _ => rfl
theorem chk_take {z m : Int} {e : ExprT} {l : List Int} (h : stChk (6, z, e, l) = 0) (h0 : 0 ≤ m) (h1 : m ≤ 200) : stChk (6, m, e, l) = 0 := by
  rw [stChk_in (by show (1 : Int) ≤ 6; decide) (by show (6 : Int) ≤ 10; decide)] at h ⊢
  unfold chkH at h ⊢
  have e1 : ck1 (knownF 6) (6, m, e, l) = ck1 (knownF 6) (6, z, e, l) := rfl
  have e3 : ck3 (6, m, e, l) = ck3 (6, z, e, l) := rfl
  have e2 : ck2 (knownF 6) (6, m, e, l) = false := by
    show (bif decide (m < 0) then true else decide (200 < m)) = false
    rw [decide_eq_false (by omega), decide_eq_false (by omega)]; rfl
  have hc1 : ¬ ck1 (knownF 6) (6, z, e, l) = true := fun hc => by rw [if_pos hc] at h; exact absurd h (by decide)
  rw [if_neg hc1] at h
  have hc2 : ¬ ck2 (knownF 6) (6, z, e, l) = true := fun hc => by rw [if_pos hc] at h; exact absurd h (by decide)
  rw [if_neg hc2] at h
  show (if ck1 (knownF 6) (6, m, e, l) = true then (1 : Int) else if ck2 (knownF 6) (6, m, e, l) = true then 2 else _) = 0
  rw [e1, if_neg hc1, e2, if_neg (by simp)]
  exact h
theorem twice_3 {z : Int} {e : ExprT} {l : List Int} {ins : List (List Int)} (h : (meanF (3, z, e, l) ins).2 = 0) : meanF (3, z, e, l) (meanF (3, z, e, l) ins).1 = ((meanF (3, z, e, l) ins).1, 0) := by
  obtain ⟨h0, h1, h2, h3, h4⟩ := mean_iff.1 h
  have hl : ins.length = 1 := by have h5 : (ins.length : Int) = 1 := h1; omega
  have ho : outF (3, z, e, l) ins = [(ins.getD 0 []).filter (keep1 e)] := rfl
  obtain ⟨g1, g2⟩ := strF_get (i := 0) h2 (by omega)
  replace g1 : (ins.getD 0 []).length ≤ 200 := g1
  replace g2 : (ins.getD 0 []).any notNum = false := g2
  rw [mean_eq h]
  dsimp only
  rw [ho]
  have gl : ((ins.getD 0 []).filter (keep1 e)).length ≤ 200 := Nat.le_trans (List.length_filter_le _ _) g1
  have hr : outF (3, z, e, l) [(ins.getD 0 []).filter (keep1 e)] = [(ins.getD 0 []).filter (keep1 e)] := by
    show [((ins.getD 0 []).filter (keep1 e)).filter (keep1 e)] = _
    rw [List.filter_filter]; simp
  have hm : (meanF (3, z, e, l) [(ins.getD 0 []).filter (keep1 e)]).2 = 0 := by
    refine mean_iff.2 ⟨h0, rfl, str_one gl (any_sub g2 fun x hx => (List.mem_filter.1 hx).1), ⟨fun _ a ha => h3.1 (.inr (.inl rfl)) a ((List.mem_filter.1 ha).1), by simp, by simp⟩, ?_⟩
    rw [hr]; exact long_one gl
  rw [mean_eq hm, hr]
theorem take_mean {z : Int} {e : ExprT} {l : List Int} {ins : List (List Int)} (h0 : stChk (6, z, e, l) = 0) (hl : ins.length = 1) (hs : strF ins = 0) : meanF (6, z, e, l) ins = ([(ins.getD 0 []).take z.toNat], 0) := by
  obtain ⟨g1, g2⟩ := strF_get (i := 0) hs (by omega)
  replace g1 : (ins.getD 0 []).length ≤ 200 := g1
  have ho : outF (6, z, e, l) ins = [(ins.getD 0 []).take z.toNat] := rfl
  have hm : (meanF (6, z, e, l) ins).2 = 0 := by
    refine mean_iff.2 ⟨h0, by rw [hl]; rfl, hs, ⟨by simp, by simp, by simp⟩, ?_⟩
    rw [ho]
    exact long_one (by rw [List.length_take]; omega)
  rw [mean_eq hm, ho]
theorem twice_6 {z m : Int} {e : ExprT} {l : List Int} {ins : List (List Int)} (h : (meanF (6, z, e, l) ins).2 = 0) (hm0 : 0 ≤ m) (hm1 : m ≤ 200) :
    meanF (6, m, e, l) (meanF (6, z, e, l) ins).1 = meanF (6, if m < z then m else z, e, l) ins ∧ (meanF (6, m, e, l) (meanF (6, z, e, l) ins).1).2 = 0 := by
  obtain ⟨h0, h1, h2, h3, h4⟩ := mean_iff.1 h
  have hl : ins.length = 1 := by have h5 : (ins.length : Int) = 1 := h1; omega
  have hz := chk_size h0
  replace hz : 0 ≤ z ∧ z ≤ 200 := ⟨hz.1, hz.2.1⟩
  obtain ⟨g1, g2⟩ := strF_get (i := 0) h2 (by omega)
  replace g1 : (ins.getD 0 []).length ≤ 200 := g1
  replace g2 : (ins.getD 0 []).any notNum = false := g2
  rw [take_mean h0 hl h2, take_mean (z := if m < z then m else z) (chk_take h0 (by split <;> omega) (by split <;> omega)) hl h2]
  dsimp only
  rw [take_mean (chk_take h0 hm0 hm1) rfl (str_one (by rw [List.length_take]; omega) (any_sub g2 fun x hx => List.mem_of_mem_take hx))]
  refine ⟨?_, rfl⟩
  show ([((ins.getD 0 []).take z.toNat).take m.toNat], (0 : Int)) = _
  rw [List.take_take]
  congr 3
  split <;> omega
set_option maxHeartbeats 4000000 in
theorem law3 : LawOk Tryz.prog 3 [tSt, tIss, .int .u8] [true, false, false] := by
  refine ⟨cxQ, 3, cxQ_good, fun (⟨⟨k, z, ⟨ek, eo, em, ev, ea⟩, l⟩, ins, m, _⟩ : StT × List (List Int) × Int × Unit) fine => ?_⟩
  have fm : inK .u8 m := fine.2.2.1
  have gm : inK .i64 m := by simp only [inK] at *; omega
  refine (aI (by first | kernel_rfl | rfl) (aI True.intro (aI (fun h0 => (aI True.intro (fin_of rfl (by rfl)))) (fun h0 => (aI True.intro (fun (h1 : List (List Int) × Int × PUnit) => (fun h2 => (aI (fun h3 => (aI True.intro (fin_of rfl (by rfl)))) (fun h3 => (aI (fun h4 => (aI (by omega) (aI (by decide) (aI True.intro (fun (h5 : List (List Int) × Int × PUnit) => (fun h6 => (aI True.intro (fun (h7 : List (List Int) × Int × PUnit) => (fun h8 => (aI (fun h9 => True.intro) (aI (fun h10 => True.intro) (fin_of rfl ?_)))))))))))) (fun h4 => (aI True.intro (fun (h11 : List (List Int) × Int × PUnit) => (fun h12 => (aI True.intro (fun (h13 : List (List Int) × Int × PUnit) => (fun h14 => (aI (fun h15 => True.intro) (aI (fun h16 => True.intro) (fin_of rfl ?_))))))))))))))))))))
  · have hk : k = 6 := of_decide_eq_true h4
    subst hk
    have hm : (meanF (6, z, ExprT.mk ek eo em ev ea, l) ins).2 = 0 := by
      have h : (!decide (h1.2.1 = 0)) = false := h3
      rw [h2] at h
      simpa using h
    have hr : 0 ≤ m.tmod 201 ∧ m.tmod 201 ≤ 200 := by
      have h0 : 0 ≤ m := fm.1
      have h7 := Int.tmod_lt_of_pos m (b := 201) (by decide)
      have h9 := Int.tmod_nonneg 201 h0
      omega
    obtain ⟨t1, t2⟩ := twice_6 hm hr.1 hr.2
    have a5 : h5.2.1 = 0 := by
      rw [h6]
      show (meanF (6, m.tmod 201, ExprT.mk ek eo em ev ea, l) h1.1).2 = 0
      rw [h2]; exact t2
    have a7 : h7.2.1 = 0 := by
      rw [h8]
      show (meanF (6, if m.tmod 201 < z then m.tmod 201 else z, ExprT.mk ek eo em ev ea, l) ins).2 = 0
      rw [← t1]; exact t2
    have a57 : h5.1 = h7.1 := by
      rw [h6, h8]
      show (meanF (6, m.tmod 201, ExprT.mk ek eo em ev ea, l) h1.1).1 = (meanF (6, if m.tmod 201 < z then m.tmod 201 else z, ExprT.mk ek eo em ev ea, l) ins).1
      rw [h2, ← t1]
    show (true, ()) = ((bif (bif (bif decide (h5.2.1 = 0) then decide (h7.2.1 = 0) else false) then decide (h5.1 = h7.1) else false) then true else false), ())
    rw [a5, a7, a57]; simp
  · have hk : k = 3 := by
      have h : (bif grtF (k, z, ExprT.mk ek eo em ev ea, l) ins then true else bif !decide (k = 3) then !decide (k = 6) else false) = false := h0
      have h9 : decide (k = 6) = false := h4
      rw [h9] at h
      by_cases h3 : k = 3
      · exact h3
      · rw [decide_eq_false h3] at h
        cases hg : grtF (k, z, ExprT.mk ek eo em ev ea, l) ins <;> rw [hg] at h <;> cases h
    subst hk
    have hm : (meanF (3, z, ExprT.mk ek eo em ev ea, l) ins).2 = 0 := by
      have h : (!decide (h1.2.1 = 0)) = false := h3
      rw [h2] at h
      simpa using h
    have t := twice_3 hm
    have a11 : h11.2.1 = 0 := by
      rw [h12]
      show (meanF (3, z, ExprT.mk ek eo em ev ea, l) h1.1).2 = 0
      rw [h2]
      dsimp only
      rw [t]
    have a13 : h13.2.1 = 0 := by
      rw [h14]
      show (meanF (3, if z < z then z else z, ExprT.mk ek eo em ev ea, l) ins).2 = 0
      rw [ite_self]; exact hm
    have a1 : h11.1 = h13.1 := by
      rw [h12, h14]
      show (meanF (3, z, ExprT.mk ek eo em ev ea, l) h1.1).1 = (meanF (3, if z < z then z else z, ExprT.mk ek eo em ev ea, l) ins).1
      rw [ite_self, h2]
      dsimp only
      rw [t]
    show (true, ()) = ((bif (bif (bif decide (h11.2.1 = 0) then decide (h13.2.1 = 0) else false) then decide (h11.1 = h13.1) else false) then true else false), ())
    rw [a11, a13, a1]; simp
end Go.Proofs.YticmijfmgmkkcaaGreat
