/- Stages: the law of valid states. -/
import Derived.Test.YticmijfmgmkkcaaGreatZa9
import Derived.Test.YticmijfmgmkkcaaGreatZa7
set_option linter.unusedSimpArgs false
set_option linter.unusedVariables false
set_option maxRecDepth 100000
namespace Go.Proofs.YticmijfmgmkkcaaGreat
open Go.Sx

def cxQ9 : Ctx := ⟨tys0, [(29, ([], c29)), (12, ([], c12)), (30, ([], c30)), (31, ([], c31)), (32, ([], c32)), (21, ([], c21)), (25, ([], c25))]⟩
theorem cxQ9_good : GoodCtx Tryz.prog cxQ9 := cx_cons good29 (cx_cons good12 (cx_cons good30 (cx_cons good31 (cx_cons good32 (cx_cons good21 (cx_cons good25 cx0_good))))))
theorem stOut_ok {x : StT} (h : stChk x = 0) : stOut x = (knownF x.1).2.1 := by rw [stOut, if_pos h]
theorem need_len {x : StT} {s : SST} (h : (needF x s).2 = 0) : decide (((needF x s).1.length : Int) = 0) = (bif s.2.2 then true else decide (x.1 = 1)) := by
  obtain ⟨h0, hv⟩ := need_zero.1 h
  unfold needF
  rw [if_neg (by simp [h0]), if_neg (by simp [hv])]
  split
  · rename_i h1; rw [h1]; rfl
  · rename_i h1
    have h2 : (bif s.2.2 then true else decide (x.1 = 1)) = false := by simpa using h1
    rw [h2]
    repeat' split
    all_goals rfl
theorem end_err {x : StT} {s : SST} {i : Int} (h : (endG x s i).2.2.2 ≠ 0) : (endG x s i).2.2.1 = false := by
  unfold endG at h ⊢
  split
  · rfl
  · split
    · rfl
    · split
      · rfl
      · split
        · rfl
        · rename_i h1 h2 h3 h4
          rw [if_neg h1, if_neg h2, if_neg h3, if_neg h4] at h
          exact absurd rfl h
theorem v_take {x : StT} {s : SST} {i n : Int} {y : Rens rTk} {q : Rens rIsI} (h : y = resT (takeF x s i n)) (h0 : decide (y.2.2.1 = 0) = true)
    (hq : q = ((needF x (y.1.1, y.1.2.1, y.1.2.2)).1, (needF x (y.1.1, y.1.2.1, y.1.2.2)).2, ()))
    (hb : (bif bif !decide (q.2.1 = 0) then true else !decide ((y.2.1.length : Int) = stOut x) then true else !(y.1.2.2 == s.2.2)) = true) : False := by
  subst h
  have h1 : (takeF x s i n).2.2 = 0 := of_decide_eq_true h0
  obtain ⟨v1, v2, v3⟩ := take_valid h1
  have hc := (take_ok h1).1
  have hn : (needF x (takeF x s i n).1).2 = 0 := need_zero.2 ⟨hc, v1⟩
  subst hq
  replace hb : (bif bif !decide ((needF x (takeF x s i n).1).2 = 0) then true else !decide (((takeF x s i n).2.1.length : Int) = stOut x) then true else !((takeF x s i n).1.2.2 == s.2.2)) = true := hb
  rw [hn, stOut_ok hc, v2, v3] at hb
  simp at hb
theorem v_need {x : StT} {s : SST} {q : Rens rIsI} (hq : q = ((needF x s).1, (needF x s).2, ())) (hb : (bif decide (q.2.1 = 0) then !(decide ((q.1.length : Int) = 0) == bif s.2.2 then true else decide (x.1 = 1)) else false) = true) : False := by
  subst hq
  replace hb : (bif decide ((needF x s).2 = 0) then !(decide (((needF x s).1.length : Int) = 0) == bif s.2.2 then true else decide (x.1 = 1)) else false) = true := hb
  by_cases h : (needF x s).2 = 0
  · rw [need_len h, decide_eq_true h] at hb
    simp at hb
  · rw [decide_eq_false h] at hb; cases hb
theorem v_end {x : StT} {s : SST} {i : Int} {y : Rens rEn} {q : Rens rIsI} (h : y = resE (endG x s i)) (h0 : (!decide (y.2.2.2.1 = 0)) = false)
    (hq : q = ((needF x (y.1.1, y.1.2.1, y.1.2.2)).1, (needF x (y.1.1, y.1.2.1, y.1.2.2)).2, ()))
    (hb : (bif bif bif !decide (q.2.1 = 0) then true else !decide ((y.2.1.length : Int) = stOut x) then true else !(y.2.2.1 == y.1.2.2) then true else q.1.any (isI i)) = true) : False := by
  subst h
  have h1 : (endG x s i).2.2.2 = 0 := by
    have h2 : (!decide ((endG x s i).2.2.2 = 0)) = false := h0
    simpa using h2
  obtain ⟨⟨v1, v2, v3, v4⟩, v5⟩ := end_valid h1
  have hc := (end_ok h1).1
  have hn : (needF x (endG x s i).1).2 = 0 := need_zero.2 ⟨hc, v1⟩
  subst hq
  replace hb : (bif bif bif !decide ((needF x (endG x s i).1).2 = 0) then true else !decide (((endG x s i).2.1.length : Int) = stOut x) then true else !((endG x s i).2.2.1 == (endG x s i).1.2.2) then true else (needF x (endG x s i).1).1.any (isI i)) = true := hb
  rw [hn, stOut_ok hc, v2, v3, v5] at hb
  simp at hb
theorem v_err {x : StT} {s : SST} {i : Int} {y : Rens rEn} (h : y = resE (endG x s i)) (h0 : (!decide (y.2.2.2.1 = 0)) = true) : ((true, ()) : Bool × Unit) = (bif !y.2.2.1 then true else false, ()) := by
  subst h
  have h1 : (endG x s i).2.2.2 ≠ 0 := by
    have h2 : (!decide ((endG x s i).2.2.2 = 0)) = true := h0
    simpa using h2
  show ((true, ()) : Bool × Unit) = (bif !(endG x s i).2.2.1 then true else false, ())
  rw [end_err h1]; rfl
theorem v_again {x : StT} {s : SST} {i : Int} {y w : Rens rEn} (h : y = resE (endG x s i)) (h0 : (!decide (y.2.2.2.1 = 0)) = false) (hw : w = resE (endG x (y.1.1, y.1.2.1, y.1.2.2) i)) : ((true, ()) : Bool × Unit) = (bif decide (w.2.2.2.1 = 17) then true else false, ()) := by
  subst h
  have h1 : (endG x s i).2.2.2 = 0 := by
    have h2 : (!decide ((endG x s i).2.2.2 = 0)) = false := h0
    simpa using h2
  subst hw
  show ((true, ()) : Bool × Unit) = (bif decide ((endG x (endG x s i).1 i).2.2.2 = 17) then true else false, ())
  rw [(end_valid h1).1.2.2.2]; rfl
set_option maxHeartbeats 8000000 in
theorem law9 : LawOk Tryz.prog 9 [tSt, tSS, tI, tI] [true, true, false, false] := by
  refine ⟨cxQ9, 3, cxQ9_good, fun (⟨⟨k, z, ⟨ek, eo, em, ev, ea⟩, l⟩, ⟨hd, c, en⟩, i, n, _⟩ : StT × SST × Int × Int × Unit) fine => ?_⟩
  refine (aI (by first | kernel_rfl | rfl) (aI True.intro (fun h0 => (aI (fun h1 => (aI True.intro (fin_of rfl (by rfl)))) (fun h1 => (aI True.intro (fun (h2 : (List Int × Int × Bool) × List (List Int) × Int × PUnit) => (fun h3 => (aI (fun h4 => (aI True.intro (fun (h5 : List Int × Int × PUnit) => (fun h6 => (fun h7 => (aI (fun h8 => True.intro) (aI (fun h9 => (fin_of rfl (by exact (v_take h3 h4 h6 h9).elim))) (fun h9 => (aI True.intro (fun (h10 : List Int × Int × PUnit) => (fun h11 => (fun h12 => (aI (fun h13 => (fin_of rfl (by exact (v_need h11 h13).elim))) (fun h13 => (aI True.intro (fun (h14 : (List Int × Int × Bool) × List (List Int) × Bool × Int × PUnit) => (fun h15 => (aI (fun h16 => (aI (fun h17 => True.intro) (fin_of rfl (by exact v_err h15 h16)))) (fun h16 => (aI True.intro (fun (h18 : List Int × Int × PUnit) => (fun h19 => (fun h20 => (aI (fun h21 => True.intro) (aI (fun h22 => True.intro) (aI (fun h23 => (fin_of rfl (by exact (v_end h15 h16 h19 h23).elim))) (fun h23 => (aI True.intro (fun (h24 : (List Int × Int × Bool) × List (List Int) × Bool × Int × PUnit) => (fun h25 => (aI (fun h26 => True.intro) (fin_of rfl (by exact v_again h15 h16 h25))))))))))))))))))))))))))))))))) (fun h4 => (aI True.intro (fun (h27 : List Int × Int × PUnit) => (fun h28 => (fun h29 => (aI (fun h30 => (fin_of rfl (by exact (v_need h28 h30).elim))) (fun h30 => (aI True.intro (fun (h31 : (List Int × Int × Bool) × List (List Int) × Bool × Int × PUnit) => (fun h32 => (aI (fun h33 => (aI (fun h34 => True.intro) (fin_of rfl (by exact v_err h32 h33)))) (fun h33 => (aI True.intro (fun (h35 : List Int × Int × PUnit) => (fun h36 => (fun h37 => (aI (fun h38 => True.intro) (aI (fun h39 => True.intro) (aI (fun h40 => (fin_of rfl (by exact (v_end h32 h33 h36 h40).elim))) (fun h40 => (aI True.intro (fun (h41 : (List Int × Int × Bool) × List (List Int) × Bool × Int × PUnit) => (fun h42 => (aI (fun h43 => True.intro) (fin_of rfl (by exact v_again h32 h33 h42)))))))))))))))))))))))))))))))))))
end Go.Proofs.YticmijfmgmkkcaaGreat
