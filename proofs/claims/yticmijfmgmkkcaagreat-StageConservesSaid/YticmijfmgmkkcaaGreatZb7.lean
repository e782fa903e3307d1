/- Stages: the law of what is conserved. -/
import Derived.Test.YticmijfmgmkkcaaGreatZc8
set_option linter.unusedSimpArgs false
set_option linter.unusedVariables false
set_option maxRecDepth 100000
namespace Go.Proofs.YticmijfmgmkkcaaGreat
open Go.Sx

def cxQ7 : Ctx := ⟨tys0, [(11, ([], c11)), (12, ([], c12)), (13, ([], c13)), (15, ([], c15)), (23, ([], c23)), (26, ([], c26)), (27, ([], c27))]⟩
theorem cxQ7_good : GoodCtx Tryz.prog cxQ7 := cx_cons good11 (cx_cons good12 (cx_cons good13 (cx_cons good15 (cx_cons good23 (cx_cons good26 (cx_cons good27 cx0_good))))))
/-- The filter with the same expression. -/
theorem mean_3 {z : Int} {e : ExprT} {l : List Int} {ins : List (List Int)} (h : (meanF (7, z, e, l) ins).2 = 0) : meanF (3, z, e, l) ins = ([(ins.getD 0 []).filter (keep1 e)], 0) := by
  obtain ⟨h0, hl, hs, hc, hb⟩ := mean_iff.1 h
  have hm : (meanF (3, z, e, l) ins).2 = 0 := by
    refine mean_iff.2 ⟨chk_73 h0, hl, hs, ⟨fun _ => hc.1 (.inr (.inr rfl)), by simp, by simp⟩, ?_⟩
    have hb' : [(ins.getD 0 []).filter (keep1 e), (ins.getD 0 []).filter (fun a => !keep1 e a)].any longB = false := hb
    show [(ins.getD 0 []).filter (keep1 e)].any longB = false
    simp only [List.any_cons, List.any_nil, Bool.or_false, Bool.or_eq_false_iff] at hb' ⊢
    exact hb'.1
  rw [mean_eq hm]; rfl
theorem isA_bif {a b i : Nat} {M : Int} (hm : M = ((min a b : Nat) : Int)) : (bif bif decide ((i : Int) < 2 * M) then decide ((i : Int).tmod 2 = 0) else false then true else bif decide (2 * M ≤ (i : Int)) then decide (M < (a : Int)) else false) = isA a b i := by
  subst hm
  unfold isA
  by_cases h : i < 2 * min a b
  · rw [decide_eq_true (show (i : Int) < 2 * ((min a b : Nat) : Int) by omega), decide_eq_false (show ¬ 2 * ((min a b : Nat) : Int) ≤ (i : Int) by omega), if_pos h]
    by_cases h2 : i % 2 = 0
    · rw [decide_eq_true (show (i : Int).tmod 2 = 0 by rw [Int.tmod_eq_emod_of_nonneg (by omega)]; omega), decide_eq_true h2]; rfl
    · rw [decide_eq_false (show ¬ (i : Int).tmod 2 = 0 by rw [Int.tmod_eq_emod_of_nonneg (by omega)]; omega), decide_eq_false h2]; rfl
  · rw [decide_eq_false (show ¬ (i : Int) < 2 * ((min a b : Nat) : Int) by omega), decide_eq_true (show 2 * ((min a b : Nat) : Int) ≤ (i : Int) by omega), if_neg h]
    by_cases h2 : min a b < a
    · rw [decide_eq_true (show ((min a b : Nat) : Int) < (a : Int) by omega), decide_eq_true h2]; rfl
    · rw [decide_eq_false (show ¬ ((min a b : Nat) : Int) < (a : Int) by omega), decide_eq_false h2]; rfl
set_option maxHeartbeats 8000000 in
theorem law7 : LawOk Tryz.prog 7 [tSt, tIss] [true, false] := by
  refine ⟨cxQ7, 3, cxQ7_good, fun (⟨⟨k, z, ⟨ek, eo, em, ev, ea⟩, l⟩, ins, _⟩ : StT × List (List Int) × Unit) fine => ?_⟩
  by_cases hm : (meanF (k, z, ExprT.mk ek eo em ev ea, l) ins).2 = 0
  · obtain ⟨h0, hl, hs, hc, hb⟩ := mean_iff.1 hm
    have he := mean_eq hm
    replace hl : (ins.length : Int) = (knownF k).1 := hl
    have hk := kinds (chk_kind h0)
    have hal := str_len hs 0
    have hbl := str_len hs 1
    by_cases h7 : k = 7
    · subst h7
      have hl' : ins.length = 1 := by have h : (ins.length : Int) = 1 := hl; omega
      have hl1 : (ins.getD 0 []).length ≤ 1000 := by omega
      have e3 := mean_3 hm
      have e7 : meanF (7, z, ExprT.mk ek eo em ev ea, l) ins = ([(ins.getD 0 []).filter (keep1 (ExprT.mk ek eo em ev ea)), (ins.getD 0 []).filter (fun a => !keep1 (ExprT.mk ek eo em ev ea) a)], 0) := he
      have q1 := filter_mem (keep1 (ExprT.mk ek eo em ev ea)) (ins.getD 0 [])
      have q2 := filter_mem (fun a => !keep1 (ExprT.mk ek eo em ev ea) a) (ins.getD 0 [])
      have q3 := filter_two (keep1 (ExprT.mk ek eo em ev ea)) (ins.getD 0 [])
      have C1 : ∀ y y' : Rens rIssI, y = ((meanF (7, z, ExprT.mk ek eo em ev ea, l) ins).1, (meanF (7, z, ExprT.mk ek eo em ev ea, l) ins).2, ()) → y' = ((meanF (3, z, ExprT.mk ek eo em ev ea, l) ins).1, (meanF (3, z, ExprT.mk ek eo em ev ea, l) ins).2, ()) →
          (bif bif bif !decide (y'.2.1 = 0) then true else !decide ((y'.1.length : Int) = 1) then true else !decide ((y.1.length : Int) = 2) then true else !decide (y'.1.getD 0 [] = y.1.getD 0 [])) = true → False := fun y y' g1 g2 g3 => by
        rw [g1, g2, e3, e7] at g3
        dsimp only at g3
        simp at g3
      have C2 : ∀ y : Rens rIssI, y = ((meanF (7, z, ExprT.mk ek eo em ev ea, l) ins).1, (meanF (7, z, ExprT.mk ek eo em ev ea, l) ins).2, ()) →
          y.1.getD 0 [] = (ins.getD 0 []).filter (fun n => (y.1.getD 0 []).any (isI n)) ∧ y.1.getD 1 [] = (ins.getD 0 []).filter (fun n => (y.1.getD 1 []).any (isI n)) ∧ (y.1.getD 0 []).length + (y.1.getD 1 []).length = (ins.getD 0 []).length := fun y g1 => by
        rw [g1, e7]
        exact ⟨q1, q2, q3⟩
      have n7 : ∀ y : Rens rIssI, y = ((meanF (7, z, ExprT.mk ek eo em ev ea, l) ins).1, (meanF (7, z, ExprT.mk ek eo em ev ea, l) ins).2, ()) → -9223372036854775808 ≤ ((y.1.getD 0 []).length : Int) + ((y.1.getD 1 []).length : Int) ∧ ((y.1.getD 0 []).length : Int) + ((y.1.getD 1 []).length : Int) ≤ 9223372036854775807 := fun y g1 => by
        have g2 := (C2 y g1).2.2
        omega
      have C3 : ∀ y : Rens rIssI, y = ((meanF (7, z, ExprT.mk ek eo em ev ea, l) ins).1, (meanF (7, z, ExprT.mk ek eo em ev ea, l) ins).2, ()) → ((true, ()) : Bool × Unit) = (bif bif bif decide (y.1.getD 0 [] = (ins.getD 0 []).filter (fun n => (y.1.getD 0 []).any (isI n))) then decide (y.1.getD 1 [] = (ins.getD 0 []).filter (fun n => (y.1.getD 1 []).any (isI n))) else false then decide (((y.1.getD 0 []).length : Int) + ((y.1.getD 1 []).length : Int) = ((ins.getD 0 []).length : Int)) else false then true else false, ()) := fun y g1 => by
        obtain ⟨g2, g3, g4⟩ := C2 y g1
        rw [decide_eq_true g2, decide_eq_true g3, decide_eq_true (by omega)]; rfl
      refine (aI (by first | kernel_rfl | rfl) (aI True.intro (aI (fun h0 => (aI True.intro (fin_of rfl (by rfl)))) (fun h0 => (aI True.intro (fun (h1 : List (List Int) × Int × PUnit) => (fun h2 => (aI (fun h3 => (aI True.intro (fin_of rfl (by rfl)))) (fun h3 => (aI (fun h4 => (aI True.intro (fun (h5 : List (List Int) × Int × PUnit) => (fun h6 => (aI (by first | kernel_rfl | rfl) (aI (fun h7 h8 h9 => (by (intros; (try subst_vars); (try simp only [nB] at *); (try simp only [inK, big, lim, nL] at *); omega))) (aI (fun h10 h11 h12 => (by (intros; (try subst_vars); (try simp only [nB] at *); (try simp only [inK, big, lim, nL] at *); omega))) (aI (fun h13 h14 h15 => True.intro) (fun h16 => (fun h17 => (aI (fun h18 => (fin_of rfl (by exact (C1 h1 h5 h2 h6 h18).elim))) (fun h18 => (aI (by first | kernel_rfl | rfl) (aI (by (intros; (try subst_vars); (try simp only [nB] at *); (try simp only [inK, big, lim, nL] at *); omega)) (aI (by (intros; (try subst_vars); (try simp only [nB] at *); (try simp only [inK, big, lim, nL] at *); omega)) (aI (by (intros; (try subst_vars); (try simp only [nB] at *); (try simp only [inK, big, lim, nL] at *); omega)) (aI True.intro (aI (hl1) (aI (fun h19 => (by (intros; (try subst_vars); (try simp only [nB] at *); (try simp only [inK, big, lim, nL] at *); omega))) (aI (fun h20 => (by (intros; (try subst_vars); (try simp only [nB] at *); (try simp only [inK, big, lim, nL] at *); omega))) (aI (fun h21 => (by (intros; (try subst_vars); (try simp only [nB] at *); (try simp only [inK, big, lim, nL] at *); omega))) (aI (fun h22 => True.intro) (aI (fun h23 => (hl1)) (aI (fun h24 => (by (intros; (try subst_vars); (try simp only [nB] at *); (try simp only [inK, big, lim, nL] at *); omega))) (aI (fun h25 => (by (intros; (try subst_vars); (try simp only [nB] at *); (try simp only [inK, big, lim, nL] at *); omega))) (aI (fun h26 h27 h28 => (n7 h1 h2)) (aI (fun h29 => (by (intros; (try subst_vars); (try simp only [nB] at *); (try simp only [inK, big, lim, nL] at *); omega))) (aI (fun h30 h31 h32 h33 => True.intro) (fun h34 => (fun h35 => (fun h36 => (fin_of rfl (by exact C3 h1 h2))))))))))))))))))))))))))))))))) (fun h4 => False.elim (Bool.false_ne_true (Eq.symm (Eq.trans (by kernel_rfl) h4))))))))))))))
    · by_cases h4 : k = 4
      · subst h4
        have hl' : ins.length = 1 := by have h : (ins.length : Int) = 1 := hl; omega
        have hz := chk_size h0
        have hz1 : 1 ≤ z := hz.2.2 rfl
        have e4 : meanF (4, z, ExprT.mk ek eo em ev ea, l) ins = ([(batR ((ins.getD 0 []).foldl (batS z) ([], [], 0))).2.1], 0) := he
        have hcl : (batR ((ins.getD 0 []).foldl (batS z) ([], [], 0))).2.2 = 0 := hc.2.2 rfl
        have q1 := (bat_out hz1 hcl).2
        have q2 := batR_in hcl
        have hb4 : [(batR ((ins.getD 0 []).foldl (batS z) ([], [], 0))).2.1].any longB = false := hb
        have q3 : (batR ((ins.getD 0 []).foldl (batS z) ([], [], 0))).2.1.length ≤ 1000 := by
          have h9 : longB (batR ((ins.getD 0 []).foldl (batS z) ([], [], 0))).2.1 = false := by simpa only [List.any_cons, List.any_nil, Bool.or_false] using hb4
          have h10 : ¬ 200 < ((batR ((ins.getD 0 []).foldl (batS z) ([], [], 0))).2.1.length : Int) := of_decide_eq_false h9
          omega
        obtain ⟨-, han⟩ := strF_get hs (show 0 < ins.length by omega)
        have n1 : (ins.getD 0 []).length ≤ 1000 ∧ ∀ x ∈ ins.getD 0 [], inM x := ⟨by omega, all_in han⟩
        have n2 : ∀ y : Rens rIssI, y = ((meanF (4, z, ExprT.mk ek eo em ev ea, l) ins).1, (meanF (4, z, ExprT.mk ek eo em ev ea, l) ins).2, ()) → (y.1.getD 0 []).length ≤ 1000 ∧ ∀ x ∈ y.1.getD 0 [], inM x := fun y g => by
          rw [g, e4]; exact ⟨q3, q2⟩
        have C2 : ∀ y : Rens rIssI, y = ((meanF (4, z, ExprT.mk ek eo em ev ea, l) ins).1, (meanF (4, z, ExprT.mk ek eo em ev ea, l) ins).2, ()) → ((true, ()) : Bool × Unit) = ((bif bif decide ((y.1.length : Int) = 1) then decide ((y.1.getD 0 []).sum = (ins.getD 0 []).sum) else false then true else false), ()) := fun y g => by
          rw [g, e4]
          dsimp only
          rw [decide_eq_true (show (([(batR ((ins.getD 0 []).foldl (batS z) ([], [], 0))).2.1] : List (List Int)).getD 0 []).sum = (ins.getD 0 []).sum from q1)]
          rfl
        refine (aI (by first | kernel_rfl | rfl) (aI True.intro (aI (fun h0 => (aI True.intro (fin_of rfl (by rfl)))) (fun h0 => (aI True.intro (fun (h1 : List (List Int) × Int × PUnit) => (fun h2 => (aI (fun h3 => (aI True.intro (fin_of rfl (by rfl)))) (fun h3 => (aI (fun h4 => False.elim (Bool.false_ne_true (Eq.trans (by kernel_rfl) h4))) (fun h4 => (aI (fun h5 => (aI (by first | kernel_rfl | rfl) (aI (fun h6 h7 => (by (intros; (try subst_vars); (try simp only [nB] at *); (try simp only [inK, big, lim, nL] at *); omega))) (aI (fun h8 h9 => (n2 h1 h2)) (aI (fun h10 h11 => (by (intros; (try subst_vars); (try simp only [nB] at *); (try simp only [inK, big, lim, nL] at *); omega))) (aI (fun h12 h13 => (n1)) (aI (fun h14 h15 => True.intro) (fun h16 => (fin_of rfl (by exact C2 h1 h2)))))))))) (fun h5 => False.elim (Bool.false_ne_true (Eq.symm (Eq.trans (by kernel_rfl) h5))))))))))))))))
      · by_cases h8 : k = 8
        · subst h8
          have hl' : ins.length = 2 := by have h : (ins.length : Int) = 2 := hl; omega
          have e8 : meanF (8, z, ExprT.mk ek eo em ev ea, l) ins = ([mergeN ((ins.getD 0 []).length + (ins.getD 1 []).length) (ins.getD 0 []) (ins.getD 1 [])], 0) := he
          have ml := merge_len _ (ins.getD 0 []) (ins.getD 1 []) (Nat.le_refl _)
          have n1 : -9223372036854775808 ≤ ((ins.getD 0 []).length : Int) + ((ins.getD 1 []).length : Int) ∧ ((ins.getD 0 []).length : Int) + ((ins.getD 1 []).length : Int) ≤ 9223372036854775807 := by omega
          have C1 : ∀ y : Rens rIssI, y = ((meanF (8, z, ExprT.mk ek eo em ev ea, l) ins).1, (meanF (8, z, ExprT.mk ek eo em ev ea, l) ins).2, ()) → (bif !decide ((y.1.length : Int) = 1) then true else !decide (((y.1.getD 0 []).length : Int) = ((ins.getD 0 []).length : Int) + ((ins.getD 1 []).length : Int))) = true → False := fun y g g2 => by
            rw [g, e8] at g2
            dsimp only at g2
            rw [decide_eq_true (show ((([mergeN ((ins.getD 0 []).length + (ins.getD 1 []).length) (ins.getD 0 []) (ins.getD 1 [])] : List (List Int)).getD 0 []).length : Int) = ((ins.getD 0 []).length : Int) + ((ins.getD 1 []).length : Int) by show ((mergeN _ _ _).length : Int) = _; rw [ml]; omega)] at g2
            cases g2
          refine (aI (by first | kernel_rfl | rfl) (aI True.intro (aI (fun h0 => (aI True.intro (fin_of rfl (by rfl)))) (fun h0 => (aI True.intro (fun (h1 : List (List Int) × Int × PUnit) => (fun h2 => (aI (fun h3 => (aI True.intro (fin_of rfl (by rfl)))) (fun h3 => (aI (fun h4 => False.elim (Bool.false_ne_true (Eq.trans (by kernel_rfl) h4))) (fun h4 => (aI (fun h5 => False.elim (Bool.false_ne_true (Eq.trans (by kernel_rfl) h5))) (fun h5 => (aI (fun h6 => (aI (by first | kernel_rfl | rfl) (aI (fun h7 h8 => (by (intros; (try subst_vars); (try simp only [nB] at *); (try simp only [inK, big, lim, nL] at *); omega))) (aI (fun h9 h10 => (by (intros; (try subst_vars); (try simp only [nB] at *); (try simp only [inK, big, lim, nL] at *); omega))) (aI (fun h11 h12 => (by (intros; (try subst_vars); (try simp only [nB] at *); (try simp only [inK, big, lim, nL] at *); omega))) (aI (fun h13 h14 h15 h16 => (n1)) (fun h17 => (fun h18 => (fun h19 => (fun h20 => (aI (fun h21 => (fin_of rfl (by exact (C1 h1 h2 h21).elim))) (fun h21 => (aI (by first | kernel_rfl | rfl) (aI (by (intros; (try subst_vars); (try simp only [nB] at *); (try simp only [inK, big, lim, nL] at *); omega)) (aI (by (intros; (try subst_vars); (try simp only [nB] at *); (try simp only [inK, big, lim, nL] at *); omega)) (fun h22 => (fun h23 => (aI (by (intros; (try subst_vars); (try simp only [nB] at *); (try simp only [inK, big, lim, nL] at *); omega)) (fun h24 => ?_))))))))))))))))))) (fun h6 => False.elim (Bool.false_ne_true (Eq.symm (Eq.trans (by kernel_rfl) h6))))))))))))))))))
          have hM : h1.1.getD 0 [] = mergeN ((ins.getD 0 []).length + (ins.getD 1 []).length) (ins.getD 0 []) (ins.getD 1 []) := by
            have g : h1.1 = (meanF (8, z, ExprT.mk ek eo em ev ea, l) ins).1 := by rw [h2]
            rw [g, e8]; rfl
          have hMl : (h1.1.getD 0 []).length = (ins.getD 0 []).length + (ins.getD 1 []).length := by rw [hM, ml]
          refine ex4 _ (fun p : Nat × List Int × List Int => ⟨[.any, .sl (.sl (.int .i64)) ins, .ptr 0 0, .any, .any, .sl (.sl (.int .i64)) h1.1, .any, .any, .any, .any, .any, .int .i64   (if       (↑(List.length (ins.getD (Int.toNat 1) (dflt (.sl (.int .i64))))) : Int) <         (↑(List.length (ins.getD (Int.toNat 0) (dflt (.sl (.int .i64))))) : Int) then     (↑(List.length (ins.getD (Int.toNat 1) (dflt (.sl (.int .i64))))) : Int)   else (↑(List.length (ins.getD (Int.toNat 0) (dflt (.sl (.int .i64))))) : Int)), .own 1, .own 2, .any, .any, .any, .any, .any, .any, .any, .any, .any, .any, .any, .any, .any, .any, .any, .ptr 0 0, .int .i64 8, .bool (decide (8 = 7)), .bool (decide (8 = 7)), .any, .any, .any, .any, .any, .any, .any, .any, .any, .any, .any, .any, .any, .any, .any, .any, .any, .any, .any, .any, .any, .any, .any, .any, .any, .any, .any, .any, .any, .any, .any, .any, .any, .any, .any, .any, .any, .any, .any, .any, .any, .any, .any, .any, .any, .any, .any, .any, .any, .any, .any, .any, .any, .any, .any, .any, .any, .any, .any, .any, .any, .any, .any, .any, .any, .any, .any, .any, .any, .any, .any, .any, .any, .any, .any, .bool (decide (8 = 4)), .bool (decide (8 = 4)), .any, .any, .any, .any, .any, .any, .any, .any, .any, .any, .any, .any, .any, .any, .any, .any, .any, .bool (decide (8 = 8)), .bool (decide (8 = 8)), .sl (.sl (.int .i64)) h1.1, .int .i64 (↑h1.1.length : Int), .bool !decide ((↑h1.1.length : Int) = 1), .bool !decide ((↑h1.1.length : Int) = 1), .any, .any, .any, .any, .any, .any, .any, .any, .any, .any, .any, .any, .any, .any, .bool   (bif !decide ((↑h1.1.length : Int) = 1) then true   else     !decide         ((↑(List.length (h1.1.getD (Int.toNat 0) (dflt (.sl (.int .i64))))) : Int) =           (↑(List.length (ins.getD (Int.toNat 0) (dflt (.sl (.int .i64))))) : Int) +             (↑(List.length (ins.getD (Int.toNat 1) (dflt (.sl (.int .i64))))) : Int))), .sl (.sl (.int .i64)) ins, .eptr [PV.sl (.int .i64) (ins.getD (Int.toNat 0) (dflt (.sl (.int .i64))))], .sl (.int .i64) (ins.getD (Int.toNat 0) (dflt (.sl (.int .i64)))), .int .i64 (↑(List.length (ins.getD (Int.toNat 0) (dflt (.sl (.int .i64))))) : Int), .sl (.sl (.int .i64)) ins, .eptr [PV.sl (.int .i64) (ins.getD (Int.toNat 1) (dflt (.sl (.int .i64))))], .sl (.int .i64) (ins.getD (Int.toNat 1) (dflt (.sl (.int .i64)))), .int .i64 (↑(List.length (ins.getD (Int.toNat 1) (dflt (.sl (.int .i64))))) : Int), .int .i64   (if       (↑(List.length (ins.getD (Int.toNat 1) (dflt (.sl (.int .i64))))) : Int) <         (↑(List.length (ins.getD (Int.toNat 0) (dflt (.sl (.int .i64))))) : Int) then     (↑(List.length (ins.getD (Int.toNat 1) (dflt (.sl (.int .i64))))) : Int)   else (↑(List.length (ins.getD (Int.toNat 0) (dflt (.sl (.int .i64))))) : Int)), .sl (.sl (.int .i64)) h1.1, .eptr [PV.sl (.int .i64) (h1.1.getD (Int.toNat 0) (dflt (.sl (.int .i64))))], .sl (.int .i64) (h1.1.getD (Int.toNat 0) (dflt (.sl (.int .i64)))), .int .i64 (↑(List.length (h1.1.getD (Int.toNat 0) (dflt (.sl (.int .i64))))) : Int), .int .i64 (p.1 : Int), .any, .any, .any, .any, .any, .any, .any, .any, .any, .any, .any, .any, .any, .any, .any, .any, .any, .any, .any, .any, .any, .any, .any, .any, .any, .any, .any, .any, .any, .any, .any, .any, .any, .any, .any, .any, .any, .any, .any, .any, .any, .any, .any, .any, .any, .any, .any, .any, .any, .any, .any, .any], [.cells   [.int .i64 8, .int .i64 z, .int .i64 (ExprT.mk ek eo em ev ea).kind,     .int .i64 (ExprT.mk ek eo em ev ea).op, .str (ExprT.mk ek eo em ev ea).name,     .int .i64 (ExprT.mk ek eo em ev ea).value, .sl .expr (ExprT.mk ek eo em ev ea).args,     .sl (.int .i64) l], .rows tI p.2.1, .rows tI p.2.2], 3⟩) (fun p => p.1 ≤ (ins.getD 0 []).length + (ins.getD 1 []).length ∧ p.2.1 = (ins.getD 0 []).take (cntA (ins.getD 0 []).length (ins.getD 1 []).length p.1) ∧ p.2.2 = (ins.getD 1 []).take (p.1 - cntA (ins.getD 0 []).length (ins.getD 1 []).length p.1)) (fun p => (ins.getD 0 []).length + (ins.getD 1 []).length - p.1) (aI (Exists.intro ((0, [], [])) (Exists.intro ([some 0, none, none]) (aI ?_ (aI (by rfl) (aI (by rfl) (aI (aI (aI (by rfl) (by rfl)) (aI (by rfl) (aI (by rfl) True.intro))) (by rfl))))))) ?_)
          · refine ⟨Nat.zero_le _, ?_, ?_⟩
            · show [] = (ins.getD 0 []).take (cntA _ _ 0)
              have h9 := (cntA_le (ins.getD 0 []).length (ins.getD 1 []).length 0 (Nat.zero_le _)).2.2
              rw [Nat.le_zero.1 h9]; rfl
            · show [] = (ins.getD 1 []).take (0 - _)
              rw [Nat.zero_sub]; rfl
          rintro ⟨i, a, b⟩ ⟨hi, ha, hb9⟩
          replace hi : i ≤ (ins.getD 0 []).length + (ins.getD 1 []).length := hi
          replace ha : a = (ins.getD 0 []).take (cntA (ins.getD 0 []).length (ins.getD 1 []).length i) := ha
          replace hb9 : b = (ins.getD 1 []).take (i - cntA (ins.getD 0 []).length (ins.getD 1 []).length i) := hb9
          have rooma : (a.length + 1) * 8 ≤ lim := by rw [ha, List.length_take]; simp only [lim]; omega
          have roomb : (b.length + 1) * 8 ≤ lim := by rw [hb9, List.length_take]; simp only [lim]; omega
          have hmn : (if ((ins.getD 1 []).length : Int) < ((ins.getD 0 []).length : Int) then ((ins.getD 1 []).length : Int) else ((ins.getD 0 []).length : Int)) = ((min (ins.getD 0 []).length (ins.getD 1 []).length : Nat) : Int) := by split <;> omega
          have n2 : -9223372036854775808 ≤ 2 * (if ((ins.getD 1 []).length : Int) < ((ins.getD 0 []).length : Int) then ((ins.getD 1 []).length : Int) else ((ins.getD 0 []).length : Int)) ∧ 2 * (if ((ins.getD 1 []).length : Int) < ((ins.getD 0 []).length : Int) then ((ins.getD 1 []).length : Int) else ((ins.getD 0 []).length : Int)) ≤ 9223372036854775807 := by split <;> omega
          refine (aI (fun w0 => (aI (by (intros; (try subst_vars); (try simp only [nB] at *); (try simp only [inK, big, lim, nL] at *); omega)) (aI (n2) (aI (fun w1 => (by decide)) (aI (fun w2 => (n2)) (aI (fun w3 => (by omega)) (fun w4 => (aI (fun w5 => (aI (by omega) (aI (by (intros; (try subst_vars); (try simp only [nB] at *); (try simp only [inK, big, lim, nL] at *); omega)) ?_))) (fun w5 => (aI (by omega) (aI (by (intros; (try subst_vars); (try simp only [nB] at *); (try simp only [inK, big, lim, nL] at *); omega)) ?_))))))))))) (fun w0 => (aI (by omega) (aI True.intro (aI (fun w6 => (by omega)) (aI (fun w7 => True.intro) (aI (fun w8 => True.intro) (fin_of rfl ?_))))))))
          · have hi' : i < (ins.getD 0 []).length + (ins.getD 1 []).length := by
              have h9 : (i : Int) < ((h1.1.getD 0 []).length : Int) := of_decide_eq_true w0
              rw [hMl] at h9; omega
            have hA : isA (ins.getD 0 []).length (ins.getD 1 []).length i = true := (isA_bif hmn).symm.trans w5
            have q1 := (merge_next (ins.getD 0 []) (ins.getD 1 []) i hi').1 hA
            have q2 := (cnt_next (ins.getD 0 []).length (ins.getD 1 []).length i hi').1 hA
            refine Exists.intro ((i + 1, a ++ [(h1.1.getD 0 []).getD i 0], b)) (Exists.intro ([some 0, some 4, some 2]) (aI ?_ (aI ?_ (aI (by rfl) (aI (by rfl) (aI (aI (aI (by rfl) (by rfl)) (aI (by rfl) (aI (by rfl) True.intro))) (by rfl)))))))
            · refine ⟨hi', ?_, ?_⟩
              · show a ++ [(h1.1.getD 0 []).getD i 0] = (ins.getD 0 []).take (cntA _ _ (i + 1))
                rw [q2, take_getD (d := 0) q1.1, ← ha, hM, q1.2]
              · show b = (ins.getD 1 []).take (i + 1 - cntA _ _ (i + 1))
                rw [q2, hb9]
                congr 1
                omega
            · show (ins.getD 0 []).length + (ins.getD 1 []).length - (i + 1) < (ins.getD 0 []).length + (ins.getD 1 []).length - i
              omega
          · have hi' : i < (ins.getD 0 []).length + (ins.getD 1 []).length := by
              have h9 : (i : Int) < ((h1.1.getD 0 []).length : Int) := of_decide_eq_true w0
              rw [hMl] at h9; omega
            have hA : isA (ins.getD 0 []).length (ins.getD 1 []).length i = false := (isA_bif hmn).symm.trans w5
            have q1 := (merge_next (ins.getD 0 []) (ins.getD 1 []) i hi').2 hA
            have q2 := (cnt_next (ins.getD 0 []).length (ins.getD 1 []).length i hi').2 hA
            have q3 := cntA_le (ins.getD 0 []).length (ins.getD 1 []).length i (by omega)
            refine Exists.intro ((i + 1, a, b ++ [(h1.1.getD 0 []).getD i 0])) (Exists.intro ([some 0, some 1, some 4]) (aI ?_ (aI ?_ (aI (by rfl) (aI (by rfl) (aI (aI (aI (by rfl) (by rfl)) (aI (by rfl) (aI (by rfl) True.intro))) (by rfl)))))))
            · refine ⟨hi', ?_, ?_⟩
              · show a = (ins.getD 0 []).take (cntA _ _ (i + 1))
                rw [q2, ha]
              · show b ++ [(h1.1.getD 0 []).getD i 0] = (ins.getD 1 []).take (i + 1 - cntA _ _ (i + 1))
                rw [q2, show i + 1 - cntA (ins.getD 0 []).length (ins.getD 1 []).length i = (i - cntA (ins.getD 0 []).length (ins.getD 1 []).length i) + 1 by omega, take_getD (d := 0) q1.1, ← hb9, hM, q1.2]
            · show (ins.getD 0 []).length + (ins.getD 1 []).length - (i + 1) < (ins.getD 0 []).length + (ins.getD 1 []).length - i
              omega
          · have hi' : i = (ins.getD 0 []).length + (ins.getD 1 []).length := by
              have h9 : ¬ (i : Int) < ((h1.1.getD 0 []).length : Int) := of_decide_eq_false w0
              rw [hMl] at h9; omega
            have q4 : cntA (ins.getD 0 []).length (ins.getD 1 []).length i = (ins.getD 0 []).length := by
              subst hi'
              unfold cntA
              split
              · omega
              · split <;> omega
            have ga : a = ins.getD 0 [] := by rw [ha, q4, List.take_length]
            have gb : b = ins.getD 1 [] := by rw [hb9, q4, hi', Nat.add_sub_cancel_left, List.take_length]
            show ((true, ()) : Bool × Unit) = (bif bif decide (a = ins.getD 0 []) then decide (b = ins.getD 1 []) else false then true else false, ())
            rw [decide_eq_true ga, decide_eq_true gb]; rfl
        · have k7 : decide (k = 7) = false := decide_eq_false h7
          have k4 : decide (k = 4) = false := decide_eq_false h4
          have k8 : decide (k = 8) = false := decide_eq_false h8
          refine (aI (by first | kernel_rfl | rfl) (aI True.intro (aI (fun h0 => (aI True.intro (fin_of rfl (by rfl)))) (fun h0 => (aI True.intro (fun (h1 : List (List Int) × Int × PUnit) => (fun h2 => (aI (fun h3 => (aI True.intro (fin_of rfl (by rfl)))) (fun h3 => (aI (fun h4 => absurd (Eq.trans (Eq.symm k7) h4) (by decide)) (fun h4 => (aI (fun h5 => absurd (Eq.trans (Eq.symm k4) h5) (by decide)) (fun h5 => (aI (fun h6 => absurd (Eq.trans (Eq.symm k8) h6) (by decide)) (fun h6 => (aI True.intro (fin_of rfl (by rfl))))))))))))))))))
  · have ab : ∀ y : Rens rIssI, y = ((meanF (k, z, ExprT.mk ek eo em ev ea, l) ins).1, (meanF (k, z, ExprT.mk ek eo em ev ea, l) ins).2, ()) → (!decide (y.2.1 = 0)) = false → False := fun y h h' => hm (by rw [h] at h'; simpa using h')
    refine (aI (by first | kernel_rfl | rfl) (aI True.intro (aI (fun h0 => (aI True.intro (fin_of rfl (by rfl)))) (fun h0 => (aI True.intro (fun (h1 : List (List Int) × Int × PUnit) => (fun h2 => (aI (fun h3 => (aI True.intro (fin_of rfl (by rfl)))) (fun h3 => (aI (fun h4 => (aI True.intro (fun (h5 : List (List Int) × Int × PUnit) => (fun h6 => (aI (by first | kernel_rfl | rfl) (aI (fun h7 h8 h9 => ((ab h1 h2 h3).elim)) (aI (fun h10 h11 h12 => ((ab h1 h2 h3).elim)) (aI (fun h13 h14 h15 => True.intro) (fun h16 => (fun h17 => (aI (fun h18 => (fin_of rfl (by exact (ab h1 h2 h3).elim))) (fun h18 => (aI (by first | kernel_rfl | rfl) (aI ((ab h1 h2 h3).elim) (aI ((ab h1 h2 h3).elim) (aI ((ab h1 h2 h3).elim) (aI True.intro (aI ((ab h1 h2 h3).elim) (aI (fun h19 => ((ab h1 h2 h3).elim)) (aI (fun h20 => ((ab h1 h2 h3).elim)) (aI (fun h21 => ((ab h1 h2 h3).elim)) (aI (fun h22 => True.intro) (aI (fun h23 => ((ab h1 h2 h3).elim)) (aI (fun h24 => ((ab h1 h2 h3).elim)) (aI (fun h25 => ((ab h1 h2 h3).elim)) (aI (fun h26 h27 h28 => ((ab h1 h2 h3).elim)) (aI (fun h29 => ((ab h1 h2 h3).elim)) (aI (fun h30 h31 h32 h33 => True.intro) (fun h34 => (fun h35 => (fun h36 => (fin_of rfl (by exact (ab h1 h2 h3).elim))))))))))))))))))))))))))))))))) (fun h4 => (aI (fun h37 => (aI (by first | kernel_rfl | rfl) (aI (fun h38 h39 => ((ab h1 h2 h3).elim)) (aI (fun h40 h41 => ((ab h1 h2 h3).elim)) (aI (fun h42 h43 => ((ab h1 h2 h3).elim)) (aI (fun h44 h45 => ((ab h1 h2 h3).elim)) (aI (fun h46 h47 => True.intro) (fun h48 => (fin_of rfl (by exact (ab h1 h2 h3).elim)))))))))) (fun h37 => (aI (fun h49 => (aI (by first | kernel_rfl | rfl) (aI (fun h50 h51 => ((ab h1 h2 h3).elim)) (aI (fun h52 h53 => ((ab h1 h2 h3).elim)) (aI (fun h54 h55 => ((ab h1 h2 h3).elim)) (aI (fun h56 h57 h58 h59 => ((ab h1 h2 h3).elim)) (fun h60 => (fun h61 => (fun h62 => (fun h63 => (aI (fun h64 => (fin_of rfl (by exact (ab h1 h2 h3).elim))) (fun h64 => (aI (by first | kernel_rfl | rfl) (aI ((ab h1 h2 h3).elim) (aI ((ab h1 h2 h3).elim) (fun h65 => (fun h66 => (aI ((ab h1 h2 h3).elim) (fun h67 => ?_))))))))))))))))))) (fun h49 => (aI True.intro (fin_of rfl (by rfl))))))))))))))))))
    exact (ab h1 h2 h3).elim
end Go.Proofs.YticmijfmgmkkcaaGreat
