/- Stages, the reference: End. -/
import Derived.Test.YticmijfmgmkkcaaGreatVFd
set_option linter.unusedSimpArgs false
set_option linter.unusedVariables false
set_option maxRecDepth 100000
namespace Go.Proofs.YticmijfmgmkkcaaGreat
open Go.Sx

theorem en_S {x : StT} {s : SST} {j : Int} (h : chkS x s ≠ 0) : endG x s j = (zeroS, [], false, chkS x s) := by
  rw [endG, need_S h, if_pos (by simpa using h)]
theorem en_1 {x : StT} {s : SST} {j : Int} (h : chkS x s = 0) (h1 : te1 x j = true) : endG x s j = (zeroS, [], false, 2) := by
  have hn : (needF x s).2 = 0 := need_zero.2 (chkS_zero h)
  rw [endG, if_neg (by rw [hn]; simp), if_pos h1]
theorem en_2 {x : StT} {s : SST} {j : Int} (h : chkS x s = 0) (h1 : te1 x j = false) (h2 : te2 x s j = true) : endG x s j = (zeroS, [], false, 17) := by
  have hn : (needF x s).2 = 0 := need_zero.2 (chkS_zero h)
  rw [endG, if_neg (by rw [hn]; simp), if_neg (by rw [h1]; simp), if_pos h2]
def cxF35 : Ctx := ⟨tysM, [(66, ([], c66)), (54, ([], c54)), (20, ([], c20)), (67, ([], c67)), (69, ([], c69)), (49, ([], c49))]⟩
theorem cxF35_good : GoodCtx Tryz.prog cxF35 := cx_ty (cx_cons good66 (cx_cons good54 (cx_cons good20 (cx_cons good67 (cx_cons good69 (cx_cons good49 cx0_good))))))
def c35 : Ctr := fnC [dSt, dSS, dI] rEn (fun _ => True) (fun y => resE (endG y.1 y.2.1 y.2.2.1))
set_option maxHeartbeats 8000000 in
theorem good35 : GoodC Tryz.prog 35 c35 := by
  refine goodF cxF35_good 5 _ _ _ _ ⟨_, Tryz.func35, rfl, rfl⟩ fun (⟨⟨k, z, ⟨ek, eo, em, ev, ea⟩, l⟩, ⟨hd, c, b⟩, j, _⟩ : StT × SST × Int × Unit) _ => ?_
  have S0 : (!decide (chkS (k, z, (ExprT.mk ek eo em ev ea), l) (hd, c, b) = 0)) = false → chkS (k, z, (ExprT.mk ek eo em ev ea), l) (hd, c, b) = 0 := fun h => by simpa using h
  have R1 : ∀ {q : Bool}, chkS (k, z, (ExprT.mk ek eo em ev ea), l) (hd, c, b) = 0 → teR1 (k, z, (ExprT.mk ek eo em ev ea), l) j = q → te1 (k, z, (ExprT.mk ek eo em ev ea), l) j = q := fun h h' => by rw [← teR1_is (chkS_zero h).1]; exact h'
  have R2 : ∀ {q : Bool}, chkS (k, z, (ExprT.mk ek eo em ev ea), l) (hd, c, b) = 0 → te1 (k, z, (ExprT.mk ek eo em ev ea), l) j = false → teR2 (k, z, (ExprT.mk ek eo em ev ea), l) (hd, c, b) j = q → te2 (k, z, (ExprT.mk ek eo em ev ea), l) (hd, c, b) j = q := fun h h1 h' => by rw [← teR2_is (chkS_zero h).2 h1]; exact h'
  have T : ∀ {t : SST} {o : List (List Int)} {q : Bool} {f : Int}, endG (k, z, (ExprT.mk ek eo em ev ea), l) (hd, c, b) j = (t, o, q, f) → resE (endG (k, z, (ExprT.mk ek eo em ev ea), l) (hd, c, b) j) = (t, o, q, f, ()) := fun h => by rw [h]
  have O1 : ∀ {a1 a2 : List Int}, stChk (k, z, (ExprT.mk ek eo em ev ea), l) = 0 → (knownF k).2.1 = 1 → [a1, a2].take (stOut (k, z, (ExprT.mk ek eo em ev ea), l)).toNat = [a1] := fun h h' => by
    rw [out_of h, show (knownF ((k, z, (ExprT.mk ek eo em ev ea), l) : StT).1).2.1 = 1 from h']; rfl
  refine (And.intro (by first | kernel_rfl | rfl) (And.intro True.intro (And.intro (fun a0 => (fin_of rfl ?_)) (fun a0 => (And.intro (by first | kernel_rfl | rfl) (And.intro (fun a1 => True.intro) (And.intro (fun a2 => ?_) (And.intro (fun a3 => True.intro) (And.intro (fun a4 => (fin_of rfl ?_)) (fun a4 => (And.intro (fun a5 => ?_) (And.intro (fun a6 => (fin_of rfl ?_)) (fun a6 => (And.intro (fun a7 => (And.intro ?_ (fun (a8 : List Int × Int × PUnit) => (fun a9 => (And.intro (fun a10 => (fin_of rfl ?_)) (fun a10 => (And.intro (by kernel_rfl) (And.intro (by rfl) (And.intro (by rfl) (And.intro (by rfl) (And.intro (by rfl) (And.intro (by rfl) (And.intro (by rfl) (And.intro (by rfl) (And.intro (by rfl) (And.intro (by rfl) (And.intro (by rfl) (And.intro True.intro (fun (a11 : List (List Int) × PUnit) => (fun a12 => (And.intro (by rfl) (And.intro (by rfl) (And.intro (by rfl) (And.intro (by rfl) (And.intro (by rfl) (And.intro (by rfl) (And.intro (by rfl) (fin_of rfl ?_)))))))))))))))))))))))))))) (fun a7 => (And.intro (fun a13 => (fun a14 => (And.intro (fun a15 => (And.intro (by kernel_rfl) (And.intro (by rfl) (And.intro (by rfl) (And.intro (by rfl) (And.intro (by rfl) (And.intro (by rfl) (And.intro (by rfl) (And.intro (by rfl) (And.intro (by rfl) (And.intro (by rfl) (And.intro (by rfl) (And.intro True.intro (fun (a16 : List (List Int) × PUnit) => (fun a17 => (And.intro (by rfl) (And.intro (by rfl) (And.intro (by rfl) (And.intro (by rfl) (And.intro (by rfl) (And.intro (by rfl) (And.intro (by rfl) (fin_of rfl ?_))))))))))))))))))))))) (fun a15 => (And.intro (by kernel_rfl) (And.intro (by rfl) (And.intro (by rfl) (And.intro (by rfl) (And.intro (by rfl) (And.intro (by rfl) (And.intro (by rfl) (And.intro (by rfl) (And.intro (by rfl) (And.intro (by rfl) (And.intro (by rfl) (And.intro True.intro (fun (a18 : List (List Int) × PUnit) => (fun a19 => (And.intro (by rfl) (And.intro (by rfl) (And.intro (by rfl) (And.intro (by rfl) (And.intro (by rfl) (And.intro (by rfl) (And.intro (by rfl) (fin_of rfl ?_)))))))))))))))))))))))))) (fun a13 => (And.intro (fun a20 => (And.intro ?_ (And.intro ?_ (And.intro (fun a21 => (And.intro (by kernel_rfl) (And.intro (by rfl) (And.intro (by rfl) (And.intro (by rfl) (And.intro (by rfl) (And.intro (by rfl) (And.intro (by rfl) (And.intro (by rfl) (And.intro (by rfl) (And.intro (by rfl) (And.intro (by rfl) (And.intro True.intro (fun (a22 : List (List Int) × PUnit) => (fun a23 => (And.intro (by rfl) (And.intro (by rfl) (And.intro (by rfl) (And.intro (by rfl) (And.intro (by rfl) (And.intro (by rfl) (And.intro (by rfl) (fin_of rfl ?_))))))))))))))))))))))) (fun a21 => (And.intro (by kernel_rfl) (And.intro (by rfl) (And.intro (by rfl) (And.intro (by rfl) (And.intro (by rfl) (And.intro (by rfl) (And.intro (by rfl) (And.intro (by rfl) (And.intro (by rfl) (And.intro (by rfl) (And.intro (by rfl) (And.intro True.intro (fun (a24 : List (List Int) × PUnit) => (fun a25 => (And.intro (by rfl) (And.intro (by rfl) (And.intro (by rfl) (And.intro (by rfl) (And.intro (by rfl) (And.intro (by rfl) (And.intro (by rfl) (fin_of rfl ?_))))))))))))))))))))))))))) (fun a20 => (And.intro (by kernel_rfl) (And.intro (by rfl) (And.intro (by rfl) (And.intro (by rfl) (And.intro (by rfl) (And.intro (by rfl) (And.intro (by rfl) (And.intro (by rfl) (And.intro (by rfl) (And.intro (by rfl) (And.intro (by rfl) (And.intro True.intro (fun (a26 : List (List Int) × PUnit) => (fun a27 => (And.intro (by rfl) (And.intro (by rfl) (And.intro (by rfl) (And.intro (by rfl) (And.intro (by rfl) (And.intro (by rfl) (And.intro (by rfl) (fin_of rfl ?_)))))))))))))))))))))))))))))))))))))))))
  · exact T (en_S (by simpa using a0))
  · have : 0 ≤ stIn (k, z, (ExprT.mk ek eo em ev ea), l) ∧ stIn (k, z, (ExprT.mk ek eo em ev ea), l) ≤ 2 := by
      rw [in_ref]
      split
      · omega
      · split <;> omega
    show -9223372036854775808 ≤ stIn (k, z, (ExprT.mk ek eo em ev ea), l) - 1 ∧ stIn (k, z, (ExprT.mk ek eo em ev ea), l) - 1 ≤ 9223372036854775807
    omega
  · exact T (en_1 (S0 a0) (R1 (S0 a0) a4))
  · have h1 := R1 (S0 a0) a4
    have h2 : k = 8 ∨ k = 9 := by
      have h := a5.2
      by_cases h8 : k = 8
      · exact .inl h8
      · replace h : (bif decide (k = 8) then true else decide (k = 9)) = true := h
        rw [decide_eq_false h8] at h
        exact .inr (of_decide_eq_true h)
    have := two_in (x := (k, z, (ExprT.mk ek eo em ev ea), l)) h2 h1
    show -1000 ≤ j ∧ j ≤ 1000
    omega
  · exact T (en_2 (S0 a0) (R1 (S0 a0) a4) (R2 (S0 a0) (R1 (S0 a0) a4) a6))
  all_goals have G : EnGo (k, z, (ExprT.mk ek eo em ev ea), l) (hd, c, b) j := ⟨(chkS_zero (S0 a0)).1, (chkS_zero (S0 a0)).2, R1 (S0 a0) a4, R2 (S0 a0) (R1 (S0 a0) a4) a6⟩
  · have hk := of_decide_eq_true a7
    subst hk
    have h := (eng_4 G).1
    exact ⟨h.1, by show hd.length ≤ 1000; omega, h.2.2⟩
  · have hk := of_decide_eq_true a7
    subst hk
    have e1 : a8.2.1 = (sumsF z hd).2 := by rw [a9]
    rw [e1] at a10 ⊢
    exact T ((eng_4 G).2.1 (by simpa using a10))
  · have hk := of_decide_eq_true a7
    subst hk
    have e1 : a8.2.1 = (sumsF z hd).2 := by rw [a9]
    have e2 : a8.1 = (sumsF z hd).1 := by rw [a9]
    rw [e1] at a10
    refine (T ((eng_4 G).2.2 (by simpa using a10))).trans ?_
    rw [a12]
    show _ = (([], c, true), [a8.1, []].take (stOut (4, z, (ExprT.mk ek eo em ev ea), l)).toNat, true, (0 : Int), ())
    rw [O1 G.ok rfl, e2]
  · have hk := of_decide_eq_true a13
    subst hk
    have h0 : hd.length = 0 := by have h : (hd.length : Int) = 0 := of_decide_eq_true a15; omega
    refine (T ((eng_8 G).2.1 h0)).trans ?_
    rw [a17]
    show _ = (([j], c, b), [[], []].take (stOut (8, z, (ExprT.mk ek eo em ev ea), l)).toNat, b, (0 : Int), ())
    rw [O1 G.ok rfl]
  · have hk := of_decide_eq_true a13
    subst hk
    have h0 : hd.length ≠ 0 := by have h : ¬ (hd.length : Int) = 0 := of_decide_eq_false a15; omega
    refine (T ((eng_8 G).2.2 h0)).trans ?_
    rw [a19]
    show _ = (([0, 1], c, true), [[], []].take (stOut (8, z, (ExprT.mk ek eo em ev ea), l)).toNat, true, (0 : Int), ())
    rw [O1 G.ok rfl]
  · have hk := of_decide_eq_true a20
    subst hk
    have := (eng_9 G).1
    show -9223372036854775808 ≤ c + j ∧ c + j ≤ 9223372036854775807
    omega
  · have hk := of_decide_eq_true a20
    subst hk
    have := (eng_9 G).1
    show -9223372036854775808 ≤ c + j + 1 ∧ c + j + 1 ≤ 9223372036854775807
    omega
  · have hk := of_decide_eq_true a20
    subst hk
    refine (T (eng_9 G).2).trans ?_
    rw [if_pos (of_decide_eq_true a21), a23]
    show _ = (([], c + j + 1, decide (c + j + 1 = 3)), [[], []].take (stOut (9, z, (ExprT.mk ek eo em ev ea), l)).toNat, decide (c + j + 1 = 3), (0 : Int), ())
    rw [O1 G.ok rfl]
  · have hk := of_decide_eq_true a20
    subst hk
    refine (T (eng_9 G).2).trans ?_
    rw [if_neg (of_decide_eq_false a21), a25]
    show _ = ((hd, c + j + 1, decide (c + j + 1 = 3)), [[], []].take (stOut (9, z, (ExprT.mk ek eo em ev ea), l)).toNat, decide (c + j + 1 = 3), (0 : Int), ())
    rw [O1 G.ok rfl]
  · rw [a27]
    exact T (eng_n G (of_decide_eq_false a7) (of_decide_eq_false a13) (of_decide_eq_false a20))
end Go.Proofs.YticmijfmgmkkcaaGreat
