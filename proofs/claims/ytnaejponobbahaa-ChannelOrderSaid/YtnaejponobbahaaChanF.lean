/- Channel: Apply, Ready, Withdraw and Offer, as contracts. -/
import Derived.Test.YtnaejponobbahaaChanE1
import Derived.Test.YtnaejponobbahaaChanE2
import Derived.Test.YtnaejponobbahaaChanE3
import Derived.Test.YtnaejponobbahaaChanE4
import Derived.Test.YtnaejponobbahaaChanS
set_option linter.unusedSimpArgs false
set_option linter.unusedVariables false
set_option maxRecDepth 100000
namespace Go.Proofs.Ytnaejponobbahaa
open Go.Sx

theorem good16 : GoodC Try.prog 16 c16 := by
  refine goodF cx9_good 9 _ _ _ _ ⟨_, Try.func16, rfl, rfl⟩ fun (⟨⟨nm, kd, sz, ot⟩, ⟨ow, ct, tm, hs, q, bf, cs, cl, vl⟩, ⟨tk, op, va, pr, nw⟩, _⟩ : ObT × OS × Cl × Unit) hfew => ?_
  by_cases h1 : op = 64
  · subst h1; exact w16a nm kd sz ot ow ct tm hs q bf cs cl vl tk 64 va pr nw hfew
  by_cases h2 : op = 65
  · subst h2; exact w16b nm kd sz ot ow ct tm hs q bf cs cl vl tk 65 va pr nw hfew
  by_cases h3 : op = 66
  · subst h3; exact w16c nm kd sz ot ow ct tm hs q bf cs cl vl tk 66 va pr nw hfew
  · exact w16d nm kd sz ot ow ct tm hs q bf cs cl vl tk op va pr nw hfew h1 h2 h3
def cx10 : Ctx := ⟨tys0, [(16, ([], c16))]⟩
theorem cx10_good : GoodCtx Try.prog cx10 := cx_cons good16 cx0_good
def c25 : Ctr := fnC [dObj, dOS, dCl] rB (fun y => few y.2.1) (fun y => (decide ((sApply y.1 y.2.1 y.2.2.1).2 = 0) && !(sApply y.1 y.2.1 y.2.2.1).1.2.1, ()))
theorem good25 : GoodC Try.prog 25 c25 := by
  refine goodF cx10_good 3 _ _ _ _ ⟨_, Try.func25, rfl, rfl⟩ fun (⟨⟨nm, kd, sz, ot⟩, ⟨ow, ct, tm, hs, q, bf, cs, cl, vl⟩, ⟨tk, op, va, pr, nw⟩, _⟩ : ObT × OS × Cl × Unit) hfew => ?_
  simp only at hfew
  refine (And.intro (by rfl) (And.intro (by first | exact hfew | (intros; (try subst_vars); (try simp only [Bool.cond_true_left, Bool.cond_false_right, Bool.or_eq_true, Bool.or_eq_false_iff, Bool.and_eq_true, Bool.not_eq_true', Bool.not_eq_false', decide_eq_true_eq, decide_eq_false_iff_not, Int.not_lt, Int.not_le] at *); (try simp only [inK, big, lim, List.length_cons, List.length_nil, List.length_append, List.length_drop, List.length_take, List.length_replicate] at *); omega)) (fun (h0 : ((Int × Int × Int × List Int × List (Int × Int × Int × Int × Int) × List Int × List (Int × List Int) × Bool × Int) ×     Bool × Int × Bool × List (Int × Int × Int × Bool × Int)) ×   Int × PUnit) => (fun h1 => (fin_of rfl (by (subst h1; simp only [Bool.cond_false_right])))))))
def cx11 : Ctx := ⟨tys0, [(23, ([], c23)), (44, ([], c44)), (58, ([], c58))]⟩
theorem cx11_good : GoodCtx Try.prog cx11 := cx_cons good23 (cx_cons good44 (cx_cons good58 cx0_good))
def c30 : Ctr := fnC [dObj, dOS, dI] rRE (fun y => few y.2.1) (fun y => ((sWith y.1 y.2.1 y.2.2.1).1, (sWith y.1 y.2.1 y.2.2.1).2, ()))
theorem good30 : GoodC Try.prog 30 c30 := by
  refine goodF cx11_good 3 _ _ _ _ ⟨_, Try.func30, rfl, rfl⟩ fun (⟨⟨nm, kd, sz, ot⟩, ⟨ow, ct, tm, hs, q, bf, cs, cl, vl⟩, t, _⟩ : ObT × OS × Int × Unit) hfew => ?_
  simp only at hfew
  have f2 : q.length ≤ 1000000 := hfew.2.1
  refine (And.intro (by rfl) (And.intro (by first | exact hfew | exact f2 | (intros; (try subst_vars); (try simp only [Bool.cond_true_left, Bool.cond_false_right, Bool.or_eq_true, Bool.or_eq_false_iff, Bool.and_eq_true, Bool.not_eq_true', Bool.not_eq_false', decide_eq_true_eq, decide_eq_false_iff_not, Int.not_lt, Int.not_le] at *); (try simp only [inK, big, lim, List.length_cons, List.length_nil, List.length_append, List.length_drop, List.length_take, List.length_replicate] at *); omega)) (And.intro (fun h0 => (fin_of rfl (by (simp only [sFind_any] at *; simp only [sWith, qu]; grind)))) (fun h0 => (And.intro True.intro (And.intro (fun h1 => (fin_of rfl (by (simp only [sFind_any] at *; simp only [sWith, qu]; grind)))) (fun h1 => (And.intro (by first | exact hfew | exact f2 | (intros; (try subst_vars); (try simp only [Bool.cond_true_left, Bool.cond_false_right, Bool.or_eq_true, Bool.or_eq_false_iff, Bool.and_eq_true, Bool.not_eq_true', Bool.not_eq_false', decide_eq_true_eq, decide_eq_false_iff_not, Int.not_lt, Int.not_le] at *); (try simp only [inK, big, lim, List.length_cons, List.length_nil, List.length_append, List.length_drop, List.length_take, List.length_replicate] at *); omega)) (fin_of rfl (by (simp only [sFind_any] at *; simp only [sWith, qu]; grind)))))))))))
def cx12 : Ctx := ⟨tys0, [(23, ([], c23)), (41, ([], c41)), (42, ([], c42)), (45, ([], c45)), (55, ([], c55)), (56, ([], c56)), (57, ([], c57))]⟩
theorem cx12_good : GoodCtx Try.prog cx12 := cx_cons good23 (cx_cons good41 (cx_cons good42 (cx_cons good45 (cx_cons good55 (cx_cons good56 (cx_cons good57 cx0_good))))))
def c29 : Ctr := fnC [dObj, dOS, dW] rOE (fun y => few y.2.1) (fun y => ((sOffer y.1 y.2.1 y.2.2.1).1, (sOffer y.1 y.2.1 y.2.2.1).2, ()))
set_option maxHeartbeats 4000000 in
theorem good29 : GoodC Try.prog 29 c29 := by
  refine goodF cx12_good 3 _ _ _ _ ⟨_, Try.func29, rfl, rfl⟩ fun (⟨⟨nm, kd, sz, ot⟩, ⟨ow, ct, tm, hs, q, bf, cs, cl, vl⟩, ⟨tk, op, va, pr, ca⟩, _⟩ : ObT × OS × W × Unit) hfew => ?_
  simp only at hfew
  have f2 : q.length ≤ 1000000 := hfew.2.1
  have e0 : (((q ++ [(tk, op, va, pr, ca)]).length : Int) - 1).toNat = q.length := by simp
  have e1 : 0 ≤ ((q ++ [(tk, op, va, pr, ca)]).length : Int) - 1 ∧ ((q ++ [(tk, op, va, pr, ca)]).length : Int) - 1 < (q ++ [(tk, op, va, pr, ca)]).length := by simp; omega
  refine (And.intro (by rfl) (And.intro (by first | exact hfew | exact f2 | exact e1 | (intros; (try subst_vars); (try simp only [Bool.cond_true_left, Bool.cond_false_right, Bool.or_eq_true, Bool.or_eq_false_iff, Bool.and_eq_true, Bool.not_eq_true', Bool.not_eq_false', decide_eq_true_eq, decide_eq_false_iff_not, Int.not_lt, Int.not_le] at *); (try simp only [inK, big, lim, List.length_cons, List.length_nil, List.length_append, List.length_drop, List.length_take, List.length_replicate] at *); omega)) (And.intro (fun h0 => (fin_of rfl (by first | (simp only [sOffer, offOk, inR, qu, clo, setQ]; grind) | (simp only [e0] at h8; simp only [sOffer, offOk, inR, qu, clo, setQ]; grind)))) (fun h0 => (And.intro True.intro (And.intro (fun h1 => True.intro) (And.intro (fun h2 => (fin_of rfl (by first | (simp only [sOffer, offOk, inR, qu, clo, setQ]; grind) | (simp only [e0] at h8; simp only [sOffer, offOk, inR, qu, clo, setQ]; grind)))) (fun h2 => (And.intro (fun h3 => (fin_of rfl (by first | (simp only [sOffer, offOk, inR, qu, clo, setQ]; grind) | (simp only [e0] at h8; simp only [sOffer, offOk, inR, qu, clo, setQ]; grind)))) (fun h3 => (And.intro True.intro (And.intro (fun h4 => (fin_of rfl (by first | (simp only [sOffer, offOk, inR, qu, clo, setQ]; grind) | (simp only [e0] at h8; simp only [sOffer, offOk, inR, qu, clo, setQ]; grind)))) (fun h4 => (And.intro (fun h5 => (fin_of rfl (by first | (simp only [sOffer, offOk, inR, qu, clo, setQ]; grind) | (simp only [e0] at h8; simp only [sOffer, offOk, inR, qu, clo, setQ]; grind)))) (fun h5 => (And.intro (by rfl) (And.intro (by first | exact hfew | exact f2 | exact e1 | (intros; (try subst_vars); (try simp only [Bool.cond_true_left, Bool.cond_false_right, Bool.or_eq_true, Bool.or_eq_false_iff, Bool.and_eq_true, Bool.not_eq_true', Bool.not_eq_false', decide_eq_true_eq, decide_eq_false_iff_not, Int.not_lt, Int.not_le] at *); (try simp only [inK, big, lim, List.length_cons, List.length_nil, List.length_append, List.length_drop, List.length_take, List.length_replicate] at *); omega)) (And.intro (by first | exact hfew | exact f2 | exact e1 | (intros; (try subst_vars); (try simp only [Bool.cond_true_left, Bool.cond_false_right, Bool.or_eq_true, Bool.or_eq_false_iff, Bool.and_eq_true, Bool.not_eq_true', Bool.not_eq_false', decide_eq_true_eq, decide_eq_false_iff_not, Int.not_lt, Int.not_le] at *); (try simp only [inK, big, lim, List.length_cons, List.length_nil, List.length_append, List.length_drop, List.length_take, List.length_replicate] at *); omega)) (fun h6 => (And.intro (by first | exact hfew | exact f2 | exact e1 | (intros; (try subst_vars); (try simp only [Bool.cond_true_left, Bool.cond_false_right, Bool.or_eq_true, Bool.or_eq_false_iff, Bool.and_eq_true, Bool.not_eq_true', Bool.not_eq_false', decide_eq_true_eq, decide_eq_false_iff_not, Int.not_lt, Int.not_le] at *); (try simp only [inK, big, lim, List.length_cons, List.length_nil, List.length_append, List.length_drop, List.length_take, List.length_replicate] at *); omega)) (And.intro (by first | exact hfew | exact f2 | exact e1 | (intros; (try subst_vars); (try simp only [Bool.cond_true_left, Bool.cond_false_right, Bool.or_eq_true, Bool.or_eq_false_iff, Bool.and_eq_true, Bool.not_eq_true', Bool.not_eq_false', decide_eq_true_eq, decide_eq_false_iff_not, Int.not_lt, Int.not_le] at *); (try simp only [inK, big, lim, List.length_cons, List.length_nil, List.length_append, List.length_drop, List.length_take, List.length_replicate] at *); omega)) (And.intro (fun h7 => True.intro) (And.intro (fun h8 => (fin_of rfl (by first | (simp only [sOffer, offOk, inR, qu, clo, setQ]; grind) | (simp only [e0] at h8; simp only [sOffer, offOk, inR, qu, clo, setQ]; grind)))) (fun h8 => (fin_of rfl (by first | (simp only [sOffer, offOk, inR, qu, clo, setQ]; grind) | (simp only [e0] at h8; simp only [sOffer, offOk, inR, qu, clo, setQ]; grind)))))))))))))))))))))))))))
end Go.Proofs.Ytnaejponobbahaa
