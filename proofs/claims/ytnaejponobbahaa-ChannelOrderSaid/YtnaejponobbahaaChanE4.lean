/- Channel: Apply, what is no operation. -/
import Derived.Test.YtnaejponobbahaaChanE
set_option linter.unusedSimpArgs false
set_option linter.unusedVariables false
set_option maxRecDepth 100000
namespace Go.Proofs.Ytnaejponobbahaa
open Go.Sx

set_option maxHeartbeats 4000000 in
set_option maxRecDepth 100000 in
theorem w16d (nm : ByteArray) (kd sz ot ow ct tm : Int) (hs : List Int) (q : List W) (bf : List Int) (cs : List Cu) (cl : Bool) (vl tk op va pr nw : Int) (hfew : few (ow, ct, tm, hs, q, bf, cs, cl, vl)) (n1 : op ≠ 64) (n2 : op ≠ 65) (n3 : op ≠ 66) : W16 ((nm, kd, sz, ot), (ow, ct, tm, hs, q, bf, cs, cl, vl), (tk, op, va, pr, nw), ()) := by
  simp only [few, qu, bu] at hfew
  obtain ⟨f1, f2, f3, f4⟩ := hfew
  refine (And.intro (by rfl) (And.intro (by first | exact f2 | exact f3 | exact ⟨f1, f2, f3, f4⟩ | (intros; (try subst_vars); (try simp only [Bool.cond_true_left, Bool.cond_false_right, Bool.or_eq_true, Bool.or_eq_false_iff, Bool.and_eq_true, Bool.not_eq_true', Bool.not_eq_false', decide_eq_true_eq, decide_eq_false_iff_not, Int.not_lt, Int.not_le] at *); (try simp only [inK, big, lim, List.length_cons, List.length_nil, List.length_append, List.length_drop, List.length_take, List.length_replicate] at *); omega)) (And.intro (fun h0 => (fin_of rfl (by (simp only [sFind_any] at *; simp only [sApply, callOk, inR, qu, clo]; grind)))) (fun h0 => (And.intro True.intro (And.intro (fun h1 => True.intro) (And.intro (fun h2 => (fin_of rfl (by (simp only [sFind_any] at *; simp only [sApply, callOk, inR, qu, clo]; grind)))) (fun h2 => (And.intro (by kernel_rfl) (And.intro (by rfl) (And.intro (by rfl) (And.intro (by rfl) (And.intro (by rfl) (And.intro (by rfl) (And.intro (fun (h3 : decide (op = (64 : Int)) = true) => absurd (of_decide_eq_true h3) (by omega)) (fun h3 => (And.intro (fun (h4 : decide (op = (65 : Int)) = true) => absurd (of_decide_eq_true h4) (by omega)) (fun h4 => (And.intro (fun (h5 : decide (op = (66 : Int)) = true) => absurd (of_decide_eq_true h5) (by omega)) (fun h5 => (And.intro (by rfl) (And.intro (by rfl) (And.intro (by rfl) (And.intro (by rfl) (And.intro (fun h6 => (fin_of rfl (by (simp only [sFind_any] at *; simp only [sApply, callOk, inR, qu, clo]; grind)))) (fun h6 => False.elim (Bool.false_ne_true (Eq.symm (Eq.trans (by kernel_rfl) h6)))))))))))))))))))))))))))))
end Go.Proofs.Ytnaejponobbahaa
