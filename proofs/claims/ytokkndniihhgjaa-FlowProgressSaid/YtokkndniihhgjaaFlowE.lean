/- Flow: the laws FlowConsumer, FlowProducer, FlowValid, walked. -/
import Derived.Test.YtokkndniihhgjaaFlowD
set_option linter.unusedSimpArgs false
set_option linter.unusedVariables false
namespace Go.Proofs.Ytokkndniihhgjaa
open Go.Sx

def cxM : Ctx := ⟨tys0, (13, ([], c13)) :: (32, ([], c32)) :: cxL.tab⟩
theorem cxM_good : GoodCtx Try.prog cxM := cx_cons good13 (cx_cons good32 cxL_good)
theorem sameCred_self (a : Cred) : sameCred a a = true := by simp [sameCred]

set_option maxRecDepth 100000 in
set_option maxHeartbeats 4000000 in
theorem law4 : LawOk Try.prog 4 [tCred, tI] [true, false] := by
  refine ⟨cxM, 3, cxM_good, fun ⟨⟨cap, gr, se, ta, xs, cl⟩, n, _⟩ _ => ?_⟩
  refine (And.intro (by rfl) (And.intro True.intro (And.intro (fun h0 => (And.intro True.intro (fin_of rfl (by subst_vars; simp [sameCred_self])))) (fun h0 => (And.intro True.intro (fun h1 => (fun h2 => (And.intro True.intro (fun h3 => (fun h4 => (And.intro True.intro (fun h5 => (fun h6 => (And.intro True.intro (fun h7 => (fun h8 => (And.intro True.intro (fun h9 => (fun h10 => (And.intro True.intro (fun h11 => (fun h12 => (And.intro (by rfl) (And.intro True.intro (And.intro (fun h13 => True.intro) (And.intro (fun h14 => True.intro) (And.intro (fun h15 => True.intro) (And.intro (fun h16 => True.intro) (And.intro (fun h17 => True.intro) (And.intro (fun h18 => True.intro) (And.intro (fun h19 => True.intro) (fin_of rfl (by subst_vars; simp [sameCred_self])))))))))))))))))))))))))))))))))

set_option maxRecDepth 100000 in
set_option maxHeartbeats 4000000 in
theorem law5 : LawOk Try.prog 5 [tCred, tI] [true, false] := by
  refine ⟨cxM, 3, cxM_good, fun ⟨⟨cap, gr, se, ta, xs, cl⟩, n, _⟩ _ => ?_⟩
  refine (And.intro (by rfl) (And.intro True.intro (And.intro (fun h0 => (And.intro True.intro (fin_of rfl (by subst_vars; simp [sameCred_self])))) (fun h0 => (And.intro True.intro (fun h1 => (fun h2 => (And.intro True.intro (fun h3 => (fun h4 => (And.intro True.intro (fun h5 => (fun h6 => (And.intro True.intro (fun h7 => (fun h8 => (And.intro (by rfl) (And.intro True.intro (And.intro (fun h9 => True.intro) (And.intro (fun h10 => True.intro) (And.intro (fun h11 => True.intro) (And.intro (fun h12 => True.intro) (fin_of rfl (by subst_vars; simp [sameCred_self]))))))))))))))))))))))))

end Go.Proofs.Ytokkndniihhgjaa
