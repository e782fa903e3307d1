/- Flow: the functions of the laws, as contracts. -/
import Derived.Test.YtokkndniihhgjaaFlowC
set_option linter.unusedSimpArgs false
set_option linter.unusedVariables false
namespace Go.Proofs.Ytokkndniihhgjaa
open Go.Sx

def c11 : Ctr := fnC [dCred] [(false, .bool)] (fun _ => True) (fun y => (decide (120 < (y.1.2.2.2.2.1.length : Int)), ()))
theorem good11 : GoodC Try.prog 11 c11 := by
  refine goodF cx0_good 3 _ _ _ _ ⟨_, Try.func11, rfl, rfl⟩ fun ⟨⟨cap, gr, se, ta, xs, cl⟩, _⟩ _ => ?_
  refine (And.intro (by rfl) (fun h0 => (fin_of rfl (by rfl))))

def cxL : Ctx := ⟨tys0, [(12, ([], c12)), (14, ([], c14)), (15, ([], c15)), (16, ([], c16)), (17, ([], c17)), (18, ([], c18)), (19, ([], c19)), (20, ([], c20)), (21, ([], c21)), (22, ([], c22)), (23, ([], c23)), (24, ([], c24)), (25, ([], c25)), (26, ([], c26)), (27, ([], c27)),
  (28, ([], c28)), (29, ([], c29)), (31, ([], c31)), (11, ([], c11))]⟩
theorem cxL_good : GoodCtx Try.prog cxL := cx_cons good12 (cx_cons good14 (cx_cons good15 (cx_cons good16 (cx_cons good17 (cx_cons good18 (cx_cons good19 (cx_cons good20 (cx_cons good21 (cx_cons good22 (cx_cons good23 (cx_cons good24 (cx_cons good25 (cx_cons good26 (cx_cons good27
  (cx_cons good28 (cx_cons good29 (cx_cons good31 (cx_cons good11 cx0_good))))))))))))))))))

def doS (c : Cred) (o : Int × Int) : Cred × Int × Int :=
  if o.1 = 1 then ((fReq c o.2).1, 0, (fReq c o.2).2) else if o.1 = 2 then ((fSend c o.2).1, 0, (fSend c o.2).2) else if o.1 = 3 then fTake c else ((fClose c).1, 0, (fClose c).2)
@[reducible] def dEdge : AK := .dat true tEdge
def c32 : Ctr := fnC [dCred, dEdge] [(true, tCred), (false, tI), (false, tI)] (fun _ => True) (fun y => ((doS y.1 y.2.1).1, (doS y.1 y.2.1).2.1, (doS y.1 y.2.1).2.2, ()))
set_option maxRecDepth 100000 in
theorem good32 : GoodC Try.prog 32 c32 := by
  refine goodF cxL_good 3 _ _ _ _ ⟨_, Try.func32, rfl, rfl⟩ fun ⟨⟨cap, gr, se, ta, xs, cl⟩, ⟨fr, to⟩, _⟩ _ => ?_
  refine (And.intro (by rfl) (And.intro (fun h0 => (And.intro True.intro (fun h1 => (fun h2 => (fin_of rfl (by subst_vars; simp_all [doS])))))) (fun h0 => (And.intro (fun h3 => (And.intro True.intro (fun h4 => (fun h5 => (fin_of rfl (by subst_vars; simp_all [doS])))))) (fun h3 => (And.intro (fun h6 => (And.intro True.intro (fun h7 => (fun h8 => (fin_of rfl (by subst_vars; simp_all [doS])))))) (fun h6 => (And.intro True.intro (fun h9 => (fun h10 => (fin_of rfl (by subst_vars; simp_all [doS]))))))))))))

def c13 : Ctr := fnC [] [(false, .bool)] (fun _ => True) (fun _ => (true, ()))
set_option maxRecDepth 100000 in
set_option maxHeartbeats 1000000 in
theorem good13 : GoodC Try.prog 13 c13 := by
  refine goodF cxL_good 3 _ _ _ _ ⟨_, Try.func13, rfl, rfl⟩ fun _ _ => ?_
  refine (And.intro (by rfl) (And.intro True.intro (fun h0 => (fun h1 => (And.intro True.intro (fun h2 => (fun h3 => (And.intro True.intro (fun h4 => (fun h5 => (And.intro True.intro (fun h6 => (fun h7 => (And.intro True.intro (And.intro True.intro (fun h8 => (fun h9 => (And.intro True.intro (fun h10 => (fun h11 => (And.intro True.intro (fun h12 => (fun h13 => (And.intro True.intro (fun h14 => (fun h15 => (And.intro (fun h16 => True.intro) (fin_of rfl ?_))))))))))))))))))))))))))))
  simp [fNew, fReq, fSend, fTake, fRoom, fCheck, inR, badItem] at h1
  subst h1
  simp [fNew, fReq, fSend, fTake, fRoom, fCheck, inR, badItem] at h3
  subst h3
  simp [fNew, fReq, fSend, fTake, fRoom, fCheck, inR, badItem] at h5
  subst h5
  simp [fNew, fReq, fSend, fTake, fRoom, fCheck, inR, badItem] at h7
  subst h7
  simp [fNew, fReq, fSend, fTake, fRoom, fCheck, inR, badItem] at h9
  subst h9
  simp [fNew, fReq, fSend, fTake, fRoom, fCheck, inR, badItem] at h11
  subst h11
  simp [fNew, fReq, fSend, fTake, fRoom, fCheck, inR, badItem] at h13
  subst h13
  simp [fNew, fReq, fSend, fTake, fRoom, fCheck, inR, badItem] at h15
  subst h15
  simp [fNew, fReq, fSend, fTake, fRoom, fCheck, inR, badItem]
end Go.Proofs.Ytokkndniihhgjaa
