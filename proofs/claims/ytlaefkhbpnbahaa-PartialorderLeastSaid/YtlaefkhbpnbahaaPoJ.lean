/- Partial orders: the example. -/
import Derived.Test.YtlaefkhbpnbahaaPoI
set_option linter.unusedSimpArgs false
set_option linter.unusedVariables false
set_option maxRecDepth 100000
namespace Go.Proofs.Ytlaefkhbpnbahaa
open Go.Sx

theorem ex_gen : genF 4 [(0, 1), (1, 2)] = ([(0, 1), (0, 2), (1, 2)], 0) := by decide
theorem ex_cov : coversF 4 [(0, 1), (0, 2), (1, 2)] = ([(0, 1), (1, 2)], 0) := by decide
theorem ex_ext : extsF 4 [(0, 1), (0, 2), (1, 2)] 10 = ([[0, 1, 2, 3], [0, 1, 3, 2], [0, 3, 1, 2], [3, 0, 1, 2]], 0) := by decide
theorem ex_conc : concF 4 [(0, 1), (0, 2), (1, 2)] = [(0, 3), (1, 3), (2, 3)] := by decide
/-- A contract at some given arguments: what it hands back is written out. -/
def pickC (a : List AK) (r : List (Bool × Ty)) (pick : AK.dens a → Nat) (tab : List (AK.dens a × Rens r)) : Ctr := fun args =>
  match ofAVs a args with
  | some y => (match tab[pick y]? with
    | some p => some ⟨⟨some (y = p.1), none, [], resAV r p.2⟩, fun k => k (resAV r p.2)⟩
    | none => none)
  | none => none
theorem good_pick {P : Program} {g : FuncId} {a : List AK} {r : List (Bool × Ty)} {need : AK.dens a → Prop} {f : AK.dens a → Rens r} (h : GoodC P g (fnC a r need f)) (pick : AK.dens a → Nat) (tab : List (AK.dens a × Rens r))
    (ht : ∀ p ∈ tab, need p.1 ∧ f p.1 = p.2) : GoodC P g (pickC a r pick tab) := by
  refine ⟨h.1, fun args cg hC k hk => ?_, fun args cr gen hC hn w F0 vs hF hsz hrd => ?_⟩
  · unfold pickC at hC
    split at hC
    · split at hC
      · cases hC
        exact hk
      · cases hC
    · cases hC
  · unfold pickC at hC
    split at hC
    · rename_i y hy
      split at hC
      · rename_i p hp
        cases hC
        have hn' : y = p.1 := hn
        obtain ⟨h1, h2⟩ := ht p (List.mem_of_getElem? hp)
        subst hn'
        have hC' : fnC a r need f args = some ⟨⟨some (need p.1), none, [], resAV r (f p.1)⟩, if rich r then fun k => ∀ z, z = f p.1 → k (resAV r z) else fun k => k (resAV r (f p.1))⟩ := by
          unfold fnC
          rw [hy]
        rw [h2] at hC'
        exact h.calls _ _ _ hC' h1 w F0 vs hF hsz hrd
      · cases hC
    · cases hC
@[reducible] def Lx : List Ed := [(0, 1), (0, 2), (1, 2)]
def c17k : Ctr := pickC [dI, dEs] rEsI (fun _ => 0) [((4, [(0, 1), (1, 2)], ()), ([(0, 1), (0, 2), (1, 2)], 0, ()))]
theorem good17k : GoodC Try.prog 17 c17k := by
  refine good_pick good17 _ _ fun p hp => ?_
  simp only [List.mem_cons, List.not_mem_nil, or_false] at hp
  subst hp
  exact ⟨trivial, by show ((genF 4 [(0, 1), (1, 2)]).1, (genF 4 [(0, 1), (1, 2)]).2, ()) = _; rw [ex_gen]⟩
def c25k : Ctr := pickC [dI, dEs] rEsI (fun _ => 0) [((4, [(0, 1), (0, 2), (1, 2)], ()), ([(0, 1), (1, 2)], 0, ()))]
theorem good25k : GoodC Try.prog 25 c25k := by
  refine good_pick good25 _ _ fun p hp => ?_
  simp only [List.mem_cons, List.not_mem_nil, or_false] at hp
  subst hp
  exact ⟨trivial, by show ((coversF 4 [(0, 1), (0, 2), (1, 2)]).1, (coversF 4 [(0, 1), (0, 2), (1, 2)]).2, ()) = _; rw [ex_cov]⟩
def c14k : Ctr := pickC [dI, dEs, dI] rIssI (fun _ => 0) [((4, [(0, 1), (0, 2), (1, 2)], 10, ()), ([[0, 1, 2, 3], [0, 1, 3, 2], [0, 3, 1, 2], [3, 0, 1, 2]], 0, ()))]
theorem good14k : GoodC Try.prog 14 c14k := by
  refine good_pick good14 _ _ fun p hp => ?_
  simp only [List.mem_cons, List.not_mem_nil, or_false] at hp
  subst hp
  exact ⟨trivial, by show ((extsF 4 [(0, 1), (0, 2), (1, 2)] 10).1, (extsF 4 [(0, 1), (0, 2), (1, 2)] 10).2, ()) = _; rw [ex_ext]⟩
def c21k : Ctr := pickC [dI, dEs] rEs (fun _ => 0) [((4, [(0, 1), (0, 2), (1, 2)], ()), ([(0, 3), (1, 3), (2, 3)], ()))]
theorem good21k : GoodC Try.prog 21 c21k := by
  refine good_pick good21 _ _ fun p hp => ?_
  simp only [List.mem_cons, List.not_mem_nil, or_false] at hp
  subst hp
  exact ⟨trivial, by show (concF 4 [(0, 1), (0, 2), (1, 2)], ()) = _; rw [ex_conc]⟩
def cxW : Ctx := ⟨tys0, [(17, ([], c17k)), (25, ([], c25k)), (14, ([], c14k)), (21, ([], c21k)), (20, ([], c20)), (16, ([], c16))]⟩
theorem cxW_good : GoodCtx Try.prog cxW := cx_cons good17k (cx_cons good25k (cx_cons good14k (cx_cons good21k (cx_cons good20 (cx_cons good16 cx0_good)))))
def c13 : Ctr := fnC [] rB (fun _ => True) (fun _ => (true, ()))
set_option maxHeartbeats 4000000 in
theorem good13 : GoodC Try.prog 13 c13 := by
  refine goodF cxW_good 3 _ _ _ _ ⟨_, Try.func13, rfl, rfl⟩ fun _ _ => ?_
  refine (And.intro (by first | kernel_rfl | rfl) (And.intro (by rfl) (And.intro (by rfl) (And.intro (by rfl) (And.intro (fun h0 => True.intro) (And.intro (fun h1 => True.intro) (And.intro (fun h2 => True.intro) (And.intro (fun h3 => (by rfl)) (And.intro (fun h4 => True.intro) (fin_of rfl (by first | rfl | decide)))))))))))
end Go.Proofs.Ytlaefkhbpnbahaa
