/- Channel: the example of the chapter. -/
import Derived.Test.YtnaejponobbahaaChanJ
set_option linter.unusedSimpArgs false
set_option linter.unusedVariables false
set_option maxRecDepth 100000
namespace Go.Proofs.Ytnaejponobbahaa
open Go.Sx

/-- A contract at some given arguments: what it hands back is written out. -/
def pickC (a : List AK) (r : List (Bool × Ty)) (pick : AK.dens a → Nat) (tab : List (AK.dens a × Rens r)) : Ctr := fun args =>
  match ofAVs a args with
  | some y => (match tab[pick y]? with
    | some p => some ⟨⟨some (y = p.1), none, [], resAV r p.2⟩, fun k => k (resAV r p.2)⟩
    | none => none)
  | none => none
theorem good_pick {P : Program} {g : FuncId} {a : List AK} {r : List (Bool × Ty)} {need : AK.dens a → Prop} {f : AK.dens a → Rens r} (h : GoodC P g (fnC a r need f)) (pick : AK.dens a → Nat) (tab : List (AK.dens a × Rens r))
    (ht : ∀ p ∈ tab, need p.1 ∧ f p.1 = p.2) : GoodC P g (pickC a r pick tab) := by
  refine ⟨h.1, fun args cg hC k hk => ?_, fun args cr gen hC hn w F0 vs hF hsz hrd => ?_⟩
  · unfold pickC at hC
    split at hC
    · split at hC
      · cases hC
        exact hk
      · cases hC
    · cases hC
  · unfold pickC at hC
    split at hC
    · rename_i y hy
      split at hC
      · rename_i p hp
        cases hC
        have hn' : y = p.1 := hn
        obtain ⟨h1, h2⟩ := ht p (List.mem_of_getElem? hp)
        subst hn'
        have hC' : fnC a r need f args = some ⟨⟨some (need p.1), none, [], resAV r (f p.1)⟩, if rich r then fun k => ∀ z, z = f p.1 → k (resAV r z) else fun k => k (resAV r (f p.1))⟩ := by
          unfold fnC
          rw [hy]
        rw [h2] at hC'
        exact h.calls _ _ _ hC' h1 w F0 vs hF hsz hrd
      · cases hC
    · cases hC
def aw0 : OS := (-1, 0, 0, [], [], [], [], false, 0)
def aw1 : OS := (-1, 0, 0, [], [], [5], [], false, 0)
def aw2 : OS := (-1, 0, 0, [], [(2, 64, 6, 0, -1)], [5], [], false, 0)
def aw3 : OS := (-1, 0, 0, [], [], [6], [], false, 0)
def awTab : List (AK.dens [dObj, dOS, dCl] × Rens rRE) := [
  (((⟨#[113]⟩, 6, 1, 0), (-1, 0, 0, [], [], [], [], false, 0), (1, 64, 5, 0, 0), ()), (((-1, 0, 0, [], [], [5], [], false, 0), false, 0, true, []), 0, ())),
  (((⟨#[113]⟩, 6, 1, 0), (-1, 0, 0, [], [], [5], [], false, 0), (2, 64, 6, 0, 0), ()), (((-1, 0, 0, [], [(2, 64, 6, 0, -1)], [5], [], false, 0), true, 0, false, []), 0, ())),
  (((⟨#[113]⟩, 6, 1, 0), (-1, 0, 0, [], [(2, 64, 6, 0, -1)], [5], [], false, 0), (3, 65, 0, 0, 0), ()), (((-1, 0, 0, [], [], [6], [], false, 0), false, 5, true, [(2, 64, 0, true, -1)]), 0, ()))]
def c16k : Ctr := pickC [dObj, dOS, dCl] rRE (fun y => y.2.2.1.1.toNat - 1) awTab
theorem good16k : GoodC Try.prog 16 c16k := by
  refine good_pick good16 _ awTab fun p hp => ?_
  simp only [awTab, List.mem_cons, List.not_mem_nil, or_false] at hp
  rcases hp with rfl | rfl | rfl
  · exact ⟨⟨by decide, by decide, by decide, by decide⟩, by kernel_rfl⟩
  · exact ⟨⟨by decide, by decide, by decide, by decide⟩, by kernel_rfl⟩
  · exact ⟨⟨by decide, by decide, by decide, by decide⟩, by kernel_rfl⟩
def cx22 : Ctx := ⟨tys0, [(10, ([], c10)), (16, ([], c16k)), (19, ([], c19)), (36, ([], c36))]⟩
theorem cx22_good : GoodCtx Try.prog cx22 := cx_cons good10 (cx_cons good16k (cx_cons good19 (cx_cons good36 cx0_good)))
def c13 : Ctr := fnC [] rB (fun _ => True) (fun _ => (true, ()))
set_option maxHeartbeats 4000000 in
theorem good13 : GoodC Try.prog 13 c13 := by
  refine goodF cx22_good 3 _ _ _ _ ⟨_, Try.func13, rfl, rfl⟩ fun _ _ => ?_
  refine (And.intro (by first | kernel_rfl | rfl) (And.intro True.intro (fun (h0 : (ByteArray × Int × Int × Int) × PUnit) => (fun h1 => (And.intro True.intro (fun (h2 : (Int × Int × Int × List Int × List (Int × Int × Int × Int × Int) × List Int × List (Int × List Int) × Bool × Int) ×   Int × PUnit) => (fun h3 => (And.intro (by first | kernel_rfl | rfl) (And.intro True.intro (And.intro (by first | (subst_vars; rfl) | (intros; (try subst_vars); (try simp only [Bool.cond_true_left, Bool.cond_false_right, Bool.or_eq_true, Bool.or_eq_false_iff, Bool.and_eq_true, Bool.not_eq_true', Bool.not_eq_false', decide_eq_true_eq, decide_eq_false_iff_not, Int.not_lt, Int.not_le] at *); (try simp only [inK, big, lim, List.length_cons, List.length_nil, List.length_append, List.length_drop, List.length_take, List.length_replicate] at *); omega)) (And.intro (by first | kernel_rfl | rfl) (And.intro True.intro (And.intro (by rfl) (And.intro (by first | kernel_rfl | rfl) (And.intro True.intro (And.intro (by rfl) (And.intro (fun h4 => (fin_of rfl ?_)) (fun h4 => (fun h5 => (And.intro (fun h6 => (by first | (subst_vars; rfl) | (intros; (try subst_vars); (try simp only [Bool.cond_true_left, Bool.cond_false_right, Bool.or_eq_true, Bool.or_eq_false_iff, Bool.and_eq_true, Bool.not_eq_true', Bool.not_eq_false', decide_eq_true_eq, decide_eq_false_iff_not, Int.not_lt, Int.not_le] at *); (try simp only [inK, big, lim, List.length_cons, List.length_nil, List.length_append, List.length_drop, List.length_take, List.length_replicate] at *); omega))) (And.intro (fun h7 => (by rfl)) (fin_of rfl (by (subst_vars; rfl))))))))))))))))))))))))
  · subst h1 h3
    exact absurd h4 (by decide +kernel)
end Go.Proofs.Ytnaejponobbahaa
