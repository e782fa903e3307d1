/- Partial orders: the law Least. -/
import Derived.Test.YtlaefkhbpnbahaaPoJ
import Derived.Test.YtlaefkhbpnbahaaPoQ
set_option linter.unusedSimpArgs false
set_option linter.unusedVariables false
set_option maxRecDepth 100000
namespace Go.Proofs.Ytlaefkhbpnbahaa
open Go.Sx
def cxL : Ctx := ⟨tys0, [(12, ([], c12)), (13, ([], c13)), (17, ([], c17)), (18, ([], c18)), (19, ([], c19)), (20, ([], c20))]⟩
theorem cxL_good : GoodCtx Try.prog cxL := cx_cons good12 (cx_cons good13 (cx_cons good17 (cx_cons good18 (cx_cons good19 (cx_cons good20 cx0_good)))))
theorem has_iff {l : List Ed} {e : Ed} : hasF l e = true ↔ e ∈ l := by
  simp only [hasF, List.any_eq_true, Bool.and_eq_true, decide_eq_true_eq]
  constructor
  · rintro ⟨p, hp, h1, h2⟩
    have : p = e := Prod.ext h1 h2
    exact this ▸ hp
  · exact fun h => ⟨e, h, rfl, rfl⟩
theorem all_has {l m : List Ed} : l.all (hasF m) = true ↔ ∀ p ∈ l, p ∈ m := by
  rw [List.all_eq_true]
  exact ⟨fun h p hp => has_iff.1 (h p hp), fun h p hp => has_iff.2 (h p hp)⟩
theorem great_len {n : Int} {l : List Ed} (h : greatB n l = false) : l.length ≤ 60 ∧ (8 < n → 200 < n) := by
  simp only [greatB, Bool.or_eq_false_iff, Bool.and_eq_false_iff, decide_eq_false_iff_not] at h
  omega
theorem law4 : LawOk Try.prog 4 [tI, tEs, tEs] [false, false, false] := by
  refine ⟨cxL, 3, cxL_good, fun (⟨n, l, m, _⟩ : Int × List Ed × List Ed × Unit) fine => ?_⟩
  have good : (bif greatB n l then true else decide (60 < (m.length : Int))) = false → l.length ≤ 60 ∧ m.length ≤ 60 := fun h => by
    cases hg : greatB n l with
    | true => rw [hg] at h; cases h
    | false =>
      rw [hg] at h
      have := great_len hg
      have : ¬ (60 < (m.length : Int)) := of_decide_eq_false h
      omega
  refine (And.intro (by first | kernel_rfl | rfl) (And.intro True.intro (fun h0 => (And.intro (fun h1 => (And.intro True.intro (fin_of rfl ?_))) (fun h1 => (And.intro True.intro (fun (h2 : List (Int × Int) × Int × PUnit) => (fun h3 => (And.intro (fun h4 => (fun h5 => (And.intro (fun h6 => True.intro) (And.intro (fun h7 => True.intro) (And.intro (fun h8 => True.intro) (fin_of rfl ?_)))))) (fun h4 => (And.intro True.intro (And.intro (fun h9 => True.intro) (And.intro (fun h10 => (fin_of rfl ?_)) (fun h10 => (And.intro True.intro (fun (h11 : List (Int × Int) × Int × PUnit) => (fun h12 => (And.intro (fun h13 => True.intro) (And.intro (fun h14 => (fin_of rfl ?_)) (fun h14 => (And.intro True.intro (And.intro (fun h15 => True.intro) (And.intro (fun h16 => True.intro) (And.intro (fun h17 => True.intro) (fin_of rfl ?_)))))))))))))))))))))))))
  · rfl
  · obtain ⟨hl, hm⟩ := good h1
    subst h3
    have h4' : (genF n l).2 ≠ 0 := by
      have : (!decide ((genF n l).2 = 0)) = true := h4
      simpa using this
    show (true, ()) = ((bif bif decide ((((genF n l).1).length : Int) = 0) then bif !decide (checkF n m = 0) then true else !l.all (hasF m) else false then true else false), ())
    rcases gen_cases n l with ⟨_, e⟩ | ⟨e, _⟩
    · rw [e]
      by_cases hc : checkF n m = 0
      · have : l.all (hasF m) = false := by
          rw [Bool.eq_false_iff]
          intro ha
          obtain ⟨a, ha, _⟩ := gen_in (by omega) (check_iff.1 hc) (all_has.1 ha)
          rw [ha] at h4'; exact h4' rfl
        rw [this, hc]; rfl
      · rw [decide_eq_false hc]; rfl
    · rw [e] at h4'; exact absurd rfl h4'
  all_goals
    obtain ⟨hl, hm⟩ := good h1
    subst h3
    obtain ⟨a, ha⟩ : ∃ a, genF n l = (a, 0) := ⟨(genF n l).1, by
      have : (!decide ((genF n l).2 = 0)) = false := h4
      exact Prod.ext rfl (by simpa using this)⟩
    have ho := gen_ord ha
  · have h10' : (bif !decide (checkF n (genF n l).1 = 0) then true else !l.all (hasF (genF n l).1)) = true := h10
    rw [ha, check_iff.2 ho.1, all_has.2 ho.2.1] at h10'
    cases h10'
  · subst h12
    have h14' : (bif !decide ((genF n (genF n l).1).2 = 0) then true else !decide ((genF n l).1 = (genF n (genF n l).1).1)) = true := h14
    rw [ha] at h14'
    simp only [gen_self ho.1] at h14'
    simp at h14'
  · show (true, ()) = ((bif bif bif !decide (checkF n m = 0) then true else !l.all (hasF m) then true else (genF n l).1.all (hasF m) then true else false), ())
    rw [ha]
    by_cases hc : checkF n m = 0
    · cases hw : l.all (hasF m) with
      | false => rw [hc]; rfl
      | true =>
        obtain ⟨b, hb, hb'⟩ := gen_in (n := n) (l := l) (by omega) (check_iff.1 hc) (all_has.1 hw)
        rw [ha] at hb
        cases hb
        rw [all_has.2 hb', hc]; rfl
    · rw [decide_eq_false hc]; rfl
end Go.Proofs.Ytlaefkhbpnbahaa
