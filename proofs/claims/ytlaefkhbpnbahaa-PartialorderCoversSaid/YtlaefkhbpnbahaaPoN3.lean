/- Partial orders: the laws Refines and Covers. -/
import Derived.Test.YtlaefkhbpnbahaaPoM2
set_option linter.unusedSimpArgs false
set_option linter.unusedVariables false
set_option maxRecDepth 100000
namespace Go.Proofs.Ytlaefkhbpnbahaa
open Go.Sx
def c22 : Ctr := fnO [dEs] tE (fun y => y.1.length ≤ 2000) (fun y => y.1)
theorem good22 : GoodC Try.prog 22 c22 := by
  refine Go.Sx.goodO cx0_good 4 _ _ _ _ ⟨_, Try.func22, rfl, rfl⟩ fun (⟨xs, _⟩ : List Ed × Unit) hn => ?_
  have hl : xs.length ≤ 2000 := hn
  have room : xs.length * 16 ≤ lim := by simp only [lim]; omega
  refine (And.intro (by first | kernel_rfl | rfl) (fun h0 => (fun h1 => (And.intro (fun h2 => (fin_cap0 (by simp_all))) (fun h2 => (And.intro (by first | exact room | (intros; (try subst_vars); (try simp only [Bool.cond_true_left, Bool.cond_false_right, Bool.or_eq_true, Bool.or_eq_false_iff, Bool.and_eq_true, Bool.not_eq_true', Bool.not_eq_false', decide_eq_true_eq, decide_eq_false_iff_not, Int.not_lt, Int.not_le] at *); (try simp only [inK, big, lim, List.length_cons, List.length_nil, List.length_append, List.length_drop, List.length_take, List.length_replicate] at *); omega)) (fin_own rfl (by simp_all))))))))
theorem ref_law {n : Int} {l : List Ed} (hg : greatB n l = false) (hc : checkF n l = 0) {i : Nat} (hi : i < (concF n l).length) :
    let c := (concF n l).getD i (dflt tE)
    (bif bif bif bif bif !decide ((genF n (l ++ [c])).2 = 0) then true else !decide ((genF n (l ++ [(c.2, c.1)])).2 = 0) then true else !l.all (hasF (genF n (l ++ [c])).1) then true else !l.all (hasF (genF n (l ++ [(c.2, c.1)])).1) then true
      else !hasF (genF n (l ++ [c])).1 c then true else hasF (genF n (l ++ [(c.2, c.1)])).1 c) = false := by
  intro c
  have hl := great_len hg
  have ho := check_iff.1 hc
  have hm : c ∈ concF n l := by
    show (concF n l).getD i (dflt tE) ∈ _
    rw [List.getD_eq_getElem?_getD, List.getElem?_eq_getElem hi]
    exact List.getElem_mem hi
  rw [concF, if_neg (by simp [hc])] at hm
  obtain ⟨a, b, ha, hb, hab, e⟩ := mem_pairs.1 hm
  have h0 := ho.n0
  have h1 := ho.n1
  simp only [concG, Bool.and_eq_true, decide_eq_true_eq, Bool.not_eq_true'] at hab
  have hn : n ≤ 8 := by omega
  obtain ⟨x, hx, hx1, hx2, _⟩ := refine_ok ho hn hl.1 ha hb (by omega) hab.2.1 hab.2.2
  obtain ⟨y, hy, hy1, _, hy2⟩ := refine_ok ho hn hl.1 hb ha (by omega) hab.2.2 hab.2.1
  rw [e]
  simp only [hx, hy, all_has.2 hx1, all_has.2 hy1, has_iff.2 hx2]
  have : hasF y ((a : Int), (b : Int)) = false := by
    rw [Bool.eq_false_iff]
    exact fun h => hy2 (has_iff.1 h)
  rw [this]
  rfl
def cxF5 : Ctx := ⟨tys0, [(12, ([], c12)), (13, ([], c13)), (17, ([], c17)), (18, ([], c18)), (19, ([], c19)), (21, ([], c21)), (22, ([], c22)), (23, ([], c23))]⟩
theorem cxF5_good : GoodCtx Try.prog cxF5 := cx_cons good12 (cx_cons good13 (cx_cons good17 (cx_cons good18 (cx_cons good19 (cx_cons good21 (cx_cons good22 (cx_cons good23 cx0_good)))))))
set_option maxHeartbeats 4000000 in
theorem law5 : LawOk Try.prog 5 [tI, tEs] [false, false] := by
  refine ⟨cxF5, 3, cxF5_good, fun (⟨n, l, _⟩ : Int × List Ed × Unit) fine => ?_⟩
  refine (And.intro (by first | kernel_rfl | rfl) (And.intro True.intro (And.intro (fun h0 => True.intro) (And.intro (fun h1 => (And.intro True.intro (fin_of rfl (by rfl)))) (fun h1 => (And.intro True.intro (fun (h2 : List (Int × Int) × PUnit) => (fun h3 => (fun h4 => ?_)))))))))
  have dec : greatB n l = false ∧ checkF n l = 0 := by
    have h1' : (bif greatB n l then true else !decide (checkF n l = 0)) = false := h1
    cases hg : greatB n l with
    | true => rw [hg] at h1'; cases h1'
    | false =>
      rw [hg] at h1'
      exact ⟨rfl, by simpa using h1'⟩
  have ek : h2 = (concF n l, ()) := h3
  subst ek
  refine ex4 _ (fun i : Nat => ⟨[.int .i64 n, .sl tE l, .any, .any, .any, .any, .any, .any, .any, .any, .any, .any, .any, .any, .any, .any, .any, .any, .any, .any, .any, .int .i64 n, .sl tE l, .sl tE (concF n l), .int .i64 (↑(concF n l).length : Int), .int .i64 (i : Int), .any, .any, .any, .any, .any, .any, .any, .any, .any, .any, .any, .any, .any, .any, .any, .any, .any, .any, .any, .any, .any, .any, .any, .any, .any, .any, .any, .any, .any, .any, .any, .any, .any, .any, .any, .any, .any, .any, .any, .any, .any, .any, .any, .any, .any, .any, .any, .any, .any, .any, .any, .any, .any, .any, .any, .any, .any, .any, .any, .any, .any, .any, .any, .any], [], 0⟩) (fun i => i ≤ (concF n l).length) (fun i => (concF n l).length - i) (And.intro (Exists.intro (0) (Exists.intro ([]) (And.intro ?_ (And.intro (by rfl) (And.intro (by rfl) (And.intro True.intro (by rfl))))))) ?_)
  · exact Nat.zero_le _
  rintro i hi
  have hl := great_len dec.1
  have room : l.length * 16 ≤ lim ∧ (l.length + 1) * 16 ≤ lim ∧ l.length ≤ 2000 := by simp only [lim]; omega
  refine (And.intro (fun k0 => (And.intro (by first | exact room.1 | exact room.2.1 | exact room.2.2 | (intros; (try subst_vars); (try simp only [Bool.cond_true_left, Bool.cond_false_right, Bool.or_eq_true, Bool.or_eq_false_iff, Bool.and_eq_true, Bool.not_eq_true', Bool.not_eq_false', decide_eq_true_eq, decide_eq_false_iff_not, Int.not_lt, Int.not_le] at *); (try simp only [inK, big, lim, List.length_cons, List.length_nil, List.length_append, List.length_drop, List.length_take, List.length_replicate] at *); omega)) (And.intro (by first | kernel_rfl | rfl) (And.intro (by first | exact room.1 | exact room.2.1 | exact room.2.2 | (intros; (try subst_vars); (try simp only [Bool.cond_true_left, Bool.cond_false_right, Bool.or_eq_true, Bool.or_eq_false_iff, Bool.and_eq_true, Bool.not_eq_true', Bool.not_eq_false', decide_eq_true_eq, decide_eq_false_iff_not, Int.not_lt, Int.not_le] at *); (try simp only [inK, big, lim, List.length_cons, List.length_nil, List.length_append, List.length_drop, List.length_take, List.length_replicate] at *); omega)) (And.intro (by first | exact room.1 | exact room.2.1 | exact room.2.2 | (intros; (try subst_vars); (try simp only [Bool.cond_true_left, Bool.cond_false_right, Bool.or_eq_true, Bool.or_eq_false_iff, Bool.and_eq_true, Bool.not_eq_true', Bool.not_eq_false', decide_eq_true_eq, decide_eq_false_iff_not, Int.not_lt, Int.not_le] at *); (try simp only [inK, big, lim, List.length_cons, List.length_nil, List.length_append, List.length_drop, List.length_take, List.length_replicate] at *); omega)) (And.intro True.intro (And.intro (by first | kernel_rfl | rfl) (And.intro (by first | exact room.1 | exact room.2.1 | exact room.2.2 | (intros; (try subst_vars); (try simp only [Bool.cond_true_left, Bool.cond_false_right, Bool.or_eq_true, Bool.or_eq_false_iff, Bool.and_eq_true, Bool.not_eq_true', Bool.not_eq_false', decide_eq_true_eq, decide_eq_false_iff_not, Int.not_lt, Int.not_le] at *); (try simp only [inK, big, lim, List.length_cons, List.length_nil, List.length_append, List.length_drop, List.length_take, List.length_replicate] at *); omega)) (And.intro (by first | exact room.1 | exact room.2.1 | exact room.2.2 | (intros; (try subst_vars); (try simp only [Bool.cond_true_left, Bool.cond_false_right, Bool.or_eq_true, Bool.or_eq_false_iff, Bool.and_eq_true, Bool.not_eq_true', Bool.not_eq_false', decide_eq_true_eq, decide_eq_false_iff_not, Int.not_lt, Int.not_le] at *); (try simp only [inK, big, lim, List.length_cons, List.length_nil, List.length_append, List.length_drop, List.length_take, List.length_replicate] at *); omega)) (And.intro True.intro (And.intro (fun k1 => True.intro) (And.intro (fun k2 => True.intro) (And.intro (fun k3 => True.intro) (And.intro (fun k4 => True.intro) (And.intro (fun k5 => (fin_of rfl ?_)) (fun k5 => (And.intro (by first | exact room.1 | exact room.2.1 | exact room.2.2 | (intros; (try subst_vars); (try simp only [Bool.cond_true_left, Bool.cond_false_right, Bool.or_eq_true, Bool.or_eq_false_iff, Bool.and_eq_true, Bool.not_eq_true', Bool.not_eq_false', decide_eq_true_eq, decide_eq_false_iff_not, Int.not_lt, Int.not_le] at *); (try simp only [inK, big, lim, List.length_cons, List.length_nil, List.length_append, List.length_drop, List.length_take, List.length_replicate] at *); omega)) ?_))))))))))))))))) (fun k0 => (And.intro True.intro (fin_of rfl (by rfl)))))
  · have hi' : i < (concF n l).length := by have := of_decide_eq_true k0; omega
    exact absurd (k5.symm.trans (ref_law dec.1 dec.2 hi')) (by decide)
  · have hi' : i < (concF n l).length := by have := of_decide_eq_true k0; omega
    refine Exists.intro (i + 1) (Exists.intro ([]) (And.intro ?_ (And.intro ?_ (And.intro (by rfl) (And.intro (by rfl) (And.intro True.intro (by rfl)))))))
    · exact hi'
    · show (concF n l).length - (i + 1) < (concF n l).length - i
      omega
end Go.Proofs.Ytlaefkhbpnbahaa
