/- Flow: the law FlowEnds, walked. -/
import Derived.Test.YtokkndniihhgjaaFlowP
import Derived.Test.YtokkndniihhgjaaFlowE
set_option linter.unusedSimpArgs false
set_option linter.unusedVariables false
namespace Go.Proofs.Ytokkndniihhgjaa
open Go.Sx

set_option maxRecDepth 100000 in
set_option maxHeartbeats 4000000 in
theorem law10 : LawOk Try.prog 10 [tCred, tI] [true, false] := by
  refine ⟨cxM, 3, cxM_good, fun (⟨⟨cap, gr, se, ta, xs, cl⟩, it, _⟩ : Cred × Int × Unit) _ => ?_⟩
  refine (And.intro (by rfl) (And.intro True.intro (And.intro (fun h0 => True.intro) (And.intro (fun h1 => (And.intro True.intro (fin_of rfl (by subst_vars; simp [sameCred_self])))) (fun h1 => (And.intro True.intro (fun (h2 : (Int × Int × Int × Int × List Int × Bool) × Int × PUnit) => (fun h3 => (And.intro (fun h4 => (And.intro (fun h5 => True.intro) (And.intro (fun h6 => (fin_of rfl ?_)) (fun h6 => (fun h7 => ?_))))) (fun h4 => (And.intro (fun h8 => True.intro) (And.intro (fun h9 => (fin_of rfl ?_)) (fun h9 => (fun h10 => ?_))))))))))))))
  · exfalso
    simp at h1
    have h3' := h3
    simp only at h3'
    rw [fClose_closed h1.2 (by exact h4)] at h3'
    subst h3'
    have h4' : cl = true := h4
    simp [h4', fRoom_closed] at h6
  · have hck : fCheck (cap, gr, se, ta, xs, cl) = 0 := by simp at h1; exact h1.2
    obtain rfl : cl = true := h4
    refine ex4 _ (fun p : Nat × Cred => ⟨[.any, .any, .ptr 0 0, .any, .any, .ptr 1 0, .any, .any, .any, .any, .any, .any, .any, .any, .any, .any, .any, .any, .any, .any, .any, .any, .any, .any, .any, .any, .any, .any, .any, .any, .any, .any, .any, .any, .any, .any, .any, .any, .any, .any, .any, .any, .any, .any, .any, .any, .any, .any, .ptr 0 4, .sl (.int .i64) xs, .int .i64 (↑xs.length : Int), .int .i64 (p.1 : Int), .any, .any, .any, .any, .any, .any, .any, .any, .any, .any, .any, .any, .any, .any, .any, .any, .any, .any, .any, .any, .any, .any, .any, .any, .any, .any, .any, .any, .any, .any, .any, .any, .any, .any, .any, .any, .any, .any, .any, .any, .any, .any, .any, .any, .any, .any, .any, .any, .any, .any, .any, .any, .any, .any, .any, .any, .any, .any, .any, .any, .any, .any], [.cells   [.int .i64 cap, .int .i64 gr, .int .i64 se, .int .i64 ta,     .sl (.int .i64) xs, .bool true], .cells [.int .i64 p.2.1, .int .i64 p.2.2.1, .int .i64 p.2.2.2.1, .int .i64 p.2.2.2.2.1, .sl tI p.2.2.2.2.2.1, .bool p.2.2.2.2.2.2]], 2⟩) (fun p => p.1 ≤ xs.length ∧ p.2 = (cap, gr, se, ta + (p.1 : Int), xs.drop p.1, true)) (fun p => xs.length - p.1) (And.intro (Exists.intro ((0, (cap, gr, se, ta, xs, true))) (Exists.intro ([some 0, some 1]) (And.intro ?_ (And.intro (by rfl) (And.intro (by rfl) (And.intro (And.intro (And.intro (by rfl) (by rfl)) (And.intro (And.intro (by rfl) (by rfl)) True.intro)) (by rfl))))))) ?_)
    · simp
    rintro ⟨i, d⟩ ⟨hi, hd⟩
    simp only at hi hd
    have hdc := drop_ok (b := true) hck hi
    refine (And.intro (fun k0 => (And.intro (by intros; (try subst_vars); (try simp only [Bool.cond_true_left, Bool.cond_false_right, Bool.or_eq_true, Bool.or_eq_false_iff, Bool.and_eq_true, Bool.not_eq_true', Bool.not_eq_false', decide_eq_true_eq, decide_eq_false_iff_not, Int.not_lt, Int.not_le] at *); (try simp only [inK, big, lim, List.length_cons, List.length_nil, List.length_append, List.length_drop, List.length_take, List.length_replicate] at *); omega) (And.intro True.intro (And.intro (fun k1 => (fin_of rfl ?_)) (fun k1 => (And.intro True.intro (fun (k2 : (Int × Int × Int × Int × List Int × Bool) × Int × Int × PUnit) => (fun k3 => (And.intro (fun k4 => (fin_of rfl ?_)) (fun k4 => (And.intro (by intros; (try subst_vars); (try simp only [Bool.cond_true_left, Bool.cond_false_right, Bool.or_eq_true, Bool.or_eq_false_iff, Bool.and_eq_true, Bool.not_eq_true', Bool.not_eq_false', decide_eq_true_eq, decide_eq_false_iff_not, Int.not_lt, Int.not_le] at *); (try simp only [inK, big, lim, List.length_cons, List.length_nil, List.length_append, List.length_drop, List.length_take, List.length_replicate] at *); omega) ?_))))))))))) (fun k0 => (And.intro True.intro (fun (k5 : (Int × Int × Int × Int × List Int × Bool) × Int × Int × PUnit) => (fun k6 => (And.intro True.intro (fun (k7 : (Int × Int × Int × Int × List Int × Bool) × Int × PUnit) => (fun k8 => (And.intro True.intro (fun (k9 : (Int × Int × Int × Int × List Int × Bool) × Int × PUnit) => (fun k10 => (And.intro True.intro (fun (k11 : (Int × Int × Int × Int × List Int × Bool) × Int × PUnit) => (fun k12 => (And.intro True.intro (And.intro (fun k13 => True.intro) (fin_of rfl ?_)))))))))))))))))
    · exfalso
      have hi' : i < xs.length := by simp at k0; omega
      have k1' : fEnded d = true := k1
      rw [hd] at k1'
      simp [fEnded] at k1'
      omega
    · exfalso
      have hi' : i < xs.length := by simp at k0; omega
      have k3' : k2 = ((fTake d).1, (fTake d).2.1, (fTake d).2.2, ()) := k3
      clear k3
      rw [hd, fTake_yes (x := xs[i]) (l := xs.drop (i + 1)) hdc (List.drop_eq_getElem_cons hi')] at k3'
      subst k3'
      simp [hi'] at k4
    · have hi' : i < xs.length := by simp at k0; omega
      have k3' : k2 = ((fTake d).1, (fTake d).2.1, (fTake d).2.2, ()) := k3
      clear k3
      rw [hd, fTake_yes (x := xs[i]) (l := xs.drop (i + 1)) hdc (List.drop_eq_getElem_cons hi')] at k3'
      refine Exists.intro ((i + 1, k2.1)) (Exists.intro ([some 0, some 1]) (And.intro ?_ (And.intro ?_ (And.intro (by rfl) (And.intro (by rfl) (And.intro (And.intro (And.intro (by rfl) (by rfl)) (And.intro (And.intro (by rfl) (by rfl)) True.intro)) (by rfl)))))))
      · rw [k3']
        refine ⟨hi', ?_⟩
        simp
        omega
      · simp only; omega
    · have hi' : i = xs.length := by simp at k0; omega
      rw [hi', List.drop_length] at hd
      rw [hi', List.drop_length] at hdc
      simp only at k5 k6 k7 k8 k9 k10 k11 k12
      have hdd : (d.1, d.2.1, d.2.2.1, d.2.2.2.1, d.2.2.2.2.1, d.2.2.2.2.2) = d := rfl
      simp only [hdd, hd] at k6 k8 k10 k12 ⊢
      rw [fTake_closed hdc rfl rfl] at k6
      rw [fReq_closed hdc (by omega) rfl] at k8
      rw [fSend_closed hdc (by decide) rfl] at k10
      rw [fClose_closed hdc rfl] at k12
      subst k6 k8 k10 k12
      simp [fEnded, hdc]
  · exfalso
    simp at h1
    have h4' : cl = false := h4
    have h3' := h3
    simp only at h3'
    rw [fClose_yes h1.2 (by exact h4)] at h3'
    subst h3'
    simp [h4', fRoom_closed] at h9
  · have hck : fCheck (cap, gr, se, ta, xs, cl) = 0 := by simp at h1; exact h1.2
    obtain rfl : cl = false := h4
    have h3' : h2 = ((cap, gr, se, ta, xs, true), 0, ()) := by rw [h3]; simp only; rw [fClose_yes hck rfl]
    clear h3
    subst h3'
    refine ex4 _ (fun p : Nat × Cred => ⟨[.any, .any, .ptr 0 0, .any, .any, .ptr 1 0, .any, .any, .any, .any, .any, .any, .any, .any, .any, .any, .any, .any, .any, .any, .any, .any, .any, .any, .any, .any, .any, .any, .any, .any, .any, .any, .any, .any, .any, .any, .any, .any, .any, .any, .any, .any, .any, .any, .any, .any, .any, .any, .ptr 0 4, .sl (.int .i64) xs, .int .i64 (↑xs.length : Int), .int .i64 (p.1 : Int), .any, .any, .any, .any, .any, .any, .any, .any, .any, .any, .any, .any, .any, .any, .any, .any, .any, .any, .any, .any, .any, .any, .any, .any, .any, .any, .any, .any, .any, .any, .any, .any, .any, .any, .any, .any, .any, .any, .any, .any, .any, .any, .any, .any, .any, .any, .any, .any, .any, .any, .any, .any, .any, .any, .any, .any, .any, .any, .any, .any, .any, .any], [.cells   [.int .i64 cap, .int .i64 gr, .int .i64 se, .int .i64 ta,     .sl (.int .i64) xs, .bool false], .cells [.int .i64 p.2.1, .int .i64 p.2.2.1, .int .i64 p.2.2.2.1, .int .i64 p.2.2.2.2.1, .sl tI p.2.2.2.2.2.1, .bool p.2.2.2.2.2.2]], 2⟩) (fun p => p.1 ≤ xs.length ∧ p.2 = (cap, gr, se, ta + (p.1 : Int), xs.drop p.1, true)) (fun p => xs.length - p.1) (And.intro (Exists.intro ((0, (cap, gr, se, ta, xs, true))) (Exists.intro ([some 0, some 1]) (And.intro ?_ (And.intro (by rfl) (And.intro (by rfl) (And.intro (And.intro (And.intro (by rfl) (by rfl)) (And.intro (And.intro (by rfl) (by rfl)) True.intro)) (by rfl))))))) ?_)
    · simp
    rintro ⟨i, d⟩ ⟨hi, hd⟩
    simp only at hi hd
    have hdc := drop_ok (b := true) hck hi
    refine (And.intro (fun k0 => (And.intro (by intros; (try subst_vars); (try simp only [Bool.cond_true_left, Bool.cond_false_right, Bool.or_eq_true, Bool.or_eq_false_iff, Bool.and_eq_true, Bool.not_eq_true', Bool.not_eq_false', decide_eq_true_eq, decide_eq_false_iff_not, Int.not_lt, Int.not_le] at *); (try simp only [inK, big, lim, List.length_cons, List.length_nil, List.length_append, List.length_drop, List.length_take, List.length_replicate] at *); omega) (And.intro True.intro (And.intro (fun k1 => (fin_of rfl ?_)) (fun k1 => (And.intro True.intro (fun (k2 : (Int × Int × Int × Int × List Int × Bool) × Int × Int × PUnit) => (fun k3 => (And.intro (fun k4 => (fin_of rfl ?_)) (fun k4 => (And.intro (by intros; (try subst_vars); (try simp only [Bool.cond_true_left, Bool.cond_false_right, Bool.or_eq_true, Bool.or_eq_false_iff, Bool.and_eq_true, Bool.not_eq_true', Bool.not_eq_false', decide_eq_true_eq, decide_eq_false_iff_not, Int.not_lt, Int.not_le] at *); (try simp only [inK, big, lim, List.length_cons, List.length_nil, List.length_append, List.length_drop, List.length_take, List.length_replicate] at *); omega) ?_))))))))))) (fun k0 => (And.intro True.intro (fun (k5 : (Int × Int × Int × Int × List Int × Bool) × Int × Int × PUnit) => (fun k6 => (And.intro True.intro (fun (k7 : (Int × Int × Int × Int × List Int × Bool) × Int × PUnit) => (fun k8 => (And.intro True.intro (fun (k9 : (Int × Int × Int × Int × List Int × Bool) × Int × PUnit) => (fun k10 => (And.intro True.intro (fun (k11 : (Int × Int × Int × Int × List Int × Bool) × Int × PUnit) => (fun k12 => (And.intro True.intro (And.intro (fun k13 => True.intro) (fin_of rfl ?_)))))))))))))))))
    · exfalso
      have hi' : i < xs.length := by simp at k0; omega
      have k1' : fEnded d = true := k1
      rw [hd] at k1'
      simp [fEnded] at k1'
      omega
    · exfalso
      have hi' : i < xs.length := by simp at k0; omega
      have k3' : k2 = ((fTake d).1, (fTake d).2.1, (fTake d).2.2, ()) := k3
      clear k3
      rw [hd, fTake_yes (x := xs[i]) (l := xs.drop (i + 1)) hdc (List.drop_eq_getElem_cons hi')] at k3'
      subst k3'
      simp [hi'] at k4
    · have hi' : i < xs.length := by simp at k0; omega
      have k3' : k2 = ((fTake d).1, (fTake d).2.1, (fTake d).2.2, ()) := k3
      clear k3
      rw [hd, fTake_yes (x := xs[i]) (l := xs.drop (i + 1)) hdc (List.drop_eq_getElem_cons hi')] at k3'
      refine Exists.intro ((i + 1, k2.1)) (Exists.intro ([some 0, some 1]) (And.intro ?_ (And.intro ?_ (And.intro (by rfl) (And.intro (by rfl) (And.intro (And.intro (And.intro (by rfl) (by rfl)) (And.intro (And.intro (by rfl) (by rfl)) True.intro)) (by rfl)))))))
      · rw [k3']
        refine ⟨hi', ?_⟩
        simp
        omega
      · simp only; omega
    · have hi' : i = xs.length := by simp at k0; omega
      rw [hi', List.drop_length] at hd
      rw [hi', List.drop_length] at hdc
      simp only at k5 k6 k7 k8 k9 k10 k11 k12
      have hdd : (d.1, d.2.1, d.2.2.1, d.2.2.2.1, d.2.2.2.2.1, d.2.2.2.2.2) = d := rfl
      simp only [hdd, hd] at k6 k8 k10 k12 ⊢
      rw [fTake_closed hdc rfl rfl] at k6
      rw [fReq_closed hdc (by omega) rfl] at k8
      rw [fSend_closed hdc (by decide) rfl] at k10
      rw [fClose_closed hdc rfl] at k12
      subst k6 k8 k10 k12
      simp [fEnded, hdc]
end Go.Proofs.Ytokkndniihhgjaa
