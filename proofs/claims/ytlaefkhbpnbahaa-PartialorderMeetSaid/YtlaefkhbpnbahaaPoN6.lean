/- Partial orders: the law Meet. -/
import Derived.Test.YtlaefkhbpnbahaaPoN5
set_option linter.unusedSimpArgs false
set_option linter.unusedVariables false
set_option maxRecDepth 100000
namespace Go.Proofs.Ytlaefkhbpnbahaa
open Go.Sx
def cxMe : Ctx := ⟨tys0, [(12, ([], c12)), (13, ([], c13)), (14, ([], c14)), (21, ([], c21)), (23, ([], c23)), (24, ([], c24))]⟩
theorem cxMe_good : GoodCtx Try.prog cxMe := cx_cons good12 (cx_cons good13 (cx_cons good14 (cx_cons good21 (cx_cons good23 (cx_cons good24 cx0_good)))))
theorem firstAt_idx (v : Int) : ∀ (xs : List Int) (k : Int), v ∈ xs → firstAt (fun x => decide (v = x)) xs k = k + (xs.idxOf v : Int)
  | [], _, h => by cases h
  | x :: xs, k, h => by
    rw [firstAt, List.idxOf_cons]
    by_cases e : v = x
    · subst e; simp
    · rw [if_neg (by simpa using e), show (x == v) = false from beq_false_of_ne (Ne.symm e), firstAt_idx v xs (k + 1) (by
        rcases List.mem_cons.1 h with h | h
        · exact absurd h e
        · exact h)]
      simp only [cond_false]
      omega
theorem first_bef {n : Int} {l : List Ed} {o : List Int} (ho : o ∈ allE n l) {i j : Nat} (hi : i < n.toNat) (hj : j < n.toNat) : decide (firstAt (fun x => decide ((i : Int) = x)) o 0 < firstAt (fun x => decide ((j : Int) = x)) o 0) = bef i j o := by
  obtain ⟨s, rfl, h1, h2, h3, h4⟩ := mem_all.1 ho
  rw [firstAt_idx _ _ _ (mem_ints.2 (full_mem h1 h2 h3 hi)), firstAt_idx _ _ _ (mem_ints.2 (full_mem h1 h2 h3 hj)), bef]
  exact decide_eq_decide.2 (by omega)
theorem meet_law {n : Int} {l : List Ed} (h : Ord n l) (hn : n ≤ 8) (hl : l.length ≤ 60) {i j : Nat} (hi : i < n.toNat) (hj : j < n.toNat) :
    (bif bif !decide ((i : Int) = j) then !decide ((firsts n l i j : Int) = (allE n l).length) == inL l i j else false then true else bif decide ((i : Int) < j) then !(bif decide (0 < (firsts n l i j : Int)) then decide ((firsts n l i j : Int) < (allE n l).length) else false) == inL (concF n l) i j else false) = false := by
  have hc : checkF n l = 0 := check_iff.2 h
  have e1 : i ≠ j → decide ((firsts n l i j : Int) = (allE n l).length) = inL l i j := fun hne => by
    rw [Bool.eq_iff_iff, decide_eq_true_eq, ← meet_all h hn hl hi hj hne]
    omega
  have e2 : i < j → (bif decide (0 < (firsts n l i j : Int)) then decide ((firsts n l i j : Int) < (allE n l).length) else false) = inL (concF n l) i j := fun hlt => by
    have hm := meet_conc h hn hl hi hj (Nat.ne_of_lt hlt)
    rw [concF, if_neg (fun h => h hc), inL_pairs hi hj, concG, decide_eq_true hlt, Bool.true_and]
    rw [Bool.eq_iff_iff]
    simp only [Bool.cond_eq_ite, Bool.and_eq_true, Bool.not_eq_true']
    rw [← hm]
    by_cases h0 : 0 < firsts n l i j
    · rw [if_pos (by simpa using h0), decide_eq_true_eq]
      omega
    · rw [if_neg (by simpa using h0)]
      simp [h0]
  by_cases hij : i = j
  · subst hij
    simp
  · rw [e1 hij]
    by_cases hlt : i < j
    · rw [e2 hlt]
      simp
    · rw [decide_eq_false (by omega : ¬ ((i : Int) < j))]
      simp
set_option maxHeartbeats 4000000 in
theorem law6 : LawOk Try.prog 6 [tI, tEs] [false, false] := by
  refine ⟨cxMe, 3, cxMe_good, fun (⟨n, l, _⟩ : Int × List Ed × Unit) fine => ?_⟩
  have sm : (bif greatB n l then true else decide (6 < n)) = false → n ≤ 6 ∧ l.length ≤ 60 := fun h => by
    cases hg : greatB n l with
    | true => rw [hg] at h; cases h
    | false =>
      rw [hg] at h
      have hl := great_len hg
      by_cases h6 : 6 < n
      · rw [decide_eq_true h6] at h; cases h
      · omega
  have fA : checkF n l ≠ 0 → extsF n l 720 = ([], checkF n l) := fun h => by rw [extsF, if_pos h]
  refine (And.intro (by first | kernel_rfl | rfl) (And.intro True.intro (And.intro (fun h0 => (And.intro True.intro (fin_of rfl (by first | rfl)))) (fun h0 => (And.intro True.intro (fun (h1 : List (List Int) × Int × PUnit) => (fun h2 => (And.intro (fun h3 => (And.intro True.intro (fin_of rfl (by first | rfl)))) (fun h3 => (And.intro True.intro (fun (h4 : List (Int × Int) × PUnit) => (fun h5 => ?_))))))))))))
  subst h2
  subst h5
  obtain ⟨s1, s2⟩ := sm h0
  have hc : checkF n l = 0 := by
    refine Classical.byContradiction fun hc => ?_
    have h3' : (!decide ((extsF n l 720).2 = 0)) = false := h3
    rw [fA hc] at h3'
    simp [hc] at h3'
  have ho := check_iff.1 hc
  have ee := exts_small ho s1
  obtain ⟨N, rfl⟩ : ∃ N : Nat, n = (N : Int) := ⟨n.toNat, by have := ho.n0; omega⟩
  have ltN : ∀ a : Nat, decide ((a : Int) < (N : Int)) = true → a < N := fun a h => by have := of_decide_eq_true h; omega
  have geN : ∀ a : Nat, decide ((a : Int) < (N : Int)) = false → N ≤ a := fun a h => by have := of_decide_eq_false h; omega
  refine ex4 _ (fun i : Nat => ⟨[.int .i64 ↑N, .sl tE l, .any, .any, .any, .sl tIs (extsF (↑N) l 720).1, .any, .sl tE (concF (↑N) l), .any, .any, .any, .any, .any, .any, .any, .any, .any, .any, .any, .any, .any, .any, .any, .any, .any, .any, .any, .any, .any, .any, .any, .any, .any, .int .i64 ↑N, .int .i64 (i : Int), .any, .any, .any, .any, .any, .any, .any, .any, .any, .any, .any, .any, .any, .any, .any, .any, .any, .any, .any, .any, .any, .any, .any, .any, .any, .any, .any, .any, .any, .any, .any, .any, .any, .any, .any, .any, .any, .any, .any, .any, .any, .any, .any, .any, .any, .any, .any, .any, .any, .any, .any, .any, .any, .any, .any, .any, .any, .any, .any], [], 0⟩) (fun i => i ≤ N) (fun i => N - i) (And.intro (Exists.intro (0) (Exists.intro ([]) (And.intro ?_ (And.intro (by rfl) (And.intro (by rfl) (And.intro True.intro (by rfl))))))) ?_)
  · exact Nat.zero_le _
  rintro i hi
  refine (And.intro (fun a0 => ?_) (fun a0 => (And.intro True.intro (fin_of rfl (by first | rfl)))))
  refine ex4 _ (fun j : Nat => ⟨[.int .i64 (↑N : Int), .sl tE l, .any, .any, .any, .sl tIs (extsF (↑N : Int) l 720).1, .any, .sl tE (concF (↑N : Int) l), .int .i64 (↑i : Int), .any, .any, .any, .any, .any, .any, .any, .any, .any, .any, .any, .any, .any, .any, .any, .any, .any, .any, .any, .any, .any, .any, .any, .any, .int .i64 (↑N : Int), .int .i64 (↑i : Int), .bool (decide ((↑i : Int) < (↑N : Int))), .int .i64 (↑i : Int), .int .i64 (↑N : Int), .int .i64 (j : Int), .any, .any, .any, .any, .any, .any, .any, .any, .any, .any, .any, .any, .any, .any, .any, .any, .any, .any, .any, .any, .any, .any, .any, .any, .any, .any, .any, .any, .any, .any, .any, .any, .any, .any, .any, .any, .any, .any, .any, .any, .any, .any, .any, .any, .any, .any, .any, .any, .any, .any, .any, .any, .any, .any, .any], [], 0⟩) (fun j => j ≤ N) (fun j => N - j) (And.intro (Exists.intro (0) (Exists.intro ([]) (And.intro ?_ (And.intro (by rfl) (And.intro (by rfl) (And.intro True.intro (by rfl))))))) ?_)
  · exact Nat.zero_le _
  rintro j hj
  refine (And.intro (fun b0 => (fun b1 => ?_)) (fun b0 => (And.intro (by intros; (try subst_vars); (try simp only [Bool.cond_true_left, Bool.cond_false_right, Bool.or_eq_true, Bool.or_eq_false_iff, Bool.and_eq_true, Bool.not_eq_true', Bool.not_eq_false', decide_eq_true_eq, decide_eq_false_iff_not, Int.not_lt, Int.not_le] at *); (try simp only [inK, big, lim, List.length_cons, List.length_nil, List.length_append, List.length_drop, List.length_take, List.length_replicate] at *); omega) ?_)))
  · have hi' := ltN i a0
    have hj' := ltN j b0
    refine ex4 _ (fun p : Nat × Nat => ⟨[.int .i64 (↑N : Int), .sl tE l, .any, .any, .any, .sl tIs (extsF (↑N : Int) l 720).1, .any, .sl tE (concF (↑N : Int) l), .int .i64 (↑i : Int), .int .i64 (↑j : Int), .int .i64 (p.2 : Int), .any, .any, .any, .any, .any, .any, .any, .any, .any, .any, .any, .any, .any, .any, .any, .any, .any, .any, .any, .any, .any, .any, .int .i64 (↑N : Int), .int .i64 (↑i : Int), .bool (decide ((↑i : Int) < (↑N : Int))), .int .i64 (↑i : Int), .int .i64 (↑N : Int), .int .i64 (↑j : Int), .bool (decide ((↑j : Int) < (↑N : Int))), .int .i64 (↑j : Int), .sl tIs (extsF (↑N : Int) l 720).1, .int .i64 (↑(extsF (↑N : Int) l 720).1.length : Int), .int .i64 (p.1 : Int), .any, .any, .any, .any, .any, .any, .any, .any, .any, .any, .any, .any, .any, .any, .any, .any, .any, .any, .any, .any, .any, .any, .any, .any, .any, .any, .any, .any, .any, .any, .any, .any, .any, .any, .any, .any, .any, .any, .any, .any, .any, .any, .any, .any, .any, .any, .any, .any, .any, .any], [], 0⟩) (fun p => p.1 ≤ (allE (N : Int) l).length ∧ p.2 = ((allE (N : Int) l).take p.1).countP (bef i j)) (fun p => (allE (N : Int) l).length - p.1) (And.intro (Exists.intro ((0, 0)) (Exists.intro ([]) (And.intro ?_ (And.intro (by rfl) (And.intro (by rfl) (And.intro True.intro (by rfl))))))) ?_)
    · exact ⟨Nat.zero_le _, by simp⟩
    rintro ⟨k, c⟩ ⟨hk, hcn⟩
    have hk' : k ≤ (allE (N : Int) l).length := hk
    have hcn' : c = ((allE (N : Int) l).take k).countP (bef i j) := hcn
    have hlen : (allE (N : Int) l).length ≤ 720 := by
      have h1 := exE_len (N : Int).toNat (inL l) (N : Int).toNat (List.replicate (N : Int).toNat false) [] (by simp) (start_count _)
      have h2 := fct_small (n := (N : Int).toNat) (by omega)
      exact Nat.le_trans h1 h2
    have hcl : c ≤ 720 := by
      have h1 : c ≤ ((allE (N : Int) l).take k).length := by rw [hcn']; exact List.countP_le_length
      have h2 := List.length_take_le k (allE (N : Int) l)
      omega
    have cK : inK .i64 ((c : Int) + 1) := by simp only [inK, big]; omega
    have lte : decide ((k : Int) < ((extsF (N : Int) l 720).1.length : Int)) = true → k < (allE (N : Int) l).length := fun h => by
      have h' := of_decide_eq_true h
      rw [ee] at h'
      have h'' : (k : Int) < ((allE (N : Int) l).length : Int) := h'
      omega
    have gte : decide ((k : Int) < ((extsF (N : Int) l 720).1.length : Int)) = false → k = (allE (N : Int) l).length := fun h => by
      have h' := of_decide_eq_false h
      rw [ee] at h'
      have h'' : ¬ (k : Int) < ((allE (N : Int) l).length : Int) := h'
      omega
    have hmem : ∀ h : k < (allE (N : Int) l).length, (extsF (N : Int) l 720).1.getD k [] = (allE (N : Int) l)[k] ∧ (allE (N : Int) l)[k] ∈ allE (N : Int) l := fun h => by
      rw [ee]
      refine ⟨?_, List.getElem_mem h⟩
      show (allE (N : Int) l).getD k [] = _
      rw [List.getD_eq_getElem?_getD, List.getElem?_eq_getElem h]
      rfl
    refine (And.intro (fun d0 => (And.intro (by first | exact cK | (intros; (try subst_vars); (try simp only [Bool.cond_true_left, Bool.cond_false_right, Bool.or_eq_true, Bool.or_eq_false_iff, Bool.and_eq_true, Bool.not_eq_true', Bool.not_eq_false', decide_eq_true_eq, decide_eq_false_iff_not, Int.not_lt, Int.not_le] at *); (try simp only [inK, big, lim, List.length_cons, List.length_nil, List.length_append, List.length_drop, List.length_take, List.length_replicate] at *); omega)) (And.intro True.intro (And.intro True.intro (And.intro (fun d1 => (And.intro (by first | exact cK | (intros; (try subst_vars); (try simp only [Bool.cond_true_left, Bool.cond_false_right, Bool.or_eq_true, Bool.or_eq_false_iff, Bool.and_eq_true, Bool.not_eq_true', Bool.not_eq_false', decide_eq_true_eq, decide_eq_false_iff_not, Int.not_lt, Int.not_le] at *); (try simp only [inK, big, lim, List.length_cons, List.length_nil, List.length_append, List.length_drop, List.length_take, List.length_replicate] at *); omega)) (And.intro (by first | exact cK | (intros; (try subst_vars); (try simp only [Bool.cond_true_left, Bool.cond_false_right, Bool.or_eq_true, Bool.or_eq_false_iff, Bool.and_eq_true, Bool.not_eq_true', Bool.not_eq_false', decide_eq_true_eq, decide_eq_false_iff_not, Int.not_lt, Int.not_le] at *); (try simp only [inK, big, lim, List.length_cons, List.length_nil, List.length_append, List.length_drop, List.length_take, List.length_replicate] at *); omega)) ?_))) (fun d1 => (And.intro (by first | exact cK | (intros; (try subst_vars); (try simp only [Bool.cond_true_left, Bool.cond_false_right, Bool.or_eq_true, Bool.or_eq_false_iff, Bool.and_eq_true, Bool.not_eq_true', Bool.not_eq_false', decide_eq_true_eq, decide_eq_false_iff_not, Int.not_lt, Int.not_le] at *); (try simp only [inK, big, lim, List.length_cons, List.length_nil, List.length_append, List.length_drop, List.length_take, List.length_replicate] at *); omega)) ?_))))))) (fun d0 => (fun d2 => (And.intro (fun d3 => True.intro) (fun d4 => (And.intro (fun d5 => True.intro) (And.intro (fun d6 => (fin_of rfl ?_)) (fun d6 => (And.intro (by first | exact cK | (intros; (try subst_vars); (try simp only [Bool.cond_true_left, Bool.cond_false_right, Bool.or_eq_true, Bool.or_eq_false_iff, Bool.and_eq_true, Bool.not_eq_true', Bool.not_eq_false', decide_eq_true_eq, decide_eq_false_iff_not, Int.not_lt, Int.not_le] at *); (try simp only [inK, big, lim, List.length_cons, List.length_nil, List.length_append, List.length_drop, List.length_take, List.length_replicate] at *); omega)) ?_)))))))))
    · have hk2 := lte d0
      obtain ⟨m1, m2⟩ := hmem hk2
      have hb := first_bef m2 (i := i) (j := j) (by omega) (by omega)
      have d1' : decide (firstAt (fun x => decide ((i : Int) = x)) ((extsF (N : Int) l 720).1.getD k []) 0 < firstAt (fun x => decide ((j : Int) = x)) ((extsF (N : Int) l 720).1.getD k []) 0) = true := d1
      rw [m1, hb] at d1'
      refine Exists.intro ((k + 1, c + 1)) (Exists.intro ([]) (And.intro ?_ (And.intro ?_ (And.intro (by rfl) (And.intro (by rfl) (And.intro True.intro (by rfl)))))))
      · refine ⟨hk2, ?_⟩
        show c + 1 = ((allE (N : Int) l).take (k + 1)).countP (bef i j)
        rw [List.take_succ_eq_append_getElem hk2, List.countP_append, ← hcn']
        simp [d1']
      · show (allE (N : Int) l).length - (k + 1) < (allE (N : Int) l).length - k
        omega
    · have hk2 := lte d0
      obtain ⟨m1, m2⟩ := hmem hk2
      have hb := first_bef m2 (i := i) (j := j) (by omega) (by omega)
      have d1' : decide (firstAt (fun x => decide ((i : Int) = x)) ((extsF (N : Int) l 720).1.getD k []) 0 < firstAt (fun x => decide ((j : Int) = x)) ((extsF (N : Int) l 720).1.getD k []) 0) = false := d1
      rw [m1, hb] at d1'
      refine Exists.intro ((k + 1, c)) (Exists.intro ([]) (And.intro ?_ (And.intro ?_ (And.intro (by rfl) (And.intro (by rfl) (And.intro True.intro (by rfl)))))))
      · refine ⟨hk2, ?_⟩
        show c = ((allE (N : Int) l).take (k + 1)).countP (bef i j)
        rw [List.take_succ_eq_append_getElem hk2, List.countP_append, ← hcn']
        simp [d1']
      · show (allE (N : Int) l).length - (k + 1) < (allE (N : Int) l).length - k
        omega
    · have hk2 := gte d0
      have ec : c = firsts (N : Int) l i j := by rw [hcn', hk2, List.take_length]; rfl
      have hm := meet_law ho (by omega) s2 (i := i) (j := j) (by omega) (by omega)
      have d6' := d6
      rw [← ec] at hm
      rw [show (extsF (N : Int) l 720).1 = allE (N : Int) l by rw [ee]] at d6'
      exact absurd (hm.symm.trans d6') (by decide)
    · refine Exists.intro (j + 1) (Exists.intro ([]) (And.intro ?_ (And.intro ?_ (And.intro (by rfl) (And.intro (by rfl) (And.intro True.intro (by rfl)))))))
      · exact hj'
      · show N - (j + 1) < N - j
        omega
  · refine Exists.intro (i + 1) (Exists.intro ([]) (And.intro ?_ (And.intro ?_ (And.intro (by rfl) (And.intro (by rfl) (And.intro True.intro (by rfl)))))))
    · exact ltN i a0
    · show N - (i + 1) < N - i
      have := ltN i a0
      omega
end Go.Proofs.Ytlaefkhbpnbahaa
