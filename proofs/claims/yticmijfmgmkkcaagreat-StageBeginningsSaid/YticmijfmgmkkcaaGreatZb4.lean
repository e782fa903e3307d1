/- Stages: the law of beginnings. -/
import Derived.Test.YticmijfmgmkkcaaGreatZb3
set_option linter.unusedSimpArgs false
set_option linter.unusedVariables false
set_option maxRecDepth 100000
namespace Go.Proofs.YticmijfmgmkkcaaGreat
open Go.Sx

/-- How much of a stream is left. -/
def cutN (c : Int × Int) (i n : Nat) : Nat := ((if i = 0 then c.1 else c.2).tmod ((n : Int) + 1)).toNat
theorem cutN_le (c : Int × Int) (i n : Nat) : cutN c i n ≤ n := by
  unfold cutN
  have h := Int.tmod_lt_of_pos (if i = 0 then c.1 else c.2) (b := (n : Int) + 1) (by omega)
  omega
def lessF (c : Int × Int) (ins : List (List Int)) : List (List Int) := (List.range ins.length).map fun i => (ins.getD i []).take (cutN c i (ins.getD i []).length)
theorem less_len (c : Int × Int) (ins : List (List Int)) : (lessF c ins).length = ins.length := by simp [lessF]
theorem less_get (c : Int × Int) (ins : List (List Int)) (i : Nat) : ∃ n, (lessF c ins).getD i [] = (ins.getD i []).take n := by
  by_cases h : i < ins.length
  · refine ⟨cutN c i (ins.getD i []).length, ?_⟩
    simp [lessF, List.getD_eq_getElem?_getD, h]
  · refine ⟨0, ?_⟩
    simp [lessF, List.getD_eq_getElem?_getD, h]
theorem str_all : ∀ {ins : List (List Int)}, (∀ i, i < ins.length → (ins.getD i []).length ≤ 200 ∧ (ins.getD i []).any notNum = false) → strF ins = 0
  | [], _ => rfl
  | l :: r, h => by
    obtain ⟨h1, h2⟩ := h 0 (by simp)
    replace h1 : l.length ≤ 200 := h1
    replace h2 : l.any notNum = false := h2
    simp only [strF]
    rw [if_neg (by show ¬ decide (200 < (l.length : Int)) = true; simp; omega), if_neg (by rw [h2]; simp)]
    refine str_all fun i hi => ?_
    have := h (i + 1) (by simpa using hi)
    simpa using this
theorem less_str {c : Int × Int} {ins : List (List Int)} (h : strF ins = 0) : strF (lessF c ins) = 0 := by
  refine str_all fun i hi => ?_
  rw [less_len] at hi
  obtain ⟨n, hn⟩ := less_get c ins i
  obtain ⟨g1, g2⟩ := strF_get h hi
  replace g1 : (ins.getD i []).length ≤ 200 := g1
  replace g2 : (ins.getD i []).any notNum = false := g2
  rw [hn]
  exact ⟨by rw [List.length_take]; omega, any_sub g2 fun x hx => List.mem_of_mem_take hx⟩
theorem take_map {α β : Type} (f : α → β) (a : List α) (n : Nat) : (a.take n).map f <+: a.map f := (List.take_prefix n a).map f
theorem pre_rep (z : Nat) {a b : List Int} (h : a <+: b) : a.flatMap (fun x => List.replicate z x) <+: b.flatMap (fun x => List.replicate z x) := by
  obtain ⟨t, rfl⟩ := h
  rw [List.flatMap_append]
  exact List.prefix_append _ _
theorem pre_take (n : Nat) {a b : List Int} (h : a <+: b) : a.take n <+: b.take n := by
  obtain ⟨t, rfl⟩ := h
  rw [List.take_append]
  exact List.prefix_append _ _
theorem get_take {a : List Int} {n i : Nat} (h : i < (a.take n).length) : (a.take n).getD i 0 = a.getD i 0 := by
  simp only [List.length_take] at h
  simp [List.getD_eq_getElem?_getD, show i < n by omega]
theorem pre_zip (f : Int → Int → Int) (a b : List Int) (n m : Nat) :
    (List.range (min (a.take n).length (b.take m).length)).map (fun i => f ((a.take n).getD i 0) ((b.take m).getD i 0)) <+: (List.range (min a.length b.length)).map (fun i => f (a.getD i 0) (b.getD i 0)) := by
  have e : (List.range (min (a.take n).length (b.take m).length)).map (fun i => f ((a.take n).getD i 0) ((b.take m).getD i 0)) = (List.range (min (a.take n).length (b.take m).length)).map (fun i => f (a.getD i 0) (b.getD i 0)) := by
    apply List.map_congr_left
    intro i hi
    have hi' := List.mem_range.1 hi
    rw [get_take (by omega), get_take (by omega)]
  rw [e]
  refine List.IsPrefix.map _ ?_
  have hle : min (a.take n).length (b.take m).length ≤ min a.length b.length := by simp only [List.length_take]; omega
  obtain ⟨k, hk⟩ : ∃ k, min a.length b.length = min (a.take n).length (b.take m).length + k := ⟨_, (Nat.add_sub_cancel' hle).symm⟩
  rw [hk, List.range_add]
  exact List.prefix_append _ _
/-- What is sent for beginnings is a beginning of what is sent. -/
theorem begin_ok {x : StT} {c : Int × Int} {ins : List (List Int)} (h : (meanF x ins).2 = 0) (hk4 : x.1 ≠ 4) (hk8 : x.1 ≠ 8) :
    (meanF x (lessF c ins)).2 = 0 ∧ (meanF x (lessF c ins)).1.length = (meanF x ins).1.length ∧ ∀ i, i < (meanF x ins).1.length → (meanF x (lessF c ins)).1.getD i [] <+: (meanF x ins).1.getD i [] := by
  obtain ⟨h0, h1, h2, h3, h4⟩ := mean_iff.1 h
  obtain ⟨n, hn⟩ := less_get c ins 0
  obtain ⟨m, hm⟩ := less_get c ins 1
  have key : cleanF x (lessF c ins) ∧ (outF x (lessF c ins)).length = (outF x ins).length ∧ ∀ i, i < (outF x ins).length → (outF x (lessF c ins)).getD i [] <+: (outF x ins).getD i [] := by
    obtain ⟨k, z, e, l⟩ := x
    replace hk4 : k ≠ 4 := hk4
    replace hk8 : k ≠ 8 := hk8
    have one : ∀ a b : List Int, a <+: b → ∀ i, i < [b].length → [a].getD i [] <+: [b].getD i [] := fun a b hab i hi => by
      match i, hi with
      | 0, _ => exact hab
    have hp := List.take_prefix n (ins.getD 0 [])
    rcases kinds (chk_kind h0) with rfl | rfl | rfl | rfl | rfl | rfl | rfl | rfl | rfl | rfl
    · exact ⟨⟨by simp, by simp, by simp⟩, rfl, one _ _ (List.prefix_refl _)⟩
    · refine ⟨⟨fun _ a ha => ?_, by simp, by simp⟩, rfl, one _ _ ?_⟩
      · rw [hn] at ha; exact h3.1 (.inl rfl) a (List.mem_of_mem_take ha)
      · rw [hn]; exact hp.map _
    · refine ⟨⟨fun _ a ha => ?_, by simp, by simp⟩, rfl, one _ _ ?_⟩
      · rw [hn] at ha; exact h3.1 (.inr (.inl rfl)) a (List.mem_of_mem_take ha)
      · rw [hn]; exact hp.filter _
    · exact absurd rfl hk4
    · refine ⟨⟨by simp, by simp, by simp⟩, rfl, one _ _ ?_⟩
      rw [hn]; exact pre_rep _ hp
    · refine ⟨⟨by simp, by simp, by simp⟩, rfl, one _ _ ?_⟩
      rw [hn]; exact pre_take _ hp
    · refine ⟨⟨fun _ a ha => ?_, by simp, by simp⟩, rfl, ?_⟩
      · rw [hn] at ha; exact h3.1 (.inr (.inr rfl)) a (List.mem_of_mem_take ha)
      · intro i hi
        show [((lessF c ins).getD 0 []).filter (keep1 e), ((lessF c ins).getD 0 []).filter (fun a => !keep1 e a)].getD i [] <+: [(ins.getD 0 []).filter (keep1 e), (ins.getD 0 []).filter (fun a => !keep1 e a)].getD i []
        rw [hn]
        have hi' : i < 2 := hi
        match i, hi' with
        | 0, _ => exact hp.filter _
        | 1, _ => exact hp.filter _
    · exact absurd rfl hk8
    · refine ⟨⟨by simp, fun _ i hi => ?_, by simp⟩, rfl, one _ _ ?_⟩
      · rw [hn, hm] at hi ⊢
        have hi2 : i < min (ins.getD 0 []).length (ins.getD 1 []).length := by simp only [List.length_take] at hi; omega
        rw [get_take (by omega), get_take (by omega)]
        exact h3.2.1 rfl i hi2
      · rw [hn, hm]; exact pre_zip _ _ _ _ _
    · exact ⟨⟨by simp, by simp, by simp⟩, rfl, fun i hi => by simp [outF] at hi⟩
  obtain ⟨k1, k2, k3⟩ := key
  have hb : (outF x (lessF c ins)).any longB = false := by
    refine List.any_eq_false.2 fun y hy => ?_
    obtain ⟨i, hi, rfl⟩ := List.getElem_of_mem hy
    have h5 := k3 i (k2 ▸ hi)
    have h6 := List.any_eq_false.1 h4 ((outF x ins).getD i []) (by simp [List.getD_eq_getElem?_getD, List.getElem?_eq_getElem (k2 ▸ hi)])
    simp only [List.getD_eq_getElem?_getD, List.getElem?_eq_getElem hi, Option.getD_some] at h5
    have h7 := h5.length_le
    unfold longB at h6 ⊢
    simp only [List.getD_eq_getElem?_getD] at h6
    simp only [decide_eq_true_eq] at h6 ⊢
    omega
  have hm0 : (meanF x (lessF c ins)).2 = 0 := mean_iff.2 ⟨h0, by rw [less_len]; exact h1, less_str h2, k1, hb⟩
  rw [mean_eq hm0, mean_eq h]
  exact ⟨rfl, k2, k3⟩
def c15 : Ctr := fnC [dIs, dIs] rB (fun _ => True) (fun y => (decide (y.1 = y.2.1), ()))
theorem good15 : GoodC Tryz.prog 15 c15 := by
  refine goodF cx0_good 3 _ _ _ _ ⟨_, Tryz.func15, rfl, rfl⟩ fun (⟨xs, ys, _⟩ : List Int × List Int × Unit) _ => ?_
  refine (aI (by first | kernel_rfl | rfl) (fun h0 => (fun h1 => (aI (fun h2 => (fin_of rfl ?_)) (fun h2 => (fun h3 => ?_))))))
  · have hl : xs ≠ ys := fun e => by
      have h : (!decide ((xs.length : Int) = (ys.length : Int))) = true := h2
      rw [e] at h; simp at h
    show (decide (xs = ys), ()) = (false, ())
    rw [decide_eq_false hl]
  have hl : xs.length = ys.length := by
    have h : (!decide ((xs.length : Int) = (ys.length : Int))) = false := h2
    have : (xs.length : Int) = ys.length := by simpa using h
    omega
  refine ex4 _ (fun i : Nat => ⟨[.sl (.int .i64) xs, .sl (.int .i64) ys, .any, .any, .any, .any, .any, .any, .any, .any, .any, .sl (.int .i64) xs, .int .i64 (↑xs.length : Int), .int .i64 (i : Int), .any, .any, .any, .any, .any, .any, .any, .any, .any, .any, .any, .any], [], 0⟩) (fun i => i ≤ xs.length ∧ xs.take i = ys.take i) (fun i => xs.length - i) (aI (Exists.intro (0) (Exists.intro ([]) (aI ?_ (aI (by rfl) (aI (by rfl) (aI True.intro (by rfl))))))) ?_)
  · simp
  rintro i ⟨hi, ht⟩
  refine (aI (fun k0 => (aI (by first | kernel_rfl | rfl) (aI (by intros; (try subst_vars); (try simp only [nB] at *); (try simp only [inK, big, lim, nL] at *); omega) (aI (by intros; (try subst_vars); (try simp only [nB] at *); (try simp only [inK, big, lim, nL] at *); omega) (aI (fun k1 => (fin_of rfl ?_)) (fun k1 => (aI (by intros; (try subst_vars); (try simp only [nB] at *); (try simp only [inK, big, lim, nL] at *); omega) ?_))))))) (fun k0 => (fin_of rfl ?_)))
  · have hi' : i < xs.length := by simpa using k0
    have hk : ¬ xs.getD i (dflt tI) = ys.getD i (dflt tI) := by have h := k1; simpa using h
    have hne : xs ≠ ys := fun e => hk (by rw [e])
    show (decide (xs = ys), ()) = (false, ())
    rw [decide_eq_false hne]
  · have hi' : i < xs.length := by simpa using k0
    have hk : xs.getD i (dflt tI) = ys.getD i (dflt tI) := by have h := k1; simpa using h
    refine Exists.intro (i + 1) (Exists.intro ([]) (aI ?_ (aI ?_ (aI (by rfl) (aI (by rfl) (aI True.intro (by rfl)))))))
    · exact ⟨hi', take_ext_succ hi' (hl ▸ hi') ht hk⟩
    · show xs.length - (i + 1) < xs.length - i
      omega
  · have hi' : ¬ i < xs.length := by simpa using k0
    have he : xs = ys := by
      rw [List.take_of_length_le (by omega), List.take_of_length_le (by omega)] at ht
      exact ht
    show (decide (xs = ys), ()) = (true, ())
    rw [decide_eq_true he]
def cxQ4 : Ctx := ⟨tys0, [(11, ([], c11)), (12, ([], c12)), (13, ([], c13)), (15, ([], c15))]⟩
theorem cxQ4_good : GoodCtx Tryz.prog cxQ4 := cx_cons good11 (cx_cons good12 (cx_cons good13 (cx_cons good15 cx0_good)))
theorem fits4 : fitsAll Tryz.prog [tSt, tIss, .pair (.int .u8) (.int .u8)] Tryz.f4.params.toList = true := by kernel_rfl
set_option maxHeartbeats 4000000 in
theorem law4 : LawOk Tryz.prog 4 [tSt, tIss, .pair (.int .u8) (.int .u8)] [true, false, true] := by
  refine ⟨cxQ4, 3, cxQ4_good, fun (⟨⟨k, z, ⟨ek, eo, em, ev, ea⟩, l⟩, ins, ⟨c0, c1⟩, _⟩ : StT × List (List Int) × (Int × Int) × Unit) fine => ?_⟩
  refine (aI (by first | kernel_rfl | rfl) (aI True.intro (aI (fun h0 => (aI True.intro (fin_of rfl (by rfl)))) (fun h0 => (aI True.intro (fun (h1 : List (List Int) × Int × PUnit) => (fun h2 => (aI (fun h3 => (aI True.intro (fin_of rfl (by rfl)))) (fun h3 => (fun h4 => ?_))))))))))
  have hm : (meanF (k, z, ExprT.mk ek eo em ev ea, l) ins).2 = 0 := by
    have h : (!decide (h1.2.1 = 0)) = false := h3
    rw [h2] at h
    simpa using h
  have hk4 : k ≠ 4 ∧ k ≠ 8 := by
    have h : (bif (bif grtF (k, z, ExprT.mk ek eo em ev ea, l) ins then true else decide (k = 4)) then true else decide (k = 8)) = false := h0
    refine ⟨fun e => ?_, fun e => ?_⟩
    · rw [decide_eq_true e] at h
      cases hg : grtF (k, z, ExprT.mk ek eo em ev ea, l) ins <;> rw [hg] at h <;> cases h
    · rw [decide_eq_true e] at h
      cases hg : (bif grtF (k, z, ExprT.mk ek eo em ev ea, l) ins then true else decide (k = 4)) <;> rw [hg] at h <;> cases h
  obtain ⟨q1, q2, q3⟩ := begin_ok (c := (c0, c1)) hm hk4.1 hk4.2
  have hl2 : ins.length ≤ 2 := by
    obtain ⟨g0, g1, -⟩ := mean_iff.1 hm
    replace g1 : (ins.length : Int) = (knownF k).1 := g1
    have hkn : ∀ q : Int, 1 ≤ q ∧ q ≤ 10 → (knownF q).1 ≤ 2 := fun q hq => by
      rcases kinds hq with rfl | rfl | rfl | rfl | rfl | rfl | rfl | rfl | rfl | rfl <;> decide
    have := hkn k (chk_kind g0)
    omega
  have hstr := (mean_iff.1 hm).2.2.1
  have hll : ∀ i, (ins.getD i []).length ≤ 200 := fun i => str_len hstr i
  refine ex4 _ (fun p : Nat × List (List Int) => ⟨[.any, .sl (.sl (.int .i64)) ins, .any, .ptr 0 0, .any, .ptr 1 0, .any, .sl (.sl (.int .i64)) h1.1, .any, .own 2, .any, .any, .any, .any, .any, .any, .any, .any, .any, .any, .any, .any, .any, .any, .any, .any, .any, .any, .any, .any, .any, .any, .any, .any, .any, .any, .any, .any, .any, .sl (.sl (.int .i64)) ins, .int .i64 (↑ins.length : Int), .int .i64 (p.1 : Int), .any, .any, .any, .any, .any, .any, .any, .any, .any, .any, .any, .any, .any, .any, .any, .any, .any, .any, .any, .any, .any, .any, .any, .any, .any, .any, .any, .any, .any, .any, .any, .any, .any, .any, .any, .any, .any, .any, .any, .any, .any, .any, .any, .any, .any, .any, .any, .any, .any, .any, .any, .any, .any, .any, .any, .any, .any, .any, .any, .any, .any, .any, .any], [.cells   [.int .i64 k, .int .i64 z, .int .i64 (ExprT.mk ek eo em ev ea).kind,     .int .i64 (ExprT.mk ek eo em ev ea).op, .str (ExprT.mk ek eo em ev ea).name,     .int .i64 (ExprT.mk ek eo em ev ea).value, .sl .expr (ExprT.mk ek eo em ev ea).args,     .sl (.int .i64) l], .cells [.int .u8 c0, .int .u8 c1], .rows tIs p.2], 3⟩) (fun p => p.1 ≤ ins.length ∧ p.2 = (lessF (c0, c1) ins).take p.1) (fun p => ins.length - p.1) (aI (Exists.intro ((0, [])) (Exists.intro ([some 0, some 1, none]) (aI ?_ (aI (by rfl) (aI (by rfl) (aI (aI (aI (by rfl) (by rfl)) (aI (aI (by rfl) (by rfl)) (aI (by rfl) True.intro))) (by rfl))))))) ?_)
  · exact ⟨Nat.zero_le _, rfl⟩
  rintro ⟨i, acc⟩ ⟨hi, ha⟩
  replace hi : i ≤ ins.length := hi
  replace ha : acc = (lessF (c0, c1) ins).take i := ha
  have fc0 : inK .u8 c0 := fine.2.2.1.1
  have fc1 : inK .u8 c1 := fine.2.2.1.2
  have g : ∀ x : Int, inK .u8 x → inK .i64 x := fun x h => by simp only [inK] at *; omega
  have hal : acc.length ≤ 2 := by rw [ha, List.length_take, less_len]; omega
  have room : (acc.length + 1) * 24 ≤ lim := by simp only [lim]; omega
  have t0 : 0 ≤ ((0 : Nat) : Int).tmod 2 ∧ ((0 : Nat) : Int).tmod 2 < ((2 : Nat) : Int) := ⟨by decide, by decide⟩
  have t1 : 0 ≤ ((1 : Nat) : Int).tmod 2 ∧ ((1 : Nat) : Int).tmod 2 < ((2 : Nat) : Int) := ⟨by decide, by decide⟩
  have nl : ∀ i, -9223372036854775808 ≤ ((ins.getD i []).length : Int) + 1 ∧ ((ins.getD i []).length : Int) + 1 ≤ 9223372036854775807 := fun i => by have := hll i; omega
  have nt : ∀ (i : Nat) (c : Int), 0 ≤ c → 0 ≤ c.tmod (((ins.getD i []).length : Int) + 1) ∧ c.tmod (((ins.getD i []).length : Int) + 1) ≤ ((ins.getD i []).length : Int) := fun i c h => by
    have h1 := Int.tmod_lt_of_pos c (b := ((ins.getD i []).length : Int) + 1) (by omega)
    have h2 := Int.tmod_nonneg (((ins.getD i []).length : Int) + 1) h
    omega
  have hex : decide ((i : Int) < (ins.length : Int)) = false → acc = lessF (c0, c1) ins := fun h => by
    have h' : ¬ i < ins.length := by simpa using h
    rw [ha, List.take_of_length_le (by rw [less_len]; omega)]
  have C2 : ∀ y : Rens rIssI, y = ((meanF (k, z, ExprT.mk ek eo em ev ea, l) (lessF (c0, c1) ins)).1, (meanF (k, z, ExprT.mk ek eo em ev ea, l) (lessF (c0, c1) ins)).2, ()) → (bif !decide (y.2.1 = 0) then true else !decide ((y.1.length : Int) = (h1.1.length : Int))) = true → False := fun y e h => by
    rw [e, h2] at h
    dsimp only at h
    rw [q1, q2] at h
    simp at h
  have nx : ∀ j : Nat, j < ins.length → (lessF (c0, c1) ins).take (j + 1) = (lessF (c0, c1) ins).take j ++ [(ins.getD j []).take (cutN (c0, c1) j (ins.getD j []).length)] := fun j h => by
    rw [take_getD (d := []) (by rw [less_len]; exact h)]
    congr 2
    simp [lessF, List.getD_eq_getElem?_getD, h]
  have hi3 : i = 0 ∨ i = 1 ∨ i = 2 := by omega
  rcases hi3 with rfl | rfl | rfl
  · refine (aI (fun m0 => (aI (by (intros; (try subst_vars); (try simp only [nB] at *); (try simp only [inK, big, lim, nL] at *); omega)) (aI (by decide) (aI (by omega) (aI (g _ fc0) (fun m1 => (aI (nl 0) (aI (by omega) (aI (nt 0 _ fc0.1) (aI (by omega) (aI (by (intros; (try subst_vars); (try simp only [nB] at *); (try simp only [inK, big, lim, nL] at *); omega)) ?_))))))))))) (fun m0 => (aI True.intro (fun (m2 : List (List Int) × Int × PUnit) => (fun m3 => (fun m4 => (fun m5 => (aI (fun m6 => (fin_of rfl ?_)) (fun m6 => (fun m7 => ?_))))))))))
    · have hi' : 0 < ins.length := by have h : ((0 : Nat) : Int) < (ins.length : Int) := of_decide_eq_true m0; omega
      refine Exists.intro ((1, acc ++ [(ins.getD 0 []).take (cutN (c0, c1) 0 (ins.getD 0 []).length)])) (Exists.intro ([some 0, some 1, some 4]) (aI ?_ (aI ?_ (aI (by rfl) (aI (by rfl) (aI (aI (aI (by rfl) (by rfl)) (aI (aI (by rfl) (by rfl)) (aI (by rfl) True.intro))) (by rfl)))))))
      · refine ⟨hi', ?_⟩
        show acc ++ _ = (lessF (c0, c1) ins).take (0 + 1)
        rw [nx 0 hi', ha]
      · show ins.length - 1 < ins.length - 0
        omega
    · have ey := m3
      rw [hex m0] at ey
      exact (C2 _ ey m6).elim
    · have ey := m3
      rw [hex m0] at ey
      have hyl : m2.1.length = h1.1.length := by rw [ey, h2]; exact q2
      refine ex4 _ (fun j : Nat => ⟨[.any, .any, .any, .any, .any, .any, .any, .sl (.sl (.int .i64)) h1.1, .any, .any, .any, .any, .sl (.sl (.int .i64)) m2.1, .any, .any, .any, .any, .any, .any, .any, .any, .any, .any, .any, .any, .any, .any, .any, .any, .any, .any, .any, .any, .any, .any, .any, .any, .any, .any, .any, .any, .any, .any, .any, .any, .any, .any, .any, .any, .any, .any, .any, .any, .any, .any, .any, .any, .any, .any, .any, .any, .any, .any, .any, .any, .any, .any, .any, .any, .any, .any, .any, .any, .any, .any, .any, .sl (.sl (.int .i64)) m2.1, .int .i64 (↑m2.1.length : Int), .int .i64 (j : Int), .any, .any, .any, .any, .any, .any, .any, .any, .any, .any, .any, .any, .any, .any, .any, .any, .any, .any, .any, .any, .any, .any, .any, .any, .any, .any], [.cells   [.int .i64 k, .int .i64 z, .int .i64 (ExprT.mk ek eo em ev ea).kind,     .int .i64 (ExprT.mk ek eo em ev ea).op, .str (ExprT.mk ek eo em ev ea).name,     .int .i64 (ExprT.mk ek eo em ev ea).value, .sl .expr (ExprT.mk ek eo em ev ea).args,     .sl (.int .i64) l], .cells [.int .u8 c0, .int .u8 c1], .froz tIs acc], 3⟩) (fun j => j ≤ m2.1.length) (fun j => m2.1.length - j) (aI (Exists.intro (0) (Exists.intro ([some 0, some 1, some 2]) (aI ?_ (aI (by rfl) (aI (by rfl) (aI (aI (aI (by rfl) (by rfl)) (aI (aI (by rfl) (by rfl)) (aI (by rfl) True.intro))) (by rfl))))))) ?_)
      · exact Nat.zero_le _
      rintro j hj
      have hpre : j < m2.1.length → m2.1.getD j [] <+: h1.1.getD j [] := fun h => by
        rw [ey, h2]
        refine q3 j ?_
        rw [hyl, h2] at h
        exact h
      have hlt : decide ((j : Int) < (m2.1.length : Int)) = true → j < m2.1.length := fun h => by simpa using h
      have n1 : decide ((j : Int) < (m2.1.length : Int)) = true → 0 ≤ (j : Int) ∧ (j : Int) < (h1.1.length : Int) := fun h => by have := hlt h; omega
      have n2 : decide ((j : Int) < (m2.1.length : Int)) = true → 0 ≤ ((m2.1.getD j []).length : Int) ∧ ((m2.1.getD j []).length : Int) ≤ ((h1.1.getD j []).length : Int) := fun h => by
        have := (hpre (hlt h)).length_le
        omega
      have C3 : decide ((j : Int) < (m2.1.length : Int)) = true → (bif decide (((h1.1.getD j []).length : Int) < ((m2.1.getD j []).length : Int)) then true else !decide (m2.1.getD j [] = (h1.1.getD j []).take (m2.1.getD j []).length)) = true → False := fun h h' => by
        have hp := hpre (hlt h)
        have hl := hp.length_le
        rw [decide_eq_false (by omega), decide_eq_true (List.prefix_iff_eq_take.1 hp)] at h'
        cases h'
      refine (aI (fun w0 => (aI (by (intros; (try subst_vars); (try simp only [nB] at *); (try simp only [inK, big, lim, nL] at *); omega)) (fun w1 => (aI (n1 w0) (fun w2 => (aI (fun w3 => (n1 w0)) (fun w4 => (aI (fun w5 => (n2 w0)) (aI (fun w6 => True.intro) (aI (fun w7 => (fin_of rfl ?_)) (fun w7 => (aI (by (intros; (try subst_vars); (try simp only [nB] at *); (try simp only [inK, big, lim, nL] at *); omega)) ?_)))))))))))) (fun w0 => (aI True.intro (fin_of rfl (by rfl)))))
      · exact (C3 w0 w7).elim
      · refine Exists.intro (j + 1) (Exists.intro ([some 0, some 1, some 2]) (aI ?_ (aI ?_ (aI (by rfl) (aI (by rfl) (aI (aI (aI (by rfl) (by rfl)) (aI (aI (by rfl) (by rfl)) (aI (by rfl) True.intro))) (by rfl)))))))
        · exact hlt w0
        · show m2.1.length - (j + 1) < m2.1.length - j
          have := hlt w0
          omega
  · refine (aI (fun m0 => (aI (by (intros; (try subst_vars); (try simp only [nB] at *); (try simp only [inK, big, lim, nL] at *); omega)) (aI (by decide) (aI (by omega) (aI (g _ fc1) (fun m1 => (aI (nl 1) (aI (by omega) (aI (nt 1 _ fc1.1) (aI (by omega) (aI (by (intros; (try subst_vars); (try simp only [nB] at *); (try simp only [inK, big, lim, nL] at *); omega)) ?_))))))))))) (fun m0 => (aI True.intro (fun (m2 : List (List Int) × Int × PUnit) => (fun m3 => (fun m4 => (fun m5 => (aI (fun m6 => (fin_of rfl ?_)) (fun m6 => (fun m7 => ?_))))))))))
    · have hi' : 1 < ins.length := by have h : ((1 : Nat) : Int) < (ins.length : Int) := of_decide_eq_true m0; omega
      refine Exists.intro ((2, acc ++ [(ins.getD 1 []).take (cutN (c0, c1) 1 (ins.getD 1 []).length)])) (Exists.intro ([some 0, some 1, some 4]) (aI ?_ (aI ?_ (aI (by rfl) (aI (by rfl) (aI (aI (aI (by rfl) (by rfl)) (aI (aI (by rfl) (by rfl)) (aI (by rfl) True.intro))) (by rfl)))))))
      · refine ⟨hi', ?_⟩
        show acc ++ _ = (lessF (c0, c1) ins).take (1 + 1)
        rw [nx 1 hi', ha]
      · show ins.length - 2 < ins.length - 1
        omega
    · have ey := m3
      rw [hex m0] at ey
      exact (C2 _ ey m6).elim
    · have ey := m3
      rw [hex m0] at ey
      have hyl : m2.1.length = h1.1.length := by rw [ey, h2]; exact q2
      refine ex4 _ (fun j : Nat => ⟨[.any, .any, .any, .any, .any, .any, .any, .sl (.sl (.int .i64)) h1.1, .any, .any, .any, .any, .sl (.sl (.int .i64)) m2.1, .any, .any, .any, .any, .any, .any, .any, .any, .any, .any, .any, .any, .any, .any, .any, .any, .any, .any, .any, .any, .any, .any, .any, .any, .any, .any, .any, .any, .any, .any, .any, .any, .any, .any, .any, .any, .any, .any, .any, .any, .any, .any, .any, .any, .any, .any, .any, .any, .any, .any, .any, .any, .any, .any, .any, .any, .any, .any, .any, .any, .any, .any, .any, .sl (.sl (.int .i64)) m2.1, .int .i64 (↑m2.1.length : Int), .int .i64 (j : Int), .any, .any, .any, .any, .any, .any, .any, .any, .any, .any, .any, .any, .any, .any, .any, .any, .any, .any, .any, .any, .any, .any, .any, .any, .any, .any], [.cells   [.int .i64 k, .int .i64 z, .int .i64 (ExprT.mk ek eo em ev ea).kind,     .int .i64 (ExprT.mk ek eo em ev ea).op, .str (ExprT.mk ek eo em ev ea).name,     .int .i64 (ExprT.mk ek eo em ev ea).value, .sl .expr (ExprT.mk ek eo em ev ea).args,     .sl (.int .i64) l], .cells [.int .u8 c0, .int .u8 c1], .froz tIs acc], 3⟩) (fun j => j ≤ m2.1.length) (fun j => m2.1.length - j) (aI (Exists.intro (0) (Exists.intro ([some 0, some 1, some 2]) (aI ?_ (aI (by rfl) (aI (by rfl) (aI (aI (aI (by rfl) (by rfl)) (aI (aI (by rfl) (by rfl)) (aI (by rfl) True.intro))) (by rfl))))))) ?_)
      · exact Nat.zero_le _
      rintro j hj
      have hpre : j < m2.1.length → m2.1.getD j [] <+: h1.1.getD j [] := fun h => by
        rw [ey, h2]
        refine q3 j ?_
        rw [hyl, h2] at h
        exact h
      have hlt : decide ((j : Int) < (m2.1.length : Int)) = true → j < m2.1.length := fun h => by simpa using h
      have n1 : decide ((j : Int) < (m2.1.length : Int)) = true → 0 ≤ (j : Int) ∧ (j : Int) < (h1.1.length : Int) := fun h => by have := hlt h; omega
      have n2 : decide ((j : Int) < (m2.1.length : Int)) = true → 0 ≤ ((m2.1.getD j []).length : Int) ∧ ((m2.1.getD j []).length : Int) ≤ ((h1.1.getD j []).length : Int) := fun h => by
        have := (hpre (hlt h)).length_le
        omega
      have C3 : decide ((j : Int) < (m2.1.length : Int)) = true → (bif decide (((h1.1.getD j []).length : Int) < ((m2.1.getD j []).length : Int)) then true else !decide (m2.1.getD j [] = (h1.1.getD j []).take (m2.1.getD j []).length)) = true → False := fun h h' => by
        have hp := hpre (hlt h)
        have hl := hp.length_le
        rw [decide_eq_false (by omega), decide_eq_true (List.prefix_iff_eq_take.1 hp)] at h'
        cases h'
      refine (aI (fun w0 => (aI (by (intros; (try subst_vars); (try simp only [nB] at *); (try simp only [inK, big, lim, nL] at *); omega)) (fun w1 => (aI (n1 w0) (fun w2 => (aI (fun w3 => (n1 w0)) (fun w4 => (aI (fun w5 => (n2 w0)) (aI (fun w6 => True.intro) (aI (fun w7 => (fin_of rfl ?_)) (fun w7 => (aI (by (intros; (try subst_vars); (try simp only [nB] at *); (try simp only [inK, big, lim, nL] at *); omega)) ?_)))))))))))) (fun w0 => (aI True.intro (fin_of rfl (by rfl)))))
      · exact (C3 w0 w7).elim
      · refine Exists.intro (j + 1) (Exists.intro ([some 0, some 1, some 2]) (aI ?_ (aI ?_ (aI (by rfl) (aI (by rfl) (aI (aI (aI (by rfl) (by rfl)) (aI (aI (by rfl) (by rfl)) (aI (by rfl) True.intro))) (by rfl)))))))
        · exact hlt w0
        · show m2.1.length - (j + 1) < m2.1.length - j
          have := hlt w0
          omega
  · refine (aI (fun (m0 : decide ((↑(2 : Nat) : Int) < (↑ins.length : Int)) = true) => absurd (of_decide_eq_true m0) (by omega)) (fun m0 => (aI True.intro (fun (m1 : List (List Int) × Int × PUnit) => (fun m2 => (fun m3 => (fun m4 => (aI (fun m5 => (fin_of rfl ?_)) (fun m5 => (fun m6 => ?_))))))))))
    · have ey := m2
      rw [hex m0] at ey
      exact (C2 _ ey m5).elim
    · have ey := m2
      rw [hex m0] at ey
      have hyl : m1.1.length = h1.1.length := by rw [ey, h2]; exact q2
      refine ex4 _ (fun j : Nat => ⟨[.any, .any, .any, .any, .any, .any, .any, .sl (.sl (.int .i64)) h1.1, .any, .any, .any, .any, .sl (.sl (.int .i64)) m1.1, .any, .any, .any, .any, .any, .any, .any, .any, .any, .any, .any, .any, .any, .any, .any, .any, .any, .any, .any, .any, .any, .any, .any, .any, .any, .any, .any, .any, .any, .any, .any, .any, .any, .any, .any, .any, .any, .any, .any, .any, .any, .any, .any, .any, .any, .any, .any, .any, .any, .any, .any, .any, .any, .any, .any, .any, .any, .any, .any, .any, .any, .any, .any, .sl (.sl (.int .i64)) m1.1, .int .i64 (↑m1.1.length : Int), .int .i64 (j : Int), .any, .any, .any, .any, .any, .any, .any, .any, .any, .any, .any, .any, .any, .any, .any, .any, .any, .any, .any, .any, .any, .any, .any, .any, .any, .any], [.cells   [.int .i64 k, .int .i64 z, .int .i64 (ExprT.mk ek eo em ev ea).kind,     .int .i64 (ExprT.mk ek eo em ev ea).op, .str (ExprT.mk ek eo em ev ea).name,     .int .i64 (ExprT.mk ek eo em ev ea).value, .sl .expr (ExprT.mk ek eo em ev ea).args,     .sl (.int .i64) l], .cells [.int .u8 c0, .int .u8 c1], .froz tIs acc], 3⟩) (fun j => j ≤ m1.1.length) (fun j => m1.1.length - j) (aI (Exists.intro (0) (Exists.intro ([some 0, some 1, some 2]) (aI ?_ (aI (by rfl) (aI (by rfl) (aI (aI (aI (by rfl) (by rfl)) (aI (aI (by rfl) (by rfl)) (aI (by rfl) True.intro))) (by rfl))))))) ?_)
      · exact Nat.zero_le _
      rintro j hj
      have hpre : j < m1.1.length → m1.1.getD j [] <+: h1.1.getD j [] := fun h => by
        rw [ey, h2]
        refine q3 j ?_
        rw [hyl, h2] at h
        exact h
      have hlt : decide ((j : Int) < (m1.1.length : Int)) = true → j < m1.1.length := fun h => by simpa using h
      have n1 : decide ((j : Int) < (m1.1.length : Int)) = true → 0 ≤ (j : Int) ∧ (j : Int) < (h1.1.length : Int) := fun h => by have := hlt h; omega
      have n2 : decide ((j : Int) < (m1.1.length : Int)) = true → 0 ≤ ((m1.1.getD j []).length : Int) ∧ ((m1.1.getD j []).length : Int) ≤ ((h1.1.getD j []).length : Int) := fun h => by
        have := (hpre (hlt h)).length_le
        omega
      have C3 : decide ((j : Int) < (m1.1.length : Int)) = true → (bif decide (((h1.1.getD j []).length : Int) < ((m1.1.getD j []).length : Int)) then true else !decide (m1.1.getD j [] = (h1.1.getD j []).take (m1.1.getD j []).length)) = true → False := fun h h' => by
        have hp := hpre (hlt h)
        have hl := hp.length_le
        rw [decide_eq_false (by omega), decide_eq_true (List.prefix_iff_eq_take.1 hp)] at h'
        cases h'
      refine (aI (fun w0 => (aI (by (intros; (try subst_vars); (try simp only [nB] at *); (try simp only [inK, big, lim, nL] at *); omega)) (fun w1 => (aI (n1 w0) (fun w2 => (aI (fun w3 => (n1 w0)) (fun w4 => (aI (fun w5 => (n2 w0)) (aI (fun w6 => True.intro) (aI (fun w7 => (fin_of rfl ?_)) (fun w7 => (aI (by (intros; (try subst_vars); (try simp only [nB] at *); (try simp only [inK, big, lim, nL] at *); omega)) ?_)))))))))))) (fun w0 => (aI True.intro (fin_of rfl (by rfl)))))
      · exact (C3 w0 w7).elim
      · refine Exists.intro (j + 1) (Exists.intro ([some 0, some 1, some 2]) (aI ?_ (aI ?_ (aI (by rfl) (aI (by rfl) (aI (aI (aI (by rfl) (by rfl)) (aI (aI (by rfl) (by rfl)) (aI (by rfl) True.intro))) (by rfl)))))))
        · exact hlt w0
        · show m1.1.length - (j + 1) < m1.1.length - j
          have := hlt w0
          omega
end Go.Proofs.YticmijfmgmkkcaaGreat
