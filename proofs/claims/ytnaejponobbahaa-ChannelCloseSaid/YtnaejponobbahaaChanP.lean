/- Channel: the law ChannelClose, walked. -/
import Derived.Test.YtnaejponobbahaaChanM
set_option linter.unusedSimpArgs false
set_option linter.unusedVariables false
set_option maxRecDepth 100000
namespace Go.Proofs.Ytnaejponobbahaa
open Go.Sx

theorem shut_mem : ∀ (l : List W), ∀ x ∈ shutW l, x.2.2.2.1 = false ∧ x.2.2.1 = 0
  | [], x, hx => by rw [shut_nil] at hx; cases hx
  | w :: l, x, hx => by
    rw [shutW] at hx
    rcases List.mem_cons.1 hx with rfl | hx
    · exact ⟨rfl, rfl⟩
    · exact shut_mem _ x hx
termination_by l => l.length
decreasing_by exact Nat.lt_succ_of_le (sRemove_len l w.1)
@[reducible] def dWks : AK := .dat false (.sl tWk)
def loud (w : Wk) : Bool := w.2.2.2.1 || !decide (w.2.2.1 = 0)
def c17 : Ctr := fnC [dWks, .fn 18 [] []] rB (fun _ => True) (fun y => (y.1.any loud, ()))
theorem good17 : GoodC Try.prog 17 c17 := by
  refine goodF cx0_good 5 _ _ _ _ ⟨_, Try.func17, rfl, rfl⟩ fun (⟨l, z, _⟩ : List Wk × (Unit × Unit) × Unit) _ => ?_
  refine (And.intro (by first | kernel_rfl | rfl) (And.intro (by first | kernel_rfl | rfl) (fun h0 => ?_)))
  refine ex4 _ (fun i : Nat => ⟨[.sl tWk l, .fn (Fn.func 18) [] [], .any, .any, .any, .any, .sl tWk l, .int .i64 (↑l.length : Int), .int .i64 (i : Int), .any, .any, .any, .any, .any, .any, .any, .any, .any, .any], [], 0⟩) (fun i => i ≤ l.length ∧ (l.take i).any loud = false) (fun i => l.length - i) (And.intro (Exists.intro (0) (Exists.intro ([]) (And.intro ?_ (And.intro (by rfl) (And.intro (by rfl) (And.intro True.intro (by rfl))))))) ?_)
  · simp
  rintro i ⟨hi, ht⟩
  refine (And.intro (fun k0 => (And.intro (by intros; (try subst_vars); (try simp only [Bool.cond_true_left, Bool.cond_false_right, Bool.or_eq_true, Bool.or_eq_false_iff, Bool.and_eq_true, Bool.not_eq_true', Bool.not_eq_false', decide_eq_true_eq, decide_eq_false_iff_not, Int.not_lt, Int.not_le] at *); (try simp only [inK, big, lim, List.length_cons, List.length_nil, List.length_append, List.length_drop, List.length_take, List.length_replicate] at *); omega) (And.intro (by first | kernel_rfl | rfl) (And.intro (fun k1 => (fin_of rfl ?_)) (fun k1 => (And.intro (by intros; (try subst_vars); (try simp only [Bool.cond_true_left, Bool.cond_false_right, Bool.or_eq_true, Bool.or_eq_false_iff, Bool.and_eq_true, Bool.not_eq_true', Bool.not_eq_false', decide_eq_true_eq, decide_eq_false_iff_not, Int.not_lt, Int.not_le] at *); (try simp only [inK, big, lim, List.length_cons, List.length_nil, List.length_append, List.length_drop, List.length_take, List.length_replicate] at *); omega) ?_)))))) (fun k0 => (fin_of rfl ?_)))
  · have e : l.any loud = true := any_hit (i := i) (d := dflt tWk) (by simpa using k0) (by rw [← k1]; simp [loud])
    simp [e]
  · refine Exists.intro (i + 1) (Exists.intro ([]) (And.intro ?_ (And.intro ?_ (And.intro (by rfl) (And.intro (by rfl) (And.intro True.intro (by rfl)))))))
    · exact ⟨Nat.succ_le_of_lt (by simpa using k0), any_next (d := dflt tWk) (by simpa using k0) ht (by rw [← k1]; simp [loud])⟩
    · have hi' : i < l.length := by simpa using k0
      show l.length - (i + 1) < l.length - i
      omega
  · have e : l.any loud = false := any_end (by simpa using k0) ht
    simp [e]
theorem shut_quiet (l : List W) : (shutW l).any loud = false := by
  rw [List.any_eq_false]
  intro x hx
  obtain ⟨h1, h2⟩ := shut_mem l x hx
  simp [loud, h1, h2]
def cxP : Ctx := ⟨tys1, (17, ([], c17)) :: tab4⟩
theorem cxP_good : GoodCtx Try.prog cxP := cx_cons good17 cxL_good
theorem sh2 {a b c : Bool} (h : (bif (bif a then true else b) then true else c) = false) : a = false ∧ b = false ∧ c = false := by
  cases a <;> cases b <;> simp_all
theorem call_ok {t op v : Int} (h0 : 0 ≤ t) (h1 : t ≤ 15) : callOk (t, op, v, 0, 0) = true := by
  simp only [callOk, isTask, isPrio, inR, Bool.and_eq_true, decide_eq_true_eq]
  omega
theorem not_any {l : List W} {t : Int} (h : l.any (isT t) = false) : ¬ l.any (isT t) = true := by rw [h]; simp
theorem apply_shut {o : ObT} {s : OS} {t : Int} (hc : sCheck o s = 0) (hq : (qu s).any (isT t) = false) (ho : clo s = false) (h0 : 0 ≤ t) (h1 : t ≤ 15) :
    sApply o s (t, 66, 0, 0, 0) = (sShut s, 0) := by
  unfold sApply
  rw [if_neg (by rw [hc]; simp), if_neg (by rw [call_ok h0 h1]; simp), if_neg (not_not_intro (.inr (.inr rfl))), if_neg (by simp), if_neg (not_any hq), if_neg (by rw [ho]; simp), if_neg (by rw [ho]; simp)]
  rfl
/-- A closed state with nobody waiting. -/
theorem apply_shut2 {o : ObT} {s : OS} {t : Int} (hv : Val o s) (hq : qu s = []) (ho : clo s = true) (h0 : 0 ≤ t) (h1 : t ≤ 15) :
    sApply o s (t, 66, 0, 0, 0) = (zRp, 17) := by
  unfold sApply
  rw [if_neg (by rw [val_check hv]; simp), if_neg (by rw [call_ok h0 h1]; simp), if_neg (not_not_intro (.inr (.inr rfl))), if_neg (by simp), if_neg (by rw [hq]; simp), if_neg (by simp), if_pos ⟨ho, rfl⟩]
theorem apply_send2 {o : ObT} {s : OS} {t : Int} (hv : Val o s) (hq : qu s = []) (ho : clo s = true) (h0 : 0 ≤ t) (h1 : t ≤ 15) :
    sApply o s (t, 64, 0, 0, 0) = (zRp, 19) := by
  unfold sApply
  rw [if_neg (by rw [val_check hv]; simp), if_neg (by rw [call_ok h0 h1]; simp), if_neg (not_not_intro (.inl rfl)), if_neg (by simp [num, inR]), if_neg (by rw [hq]; simp), if_pos ⟨ho, rfl⟩]
theorem apply_recv2 {o : ObT} {s : OS} {t : Int} (hv : Val o s) (hq : qu s = []) (ho : clo s = true) (h0 : 0 ≤ t) (h1 : t ≤ 15) :
    sApply o s (t, 65, 0, 0, 0) = ((match bu s with | v :: b => (setB s b, false, v, true, []) | [] => (s, false, 0, false, [])), 0) := by
  unfold sApply
  rw [if_neg (by rw [val_check hv]; simp), if_neg (by rw [call_ok h0 h1]; simp), if_neg (not_not_intro (.inr (.inl rfl))), if_neg (by simp), if_neg (by rw [hq]; simp), if_neg (by simp), if_neg (by simp)]
  unfold sDo sRecv
  rw [if_neg (by simp), if_pos rfl]
  have e : (qu s).find? (isOp 64) = none := by rw [hq]; rfl
  cases hb : bu s with
  | nil => simp [e, ho]
  | cons v b => simp [e]
theorem closed_val {o : ObT} {s : OS} (h : Val o s) {b : List Int} (hb : b.length ≤ (bu s).length) (hn : ∀ n ∈ b, n ∈ bu s) : Val o (setB (sShut s).1 b) := by
  refine val_empty (val_shut h) rfl ?_ fun n hn' => h.nums n (hn n hn')
  have := val_short h
  omega
theorem recv_drop {o : ObT} {s : OS} {t : Int} {i : Nat} (hv : Val o s) (hi : i < (bu s).length) (h0 : 0 ≤ t) (h1 : t ≤ 15) :
    sApply o (setB (sShut s).1 ((bu s).drop i)) (t, 65, 0, 0, 0) = ((setB (sShut s).1 ((bu s).drop (i + 1)), false, (bu s).getD i (dflt tI), true, []), 0) := by
  rw [apply_recv2 (closed_val hv (by simp) fun n hn => List.mem_of_mem_drop hn) rfl rfl h0 h1]
  have e : bu (setB (sShut s).1 ((bu s).drop i)) = (bu s).getD i (dflt tI) :: (bu s).drop (i + 1) := by
    show (bu s).drop i = _
    rw [List.drop_eq_getElem_cons hi]
    simp [List.getD_eq_getElem?_getD, List.getElem?_eq_getElem hi]
  rw [e]
theorem recv_nil {o : ObT} {s : OS} {t : Int} {i : Nat} (hv : Val o s) (hi : (bu s).length ≤ i) (h0 : 0 ≤ t) (h1 : t ≤ 15) :
    sApply o (setB (sShut s).1 ((bu s).drop i)) (t, 65, 0, 0, 0) = ((setB (sShut s).1 [], false, 0, false, []), 0) := by
  rw [List.drop_of_length_le hi, apply_recv2 (closed_val hv (by simp) (by simp)) rfl rfl h0 h1]
set_option maxRecDepth 100000 in
set_option maxHeartbeats 4000000 in
theorem law3 : LawOk Try.prog 3 [.int .u8, tOS] [false, true] := by
  refine ⟨cxP, 6, cxP_good, fun (⟨size, ⟨ow, ct, tm, hs, q, bf, cs, cl, vl⟩, _⟩ : Int × OS × Unit) fine => ?_⟩
  obtain ⟨hz, _⟩ := fine
  have z0 : 0 ≤ size := hz.1
  have z1 : size ≤ 255 := hz.2
  clear hz
  refine (And.intro (by first | kernel_rfl | rfl) (And.intro (by first | exact (not_great (by assumption)).1 | (intros; (try subst_vars); (try simp only [Bool.cond_true_left, Bool.cond_false_right, Bool.or_eq_true, Bool.or_eq_false_iff, Bool.and_eq_true, Bool.not_eq_true', Bool.not_eq_false', decide_eq_true_eq, decide_eq_false_iff_not, Int.not_lt, Int.not_le] at *); (try simp only [inK, big, lim, List.length_cons, List.length_nil, List.length_append, List.length_drop, List.length_take, List.length_replicate] at *); omega)) (And.intro (by first | exact (not_great (by assumption)).1 | (intros; (try subst_vars); (try simp only [Bool.cond_true_left, Bool.cond_false_right, Bool.or_eq_true, Bool.or_eq_false_iff, Bool.and_eq_true, Bool.not_eq_true', Bool.not_eq_false', decide_eq_true_eq, decide_eq_false_iff_not, Int.not_lt, Int.not_le] at *); (try simp only [inK, big, lim, List.length_cons, List.length_nil, List.length_append, List.length_drop, List.length_take, List.length_replicate] at *); omega)) (And.intro True.intro (fun (h0 : (ByteArray × Int × Int × Int) × PUnit) => (fun h1 => (And.intro True.intro (And.intro (fun h2 => (by first | exact (not_great (by assumption)).1 | (intros; (try subst_vars); (try simp only [Bool.cond_true_left, Bool.cond_false_right, Bool.or_eq_true, Bool.or_eq_false_iff, Bool.and_eq_true, Bool.not_eq_true', Bool.not_eq_false', decide_eq_true_eq, decide_eq_false_iff_not, Int.not_lt, Int.not_le] at *); (try simp only [inK, big, lim, List.length_cons, List.length_nil, List.length_append, List.length_drop, List.length_take, List.length_replicate] at *); omega))) (And.intro (fun h3 => (And.intro True.intro (fin_of rfl (by first | rfl | fail)))) (fun h3 => ?_))))))))))
  have hg : great (ow, ct, tm, hs, q, bf, cs, cl, vl) = false := (sh2 h3).1
  have hc : sCheck (objQ (size.tmod 4)) (ow, ct, tm, hs, q, bf, cs, cl, vl) = 0 := by
    subst h1
    simpa using (sh2 h3).2.1
  have ho : cl = false := (sh2 h3).2.2
  have hv := check_val hc
  refine ex4 _ (fun t : Nat => ⟨[.any, .any, .any, .ptr 0 0, .any, .ptr 1 0, .ptr 2 0, .any, .any, .any, .any, .any, .any, .any, .any, .any, .any, .any, .any, .any, .any, .any, .any, .any, .any, .any, .any, .any, .any, .any, .any, .any, .any, .any, .any, .any, .any, .any, .any, .any, .any, .any, .any, .any, .any, .any, .any, .any, .any, .any, .any, .any, .any, .any, .any, .any, .any, .any, .any, .any, .any, .any, .any, .any, .any, .any, .any, .any, .any, .any, .any, .any, .any, .any, .any, .any, .any, .any, .any, .any, .any, .any, .any, .any, .any, .any, .any, .any, .any, .any, .any, .any, .any, .any, .any, .any, .any, .any, .any, .any, .any, .any, .any, .any, .any, .any, .any, .any, .any, .any, .any, .any, .any, .any, .any, .any, .any, .any, .any, .any, .any, .any, .any, .any, .any, .any, .any, .any, .any, .any, .any, .any, .any, .any, .any, .any, .any, .any, .any, .any, .any, .any, .any, .any, .any, .any, .any, .any, .any, .any, .any, .any, .any, .any, .any, .any, .any, .any, .any, .any, .any, .any, .any, .any, .any, .any, .any, .any, .any, .any], [.cells   [.int .i64 ow, .int .i64 ct, .int .i64 tm, .sl (.int .i64) hs, .sl tW q,     .sl (.int .i64) bf, .sl tCu cs, .bool cl, .int .i64 vl], .cells [.str h0.1.1, .int .i64 h0.1.2.1, .int .i64 h0.1.2.2.1, .int .i64 h0.1.2.2.2], .cells [.int .i64 (t : Int)]], 3⟩) (fun t => t ≤ 16) (fun t => 16 - t) (And.intro (Exists.intro (0) (Exists.intro ([some 0, some 1, some 2]) (And.intro ?_ (And.intro (by rfl) (And.intro (by rfl) (And.intro (And.intro (And.intro (by rfl) (by rfl)) (And.intro (And.intro (by rfl) (by rfl)) (And.intro (And.intro (by rfl) (by rfl)) True.intro))) (by rfl))))))) ?_)
  · simp
  rintro t ht
  refine (And.intro (by first | kernel_rfl | rfl) (And.intro (by first | kernel_rfl | rfl) (fun k0 => ?_)))
  refine ex4 _ (fun i : Nat => ⟨[.sl tW q, .fn (Fn.func 15) [] [.ptr 2 0], .any, .any, .any, .any, .sl tW q, .int .i64 (↑q.length : Int), .int .i64 (i : Int), .any, .any, .any, .any, .any, .any, .any, .any, .any, .any], [.cells   [.int .i64 ow, .int .i64 ct, .int .i64 tm, .sl (.int .i64) hs, .sl tW q,     .sl (.int .i64) bf, .sl tCu cs, .bool cl, .int .i64 vl], .cells [.str h0.1.1, .int .i64 h0.1.2.1, .int .i64 h0.1.2.2.1, .int .i64 h0.1.2.2.2], .cells [.int .i64 (↑t : Int)]], 3⟩) (fun i => i ≤ q.length ∧ (q.take i).any (isT t) = false) (fun i => q.length - i) (And.intro (Exists.intro (0) (Exists.intro ([some 0, some 1, some 2]) (And.intro ?_ (And.intro (by rfl) (And.intro (by rfl) (And.intro (And.intro (And.intro (by rfl) (by rfl)) (And.intro (And.intro (by rfl) (by rfl)) (And.intro (And.intro (by rfl) (by rfl)) True.intro))) (by rfl))))))) ?_)
  · simp
  rintro i ⟨hi, hti⟩
  refine (And.intro (fun m0 => (And.intro (by first | exact (not_great hg).1 | (subst m6; exact few_apply hg) | (intros; (try subst_vars); (try simp only [Bool.cond_true_left, Bool.cond_false_right, Bool.or_eq_true, Bool.or_eq_false_iff, Bool.and_eq_true, Bool.not_eq_true', Bool.not_eq_false', decide_eq_true_eq, decide_eq_false_iff_not, Int.not_lt, Int.not_le] at *); (try simp only [inK, big, lim, List.length_cons, List.length_nil, List.length_append, List.length_drop, List.length_take, List.length_replicate] at *); omega)) (And.intro (by first | kernel_rfl | rfl) (And.intro (fun m1 => (And.intro (fun m2 => (And.intro (by first | exact (not_great hg).1 | (subst m6; exact few_apply hg) | (intros; (try subst_vars); (try simp only [Bool.cond_true_left, Bool.cond_false_right, Bool.or_eq_true, Bool.or_eq_false_iff, Bool.and_eq_true, Bool.not_eq_true', Bool.not_eq_false', decide_eq_true_eq, decide_eq_false_iff_not, Int.not_lt, Int.not_le] at *); (try simp only [inK, big, lim, List.length_cons, List.length_nil, List.length_append, List.length_drop, List.length_take, List.length_replicate] at *); omega)) ?_)) (fun m2 => False.elim (Bool.false_ne_true (Eq.symm (Eq.trans (by kernel_rfl) m2)))))) (fun m1 => (And.intro (by first | exact (not_great hg).1 | (subst m6; exact few_apply hg) | (intros; (try subst_vars); (try simp only [Bool.cond_true_left, Bool.cond_false_right, Bool.or_eq_true, Bool.or_eq_false_iff, Bool.and_eq_true, Bool.not_eq_true', Bool.not_eq_false', decide_eq_true_eq, decide_eq_false_iff_not, Int.not_lt, Int.not_le] at *); (try simp only [inK, big, lim, List.length_cons, List.length_nil, List.length_append, List.length_drop, List.length_take, List.length_replicate] at *); omega)) ?_)))))) (fun m0 => (And.intro (fun m3 => False.elim (Bool.false_ne_true (Eq.trans (by kernel_rfl) m3))) (fun m3 => (And.intro (fun m4 => (And.intro True.intro (fin_of rfl (by first | rfl | fail)))) (fun m4 => (And.intro (by first | exact (not_great hg).1 | (subst m6; exact few_apply hg) | (intros; (try subst_vars); (try simp only [Bool.cond_true_left, Bool.cond_false_right, Bool.or_eq_true, Bool.or_eq_false_iff, Bool.and_eq_true, Bool.not_eq_true', Bool.not_eq_false', decide_eq_true_eq, decide_eq_false_iff_not, Int.not_lt, Int.not_le] at *); (try simp only [inK, big, lim, List.length_cons, List.length_nil, List.length_append, List.length_drop, List.length_take, List.length_replicate] at *); omega)) (fun (m5 : ((Int × Int × Int × List Int × List (Int × Int × Int × Int × Int) × List Int × List (Int × List Int) × Bool × Int) ×     Bool × Int × Bool × List (Int × Int × Int × Bool × Int)) ×   Int × PUnit) => (fun m6 => (fun m7 => (And.intro (fun m8 => True.intro) (And.intro (fun m9 => (fin_of rfl ?_)) (fun m9 => (And.intro (by first | exact (not_great hg).1 | (subst m6; exact few_apply hg) | (intros; (try subst_vars); (try simp only [Bool.cond_true_left, Bool.cond_false_right, Bool.or_eq_true, Bool.or_eq_false_iff, Bool.and_eq_true, Bool.not_eq_true', Bool.not_eq_false', decide_eq_true_eq, decide_eq_false_iff_not, Int.not_lt, Int.not_le] at *); (try simp only [inK, big, lim, List.length_cons, List.length_nil, List.length_append, List.length_drop, List.length_take, List.length_replicate] at *); omega)) (fun (m10 : ((Int × Int × Int × List Int × List (Int × Int × Int × Int × Int) × List Int × List (Int × List Int) × Bool × Int) ×     Bool × Int × Bool × List (Int × Int × Int × Bool × Int)) ×   Int × PUnit) => (fun m11 => (And.intro (by first | exact (not_great hg).1 | (subst m6; exact few_apply hg) | (intros; (try subst_vars); (try simp only [Bool.cond_true_left, Bool.cond_false_right, Bool.or_eq_true, Bool.or_eq_false_iff, Bool.and_eq_true, Bool.not_eq_true', Bool.not_eq_false', decide_eq_true_eq, decide_eq_false_iff_not, Int.not_lt, Int.not_le] at *); (try simp only [inK, big, lim, List.length_cons, List.length_nil, List.length_append, List.length_drop, List.length_take, List.length_replicate] at *); omega)) (fun (m12 : ((Int × Int × Int × List Int × List (Int × Int × Int × Int × Int) × List Int × List (Int × List Int) × Bool × Int) ×     Bool × Int × Bool × List (Int × Int × Int × Bool × Int)) ×   Int × PUnit) => (fun m13 => (And.intro (fun m14 => (fin_of rfl ?_)) (fun m14 => (fun m15 => ?_))))))))))))))))))))))
  · have hi' : i < q.length := by simpa using m0
    have h15 := hv.oks (q.getD i (dflt tW)) (getD_mem hi')
    have h1' : (q.getD i (dflt tW)).1 = (t : Int) := by simpa using m1
    simp only [wOk, inR, Bool.and_eq_true, decide_eq_true_eq] at h15
    have ht15 : t ≤ 15 := by omega
    refine Exists.intro (t + 1) (Exists.intro ([some 0, some 1, some 2]) (And.intro ?_ (And.intro ?_ (And.intro (by rfl) (And.intro (by rfl) (And.intro (And.intro (And.intro (by rfl) (by rfl)) (And.intro (And.intro (by rfl) (by rfl)) (And.intro (And.intro (by rfl) (by rfl)) True.intro))) (by rfl)))))))
    · show t + 1 ≤ 16
      omega
    · show 16 - (t + 1) < 16 - t
      omega
  · refine Exists.intro (i + 1) (Exists.intro ([some 0, some 1, some 2]) (And.intro ?_ (And.intro ?_ (And.intro (by rfl) (And.intro (by rfl) (And.intro (And.intro (And.intro (by rfl) (by rfl)) (And.intro (And.intro (by rfl) (by rfl)) (And.intro (And.intro (by rfl) (by rfl)) True.intro))) (by rfl)))))))
    · exact ⟨Nat.succ_le_of_lt (by simpa using m0), any_next (d := dflt tW) (by simpa using m0) hti (by simpa [isT] using m1)⟩
    · have hi' : i < q.length := by simpa using m0
      show q.length - (i + 1) < q.length - i
      omega
  · subst h1
    have hnot : q.any (isT t) = false := any_end (by simpa using m0) hti
    have ht15 : (t : Int) ≤ 15 := by simp at m4; omega
    have e5 : m5 = (((ow, ct, tm, hs, [], bf, cs, true, vl), false, 0, true, shutW q), 0, ()) := m6.trans (show ((sApply (objQ (size.tmod 4)) (ow, ct, tm, hs, q, bf, cs, cl, vl) ((t : Int), 66, 0, 0, 0)).1, (sApply (objQ (size.tmod 4)) (ow, ct, tm, hs, q, bf, cs, cl, vl) ((t : Int), 66, 0, 0, 0)).2, ()) = _ by rw [apply_shut hc hnot ho (by omega) ht15]; rfl)
    subst e5
    have := shut_quiet q
    simp [this] at m9
  · subst h1
    have hnot : q.any (isT t) = false := any_end (by simpa using m0) hti
    have ht15 : (t : Int) ≤ 15 := by simp at m4; omega
    have e5 : m5 = (((ow, ct, tm, hs, [], bf, cs, true, vl), false, 0, true, shutW q), 0, ()) := m6.trans (show ((sApply (objQ (size.tmod 4)) (ow, ct, tm, hs, q, bf, cs, cl, vl) ((t : Int), 66, 0, 0, 0)).1, (sApply (objQ (size.tmod 4)) (ow, ct, tm, hs, q, bf, cs, cl, vl) ((t : Int), 66, 0, 0, 0)).2, ()) = _ by rw [apply_shut hc hnot ho (by omega) ht15]; rfl)
    subst e5
    have hw : Val (objQ (size.tmod 4)) (ow, ct, tm, hs, [], bf, cs, true, vl) := closed_val hv (Nat.le_refl _) fun n hn => hn
    have e10 : m10.2.1 = 17 := (congrArg (fun z => z.2.1) m11).trans (congrArg Prod.snd (apply_shut2 (t := (t : Int)) hw rfl rfl (by omega) ht15))
    have e12 : m12.2.1 = 19 := (congrArg (fun z => z.2.1) m13).trans (congrArg Prod.snd (apply_send2 (t := (t : Int)) hw rfl rfl (by omega) ht15))
    simp [e10, e12] at m14
  · subst h1
    have hnot : q.any (isT t) = false := any_end (by simpa using m0) hti
    have ht15 : (t : Int) ≤ 15 := by simp at m4; omega
    have e5 : m5 = (((ow, ct, tm, hs, [], bf, cs, true, vl), false, 0, true, shutW q), 0, ()) := m6.trans (show ((sApply (objQ (size.tmod 4)) (ow, ct, tm, hs, q, bf, cs, cl, vl) ((t : Int), 66, 0, 0, 0)).1, (sApply (objQ (size.tmod 4)) (ow, ct, tm, hs, q, bf, cs, cl, vl) ((t : Int), 66, 0, 0, 0)).2, ()) = _ by rw [apply_shut hc hnot ho (by omega) ht15]; rfl)
    subst e5
    refine ex4 _ (fun j : Nat => ⟨[.any, .any, .any, .ptr 0 0, .any, .ptr 1 0, .ptr 2 0, .ptr 3 0, .any, .any, .any, .any, .any, .any, .any, .any, .any, .any, .any, .any, .any, .any, .any, .any, .any, .any, .any, .any, .any, .any, .any, .any, .any, .any, .any, .any, .any, .any, .any, .any, .any, .any, .any, .any, .any, .any, .any, .any, .any, .any, .any, .any, .any, .any, .any, .any, .any, .any, .any, .any, .any, .any, .any, .any, .any, .any, .any, .any, .any, .any, .any, .any, .any, .any, .any, .any, .any, .any, .any, .any, .any, .any, .any, .any, .any, .any, .any, .any, .any, .any, .any, .any, .any, .any, .any, .any, .any, .any, .any, .any, .any, .any, .any, .any, .any, .any, .ptr 0 5, .sl (.int .i64) bf, .int .i64 (↑bf.length : Int), .int .i64 (j : Int), .any, .any, .any, .any, .any, .any, .any, .any, .any, .any, .any, .any, .any, .any, .any, .any, .any, .any, .any, .any, .any, .any, .any, .any, .any, .any, .any, .any, .any, .any, .any, .any, .any, .any, .any, .any, .any, .any, .any, .any, .any, .any, .any, .any, .any, .any, .any, .any, .any, .any, .any, .any, .any, .any, .any, .any, .any, .any, .any, .any], [.cells   [.int .i64 ow, .int .i64 ct, .int .i64 tm, .sl (.int .i64) hs, .sl tW q,     .sl (.int .i64) bf, .sl tCu cs, .bool cl, .int .i64 vl], .cells   [.str (objQ (size.tmod 4)).1, .int .i64 (objQ (size.tmod 4)).2.1,     .int .i64 (objQ (size.tmod 4)).2.2.1, .int .i64 (objQ (size.tmod 4)).2.2.2], .cells [.int .i64 (↑t : Int)], .cells [.int .i64 ow, .int .i64 ct, .int .i64 tm, .sl (.int .i64) hs, .sl tW [], .sl (.int .i64) (bf.drop j), .sl tCu cs, .bool true, .int .i64 vl, .any, .any, .any, .any], .cells   [.int .i64 m10.1.1.1, .int .i64 m10.1.1.2.1, .int .i64 m10.1.1.2.2.1,     .sl (.int .i64) m10.1.1.2.2.2.1, .sl tW m10.1.1.2.2.2.2.1,     .sl (.int .i64) m10.1.1.2.2.2.2.2.1, .sl tCu m10.1.1.2.2.2.2.2.2.1, .bool m10.1.1.2.2.2.2.2.2.2.1,     .int .i64 m10.1.1.2.2.2.2.2.2.2.2, .bool m10.1.2.1, .int .i64 m10.1.2.2.1,     .bool m10.1.2.2.2.1, .sl tWk m10.1.2.2.2.2], .cells   [.int .i64 m12.1.1.1, .int .i64 m12.1.1.2.1, .int .i64 m12.1.1.2.2.1,     .sl (.int .i64) m12.1.1.2.2.2.1, .sl tW m12.1.1.2.2.2.2.1,     .sl (.int .i64) m12.1.1.2.2.2.2.2.1, .sl tCu m12.1.1.2.2.2.2.2.2.1, .bool m12.1.1.2.2.2.2.2.2.2.1,     .int .i64 m12.1.1.2.2.2.2.2.2.2.2, .bool m12.1.2.1, .int .i64 m12.1.2.2.1,     .bool m12.1.2.2.2.1, .sl tWk m12.1.2.2.2.2]], 6⟩) (fun j => j ≤ bf.length) (fun j => bf.length - j) (And.intro (Exists.intro (0) (Exists.intro ([some 0, some 1, some 2, some 3, some 4, some 5]) (And.intro ?_ (And.intro (by rfl) (And.intro (by rfl) (And.intro (And.intro (And.intro (by rfl) (by rfl)) (And.intro (And.intro (by rfl) (by rfl)) (And.intro (And.intro (by rfl) (by rfl)) (And.intro (And.intro (by rfl) (by rfl)) (And.intro (And.intro (by rfl) (by rfl)) (And.intro (And.intro (by rfl) (by rfl)) True.intro)))))) (by rfl))))))) ?_)
    · exact Nat.zero_le _
    rintro j hj
    have fewt : few (ow, ct, tm, hs, [], bf.drop j, cs, true, vl) := by
      have := (not_great hg).1
      simp only [few, qu, bu, List.length_drop, List.length_nil] at this ⊢
      omega
    refine (And.intro (fun n0 => (And.intro (by first | exact fewt | (intros; (try subst_vars); (try simp only [Bool.cond_true_left, Bool.cond_false_right, Bool.or_eq_true, Bool.or_eq_false_iff, Bool.and_eq_true, Bool.not_eq_true', Bool.not_eq_false', decide_eq_true_eq, decide_eq_false_iff_not, Int.not_lt, Int.not_le] at *); (try simp only [inK, big, lim, List.length_cons, List.length_nil, List.length_append, List.length_drop, List.length_take, List.length_replicate] at *); omega)) (And.intro (by first | exact fewt | (intros; (try subst_vars); (try simp only [Bool.cond_true_left, Bool.cond_false_right, Bool.or_eq_true, Bool.or_eq_false_iff, Bool.and_eq_true, Bool.not_eq_true', Bool.not_eq_false', decide_eq_true_eq, decide_eq_false_iff_not, Int.not_lt, Int.not_le] at *); (try simp only [inK, big, lim, List.length_cons, List.length_nil, List.length_append, List.length_drop, List.length_take, List.length_replicate] at *); omega)) (fun (n1 : ((Int × Int × Int × List Int × List (Int × Int × Int × Int × Int) × List Int × List (Int × List Int) × Bool × Int) ×     Bool × Int × Bool × List (Int × Int × Int × Bool × Int)) ×   Int × PUnit) => (fun n2 => (And.intro (fun n3 => (fin_of rfl ?_)) (fun n3 => (And.intro (by first | exact fewt | (intros; (try subst_vars); (try simp only [Bool.cond_true_left, Bool.cond_false_right, Bool.or_eq_true, Bool.or_eq_false_iff, Bool.and_eq_true, Bool.not_eq_true', Bool.not_eq_false', decide_eq_true_eq, decide_eq_false_iff_not, Int.not_lt, Int.not_le] at *); (try simp only [inK, big, lim, List.length_cons, List.length_nil, List.length_append, List.length_drop, List.length_take, List.length_replicate] at *); omega)) ?_)))))))) (fun n0 => (And.intro (by first | exact fewt | (intros; (try subst_vars); (try simp only [Bool.cond_true_left, Bool.cond_false_right, Bool.or_eq_true, Bool.or_eq_false_iff, Bool.and_eq_true, Bool.not_eq_true', Bool.not_eq_false', decide_eq_true_eq, decide_eq_false_iff_not, Int.not_lt, Int.not_le] at *); (try simp only [inK, big, lim, List.length_cons, List.length_nil, List.length_append, List.length_drop, List.length_take, List.length_replicate] at *); omega)) (fun (n4 : ((Int × Int × Int × List Int × List (Int × Int × Int × Int × Int) × List Int × List (Int × List Int) × Bool × Int) ×     Bool × Int × Bool × List (Int × Int × Int × Bool × Int)) ×   Int × PUnit) => (fun n5 => (And.intro (fun n6 => True.intro) (fin_of rfl ?_)))))))
    · have hj' : j < bf.length := by simpa using n0
      have e3 : sApply (objQ (size.tmod 4)) (ow, ct, tm, hs, [], bf.drop j, cs, true, vl) ((t : Int), 65, 0, 0, 0) = (((ow, ct, tm, hs, [], bf.drop (j + 1), cs, true, vl), false, bf.getD j (dflt tI), true, []), 0) := recv_drop (s := (ow, ct, tm, hs, q, bf, cs, cl, vl)) hv hj' (by omega) ht15
      have e : n1 = (((ow, ct, tm, hs, [], bf.drop (j + 1), cs, true, vl), false, bf.getD j (dflt tI), true, []), 0, ()) := n2.trans (show ((sApply (objQ (size.tmod 4)) (ow, ct, tm, hs, [], bf.drop j, cs, true, vl) ((t : Int), 65, 0, 0, 0)).1, (sApply (objQ (size.tmod 4)) (ow, ct, tm, hs, [], bf.drop j, cs, true, vl) ((t : Int), 65, 0, 0, 0)).2, ()) = _ by rw [e3])
      subst e
      simp at n3
    · have hj' : j < bf.length := by simpa using n0
      have e3 : sApply (objQ (size.tmod 4)) (ow, ct, tm, hs, [], bf.drop j, cs, true, vl) ((t : Int), 65, 0, 0, 0) = (((ow, ct, tm, hs, [], bf.drop (j + 1), cs, true, vl), false, bf.getD j (dflt tI), true, []), 0) := recv_drop (s := (ow, ct, tm, hs, q, bf, cs, cl, vl)) hv hj' (by omega) ht15
      have e : n1 = (((ow, ct, tm, hs, [], bf.drop (j + 1), cs, true, vl), false, bf.getD j (dflt tI), true, []), 0, ()) := n2.trans (show ((sApply (objQ (size.tmod 4)) (ow, ct, tm, hs, [], bf.drop j, cs, true, vl) ((t : Int), 65, 0, 0, 0)).1, (sApply (objQ (size.tmod 4)) (ow, ct, tm, hs, [], bf.drop j, cs, true, vl) ((t : Int), 65, 0, 0, 0)).2, ()) = _ by rw [e3])
      subst e
      refine Exists.intro (j + 1) (Exists.intro ([some 0, some 1, some 2, some 3, some 4, some 5]) (And.intro ?_ (And.intro ?_ (And.intro (by rfl) (And.intro (by rfl) (And.intro (And.intro (And.intro (by rfl) (by rfl)) (And.intro (And.intro (by rfl) (by rfl)) (And.intro (And.intro (by rfl) (by rfl)) (And.intro (And.intro (by rfl) (by rfl)) (And.intro (And.intro (by rfl) (by rfl)) (And.intro (And.intro (by rfl) (by rfl)) True.intro)))))) (by rfl)))))))
      · exact hj'
      · show bf.length - (j + 1) < bf.length - j
        omega
    · have hj' : bf.length ≤ j := by simpa using n0
      have e3 : sApply (objQ (size.tmod 4)) (ow, ct, tm, hs, [], bf.drop j, cs, true, vl) ((t : Int), 65, 0, 0, 0) = (((ow, ct, tm, hs, [], [], cs, true, vl), false, 0, false, []), 0) := recv_nil (s := (ow, ct, tm, hs, q, bf, cs, cl, vl)) hv hj' (by omega) ht15
      have e : n4 = (((ow, ct, tm, hs, [], [], cs, true, vl), false, 0, false, []), 0, ()) := n5.trans (show ((sApply (objQ (size.tmod 4)) (ow, ct, tm, hs, [], bf.drop j, cs, true, vl) ((t : Int), 65, 0, 0, 0)).1, (sApply (objQ (size.tmod 4)) (ow, ct, tm, hs, [], bf.drop j, cs, true, vl) ((t : Int), 65, 0, 0, 0)).2, ()) = _ by rw [e3])
      subst e
      rfl
end Go.Proofs.Ytnaejponobbahaa
