/- Channel: the reference's Apply, Ready, Withdraw and Offer, as contracts. -/
import Derived.Test.YtnaejponobbahaaChanG
import Derived.Test.YtnaejponobbahaaChanS
set_option linter.unusedSimpArgs false
set_option linter.unusedVariables false
set_option maxRecDepth 100000
namespace Go.Proofs.Ytnaejponobbahaa
open Go.Sx

def cx16 : Ctx := ⟨tys0, (49, ([], c49)) :: (50, ([], c50)) :: cx15.tab⟩
theorem cx16_good : GoodCtx Try.prog cx16 := cx_cons good49 (cx_cons good50 cx15_good)
theorem err_check {o : ObT} {s : OS} {c : Cl} (h : sErr o s c = 0) : sCheck o s = 0 ∧ (c.2.1 = 64 ∨ c.2.1 = 65 ∨ c.2.1 = 66) := by
  unfold sErr at h
  repeat' split at h
  all_goals first | (simp at h; done) | skip
  rename_i h1 _ h2 _ _ _ _
  exact ⟨by simpa using h1, Decidable.not_not.1 h2⟩
def c21 : Ctr := fnC [dObj, dOS, dCl] rRE (fun y => few y.2.1) (fun y => ((sApply y.1 y.2.1 y.2.2.1).1, (sApply y.1 y.2.1 y.2.2.1).2, ()))
set_option maxHeartbeats 4000000 in
theorem good21 : GoodC Try.prog 21 c21 := by
  refine goodF cx16_good 3 _ _ _ _ ⟨_, Try.func21, rfl, rfl⟩ fun (⟨⟨nm, kd, sz, ot⟩, ⟨ow, ct, tm, hs, q, bf, cs, cl, vl⟩, ⟨tk, op, va, pr, nw⟩, _⟩ : ObT × OS × Cl × Unit) hfew => ?_
  obtain ⟨f1, f2, f3, f4⟩ := hfew
  simp only [qu, bu] at f2 f3
  refine (And.intro (by rfl) (And.intro (by first | exact ⟨f1, f2, f3, f4⟩ | exact f2 | exact ⟨⟨f1, f2, f3, f4⟩, (err_check (by simpa using h0)).1⟩ | exact ⟨⟨f1, f2, f3, f4⟩, _, (err_check (by simpa using h0)).1⟩ | (intros; (try subst_vars); (try simp only [Bool.cond_true_left, Bool.cond_false_right, Bool.or_eq_true, Bool.or_eq_false_iff, Bool.and_eq_true, Bool.not_eq_true', Bool.not_eq_false', decide_eq_true_eq, decide_eq_false_iff_not, Int.not_lt, Int.not_le] at *); (try simp only [inK, big, lim, List.length_cons, List.length_nil, List.length_append, List.length_drop, List.length_take, List.length_replicate] at *); omega)) (And.intro (fun h0 => (fin_of rfl ?_)) (fun h0 => (And.intro (fun h1 => (And.intro (by first | exact ⟨f1, f2, f3, f4⟩ | exact f2 | exact ⟨⟨f1, f2, f3, f4⟩, (err_check (by simpa using h0)).1⟩ | exact ⟨⟨f1, f2, f3, f4⟩, _, (err_check (by simpa using h0)).1⟩ | (intros; (try subst_vars); (try simp only [Bool.cond_true_left, Bool.cond_false_right, Bool.or_eq_true, Bool.or_eq_false_iff, Bool.and_eq_true, Bool.not_eq_true', Bool.not_eq_false', decide_eq_true_eq, decide_eq_false_iff_not, Int.not_lt, Int.not_le] at *); (try simp only [inK, big, lim, List.length_cons, List.length_nil, List.length_append, List.length_drop, List.length_take, List.length_replicate] at *); omega)) (fun (h2 : ((Int × Int × Int × List Int × List (Int × Int × Int × Int × Int) × List Int × List (Int × List Int) × Bool × Int) ×     Bool × Int × Bool × List (Int × Int × Int × Bool × Int)) ×   PUnit) => (fun h3 => (fin_of rfl ?_))))) (fun h1 => (And.intro (fun h4 => (And.intro (by first | exact ⟨f1, f2, f3, f4⟩ | exact f2 | exact ⟨⟨f1, f2, f3, f4⟩, (err_check (by simpa using h0)).1⟩ | exact ⟨⟨f1, f2, f3, f4⟩, _, (err_check (by simpa using h0)).1⟩ | (intros; (try subst_vars); (try simp only [Bool.cond_true_left, Bool.cond_false_right, Bool.or_eq_true, Bool.or_eq_false_iff, Bool.and_eq_true, Bool.not_eq_true', Bool.not_eq_false', decide_eq_true_eq, decide_eq_false_iff_not, Int.not_lt, Int.not_le] at *); (try simp only [inK, big, lim, List.length_cons, List.length_nil, List.length_append, List.length_drop, List.length_take, List.length_replicate] at *); omega)) (fun (h5 : ((Int × Int × Int × List Int × List (Int × Int × Int × Int × Int) × List Int × List (Int × List Int) × Bool × Int) ×     Bool × Int × Bool × List (Int × Int × Int × Bool × Int)) ×   PUnit) => (fun h6 => (fin_of rfl ?_))))) (fun h4 => ?_))))))))
  · rw [sApply_err, if_pos (by simpa using h0)]
  · subst h3
    have h1' : op = 64 := of_decide_eq_true h1
    rw [sApply_err, if_neg (by simpa using h0), sDo, if_pos h1']
  · subst h6
    have h1' : ¬ op = 64 := of_decide_eq_false h1
    have h4' : op = 65 := of_decide_eq_true h4
    rw [sApply_err, if_neg (by simpa using h0), sDo, if_neg h1', if_pos h4']
  have e0 : sApply (nm, kd, sz, ot) (ow, ct, tm, hs, q, bf, cs, cl, vl) (tk, op, va, pr, nw) = (sShut (ow, ct, tm, hs, q, bf, cs, cl, vl), 0) := by
    have h1' : ¬ op = 64 := of_decide_eq_false h1
    have h4' : ¬ op = 65 := of_decide_eq_false h4
    rw [sApply_err, if_neg (by simpa using h0), sDo, if_neg h1', if_neg h4']
  refine ex4 _ (fun p : List W × List Wk => ⟨[.any, .any, .any, .any, .any, .any, .ptr 3 0, .any, .any, .ptr 4 0, .any, .any, .any, .any, .any, .any, .any, .any, .any, .any, .any, .any, .any, .any, .any, .any, .any, .any, .any, .any, .any, .any, .any, .any, .any, .any, .any, .any, .any, .any, .any, .any, .any], [.cells [.str nm, .int .i64 kd, .int .i64 sz, .int .i64 ot], .cells   [.int .i64 ow, .int .i64 ct, .int .i64 tm, .sl (.int .i64) hs, .sl tW q,     .sl (.int .i64) bf, .sl tCu cs, .bool cl, .int .i64 vl], .cells   [.int .i64 tk, .int .i64 op, .int .i64 va, .int .i64 pr, .int .i64 nw], .cells   [.int .i64 0, .int .i64 0, .int .i64 0, .cap0, .cap0, .cap0, .cap0, .bool false,     .int .i64 0, .bool false, .int .i64 0, .bool false, .cap0], .cells [.int .i64 ow, .int .i64 ct, .int .i64 tm, .sl (.int .i64) hs, .sl tW p.1, .sl (.int .i64) bf, .sl tCu cs, .bool cl, .int .i64 vl, .bool false, .int .i64 0, .bool true, .sl tWk p.2]], 5⟩) (fun p => shutW q = p.2 ++ shutW p.1 ∧ p.2.length + p.1.length ≤ q.length) (fun p => p.1.length) (And.intro (Exists.intro ((q, [])) (Exists.intro ([some 0, some 1, some 2, some 3, some 4]) (And.intro ?_ (And.intro (by rfl) (And.intro (by rfl) (And.intro (And.intro (And.intro (by rfl) (by rfl)) (And.intro (And.intro (by rfl) (by rfl)) (And.intro (And.intro (by rfl) (by rfl)) (And.intro (And.intro (by rfl) (by rfl)) (And.intro (And.intro (by rfl) (by rfl)) True.intro))))) (by rfl))))))) ?_)
  · exact ⟨rfl, by simp⟩
  rintro ⟨m, wk⟩ ⟨hm, hl⟩
  simp only at hm hl
  have hl1 : m.length ≤ 1000000 := by omega
  have hl2 : wk.length ≤ 1000000 := by omega
  refine (fun k0 => (And.intro (fun k1 => (And.intro (by first | exact ⟨hl1, hl2, Int.le_refl _, of_decide_eq_true (by assumption)⟩ | exact hl1 | (intros; (try subst_vars); (try simp only [Bool.cond_true_left, Bool.cond_false_right, Bool.or_eq_true, Bool.or_eq_false_iff, Bool.and_eq_true, Bool.not_eq_true', Bool.not_eq_false', decide_eq_true_eq, decide_eq_false_iff_not, Int.not_lt, Int.not_le] at *); (try simp only [inK, big, lim, List.length_cons, List.length_nil, List.length_append, List.length_drop, List.length_take, List.length_replicate] at *); omega)) (fun (k2 : ((Int × Int × Int × List Int × List (Int × Int × Int × Int × Int) × List Int × List (Int × List Int) × Bool × Int) ×     Bool × Int × Bool × List (Int × Int × Int × Bool × Int)) ×   PUnit) => (fun k3 => ?_)))) (fun k1 => (fin_of rfl ?_))))
  · have hp : 0 < m.length := by simpa using k1
    subst k3
    refine Exists.intro ((sRemove m (m.getD 0 (dflt tW)).1, wk ++ [wkOf (m.getD 0 (dflt tW)) 0 false])) (Exists.intro ([some 0, some 1, some 2, some 3, some 4]) (And.intro ?_ (And.intro ?_ (And.intro (by rfl) (And.intro (by rfl) (And.intro (And.intro (And.intro (by rfl) (by rfl)) (And.intro (And.intro (by rfl) (by rfl)) (And.intro (And.intro (by rfl) (by rfl)) (And.intro (And.intro (by rfl) (by rfl)) (And.intro (And.intro (by rfl) (by rfl)) True.intro))))) (by rfl)))))))
    · refine ⟨by rw [hm, shut_step hp]; simp, ?_⟩
      have := remove_head hp
      simp only [List.length_append, List.length_cons, List.length_nil]
      omega
    · exact remove_head hp
  · have hp : m = [] := by simpa using k1
    subst hp
    rw [shut_nil, List.append_nil] at hm
    rw [e0, sShut, qu, hm]
def cx17 : Ctx := ⟨tys0, [(12, ([], c12)), (59, ([], c59)), (60, ([], c60)), (61, ([], c61)), (37, ([], c37))]⟩
theorem cx17_good : GoodCtx Try.prog cx17 := cx_cons good12 (cx_cons good59 (cx_cons good60 (cx_cons good61 (cx_cons good37 cx0_good))))
def c31 : Ctr := fnC [dObj, dOS, dI] rRE (fun y => few y.2.1) (fun y => ((sWith y.1 y.2.1 y.2.2.1).1, (sWith y.1 y.2.1 y.2.2.1).2, ()))
theorem good31 : GoodC Try.prog 31 c31 := by
  refine goodF cx17_good 3 _ _ _ _ ⟨_, Try.func31, rfl, rfl⟩ fun (⟨⟨nm, kd, sz, ot⟩, ⟨ow, ct, tm, hs, q, bf, cs, cl, vl⟩, t, _⟩ : ObT × OS × Int × Unit) hfew => ?_
  simp only at hfew
  have f2 : q.length ≤ 1000000 := hfew.2.1
  refine (And.intro (by rfl) (And.intro (by first | exact hfew | exact f2 | (intros; (try subst_vars); (try simp only [Bool.cond_true_left, Bool.cond_false_right, Bool.or_eq_true, Bool.or_eq_false_iff, Bool.and_eq_true, Bool.not_eq_true', Bool.not_eq_false', decide_eq_true_eq, decide_eq_false_iff_not, Int.not_lt, Int.not_le] at *); (try simp only [inK, big, lim, List.length_cons, List.length_nil, List.length_append, List.length_drop, List.length_take, List.length_replicate] at *); omega)) (And.intro (fun h0 => (fin_of rfl (by (simp only [sWith, qu] at *; grind)))) (fun h0 => (And.intro True.intro (And.intro (fun h1 => (fin_of rfl (by (simp only [sWith, qu] at *; grind)))) (fun h1 => (And.intro (by first | exact hfew | exact f2 | (intros; (try subst_vars); (try simp only [Bool.cond_true_left, Bool.cond_false_right, Bool.or_eq_true, Bool.or_eq_false_iff, Bool.and_eq_true, Bool.not_eq_true', Bool.not_eq_false', decide_eq_true_eq, decide_eq_false_iff_not, Int.not_lt, Int.not_le] at *); (try simp only [inK, big, lim, List.length_cons, List.length_nil, List.length_append, List.length_drop, List.length_take, List.length_replicate] at *); omega)) (fin_of rfl (by (simp only [sWith, qu] at *; grind)))))))))))
def clashR (w x : W) : Bool := decide (x.1 = w.1) && (decide (x.2.2.2.2 = -1) || decide (x.2.2.2.2 = w.2.2.2.2))
theorem take_ne {α : Type} (q : List α) (x d : α) : (q ++ [x]).getD q.length d = x := by simp
theorem fineAt_append {q : List W} {w : W} {i : Nat} (h : i < q.length) : fineAt (q ++ [w]) i = fineAt q i := by
  have e1 : (q ++ [w]).getD i (dflt tW) = q.getD i (dflt tW) := by simp [List.getD_eq_getElem?_getD, List.getElem?_append_left h]
  have e2 : (q ++ [w]).take i = q.take i := by simp [List.take_append_of_le_length (Nat.le_of_lt h)]
  rw [fineAt, e1, e2, fineAt]
theorem fineN_append {q : List W} {w : W} : ∀ n, n ≤ q.length → fineN (q ++ [w]) n = fineN q n
  | 0, _ => rfl
  | n + 1, h => by rw [fineN, fineN, fineN_append n (by omega), fineAt_append (by omega)]
theorem fineAt_last {q : List W} {w : W} (hk : wKind w = true) : fineAt (q ++ [w]) q.length = !(q.any (clash w)) := by
  rw [fineAt, take_ne, hk]
  simp
theorem wl_append {q : List W} {w : W} (h : wlCheck q = 0) (hl : q.length ≤ 95) (hw : wOk w = true) : wlCheck (q ++ [w]) = 0 := by
  have h1 : ∀ x ∈ q, wOk x = true := fun x hx => wl_task h hx
  have h2 : (q ++ [w]).any (fun x => !wOk x) = false := by
    rw [List.any_eq_false]
    intro x hx
    rcases List.mem_append.1 hx with hx | hx
    · simp [h1 x hx]
    · simp at hx; simp [hx, hw]
  unfold wlCheck
  rw [if_neg (by simp; omega), h2]
  simp
theorem sOffer_ref {o : ObT} {s : OS} {w : W} (hc : sCheck o s = 0) (hl : (qu s).length ≤ 95) (h1 : offOk w = true) (h2 : w.2.1 = 64 ∨ w.2.1 = 65)
    (h3 : ¬ (num w.2.2.1 = false ∨ (w.2.1 = 65 ∧ w.2.2.1 ≠ 0))) :
    sOffer o s w = if (qu s).any (clashR w) = true then (zOS, 17) else if sCheck o (setQ s (qu s ++ [w])) ≠ 0 then (zOS, 17) else (setQ s (qu s ++ [w]), 0) := by
  obtain ⟨hn, hv⟩ := check_valid hc
  obtain ⟨p1, p2, p3, p4, p5, p6⟩ := valid_parts hv
  have h3' : num w.2.2.1 = true ∧ (w.2.1 = 65 → w.2.2.1 = 0) := by
    refine ⟨by cases e : num w.2.2.1 <;> simp_all, fun e => ?_⟩
    exact Decidable.byContradiction fun e' => h3 (.inr ⟨e, e'⟩)
  simp only [offOk, isTask, isPrio, inR, Bool.and_eq_true, decide_eq_true_eq] at h1
  have kind : wKind w = true := by
    simp only [wKind, Bool.or_eq_true, Bool.and_eq_true, decide_eq_true_eq]
    rcases h2 with e | e
    · exact .inl e
    · exact .inr ⟨e, h3'.2 e⟩
  have hw : wOk w = true := by
    simp only [wOk, inR, Bool.and_eq_true, decide_eq_true_eq]
    refine ⟨by omega, by omega, h3'.1, by omega, by omega⟩
  have ec : (qu s).any (clash w) = (qu s).any (clashR w) := any_mem _ fun x _ => by
    have : w.2.2.2.2 ≠ -1 := by omega
    simp [clash, clashR, this]
  have ef := (fineAt_last (q := qu s) kind).trans (congrArg Bool.not ec)
  have es : sCheck o (setQ s (qu s ++ [w])) = if (fineAt (qu s ++ [w]) (qu s).length && (!clo s && !vain o (setQ s (qu s ++ [w])))) = true then 0 else 1 := by
    have q1 : plainB o (setQ s (qu s ++ [w])) = true := p1
    have q2 : (bu (setQ s (qu s ++ [w]))).any (fun n => !num n) = false := p2
    have q3 : wlCheck (qu (setQ s (qu s ++ [w]))) = 0 := wl_append p3 hl hw
    have q4 : fineN (qu (setQ s (qu s ++ [w]))) (qu (setQ s (qu s ++ [w]))).length = fineAt (qu s ++ [w]) (qu s).length := by
      show fineN (qu s ++ [w]) (qu s ++ [w]).length = _
      rw [List.length_append, List.length_cons, List.length_nil, fineN, fineN_append _ (Nat.le_refl _), p4]
      rfl
    have q5 : decide ((qu (setQ s (qu s ++ [w]))).length = 0) = false := by
      show decide ((qu s ++ [w]).length = 0) = false
      simp
    rw [sCheck, if_neg (by rw [hn]; simp), sValid, q1, q2, q3, q4, q5]
    show (if (true && (!false && (decide ((0 : Int) = 0) && (fineAt (qu s ++ [w]) (qu s).length && ((!clo s || false) && !vain o (setQ s (qu s ++ [w]))))))) = false then (1 : Int) else 0) = _
    cases fineAt (qu s ++ [w]) (qu s).length <;> cases clo s <;> cases vain o (setQ s (qu s ++ [w])) <;> rfl
  have h1' : offOk w = true := by simp only [offOk, isTask, isPrio, inR, Bool.and_eq_true, decide_eq_true_eq]; exact h1
  rw [sOffer, if_neg (by rw [hc]; simp), if_neg (by rw [h1']; simp), if_neg (not_not_intro h2), if_neg h3, es, ef]
  cases (qu s).any (clashR w) <;> cases clo s <;> cases vain o (setQ s (qu s ++ [w])) <;> simp
def c32 : Ctr := fnC [dObj, dOS, dW] rOE (fun y => few y.2.1 ∧ (qu y.2.1).length ≤ 95) (fun y => ((sOffer y.1 y.2.1 y.2.2.1).1, (sOffer y.1 y.2.1 y.2.2.1).2, ()))
set_option maxHeartbeats 4000000 in
theorem good32 : GoodC Try.prog 32 c32 := by
  refine goodF cx17_good 3 _ _ _ _ ⟨_, Try.func32, rfl, rfl⟩ fun (⟨⟨nm, kd, sz, ot⟩, ⟨ow, ct, tm, hs, q, bf, cs, cl, vl⟩, ⟨tk, op, va, pr, ca⟩, _⟩ : ObT × OS × W × Unit) hn => ?_
  simp only at hn
  obtain ⟨hfew, hl⟩ := hn
  have f2 : q.length ≤ 1000000 := hfew.2.1
  refine (And.intro (by rfl) (And.intro (by first | exact hfew | exact f2 | (intros; (try subst_vars); (try simp only [Bool.cond_true_left, Bool.cond_false_right, Bool.or_eq_true, Bool.or_eq_false_iff, Bool.and_eq_true, Bool.not_eq_true', Bool.not_eq_false', decide_eq_true_eq, decide_eq_false_iff_not, Int.not_lt, Int.not_le] at *); (try simp only [inK, big, lim, List.length_cons, List.length_nil, List.length_append, List.length_drop, List.length_take, List.length_replicate] at *); omega)) (And.intro (fun h0 => (fin_of rfl (by (simp only [sOffer, offOk, isPrio, inR, qu, clo, setQ]; grind)))) (fun h0 => (And.intro True.intro (And.intro (fun h1 => (fin_of rfl (by (simp only [sOffer, offOk, isPrio, inR, qu, clo, setQ]; grind)))) (fun h1 => (And.intro (fun h2 => (fin_of rfl (by (simp only [sOffer, offOk, isPrio, inR, qu, clo, setQ]; grind)))) (fun h2 => (And.intro True.intro (And.intro (fun h3 => (fin_of rfl (by (simp only [sOffer, offOk, isPrio, inR, qu, clo, setQ]; grind)))) (fun h3 => ?_))))))))))))
  have e0 := sOffer_ref (o := (nm, kd, sz, ot)) (s := (ow, ct, tm, hs, q, bf, cs, cl, vl)) (w := (tk, op, va, pr, ca)) (by simpa using h0) hl (by simp only [offOk, isPrio, inR]; grind) (by grind) (by grind)
  have hfew2 : few (ow, ct, tm, hs, q ++ [(tk, op, va, pr, ca)], bf, cs, cl, vl) := by
    simp only [few, qu, bu] at hfew hl ⊢
    refine ⟨hfew.1, ?_, hfew.2.2⟩
    rw [List.length_append, List.length_cons, List.length_nil]
    omega
  refine ex4 _ (fun i : Nat => ⟨[.any, .any, .any, .ptr 0 0, .ptr 1 0, .ptr 2 0, .ptr 3 0, .any, .int .i64 (i : Int), .any, .any, .any, .any, .any, .any, .any, .any, .any, .any, .any, .any, .any, .any, .any, .any, .any, .any, .any, .any, .any, .any, .any, .any, .any, .any, .any, .any, .any, .any, .any, .any, .any, .any, .any, .any, .any, .any, .any, .any, .any, .any, .any, .any, .any, .any, .any, .any, .any, .any, .any, .any, .any, .any, .any, .any, .any, .any, .any, .any, .any, .any, .any, .any, .any, .any, .any, .any, .any, .any, .any, .any, .any, .any, .any, .any, .any, .any, .any, .any, .any, .any, .any, .any, .any, .any, .any, .any, .any, .any, .any, .any, .any, .any, .any, .any, .any, .any, .any, .any, .any, .any, .any, .any, .any], [.cells [.str nm, .int .i64 kd, .int .i64 sz, .int .i64 ot], .cells   [.int .i64 ow, .int .i64 ct, .int .i64 tm, .sl (.int .i64) hs, .sl tW q,     .sl (.int .i64) bf, .sl tCu cs, .bool cl, .int .i64 vl], .cells   [.int .i64 tk, .int .i64 op, .int .i64 va, .int .i64 pr, .int .i64 ca], .cells   [.int .i64 0, .int .i64 0, .int .i64 0, .cap0, .cap0, .cap0, .cap0, .bool false,     .int .i64 0]], 4⟩) (fun i => i ≤ q.length ∧ (q.take i).any (clashR (tk, op, va, pr, ca)) = false) (fun i => q.length - i) (And.intro (Exists.intro (0) (Exists.intro ([some 0, some 1, some 2, some 3]) (And.intro ?_ (And.intro (by rfl) (And.intro (by rfl) (And.intro (And.intro (And.intro (by rfl) (by rfl)) (And.intro (And.intro (by rfl) (by rfl)) (And.intro (And.intro (by rfl) (by rfl)) (And.intro (And.intro (by rfl) (by rfl)) True.intro)))) (by rfl))))))) ?_)
  · simp
  rintro i ⟨hi, ht⟩
  refine (fun k0 => (And.intro (fun k1 => (And.intro (by rfl) (And.intro (by first | exact hfew | exact f2 | exact hfew2 | (intros; (try subst_vars); (try simp only [Bool.cond_true_left, Bool.cond_false_right, Bool.or_eq_true, Bool.or_eq_false_iff, Bool.and_eq_true, Bool.not_eq_true', Bool.not_eq_false', decide_eq_true_eq, decide_eq_false_iff_not, Int.not_lt, Int.not_le] at *); (try simp only [inK, big, lim, List.length_cons, List.length_nil, List.length_append, List.length_drop, List.length_take, List.length_replicate] at *); omega)) (And.intro (fun k2 => (by first | exact hfew | exact f2 | exact hfew2 | (intros; (try subst_vars); (try simp only [Bool.cond_true_left, Bool.cond_false_right, Bool.or_eq_true, Bool.or_eq_false_iff, Bool.and_eq_true, Bool.not_eq_true', Bool.not_eq_false', decide_eq_true_eq, decide_eq_false_iff_not, Int.not_lt, Int.not_le] at *); (try simp only [inK, big, lim, List.length_cons, List.length_nil, List.length_append, List.length_drop, List.length_take, List.length_replicate] at *); omega))) (And.intro (fun k3 => (by first | exact hfew | exact f2 | exact hfew2 | (intros; (try subst_vars); (try simp only [Bool.cond_true_left, Bool.cond_false_right, Bool.or_eq_true, Bool.or_eq_false_iff, Bool.and_eq_true, Bool.not_eq_true', Bool.not_eq_false', decide_eq_true_eq, decide_eq_false_iff_not, Int.not_lt, Int.not_le] at *); (try simp only [inK, big, lim, List.length_cons, List.length_nil, List.length_append, List.length_drop, List.length_take, List.length_replicate] at *); omega))) (And.intro (fun k4 => (fin_of rfl ?_)) (fun k4 => (And.intro (by first | exact hfew | exact f2 | exact hfew2 | (intros; (try subst_vars); (try simp only [Bool.cond_true_left, Bool.cond_false_right, Bool.or_eq_true, Bool.or_eq_false_iff, Bool.and_eq_true, Bool.not_eq_true', Bool.not_eq_false', decide_eq_true_eq, decide_eq_false_iff_not, Int.not_lt, Int.not_le] at *); (try simp only [inK, big, lim, List.length_cons, List.length_nil, List.length_append, List.length_drop, List.length_take, List.length_replicate] at *); omega)) ?_)))))))) (fun k1 => (And.intro (by rfl) (And.intro (by first | exact hfew | exact f2 | exact hfew2 | (intros; (try subst_vars); (try simp only [Bool.cond_true_left, Bool.cond_false_right, Bool.or_eq_true, Bool.or_eq_false_iff, Bool.and_eq_true, Bool.not_eq_true', Bool.not_eq_false', decide_eq_true_eq, decide_eq_false_iff_not, Int.not_lt, Int.not_le] at *); (try simp only [inK, big, lim, List.length_cons, List.length_nil, List.length_append, List.length_drop, List.length_take, List.length_replicate] at *); omega)) (And.intro (by first | exact hfew | exact f2 | exact hfew2 | (intros; (try subst_vars); (try simp only [Bool.cond_true_left, Bool.cond_false_right, Bool.or_eq_true, Bool.or_eq_false_iff, Bool.and_eq_true, Bool.not_eq_true', Bool.not_eq_false', decide_eq_true_eq, decide_eq_false_iff_not, Int.not_lt, Int.not_le] at *); (try simp only [inK, big, lim, List.length_cons, List.length_nil, List.length_append, List.length_drop, List.length_take, List.length_replicate] at *); omega)) (And.intro (by first | exact hfew | exact f2 | exact hfew2 | (intros; (try subst_vars); (try simp only [Bool.cond_true_left, Bool.cond_false_right, Bool.or_eq_true, Bool.or_eq_false_iff, Bool.and_eq_true, Bool.not_eq_true', Bool.not_eq_false', decide_eq_true_eq, decide_eq_false_iff_not, Int.not_lt, Int.not_le] at *); (try simp only [inK, big, lim, List.length_cons, List.length_nil, List.length_append, List.length_drop, List.length_take, List.length_replicate] at *); omega)) (And.intro (fun k5 => (fin_of rfl ?_)) (fun k5 => (fin_of rfl ?_))))))))))
  · have e1 : q.any (clashR (tk, op, va, pr, ca)) = true := any_hit (i := i) (d := dflt tW) (by simpa using k1) (by rw [← k4]; simp [clashR])
    rw [e0, if_pos e1]
  · refine Exists.intro (i + 1) (Exists.intro ([some 0, some 1, some 2, some 3]) (And.intro ?_ (And.intro ?_ (And.intro (by rfl) (And.intro (by rfl) (And.intro (And.intro (And.intro (by rfl) (by rfl)) (And.intro (And.intro (by rfl) (by rfl)) (And.intro (And.intro (by rfl) (by rfl)) (And.intro (And.intro (by rfl) (by rfl)) True.intro)))) (by rfl)))))))
    · exact ⟨Nat.succ_le_of_lt (by simpa using k1), any_next (d := dflt tW) (by simpa using k1) ht (by rw [← k4]; simp [clashR])⟩
    · have hi' : i < q.length := by simpa using k1
      show q.length - (i + 1) < q.length - i
      omega
  · have e1 : ¬ q.any (clashR (tk, op, va, pr, ca)) = true := by rw [any_end (by simpa using k1) ht]; simp
    rw [e0, if_neg e1, if_pos (by simpa using k5)]
  · have e1 : ¬ q.any (clashR (tk, op, va, pr, ca)) = true := by rw [any_end (by simpa using k1) ht]; simp
    rw [e0, if_neg e1, if_neg (by simpa using k5)]
end Go.Proofs.Ytnaejponobbahaa
