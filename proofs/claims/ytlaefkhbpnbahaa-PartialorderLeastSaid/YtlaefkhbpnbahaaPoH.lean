/- Partial orders: Extensions, as a contract. -/
import Derived.Test.YtlaefkhbpnbahaaPoG
set_option linter.unusedSimpArgs false
set_option linter.unusedVariables false
set_option maxRecDepth 100000
namespace Go.Proofs.Ytlaefkhbpnbahaa
open Go.Sx

/-- The search, to a depth. -/
def SEM : Nat → CallSem
  | 0 => callS cxX Try.prog (callS cxX Try.prog (callS cxX Try.prog fun _ _ _ _ _ => False))
  | d + 1 => callS cxX Try.prog (callS cxX Try.prog (callS cxX Try.prog (frameS (RelX d))))
theorem sem_rel (d : Nat) : ∀ g args T x1 T1, RelX d g args T x1 T1 → SEM d g args T T.length (fun x T' n' => ∃ σ, weak T.length σ [noW x] T' n' ⟨[x1], T1, T1.length⟩) := by
  rintro g args T x1 T1 ⟨n, f, most, out, used, buf, len, hn, hm, hu, hb, hl, hk, rfl, rfl, rfl, rfl, rfl⟩
  cases d with
  | zero => exact walk40 _ n f most out used buf len 0 hn hm hu hb hl hk (fun k args H m K h => by omega)
  | succ d =>
    refine walk40 _ n f most out used buf len (d + 1) hn hm hu hb hl hk (fun k args H m K h h' => ?_)
    have e : k = d := by omega
    exact e ▸ h'
theorem sem_ok : ∀ d, CallOk Try.prog (SEM d)
  | 0 => callS_good cxX_good (callS_good cxX_good (callS_good cxX_good no_call))
  | d + 1 => callS_good cxX_good (callS_good cxX_good (callS_good cxX_good (frame_ok (sem_ok d) (sem_rel d))))
def semU : CallSem := fun g a H n K => ∃ d, SEM d g a H n K
theorem semU_ok : CallOk Try.prog semU := ⟨fun g a H n K ⟨d, h⟩ => (sem_ok d).1 g a H n K h, fun id a H n K ⟨d, h⟩ => (sem_ok d).2 id a H n K h⟩
def RelU : FuncId → List AV → List Ob → AV → List Ob → Prop := fun g a T x T1 => ∃ k, RelX k g a T x T1
theorem frameU_ok : CallOk Try.prog (frameS RelU) := frame_ok semU_ok fun g a T x T1 ⟨k, h⟩ => ⟨k, sem_rel k g a T x T1 h⟩
def extsF (n : Int) (l : List Ed) (most : Int) : List (List Int) × Int :=
  if checkF n l ≠ 0 then ([], checkF n l) else if most < 0 ∨ 5000 < most then ([], 2) else
  ((extD n.toNat (inL l) most n.toNat (List.replicate n.toNat false) 0 ([], List.replicate n.toNat 0)).1, 0)
def cxY : Ctx := ⟨tysX, [(18, ([], c18)), (39, ([], c39))]⟩
theorem cxY_good : GoodCtx Try.prog cxY := cx_ty (cx_cons good18 (cx_cons good39 cx0_good))
@[reducible] def rIssI : List (Bool × Ty) := [(false, .sl tIs), (false, tI)]
def c14 : Ctr := fnC [dI, dEs, dI] rIssI (fun _ => True) (fun y => ((extsF y.1 y.2.1 y.2.2.1).1, (extsF y.1 y.2.1 y.2.2.1).2, ()))
set_option maxHeartbeats 4000000 in
theorem good14 : GoodC Try.prog 14 c14 := by
  refine goodFS (callS_good cxY_good frameU_ok) _ _ _ _ ⟨_, Try.func14, rfl, rfl⟩ fun (⟨n, l, most, _⟩ : Int × List Ed × Int × Unit) _ => ?_
  have mk : checkF n l = 0 → 0 ≤ n ∧ n ≤ 200 ∧ insideAll n l := fun h => ⟨(chk_ok h).1, (chk_ok h).2.1, (chk_ok h).2.2.2⟩
  have mk1 : ∀ k : Nat, k ≤ 8 → checkF n l = 0 → 0 ≤ n ∧ n ≤ n ∧ n * (k : Int) ≤ (lim : Int) ∧ n ≤ (lim : Int) := fun k hk h => by
    obtain ⟨n0, n1, -⟩ := chk_ok h
    have : n * (k : Int) ≤ 200 * 8 := Int.mul_le_mul n1 (by omega) (by omega) (by omega)
    simp only [lim]
    omega
  refine (And.intro (by first | kernel_rfl | rfl) (And.intro True.intro (And.intro (fun h0 => (fin_of rfl ?_)) (fun h0 => (And.intro (fun h1 => (fin_of rfl ?_)) (fun h1 => (And.intro (by first | exact mk (by simpa using h0) | exact mk1 _ (by decide) (by simpa using h0) | (intros; (try subst_vars); (try simp only [Bool.cond_true_left, Bool.cond_false_right, Bool.or_eq_true, Bool.or_eq_false_iff, Bool.and_eq_true, Bool.not_eq_true', Bool.not_eq_false', decide_eq_true_eq, decide_eq_false_iff_not, Int.not_lt, Int.not_le] at *); (try simp only [inK, big, lim, List.length_cons, List.length_nil, List.length_append, List.length_drop, List.length_take, List.length_replicate] at *); omega)) (fun (h2 : (Int × List (List Bool)) × PUnit) => (fun h3 => (And.intro (by first | exact mk (by simpa using h0) | exact mk1 _ (by decide) (by simpa using h0) | (intros; (try subst_vars); (try simp only [Bool.cond_true_left, Bool.cond_false_right, Bool.or_eq_true, Bool.or_eq_false_iff, Bool.and_eq_true, Bool.not_eq_true', Bool.not_eq_false', decide_eq_true_eq, decide_eq_false_iff_not, Int.not_lt, Int.not_le] at *); (try simp only [inK, big, lim, List.length_cons, List.length_nil, List.length_append, List.length_drop, List.length_take, List.length_replicate] at *); omega)) (And.intro (by kernel_rfl) (And.intro (by rfl) (And.intro (by rfl) (And.intro (by first | exact mk (by simpa using h0) | exact mk1 _ (by decide) (by simpa using h0) | (intros; (try subst_vars); (try simp only [Bool.cond_true_left, Bool.cond_false_right, Bool.or_eq_true, Bool.or_eq_false_iff, Bool.and_eq_true, Bool.not_eq_true', Bool.not_eq_false', decide_eq_true_eq, decide_eq_false_iff_not, Int.not_lt, Int.not_le] at *); (try simp only [inK, big, lim, List.length_cons, List.length_nil, List.length_append, List.length_drop, List.length_take, List.length_replicate] at *); omega)) (And.intro (by rfl) (And.intro True.intro ?_))))))))))))))))
  · have h0' : checkF n l ≠ 0 := by simpa using h0
    show ((extsF n l most).1, (extsF n l most).2, ()) = ([], checkF n l, ())
    rw [extsF, if_pos h0']
  · have h0' : checkF n l = 0 := by simpa using h0
    have h1' : most < 0 ∨ 5000 < most := by simpa [Bool.cond_eq_ite] using h1
    show ((extsF n l most).1, (extsF n l most).2, ()) = ([], 2, ())
    rw [extsF, if_neg (by simp [h0']), if_pos h1']
  have h0' : checkF n l = 0 := by simpa using h0
  have h1' : ¬ (most < 0 ∨ 5000 < most) := by
    have h1'' : (bif decide (most < 0) then true else decide (5000 < most)) = false := h1
    rintro (h | h)
    · rw [decide_eq_true h] at h1''; cases h1''
    · rw [decide_eq_true h] at h1''
      revert h1''
      cases decide (most < 0) <;> simp
  obtain ⟨n0, n1, n2, hl⟩ := chk_ok h0'
  have ek : h2 = ((n, matF n l), ()) := h3
  subst ek
  rw [mat_tab n0 hl]
  have eg : extsF n l most = ((extD n.toNat (inL l) most n.toNat (List.replicate n.toNat false) 0 ([], List.replicate n.toNat 0)).1, 0) := by rw [extsF, if_neg (by simp [h0']), if_neg h1']
  obtain ⟨m, rfl⟩ : ∃ m : Nat, n = (m : Int) := ⟨n.toNat, by omega⟩
  refine Exists.intro [.ownc 8 1 0 0, .ptr 0 0, .ptr 1 0, .ptr 2 0, .ptr 3 0, .ptr 4 0, .ptr 5 0] (Exists.intro (exT m (tab m (inL l)) most [] (List.replicate m false) (List.replicate m 0)) (Exists.intro (.tup []) (Exists.intro (exT1 m (tab m (inL l)) most _ _ _) (Exists.intro [some 0, some 5, some 1, some 2, some 4, some 6, none, some 3, some 7]
    ⟨⟨m, m, inL l, most, [], List.replicate m false, List.replicate m 0, 0, by omega, by omega, by simp, by simp, by simp, by simp, rfl, rfl, rfl, rfl, rfl⟩, ⟨by rfl, by rfl, ⟨⟨by rfl, by rfl⟩, ⟨by rfl, by rfl⟩, ⟨by rfl, by rfl⟩, ⟨by rfl, by rfl⟩, ⟨by rfl, by rfl⟩, ⟨by rfl, by rfl⟩, by rfl, by rfl, by rfl, trivial⟩, by rfl⟩, by rfl, ?_⟩))))
  obtain ⟨r, hr⟩ : ∃ r, extD m (inL l) most m (List.replicate m false) 0 ([], List.replicate m 0) = r := ⟨_, rfl⟩
  rw [hr]
  obtain ⟨s1, b1⟩ := r
  dsimp only [putL, renObs, renOb, renAL, renA, setN, getN, newN, exT1, exT, List.length_cons, List.length_nil, List.cons_append, List.nil_append, Nat.reduceAdd, Nat.reduceSub]
  refine (fin_of rfl ?_)
  show ((extsF (m : Int) l most).1, (extsF (m : Int) l most).2, ()) = (s1, 0, ())
  rw [eg]
  simp only [Int.toNat_natCast, hr]
end Go.Proofs.Ytlaefkhbpnbahaa
