/- Flow: the functions of the buffer, as contracts. -/
import Derived.Test.YtokkndniihhgjaaSxFn
import Derived.Test.YtokkndniihhgjaaRows
import Derived.KernelRfl
set_option linter.unusedSimpArgs false
set_option linter.unusedVariables false
namespace Go.Proofs.Ytokkndniihhgjaa
open Go.Sx

@[reducible] def tI : Ty := .int .i64
@[reducible] def tIs : Ty := .sl (.int .i64)
@[reducible] def tCred : Ty := .pair tI (.pair tI (.pair tI (.pair tI (.pair tIs .bool))))
@[reducible] def tEdge : Ty := .pair tI tI
@[reducible] def dI : AK := .dat false tI
@[reducible] def dIs : AK := .dat false tIs
@[reducible] def dCred : AK := .dat true tCred
abbrev Cred := Int × Int × Int × Int × List Int × Bool

def tys0 : List (TypeId × Ty) := [(3, tI), (4, .bool), (44, tEdge)]

def inR (n lo hi : Int) : Bool := decide (lo ≤ n) && decide (n ≤ hi)
def badItem (n : Int) : Bool := !inR n (-1099511627776) 1099511627776

def c33 : Ctr := fnC [dI, dI, dI] [(false, .bool)] (fun _ => True) (fun y => (inR y.1 y.2.1 y.2.2.1, ()))
def cx0 : Ctx := ⟨tys0, []⟩
theorem cx0_good : GoodCtx Try.prog cx0 := fun _ _ _ h => by simp [cx0, lookL] at h
theorem good33 : GoodC Try.prog 33 c33 := by
  refine goodF cx0_good 3 _ _ _ _ ⟨_, Try.func33, rfl, rfl⟩ fun ⟨n, lo, hi, _⟩ _ => ?_
  refine (And.intro (by rfl) (fin_of rfl (by simp [inR])))

/-- The contract of one more function. -/
theorem cx_cons {P : Program} {ty : List (TypeId × Ty)} {g : FuncId} {C : Ctr} {tab : List (FuncId × (List Sh × Ctr))} (hg : GoodC P g C) (h : GoodCtx P ⟨ty, tab⟩) : GoodCtx P ⟨ty, (g, ([], C)) :: tab⟩ := by
  intro g' s C' h'
  simp only [lookL] at h'
  split at h'
  · rename_i he
    have := Nat.eq_of_beq_eq_true he
    subst this
    cases h'
    exact hg
  · exact h g' s C' h'

def cx1 : Ctx := ⟨tys0, [(33, ([], c33))]⟩
theorem cx1_good : GoodCtx Try.prog cx1 := cx_cons good33 cx0_good
def c35 : Ctr := fnC [dI] [(false, .bool)] (fun _ => True) (fun y => (badItem y.1, ()))
theorem good35 : GoodC Try.prog 35 c35 := by
  refine goodF cx1_good 3 _ _ _ _ ⟨_, Try.func35, rfl, rfl⟩ fun ⟨n, _⟩ _ => ?_
  refine (And.intro (by rfl) (And.intro True.intro (fin_of rfl (by rfl))))

def cx2 : Ctx := ⟨tys0, [(35, ([], c35)), (33, ([], c33))]⟩
theorem cx2_good : GoodCtx Try.prog cx2 := cx_cons good35 cx1_good

/-- The first place of xs, from i on, at which p says so. -/
def firstAt {α : Type} (p : α → Bool) : List α → Int → Int
  | [], _ => -1
  | x :: l, i => if p x then i else firstAt p l (i + 1)
theorem firstAt_drop {α : Type} (p : α → Bool) (d : α) (xs : List α) (i : Nat) (h : i < xs.length) : firstAt p (xs.drop i) i = if p (xs.getD i d) then (i : Int) else firstAt p (xs.drop (i + 1)) ((i + 1 : Nat) : Int) := by
  rw [List.drop_eq_getElem_cons h]
  simp [firstAt, List.getElem?_eq_getElem h]

theorem ex4 {β : (ι : Type) → (ι → St) → (ι → Prop) → (ι → Nat) → Prop} (ι : Type) (S : ι → St) (I : ι → Prop) (μ : ι → Nat) (h : β ι S I μ) : ∃ ι S I μ, β ι S I μ := ⟨ι, S, I, μ, h⟩
theorem weak_nil {sl T : List AV} (h1 : mask T sl = renL [] T) (h2 : T.length = sl.length) (n : Nat) : weak 0 [] sl [] n ⟨T, [], 0⟩ :=
  ⟨h1, h2, trivial, by simp [Sx.distinct, Sx.keeps]⟩

def c41 : Ctr := fnC [dIs, .fn 35 [] []] [(false, tI)] (fun _ => True) (fun y => (firstAt badItem y.1 0, ()))
theorem good41 : GoodC Try.prog 41 c41 := by
  refine goodF cx2_good 3 _ _ _ _ ⟨_, Try.func41, rfl, rfl⟩ fun ⟨xs, _, _⟩ _ => ?_
  refine (And.intro (by rfl) (fun h0 => ?_))
  refine ex4 _ (fun i : Nat => ⟨[.sl (.int .i64) xs, .fn (Fn.func 35) [] [], .any, .any, .any, .any, .sl (.int .i64) xs, .int .i64 ↑(List.length xs), .int .i64 (i : Int), .any, .any, .any, .any, .any, .any, .any, .any, .any, .any], [], 0⟩) (fun i => i ≤ xs.length ∧ firstAt badItem xs 0 = firstAt badItem (xs.drop i) i) (fun i => xs.length - i) (And.intro (Exists.intro (0) (Exists.intro ([]) (And.intro ?_ (And.intro (by rfl) (And.intro (by rfl) (And.intro True.intro (by rfl))))))) ?_)
  · exact ⟨Nat.zero_le _, rfl⟩
  rintro i ⟨hi, ht⟩
  refine (And.intro (fun k0 => (And.intro (by intros; (try subst_vars); (try simp only [Bool.cond_true_left, Bool.cond_false_right, Bool.or_eq_true, Bool.or_eq_false_iff, Bool.and_eq_true, Bool.not_eq_true', Bool.not_eq_false', decide_eq_true_eq, decide_eq_false_iff_not, Int.not_lt, Int.not_le] at *); (try simp only [inK, big, lim, List.length_cons, List.length_nil, List.length_append, List.length_drop, List.length_take, List.length_replicate] at *); omega) (And.intro True.intro (And.intro (fun k1 => (fin_of rfl (by (try simp only [Bool.cond_true_left, Bool.cond_false_right, Bool.or_eq_true, Bool.or_eq_false_iff, Bool.and_eq_true, Bool.not_eq_true', Bool.not_eq_false', decide_eq_true_eq, decide_eq_false_iff_not] at *); rw [ht]; first | (rw [firstAt_drop badItem 0 xs i (by omega)]; simp_all; done) | (rw [List.drop_of_length_le (by omega)]; rfl)))) (fun k1 => (And.intro (by intros; (try subst_vars); (try simp only [Bool.cond_true_left, Bool.cond_false_right, Bool.or_eq_true, Bool.or_eq_false_iff, Bool.and_eq_true, Bool.not_eq_true', Bool.not_eq_false', decide_eq_true_eq, decide_eq_false_iff_not, Int.not_lt, Int.not_le] at *); (try simp only [inK, big, lim, List.length_cons, List.length_nil, List.length_append, List.length_drop, List.length_take, List.length_replicate] at *); omega) ?_)))))) (fun k0 => (fin_of rfl (by (try simp only [Bool.cond_true_left, Bool.cond_false_right, Bool.or_eq_true, Bool.or_eq_false_iff, Bool.and_eq_true, Bool.not_eq_true', Bool.not_eq_false', decide_eq_true_eq, decide_eq_false_iff_not] at *); rw [ht]; first | (rw [firstAt_drop badItem 0 xs i (by omega)]; simp_all; done) | (rw [List.drop_of_length_le (by omega)]; rfl)))))
  refine Exists.intro (i + 1) (Exists.intro ([]) (And.intro ?_ (And.intro ?_ (And.intro (by rfl) (And.intro (by rfl) (And.intro True.intro (by rfl)))))))
  · have hi' : i < xs.length := by simp only [Bool.cond_true_left, Bool.cond_false_right, Bool.or_eq_true, Bool.or_eq_false_iff, Bool.and_eq_true, Bool.not_eq_true', Bool.not_eq_false', decide_eq_true_eq, decide_eq_false_iff_not] at *; omega
    refine ⟨hi', ?_⟩
    rw [ht, firstAt_drop badItem 0 xs i hi']
    simp_all
  · simp only [Bool.cond_true_left, Bool.cond_false_right, Bool.or_eq_true, Bool.or_eq_false_iff, Bool.and_eq_true, Bool.not_eq_true', Bool.not_eq_false', decide_eq_true_eq, decide_eq_false_iff_not] at *; omega

def cx3 : Ctx := ⟨tys0, [(41, ([], c41)), (35, ([], c35)), (33, ([], c33))]⟩
theorem cx3_good : GoodCtx Try.prog cx3 := cx_cons good41 cx2_good
def c34 : Ctr := fnC [dIs, .fn 35 [] []] [(false, .bool)] (fun _ => True) (fun y => (y.1.any badItem, ()))
theorem firstAt_ge {α : Type} (p : α → Bool) : ∀ (xs : List α) (i : Int), 0 ≤ i → (decide (0 ≤ firstAt p xs i)) = xs.any p
  | [], i, h => rfl
  | x :: l, i, h => by
    unfold firstAt
    cases hp : p x <;> simp [hp]
    · exact firstAt_ge p l (i + 1) (by omega)
    · exact h
theorem good34 : GoodC Try.prog 34 c34 := by
  refine goodF cx3_good 3 _ _ _ _ ⟨_, Try.func34, rfl, rfl⟩ fun ⟨xs, _, _⟩ _ => ?_
  refine (And.intro (by rfl) (And.intro True.intro (fin_of rfl (by simp only; rw [firstAt_ge badItem _ 0 (by omega)]))))

def cx4 : Ctx := ⟨tys0, [(34, ([], c34)), (35, ([], c35)), (33, ([], c33))]⟩
theorem cx4_good : GoodCtx Try.prog cx4 := cx_cons good34 cx2_good

/-- Why a buffer is not valid. -/
def fCheck (c : Cred) : Int :=
  if !inR c.1 1 100 then 2
  else if c.2.2.2.1 < 0 ∨ c.2.2.1 < c.2.2.2.1 ∨ c.2.1 < c.2.2.1 ∨ 1099511627776 < c.2.1 ∨ c.1 < c.2.1 - c.2.2.2.1 ∨ (c.2.2.2.2.1.length : Int) ≠ c.2.2.1 - c.2.2.2.1 then 1
  else if c.2.2.2.2.1.any badItem then 1 else 0
def c12 : Ctr := fnC [dCred] [(false, tI)] (fun _ => True) (fun y => (fCheck y.1, ()))
set_option maxRecDepth 100000 in
theorem good12 : GoodC Try.prog 12 c12 := by
  refine goodF cx4_good 3 _ _ _ _ ⟨_, Try.func12, rfl, rfl⟩ fun ⟨⟨cap, gr, se, ta, xs, cl⟩, _⟩ _ => ?_
  refine (And.intro (by rfl) (And.intro True.intro (And.intro (fun h0 => (fin_of rfl (by first | (simp_all [fCheck]; done) | (simp_all [fCheck, or_assoc]; done) | (simp_all [fCheck]; omega) | grind [fCheck]))) (fun h0 => (And.intro (fun h1 => (by intros; (try subst_vars); (try simp only [Bool.cond_true_left, Bool.cond_false_right, Bool.or_eq_true, Bool.or_eq_false_iff, Bool.and_eq_true, Bool.not_eq_true', Bool.not_eq_false', decide_eq_true_eq, decide_eq_false_iff_not, Int.not_lt, Int.not_le] at *); (try simp only [inK, big, lim, List.length_cons, List.length_nil, List.length_append, List.length_drop, List.length_take, List.length_replicate] at *); omega)) (fun h2 => (And.intro (fun h3 => (by intros; (try subst_vars); (try simp only [Bool.cond_true_left, Bool.cond_false_right, Bool.or_eq_true, Bool.or_eq_false_iff, Bool.and_eq_true, Bool.not_eq_true', Bool.not_eq_false', decide_eq_true_eq, decide_eq_false_iff_not, Int.not_lt, Int.not_le] at *); (try simp only [inK, big, lim, List.length_cons, List.length_nil, List.length_append, List.length_drop, List.length_take, List.length_replicate] at *); omega)) (And.intro (fun h4 => (fin_of rfl (by first | (simp_all [fCheck]; done) | (simp_all [fCheck, or_assoc]; done) | (simp_all [fCheck]; omega) | grind [fCheck]))) (fun h4 => (And.intro True.intro (And.intro (fun h5 => (fin_of rfl (by first | (simp_all [fCheck]; done) | (simp_all [fCheck, or_assoc]; done) | (simp_all [fCheck]; omega) | grind [fCheck]))) (fun h5 => (fin_of rfl (by first | (simp_all [fCheck]; done) | (simp_all [fCheck, or_assoc]; done) | (simp_all [fCheck]; omega) | grind [fCheck]))))))))))))))
end Go.Proofs.Ytokkndniihhgjaa
