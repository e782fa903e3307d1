/- Partial orders: the small functions, as contracts. -/
import Derived.Test.YtlaefkhbpnbahaaSxFn
import Derived.Test.YtlaefkhbpnbahaaRows
import Derived.KernelRfl
set_option linter.unusedSimpArgs false
set_option linter.unusedVariables false
set_option maxRecDepth 100000
namespace Go.Proofs.Ytlaefkhbpnbahaa
open Go.Sx

@[reducible] def tI : Ty := .int .i64
@[reducible] def tIs : Ty := .sl (.int .i64)
@[reducible] def tE : Ty := .pair tI tI
@[reducible] def tEs : Ty := .sl tE
@[reducible] def tBs : Ty := .sl .bool
@[reducible] def tRel : Ty := .pair tI (.sl tBs)
@[reducible] def dI : AK := .dat false tI
@[reducible] def dIs : AK := .dat false tIs
@[reducible] def dIss : AK := .dat false (.sl tIs)
@[reducible] def dE : AK := .dat true tE
@[reducible] def dEs : AK := .dat false tEs
@[reducible] def dBs : AK := .dat false tBs
@[reducible] def rB : List (Bool × Ty) := [(false, .bool)]
@[reducible] def rI : List (Bool × Ty) := [(false, tI)]
@[reducible] def Ed : Type := Int × Int
def tys0 : List (TypeId × Ty) := [(3, tI), (4, .bool), (38, tE), (41, tIs)]
def cx0 : Ctx := ⟨tys0, []⟩
theorem cx0_good : GoodCtx Try.prog cx0 := fun _ _ _ h => by simp [cx0, lookL] at h
/-- The contract of one more function. -/
theorem cx_cons {P : Program} {ty : List (TypeId × Ty)} {g : FuncId} {C : Ctr} {tab : List (FuncId × (List Sh × Ctr))} (hg : GoodC P g C) (h : GoodCtx P ⟨ty, tab⟩) : GoodCtx P ⟨ty, (g, ([], C)) :: tab⟩ := by
  intro g' s C' h'
  simp only [lookL] at h'
  split at h'
  · rename_i he
    have := Nat.eq_of_beq_eq_true he
    subst this
    cases h'
    exact hg
  · exact h g' s C' h'
/-- The same table over other element types. -/
theorem cx_ty {P : Program} {ty ty' : List (TypeId × Ty)} {tab : List (FuncId × (List Sh × Ctr))} (h : GoodCtx P ⟨ty, tab⟩) : GoodCtx P ⟨ty', tab⟩ := fun g s C h' => h g s C h'
theorem ex4 {β : (ι : Type) → (ι → St) → (ι → Prop) → (ι → Nat) → Prop} (ι : Type) (S : ι → St) (I : ι → Prop) (μ : ι → Nat) (h : β ι S I μ) : ∃ ι S I μ, β ι S I μ := ⟨ι, S, I, μ, h⟩
/-- Two contracts of one function. -/
def orC (C D : Ctr) : Ctr := fun args => match C args with
  | some r => some r
  | none => D args
theorem good_or {P : Program} {g : FuncId} {C D : Ctr} (h : GoodC P g C) (h' : GoodC P g D) : GoodC P g (orC C D) := by
  refine ⟨h.fn, fun args r hr => ?_, fun args r gen hr => ?_⟩
  · unfold orC at hr
    split at hr
    · rename_i x hx; cases hr; exact h.gen args _ hx
    · exact h'.gen args _ hr
  · unfold orC at hr
    split at hr
    · rename_i x hx; cases hr; exact h.calls args _ _ hx
    · exact h'.calls args _ _ hr

theorem any_next {α : Type} {p : α → Bool} {xs : List α} {i : Nat} {d : α} (h1 : i < xs.length) (h : (xs.take i).any p = false) (hd : p (xs.getD i d) = false) : (xs.take (i + 1)).any p = false := by
  rw [List.take_succ_eq_append_getElem h1]
  simp only [List.any_append, List.any_cons, List.any_nil, Bool.or_false, List.getD_eq_getElem?_getD, List.getElem?_eq_getElem h1, Option.getD_some] at hd ⊢
  rw [h, hd]; rfl
theorem any_hit {α : Type} {xs : List α} {i : Nat} {d : α} {p : α → Bool} (h1 : i < xs.length) (h : p (xs.getD i d) = true) : xs.any p = true := by
  simp only [List.getD_eq_getElem?_getD, List.getElem?_eq_getElem h1, Option.getD_some] at h
  exact List.any_eq_true.2 ⟨_, List.getElem_mem h1, h⟩
theorem any_end {α : Type} {xs : List α} {i : Nat} {p : α → Bool} (h1 : ¬ i < xs.length) (h : (xs.take i).any p = false) : xs.any p = false := by
  rw [List.take_of_length_le (by omega)] at h; exact h
theorem take_ext_succ {α : Type} {xs ys : List α} {i : Nat} {d : α} (h1 : i < xs.length) (h2 : i < ys.length) (h : xs.take i = ys.take i) (hd : xs.getD i d = ys.getD i d) : xs.take (i + 1) = ys.take (i + 1) := by
  rw [List.take_succ_eq_append_getElem h1, List.take_succ_eq_append_getElem h2, h]
  simp [List.getD_eq_getElem?_getD, List.getElem?_eq_getElem h1, List.getElem?_eq_getElem h2] at hd
  rw [hd]

/-- The first place of xs, from i on, at which p says so. -/
def firstAt {α : Type} (p : α → Bool) : List α → Int → Int
  | [], _ => -1
  | x :: l, i => if p x then i else firstAt p l (i + 1)
theorem firstAt_drop {α : Type} (p : α → Bool) (d : α) (xs : List α) (i : Nat) (h : i < xs.length) : firstAt p (xs.drop i) i = if p (xs.getD i d) then (i : Int) else firstAt p (xs.drop (i + 1)) ((i + 1 : Nat) : Int) := by
  rw [List.drop_eq_getElem_cons h]
  simp [firstAt, List.getElem?_eq_getElem h]
theorem firstAt_ge {α : Type} (p : α → Bool) : ∀ (xs : List α) (i : Int), 0 ≤ i → (decide (0 ≤ firstAt p xs i)) = xs.any p
  | [], i, h => rfl
  | x :: l, i, h => by
    unfold firstAt
    cases hp : p x <;> simp [hp]
    · exact firstAt_ge p l (i + 1) (by omega)
    · exact h

def outB (n : Int) (p : Ed) : Bool := decide (p.1 < 0) || (decide (n ≤ p.1) || (decide (p.2 < 0) || decide (n ≤ p.2)))
def cmpI (a b : Int) : Int := if a < b then -1 else if b < a then 1 else 0
def cmpE (a b : Ed) : Int := if cmpI a.1 b.1 ≠ 0 then cmpI a.1 b.1 else cmpI a.2 b.2
def lessE (a b : Ed) : Bool := decide (a.1 < b.1) || (decide (a.1 = b.1) && decide (a.2 < b.2))
def sizesF (n : Int) (l : List Ed) : Int := if n < 0 ∨ 200 < n then 2 else if 2000 < (l.length : Int) then 4 else 0
def greatB (n : Int) (l : List Ed) : Bool := (decide (8 < n) && decide (n ≤ 200)) || decide (60 < (l.length : Int))

def c68 : Ctr := fnC [dI] rB (fun _ => True) (fun _ => (false, ()))
theorem good68 : GoodC Try.prog 68 c68 := by
  refine goodF cx0_good 3 _ _ _ _ ⟨_, Try.func68, rfl, rfl⟩ fun (⟨a, _⟩ : Int × Unit) _ => ?_
  refine (And.intro (by first | kernel_rfl | rfl) (fin_of rfl (by simp)))
def cx1 : Ctx := ⟨tys0, [(68, ([], c68))]⟩
theorem cx1_good : GoodCtx Try.prog cx1 := cx_cons good68 cx0_good
def c61 : Ctr := fnC [dI, dI] rI (fun _ => True) (fun y => (cmpI y.1 y.2.1, ()))
theorem good61 : GoodC Try.prog 61 c61 := by
  refine goodF cx1_good 3 _ _ _ _ ⟨_, Try.func61, rfl, rfl⟩ fun (⟨a, b, _⟩ : Int × Int × Unit) _ => ?_
  refine (And.intro (by first | kernel_rfl | rfl) (And.intro True.intro (And.intro True.intro (And.intro (fun h0 => False.elim (Bool.false_ne_true (Eq.trans (by kernel_rfl) h0))) (fun h0 => (And.intro (fun h1 => False.elim (Bool.false_ne_true (Eq.trans (by kernel_rfl) h1))) (fun h1 => (And.intro (fun h2 => (fin_of rfl (by (simp only [cmpI]; grind)))) (fun h2 => (And.intro (fun h3 => (fin_of rfl (by (simp only [cmpI]; grind)))) (fun h3 => (fin_of rfl (by (simp only [cmpI]; grind))))))))))))))
/-- The first number that is not zero. -/
def orF : List Int → Int
  | [] => 0
  | x :: l => if x ≠ 0 then x else orF l
theorem orF_drop (xs : List Int) (i : Nat) (h : i < xs.length) : orF (xs.drop i) = if xs.getD i 0 ≠ 0 then xs.getD i 0 else orF (xs.drop (i + 1)) := by
  rw [List.drop_eq_getElem_cons h]
  simp [orF, List.getElem?_eq_getElem h]
def c67 : Ctr := fnC [dIs] rI (fun _ => True) (fun y => (orF y.1, ()))
theorem good67 : GoodC Try.prog 67 c67 := by
  refine goodF cx0_good 3 _ _ _ _ ⟨_, Try.func67, rfl, rfl⟩ fun (⟨xs, _⟩ : List Int × Unit) _ => ?_
  refine (And.intro (by first | kernel_rfl | rfl) (fun h0 => ?_))
  refine ex4 _ (fun i : Nat => ⟨[.sl (.int .i64) xs, .any, .any, .int .i64 0, .any, .any, .sl (.int .i64) xs, .int .i64 (↑xs.length : Int), .int .i64 (i : Int), .any, .any, .any, .any, .any, .any, .any, .any, .any], [], 0⟩) (fun i => i ≤ xs.length ∧ orF xs = orF (xs.drop i)) (fun i => xs.length - i) (And.intro (Exists.intro (0) (Exists.intro ([]) (And.intro ?_ (And.intro (by rfl) (And.intro (by rfl) (And.intro True.intro (by rfl))))))) ?_)
  · exact ⟨Nat.zero_le _, rfl⟩
  rintro i ⟨hi, ht⟩
  refine (And.intro (fun k0 => (And.intro (by intros; (try subst_vars); (try simp only [Bool.cond_true_left, Bool.cond_false_right, Bool.or_eq_true, Bool.or_eq_false_iff, Bool.and_eq_true, Bool.not_eq_true', Bool.not_eq_false', decide_eq_true_eq, decide_eq_false_iff_not, Int.not_lt, Int.not_le] at *); (try simp only [inK, big, lim, List.length_cons, List.length_nil, List.length_append, List.length_drop, List.length_take, List.length_replicate] at *); omega) (And.intro (fun k1 => (fin_of rfl ?_)) (fun k1 => (And.intro (by intros; (try subst_vars); (try simp only [Bool.cond_true_left, Bool.cond_false_right, Bool.or_eq_true, Bool.or_eq_false_iff, Bool.and_eq_true, Bool.not_eq_true', Bool.not_eq_false', decide_eq_true_eq, decide_eq_false_iff_not, Int.not_lt, Int.not_le] at *); (try simp only [inK, big, lim, List.length_cons, List.length_nil, List.length_append, List.length_drop, List.length_take, List.length_replicate] at *); omega) ?_))))) (fun k0 => (fin_of rfl ?_)))
  · have hi' : i < xs.length := by simpa using k0
    have e : orF xs = xs.getD i 0 := by rw [ht, orF_drop xs i hi', if_pos (by simpa using k1)]
    show (orF xs, ()) = (_, ())
    rw [e]; rfl
  · have hi' : i < xs.length := by simpa using k0
    refine Exists.intro (i + 1) (Exists.intro ([]) (And.intro ?_ (And.intro ?_ (And.intro (by rfl) (And.intro (by rfl) (And.intro True.intro (by rfl)))))))
    · exact ⟨hi', by rw [ht, orF_drop xs i hi', if_neg (by simpa using k1)]⟩
    · show xs.length - (i + 1) < xs.length - i
      omega
  · have e : orF xs = 0 := by rw [ht, List.drop_of_length_le (by simpa using k0)]; rfl
    show (orF xs, ()) = (_, ())
    rw [e]
def cx2 : Ctx := ⟨tys0, [(61, ([], c61)), (67, ([], c67))]⟩
theorem cx2_good : GoodCtx Try.prog cx2 := cx_cons good61 (cx_cons good67 cx0_good)
def c51 : Ctr := fnC [dE, dE] rI (fun _ => True) (fun y => (cmpE y.1 y.2.1, ()))
theorem good51 : GoodC Try.prog 51 c51 := by
  refine goodF cx2_good 3 _ _ _ _ ⟨_, Try.func51, rfl, rfl⟩ fun (⟨⟨a, b⟩, ⟨c, d⟩, _⟩ : Ed × Ed × Unit) _ => ?_
  refine (And.intro (by first | kernel_rfl | rfl) (And.intro (by first | kernel_rfl | rfl) (And.intro True.intro (And.intro True.intro (And.intro True.intro (fin_of rfl (by (simp only [cmpE, orF]; grind))))))))
def c47 : Ctr := fnC [dI, dE] rB (fun _ => True) (fun y => (outB y.1 y.2.1, ()))
theorem good47 : GoodC Try.prog 47 c47 := by
  refine goodF cx0_good 3 _ _ _ _ ⟨_, Try.func47, rfl, rfl⟩ fun (⟨n, ⟨a, b⟩, _⟩ : Int × Ed × Unit) _ => ?_
  refine (And.intro (by first | kernel_rfl | rfl) (fin_of rfl (by (simp only [outB]; grind))))
def c44 : Ctr := fnC [dI, dEs] rI (fun _ => True) (fun y => (sizesF y.1 y.2.1, ()))
theorem good44 : GoodC Try.prog 44 c44 := by
  refine goodF cx0_good 3 _ _ _ _ ⟨_, Try.func44, rfl, rfl⟩ fun (⟨n, l, _⟩ : Int × List Ed × Unit) _ => ?_
  refine (And.intro (by first | kernel_rfl | rfl) (And.intro (fun h0 => (fin_of rfl (by (simp only [sizesF]; grind)))) (fun h0 => (fun h1 => (And.intro (fun h2 => (fin_of rfl (by (simp only [sizesF]; grind)))) (fun h2 => (fin_of rfl (by (simp only [sizesF]; grind)))))))))
theorem ins_eq (n a b : Int) : (!outB n (a, b)) = (bif bif bif decide (0 ≤ a) then decide (a < n) else false then decide (0 ≤ b) else false then decide (b < n) else false) := by
  unfold outB
  by_cases h1 : a < 0 <;> by_cases h2 : n ≤ a <;> by_cases h3 : b < 0 <;> by_cases h4 : n ≤ b <;> simp [h1, h2, h3, h4] <;> omega
def c53 : Ctr := fnC [dI, dE] rB (fun _ => True) (fun y => (!outB y.1 y.2.1, ()))
theorem good53 : GoodC Try.prog 53 c53 := by
  refine goodF cx0_good 3 _ _ _ _ ⟨_, Try.func53, rfl, rfl⟩ fun (⟨n, ⟨a, b⟩, _⟩ : Int × Ed × Unit) _ => ?_
  refine (And.intro (by first | kernel_rfl | rfl) (fin_of rfl (by exact congrArg (fun b => (b, ())) (ins_eq n a b))))
def c54 : Ctr := fnC [dE, dE] rB (fun _ => True) (fun y => (lessE y.1 y.2.1, ()))
theorem good54 : GoodC Try.prog 54 c54 := by
  refine goodF cx0_good 3 _ _ _ _ ⟨_, Try.func54, rfl, rfl⟩ fun (⟨⟨a, b⟩, ⟨c, d⟩, _⟩ : Ed × Ed × Unit) _ => ?_
  refine (And.intro (by first | kernel_rfl | rfl) (fin_of rfl (by (simp only [lessE]; grind))))
def c12 : Ctr := fnC [dI, dEs] rB (fun _ => True) (fun y => (greatB y.1 y.2.1, ()))
theorem good12 : GoodC Try.prog 12 c12 := by
  refine goodF cx0_good 3 _ _ _ _ ⟨_, Try.func12, rfl, rfl⟩ fun (⟨n, l, _⟩ : Int × List Ed × Unit) _ => ?_
  refine (And.intro (by first | kernel_rfl | rfl) (fun h0 => (fin_of rfl (by (simp only [greatB]; grind)))))
def c20 : Ctr := fnC [dEs, dEs] rB (fun _ => True) (fun y => (decide (y.1 = y.2.1), ()))
theorem good20 : GoodC Try.prog 20 c20 := by
  refine goodF cx0_good 4 _ _ _ _ ⟨_, Try.func20, rfl, rfl⟩ fun (⟨xs, ys, _⟩ : List Ed × List Ed × Unit) _ => ?_
  refine (And.intro (by first | kernel_rfl | rfl) (fun h0 => (fun h1 => (And.intro (fun h2 => (fin_of rfl (by (try simp only [Bool.cond_true_left, Bool.cond_false_right, Bool.or_eq_true, Bool.or_eq_false_iff, Bool.and_eq_true, Bool.not_eq_true', Bool.not_eq_false', decide_eq_true_eq, decide_eq_false_iff_not] at *); first | grind | (simp; rintro rfl; simp_all; done)))) (fun h2 => ?_)))))
  refine ex4 _ (fun i : Nat => ⟨[.sl tE xs, .sl tE ys, .any, .any, .any, .int .i64 (i : Int), .any, .any, .any, .any, .any, .any, .any, .any, .any, .any, .any, .any, .any, .any, .any, .any, .any, .any, .any, .any], [], 0⟩) (fun i => i ≤ xs.length ∧ xs.length = ys.length ∧ xs.take i = ys.take i) (fun i => xs.length - i) (And.intro (Exists.intro (0) (Exists.intro ([]) (And.intro ?_ (And.intro (by rfl) (And.intro (by rfl) (And.intro True.intro (by rfl))))))) ?_)
  · simp_all
    omega
  rintro i ⟨hi, hl, ht⟩
  refine (fun k0 => (And.intro (fun k1 => (And.intro (by first | kernel_rfl | rfl) (And.intro (by intros; (try subst_vars); (try simp only [Bool.cond_true_left, Bool.cond_false_right, Bool.or_eq_true, Bool.or_eq_false_iff, Bool.and_eq_true, Bool.not_eq_true', Bool.not_eq_false', decide_eq_true_eq, decide_eq_false_iff_not, Int.not_lt, Int.not_le] at *); (try simp only [inK, big, lim, List.length_cons, List.length_nil, List.length_append, List.length_drop, List.length_take, List.length_replicate] at *); omega) (And.intro (by intros; (try subst_vars); (try simp only [Bool.cond_true_left, Bool.cond_false_right, Bool.or_eq_true, Bool.or_eq_false_iff, Bool.and_eq_true, Bool.not_eq_true', Bool.not_eq_false', decide_eq_true_eq, decide_eq_false_iff_not, Int.not_lt, Int.not_le] at *); (try simp only [inK, big, lim, List.length_cons, List.length_nil, List.length_append, List.length_drop, List.length_take, List.length_replicate] at *); omega) (And.intro (by first | kernel_rfl | rfl) (And.intro (fun k2 => (fin_of rfl ?_)) (fun k2 => (And.intro (by intros; (try subst_vars); (try simp only [Bool.cond_true_left, Bool.cond_false_right, Bool.or_eq_true, Bool.or_eq_false_iff, Bool.and_eq_true, Bool.not_eq_true', Bool.not_eq_false', decide_eq_true_eq, decide_eq_false_iff_not, Int.not_lt, Int.not_le] at *); (try simp only [inK, big, lim, List.length_cons, List.length_nil, List.length_append, List.length_drop, List.length_take, List.length_replicate] at *); omega) ?_)))))))) (fun k1 => (fin_of rfl ?_))))
  · have e : xs ≠ ys := by
      rintro rfl
      simp at k2
    show (decide (xs = ys), ()) = (false, ())
    rw [decide_eq_false e]
  · have hi' : i < xs.length := by simpa using k1
    refine Exists.intro (i + 1) (Exists.intro ([]) (And.intro ?_ (And.intro ?_ (And.intro (by rfl) (And.intro (by rfl) (And.intro True.intro (by rfl)))))))
    · refine ⟨hi', hl, take_ext_succ (d := dflt tE) hi' (by omega) ht ?_⟩
      simp only [Bool.cond_eq_ite, Int.toNat_natCast] at k2
      refine Prod.ext ?_ ?_ <;> simp_all
    · show xs.length - (i + 1) < xs.length - i
      omega
  · have hi' : ¬ i < xs.length := by simpa using k1
    rw [List.take_of_length_le (by omega), List.take_of_length_le (by omega)] at ht
    show (decide (xs = ys), ()) = (true, ())
    rw [decide_eq_true ht]
def c35 : Ctr := fnC [dIs, dIs] rB (fun _ => True) (fun y => (decide (y.1 = y.2.1), ()))
theorem good35 : GoodC Try.prog 35 c35 := by
  refine goodF cx0_good 4 _ _ _ _ ⟨_, Try.func35, rfl, rfl⟩ fun (⟨xs, ys, _⟩ : List Int × List Int × Unit) _ => ?_
  refine (And.intro (by first | kernel_rfl | rfl) (fun h0 => (fun h1 => (And.intro (fun h2 => (fin_of rfl (by (try simp only [Bool.cond_true_left, Bool.cond_false_right, Bool.or_eq_true, Bool.or_eq_false_iff, Bool.and_eq_true, Bool.not_eq_true', Bool.not_eq_false', decide_eq_true_eq, decide_eq_false_iff_not] at *); first | grind | (simp; rintro rfl; simp_all; done)))) (fun h2 => ?_)))))
  refine ex4 _ (fun i : Nat => ⟨[.sl (.int .i64) xs, .sl (.int .i64) ys, .any, .any, .any, .int .i64 (i : Int), .any, .any, .any, .any, .any, .any, .any, .any, .any, .any, .any, .any, .any, .any, .any, .any, .any, .any, .any, .any], [], 0⟩) (fun i => i ≤ xs.length ∧ xs.length = ys.length ∧ xs.take i = ys.take i) (fun i => xs.length - i) (And.intro (Exists.intro (0) (Exists.intro ([]) (And.intro ?_ (And.intro (by rfl) (And.intro (by rfl) (And.intro True.intro (by rfl))))))) ?_)
  · simp_all
    omega
  rintro i ⟨hi, hl, ht⟩
  refine (fun k0 => (And.intro (fun k1 => (And.intro (by first | kernel_rfl | rfl) (And.intro (by intros; (try subst_vars); (try simp only [Bool.cond_true_left, Bool.cond_false_right, Bool.or_eq_true, Bool.or_eq_false_iff, Bool.and_eq_true, Bool.not_eq_true', Bool.not_eq_false', decide_eq_true_eq, decide_eq_false_iff_not, Int.not_lt, Int.not_le] at *); (try simp only [inK, big, lim, List.length_cons, List.length_nil, List.length_append, List.length_drop, List.length_take, List.length_replicate] at *); omega) (And.intro (by intros; (try subst_vars); (try simp only [Bool.cond_true_left, Bool.cond_false_right, Bool.or_eq_true, Bool.or_eq_false_iff, Bool.and_eq_true, Bool.not_eq_true', Bool.not_eq_false', decide_eq_true_eq, decide_eq_false_iff_not, Int.not_lt, Int.not_le] at *); (try simp only [inK, big, lim, List.length_cons, List.length_nil, List.length_append, List.length_drop, List.length_take, List.length_replicate] at *); omega) (And.intro (fun k2 => (fin_of rfl (by (try simp only [Bool.cond_true_left, Bool.cond_false_right, Bool.or_eq_true, Bool.or_eq_false_iff, Bool.and_eq_true, Bool.not_eq_true', Bool.not_eq_false', decide_eq_true_eq, decide_eq_false_iff_not] at *); first | (rw [List.take_of_length_le (by omega), List.take_of_length_le (by omega)] at ht; simp [ht]; done) | (simp; rintro rfl; simp_all; done)))) (fun k2 => (And.intro (by intros; (try subst_vars); (try simp only [Bool.cond_true_left, Bool.cond_false_right, Bool.or_eq_true, Bool.or_eq_false_iff, Bool.and_eq_true, Bool.not_eq_true', Bool.not_eq_false', decide_eq_true_eq, decide_eq_false_iff_not, Int.not_lt, Int.not_le] at *); (try simp only [inK, big, lim, List.length_cons, List.length_nil, List.length_append, List.length_drop, List.length_take, List.length_replicate] at *); omega) ?_))))))) (fun k1 => (fin_of rfl (by (try simp only [Bool.cond_true_left, Bool.cond_false_right, Bool.or_eq_true, Bool.or_eq_false_iff, Bool.and_eq_true, Bool.not_eq_true', Bool.not_eq_false', decide_eq_true_eq, decide_eq_false_iff_not] at *); first | (rw [List.take_of_length_le (by omega), List.take_of_length_le (by omega)] at ht; simp [ht]; done) | (simp; rintro rfl; simp_all; done))))))
  refine Exists.intro (i + 1) (Exists.intro ([]) (And.intro ?_ (And.intro ?_ (And.intro (by rfl) (And.intro (by rfl) (And.intro True.intro (by rfl)))))))
  · have hi' : i < xs.length := by simp only [Bool.cond_true_left, Bool.cond_false_right, Bool.or_eq_true, Bool.or_eq_false_iff, Bool.and_eq_true, Bool.not_eq_true', Bool.not_eq_false', decide_eq_true_eq, decide_eq_false_iff_not] at *; omega
    exact ⟨hi', hl, take_ext_succ (d := 0) hi' (by omega) ht (by simpa using k2)⟩
  · simp only [Bool.cond_true_left, Bool.cond_false_right, Bool.or_eq_true, Bool.or_eq_false_iff, Bool.and_eq_true, Bool.not_eq_true', Bool.not_eq_false', decide_eq_true_eq, decide_eq_false_iff_not] at *; omega
def c23 : Ctr := fnC [dEs, dI, dI] rB (fun _ => True) (fun y => (y.1.any (fun e => decide (e.1 = y.2.1) && decide (e.2 = y.2.2.1)), ()))
theorem good23 : GoodC Try.prog 23 c23 := by
  refine goodF cx0_good 4 _ _ _ _ ⟨_, Try.func23, rfl, rfl⟩ fun (⟨xs, a, b, _⟩ : List Ed × Int × Int × Unit) _ => ?_
  refine (And.intro (by first | kernel_rfl | rfl) ?_)
  refine ex4 _ (fun i : Nat => ⟨[.sl tE xs, .int .i64 a, .int .i64 b, .any, .any, .any, .any, .int .i64 (i : Int), .any, .any, .any, .any, .any, .any, .any, .any, .any, .any, .any, .any, .any, .any, .any, .any, .any, .any, .any, .any, .any, .any], [], 0⟩) (fun i => i ≤ xs.length ∧ (xs.take i).any (fun e => decide (e.1 = a) && decide (e.2 = b)) = false) (fun i => xs.length - i) (And.intro (Exists.intro (0) (Exists.intro ([]) (And.intro ?_ (And.intro (by rfl) (And.intro (by rfl) (And.intro True.intro (by rfl))))))) ?_)
  · simp
  rintro i ⟨hi, ht⟩
  refine (fun k0 => (And.intro (fun k1 => (And.intro (by intros; (try subst_vars); (try simp only [Bool.cond_true_left, Bool.cond_false_right, Bool.or_eq_true, Bool.or_eq_false_iff, Bool.and_eq_true, Bool.not_eq_true', Bool.not_eq_false', decide_eq_true_eq, decide_eq_false_iff_not, Int.not_lt, Int.not_le] at *); (try simp only [inK, big, lim, List.length_cons, List.length_nil, List.length_append, List.length_drop, List.length_take, List.length_replicate] at *); omega) (And.intro (fun k2 => (by intros; (try subst_vars); (try simp only [Bool.cond_true_left, Bool.cond_false_right, Bool.or_eq_true, Bool.or_eq_false_iff, Bool.and_eq_true, Bool.not_eq_true', Bool.not_eq_false', decide_eq_true_eq, decide_eq_false_iff_not, Int.not_lt, Int.not_le] at *); (try simp only [inK, big, lim, List.length_cons, List.length_nil, List.length_append, List.length_drop, List.length_take, List.length_replicate] at *); omega)) (And.intro (fun k3 => (fin_of rfl ?_)) (fun k3 => (And.intro (by intros; (try subst_vars); (try simp only [Bool.cond_true_left, Bool.cond_false_right, Bool.or_eq_true, Bool.or_eq_false_iff, Bool.and_eq_true, Bool.not_eq_true', Bool.not_eq_false', decide_eq_true_eq, decide_eq_false_iff_not, Int.not_lt, Int.not_le] at *); (try simp only [inK, big, lim, List.length_cons, List.length_nil, List.length_append, List.length_drop, List.length_take, List.length_replicate] at *); omega) ?_)))))) (fun k1 => (fin_of rfl ?_))))
  · have hi' : i < xs.length := by simpa using k1
    have e := any_hit (p := fun e : Ed => decide (e.1 = a) && decide (e.2 = b)) (i := i) (d := dflt tE) hi' (by simpa using k3)
    show (xs.any _, ()) = (true, ())
    rw [e]
  · have hi' : i < xs.length := by simpa using k1
    refine Exists.intro (i + 1) (Exists.intro ([]) (And.intro ?_ (And.intro ?_ (And.intro (by rfl) (And.intro (by rfl) (And.intro True.intro (by rfl)))))))
    · exact ⟨hi', any_next (d := dflt tE) hi' ht (by simpa using k3)⟩
    · show xs.length - (i + 1) < xs.length - i
      omega
  · have e := any_end (by simpa using k1) ht
    show (xs.any _, ()) = (false, ())
    rw [e]
end Go.Proofs.Ytlaefkhbpnbahaa
