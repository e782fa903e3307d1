/- Partial orders: the small functions, as contracts. -/
import Derived.Test.YtlaefkhbpnbahaaSxFn
import Derived.Test.YtlaefkhbpnbahaaRows
import Derived.KernelRfl
import Derived.Test.YtlaefkhbpnbahaaSxFrame
set_option linter.unusedSimpArgs false
set_option linter.unusedVariables false
set_option maxRecDepth 100000
namespace Go.Proofs.Ytlaefkhbpnbahaa
open Go.Sx

@[reducible] def tI : Ty := .int .i64
@[reducible] def tIs : Ty := .sl (.int .i64)
@[reducible] def tE : Ty := .pair tI tI
@[reducible] def tEs : Ty := .sl tE
@[reducible] def tBs : Ty := .sl .bool
@[reducible] def tRel : Ty := .pair tI (.sl tBs)
@[reducible] def dI : AK := .dat false tI
@[reducible] def dIs : AK := .dat false tIs
@[reducible] def dIss : AK := .dat false (.sl tIs)
@[reducible] def dE : AK := .dat true tE
@[reducible] def dEs : AK := .dat false tEs
@[reducible] def dBs : AK := .dat false tBs
@[reducible] def rB : List (Bool × Ty) := [(false, .bool)]
@[reducible] def rI : List (Bool × Ty) := [(false, tI)]
@[reducible] def Ed : Type := Int × Int
def tys0 : List (TypeId × Ty) := [(3, tI), (4, .bool), (38, tE), (41, tIs)]
def cx0 : Ctx := ⟨tys0, []⟩
theorem cx0_good : GoodCtx Try.prog cx0 := fun _ _ _ h => by simp [cx0, lookL] at h
/-- The contract of one more function. -/
theorem cx_cons {P : Program} {ty : List (TypeId × Ty)} {g : FuncId} {C : Ctr} {tab : List (FuncId × (List Sh × Ctr))} (hg : GoodC P g C) (h : GoodCtx P ⟨ty, tab⟩) : GoodCtx P ⟨ty, (g, ([], C)) :: tab⟩ := by
  intro g' s C' h'
  simp only [lookL] at h'
  split at h'
  · rename_i he
    have := Nat.eq_of_beq_eq_true he
    subst this
    cases h'
    exact hg
  · exact h g' s C' h'
/-- The same table over other element types. -/
theorem cx_ty {P : Program} {ty ty' : List (TypeId × Ty)} {tab : List (FuncId × (List Sh × Ctr))} (h : GoodCtx P ⟨ty, tab⟩) : GoodCtx P ⟨ty', tab⟩ := fun g s C h' => h g s C h'
theorem ex4 {β : (ι : Type) → (ι → St) → (ι → Prop) → (ι → Nat) → Prop} (ι : Type) (S : ι → St) (I : ι → Prop) (μ : ι → Nat) (h : β ι S I μ) : ∃ ι S I μ, β ι S I μ := ⟨ι, S, I, μ, h⟩
/-- Two contracts of one function. -/
def orC (C D : Ctr) : Ctr := fun args => match C args with
  | some r => some r
  | none => D args
theorem good_or {P : Program} {g : FuncId} {C D : Ctr} (h : GoodC P g C) (h' : GoodC P g D) : GoodC P g (orC C D) := by
  refine ⟨h.fn, fun args r hr => ?_, fun args r gen hr => ?_⟩
  · unfold orC at hr
    split at hr
    · rename_i x hx; cases hr; exact h.gen args _ hx
    · exact h'.gen args _ hr
  · unfold orC at hr
    split at hr
    · rename_i x hx; cases hr; exact h.calls args _ _ hx
    · exact h'.calls args _ _ hr

theorem any_next {α : Type} {p : α → Bool} {xs : List α} {i : Nat} {d : α} (h1 : i < xs.length) (h : (xs.take i).any p = false) (hd : p (xs.getD i d) = false) : (xs.take (i + 1)).any p = false := by
  rw [List.take_succ_eq_append_getElem h1]
  simp only [List.any_append, List.any_cons, List.any_nil, Bool.or_false, List.getD_eq_getElem?_getD, List.getElem?_eq_getElem h1, Option.getD_some] at hd ⊢
  rw [h, hd]; rfl
theorem any_hit {α : Type} {xs : List α} {i : Nat} {d : α} {p : α → Bool} (h1 : i < xs.length) (h : p (xs.getD i d) = true) : xs.any p = true := by
  simp only [List.getD_eq_getElem?_getD, List.getElem?_eq_getElem h1, Option.getD_some] at h
  exact List.any_eq_true.2 ⟨_, List.getElem_mem h1, h⟩
theorem any_end {α : Type} {xs : List α} {i : Nat} {p : α → Bool} (h1 : ¬ i < xs.length) (h : (xs.take i).any p = false) : xs.any p = false := by
  rw [List.take_of_length_le (by omega)] at h; exact h
theorem take_ext_succ {α : Type} {xs ys : List α} {i : Nat} {d : α} (h1 : i < xs.length) (h2 : i < ys.length) (h : xs.take i = ys.take i) (hd : xs.getD i d = ys.getD i d) : xs.take (i + 1) = ys.take (i + 1) := by
  rw [List.take_succ_eq_append_getElem h1, List.take_succ_eq_append_getElem h2, h]
  simp [List.getD_eq_getElem?_getD, List.getElem?_eq_getElem h1, List.getElem?_eq_getElem h2] at hd
  rw [hd]

/-- The first place of xs, from i on, at which p says so. -/
def firstAt {α : Type} (p : α → Bool) : List α → Int → Int
  | [], _ => -1
  | x :: l, i => if p x then i else firstAt p l (i + 1)
theorem firstAt_drop {α : Type} (p : α → Bool) (d : α) (xs : List α) (i : Nat) (h : i < xs.length) : firstAt p (xs.drop i) i = if p (xs.getD i d) then (i : Int) else firstAt p (xs.drop (i + 1)) ((i + 1 : Nat) : Int) := by
  rw [List.drop_eq_getElem_cons h]
  simp [firstAt, List.getElem?_eq_getElem h]
theorem firstAt_ge {α : Type} (p : α → Bool) : ∀ (xs : List α) (i : Int), 0 ≤ i → (decide (0 ≤ firstAt p xs i)) = xs.any p
  | [], i, h => rfl
  | x :: l, i, h => by
    unfold firstAt
    cases hp : p x <;> simp [hp]
    · exact firstAt_ge p l (i + 1) (by omega)
    · exact h

def outB (n : Int) (p : Ed) : Bool := decide (p.1 < 0) || (decide (n ≤ p.1) || (decide (p.2 < 0) || decide (n ≤ p.2)))
def cmpI (a b : Int) : Int := if a < b then -1 else if b < a then 1 else 0
def cmpE (a b : Ed) : Int := if cmpI a.1 b.1 ≠ 0 then cmpI a.1 b.1 else cmpI a.2 b.2
def lessE (a b : Ed) : Bool := decide (a.1 < b.1) || (decide (a.1 = b.1) && decide (a.2 < b.2))
def sizesF (n : Int) (l : List Ed) : Int := if n < 0 ∨ 200 < n then 2 else if 2000 < (l.length : Int) then 4 else 0
def greatB (n : Int) (l : List Ed) : Bool := (decide (8 < n) && decide (n ≤ 200)) || decide (60 < (l.length : Int))

def c68 : Ctr := fnC [dI] rB (fun _ => True) (fun _ => (false, ()))
theorem good68 : GoodC Try.prog 68 c68 := by
  refine goodF cx0_good 3 _ _ _ _ ⟨_, Try.func68, rfl, rfl⟩ fun (⟨a, _⟩ : Int × Unit) _ => ?_
  refine (And.intro (by first | kernel_rfl | rfl) (fin_of rfl (by simp)))
def cx1 : Ctx := ⟨tys0, [(68, ([], c68))]⟩
theorem cx1_good : GoodCtx Try.prog cx1 := cx_cons good68 cx0_good
def c61 : Ctr := fnC [dI, dI] rI (fun _ => True) (fun y => (cmpI y.1 y.2.1, ()))
theorem good61 : GoodC Try.prog 61 c61 := by
  refine goodF cx1_good 3 _ _ _ _ ⟨_, Try.func61, rfl, rfl⟩ fun (⟨a, b, _⟩ : Int × Int × Unit) _ => ?_
  refine (And.intro (by first | kernel_rfl | rfl) (And.intro True.intro (And.intro True.intro (And.intro (fun h0 => False.elim (Bool.false_ne_true (Eq.trans (by kernel_rfl) h0))) (fun h0 => (And.intro (fun h1 => False.elim (Bool.false_ne_true (Eq.trans (by kernel_rfl) h1))) (fun h1 => (And.intro (fun h2 => (fin_of rfl (by (simp only [cmpI]; grind)))) (fun h2 => (And.intro (fun h3 => (fin_of rfl (by (simp only [cmpI]; grind)))) (fun h3 => (fin_of rfl (by (simp only [cmpI]; grind))))))))))))))
/-- The first number that is not zero. -/
def orF : List Int → Int
  | [] => 0
  | x :: l => if x ≠ 0 then x else orF l
theorem orF_drop (xs : List Int) (i : Nat) (h : i < xs.length) : orF (xs.drop i) = if xs.getD i 0 ≠ 0 then xs.getD i 0 else orF (xs.drop (i + 1)) := by
  rw [List.drop_eq_getElem_cons h]
  simp [orF, List.getElem?_eq_getElem h]
def c67 : Ctr := fnC [dIs] rI (fun _ => True) (fun y => (orF y.1, ()))
theorem good67 : GoodC Try.prog 67 c67 := by
  refine goodF cx0_good 3 _ _ _ _ ⟨_, Try.func67, rfl, rfl⟩ fun (⟨xs, _⟩ : List Int × Unit) _ => ?_
  refine (And.intro (by first | kernel_rfl | rfl) (fun h0 => ?_))
  refine ex4 _ (fun i : Nat => ⟨[.sl (.int .i64) xs, .any, .any, .int .i64 0, .any, .any, .sl (.int .i64) xs, .int .i64 (↑xs.length : Int), .int .i64 (i : Int), .any, .any, .any, .any, .any, .any, .any, .any, .any], [], 0⟩) (fun i => i ≤ xs.length ∧ orF xs = orF (xs.drop i)) (fun i => xs.length - i) (And.intro (Exists.intro (0) (Exists.intro ([]) (And.intro ?_ (And.intro (by rfl) (And.intro (by rfl) (And.intro True.intro (by rfl))))))) ?_)
  · exact ⟨Nat.zero_le _, rfl⟩
  rintro i ⟨hi, ht⟩
  refine (And.intro (fun k0 => (And.intro (by intros; (try subst_vars); (try simp only [Bool.cond_true_left, Bool.cond_false_right, Bool.or_eq_true, Bool.or_eq_false_iff, Bool.and_eq_true, Bool.not_eq_true', Bool.not_eq_false', decide_eq_true_eq, decide_eq_false_iff_not, Int.not_lt, Int.not_le] at *); (try simp only [inK, big, lim, List.length_cons, List.length_nil, List.length_append, List.length_drop, List.length_take, List.length_replicate] at *); omega) (And.intro (fun k1 => (fin_of rfl ?_)) (fun k1 => (And.intro (by intros; (try subst_vars); (try simp only [Bool.cond_true_left, Bool.cond_false_right, Bool.or_eq_true, Bool.or_eq_false_iff, Bool.and_eq_true, Bool.not_eq_true', Bool.not_eq_false', decide_eq_true_eq, decide_eq_false_iff_not, Int.not_lt, Int.not_le] at *); (try simp only [inK, big, lim, List.length_cons, List.length_nil, List.length_append, List.length_drop, List.length_take, List.length_replicate] at *); omega) ?_))))) (fun k0 => (fin_of rfl ?_)))
  · have hi' : i < xs.length := by simpa using k0
    have e : orF xs = xs.getD i 0 := by rw [ht, orF_drop xs i hi', if_pos (by simpa using k1)]
    show (orF xs, ()) = (_, ())
    rw [e]; rfl
  · have hi' : i < xs.length := by simpa using k0
    refine Exists.intro (i + 1) (Exists.intro ([]) (And.intro ?_ (And.intro ?_ (And.intro (by rfl) (And.intro (by rfl) (And.intro True.intro (by rfl)))))))
    · exact ⟨hi', by rw [ht, orF_drop xs i hi', if_neg (by simpa using k1)]⟩
    · show xs.length - (i + 1) < xs.length - i
      omega
  · have e : orF xs = 0 := by rw [ht, List.drop_of_length_le (by simpa using k0)]; rfl
    show (orF xs, ()) = (_, ())
    rw [e]
def cx2 : Ctx := ⟨tys0, [(61, ([], c61)), (67, ([], c67))]⟩
theorem cx2_good : GoodCtx Try.prog cx2 := cx_cons good61 (cx_cons good67 cx0_good)
def c51 : Ctr := fnC [dE, dE] rI (fun _ => True) (fun y => (cmpE y.1 y.2.1, ()))
theorem good51 : GoodC Try.prog 51 c51 := by
  refine goodF cx2_good 3 _ _ _ _ ⟨_, Try.func51, rfl, rfl⟩ fun (⟨⟨a, b⟩, ⟨c, d⟩, _⟩ : Ed × Ed × Unit) _ => ?_
  refine (And.intro (by first | kernel_rfl | rfl) (And.intro (by first | kernel_rfl | rfl) (And.intro True.intro (And.intro True.intro (And.intro True.intro (fin_of rfl (by (simp only [cmpE, orF]; grind))))))))
def c47 : Ctr := fnC [dI, dE] rB (fun _ => True) (fun y => (outB y.1 y.2.1, ()))
theorem good47 : GoodC Try.prog 47 c47 := by
  refine goodF cx0_good 3 _ _ _ _ ⟨_, Try.func47, rfl, rfl⟩ fun (⟨n, ⟨a, b⟩, _⟩ : Int × Ed × Unit) _ => ?_
  refine (And.intro (by first | kernel_rfl | rfl) (fin_of rfl (by (simp only [outB]; grind))))
def c44 : Ctr := fnC [dI, dEs] rI (fun _ => True) (fun y => (sizesF y.1 y.2.1, ()))
theorem good44 : GoodC Try.prog 44 c44 := by
  refine goodF cx0_good 3 _ _ _ _ ⟨_, Try.func44, rfl, rfl⟩ fun (⟨n, l, _⟩ : Int × List Ed × Unit) _ => ?_
  refine (And.intro (by first | kernel_rfl | rfl) (And.intro (fun h0 => (fin_of rfl (by (simp only [sizesF]; grind)))) (fun h0 => (fun h1 => (And.intro (fun h2 => (fin_of rfl (by (simp only [sizesF]; grind)))) (fun h2 => (fin_of rfl (by (simp only [sizesF]; grind)))))))))
theorem ins_eq (n a b : Int) : (!outB n (a, b)) = (bif bif bif decide (0 ≤ a) then decide (a < n) else false then decide (0 ≤ b) else false then decide (b < n) else false) := by
  unfold outB
  by_cases h1 : a < 0 <;> by_cases h2 : n ≤ a <;> by_cases h3 : b < 0 <;> by_cases h4 : n ≤ b <;> simp [h1, h2, h3, h4] <;> omega
def c53 : Ctr := fnC [dI, dE] rB (fun _ => True) (fun y => (!outB y.1 y.2.1, ()))
theorem good53 : GoodC Try.prog 53 c53 := by
  refine goodF cx0_good 3 _ _ _ _ ⟨_, Try.func53, rfl, rfl⟩ fun (⟨n, ⟨a, b⟩, _⟩ : Int × Ed × Unit) _ => ?_
  refine (And.intro (by first | kernel_rfl | rfl) (fin_of rfl (by exact congrArg (fun b => (b, ())) (ins_eq n a b))))
def c54 : Ctr := fnC [dE, dE] rB (fun _ => True) (fun y => (lessE y.1 y.2.1, ()))
theorem good54 : GoodC Try.prog 54 c54 := by
  refine goodF cx0_good 3 _ _ _ _ ⟨_, Try.func54, rfl, rfl⟩ fun (⟨⟨a, b⟩, ⟨c, d⟩, _⟩ : Ed × Ed × Unit) _ => ?_
  refine (And.intro (by first | kernel_rfl | rfl) (fin_of rfl (by (simp only [lessE]; grind))))
def c12 : Ctr := fnC [dI, dEs] rB (fun _ => True) (fun y => (greatB y.1 y.2.1, ()))
theorem good12 : GoodC Try.prog 12 c12 := by
  refine goodF cx0_good 3 _ _ _ _ ⟨_, Try.func12, rfl, rfl⟩ fun (⟨n, l, _⟩ : Int × List Ed × Unit) _ => ?_
  refine (And.intro (by first | kernel_rfl | rfl) (fun h0 => (fin_of rfl (by (simp only [greatB]; grind)))))
def c20 : Ctr := fnC [dEs, dEs] rB (fun _ => True) (fun y => (decide (y.1 = y.2.1), ()))
theorem good20 : GoodC Try.prog 20 c20 := by
  refine goodF cx0_good 4 _ _ _ _ ⟨_, Try.func20, rfl, rfl⟩ fun (⟨xs, ys, _⟩ : List Ed × List Ed × Unit) _ => ?_
  refine (And.intro (by first | kernel_rfl | rfl) (fun h0 => (fun h1 => (And.intro (fun h2 => (fin_of rfl (by (try simp only [Bool.cond_true_left, Bool.cond_false_right, Bool.or_eq_true, Bool.or_eq_false_iff, Bool.and_eq_true, Bool.not_eq_true', Bool.not_eq_false', decide_eq_true_eq, decide_eq_false_iff_not] at *); first | grind | (simp; rintro rfl; simp_all; done)))) (fun h2 => ?_)))))
  refine ex4 _ (fun i : Nat => ⟨[.sl tE xs, .sl tE ys, .any, .any, .any, .int .i64 (i : Int), .any, .any, .any, .any, .any, .any, .any, .any, .any, .any, .any, .any, .any, .any, .any, .any, .any, .any, .any, .any], [], 0⟩) (fun i => i ≤ xs.length ∧ xs.length = ys.length ∧ xs.take i = ys.take i) (fun i => xs.length - i) (And.intro (Exists.intro (0) (Exists.intro ([]) (And.intro ?_ (And.intro (by rfl) (And.intro (by rfl) (And.intro True.intro (by rfl))))))) ?_)
  · simp_all
    omega
  rintro i ⟨hi, hl, ht⟩
  refine (fun k0 => (And.intro (fun k1 => (And.intro (by first | kernel_rfl | rfl) (And.intro (by intros; (try subst_vars); (try simp only [Bool.cond_true_left, Bool.cond_false_right, Bool.or_eq_true, Bool.or_eq_false_iff, Bool.and_eq_true, Bool.not_eq_true', Bool.not_eq_false', decide_eq_true_eq, decide_eq_false_iff_not, Int.not_lt, Int.not_le] at *); (try simp only [inK, big, lim, List.length_cons, List.length_nil, List.length_append, List.length_drop, List.length_take, List.length_replicate] at *); omega) (And.intro (by intros; (try subst_vars); (try simp only [Bool.cond_true_left, Bool.cond_false_right, Bool.or_eq_true, Bool.or_eq_false_iff, Bool.and_eq_true, Bool.not_eq_true', Bool.not_eq_false', decide_eq_true_eq, decide_eq_false_iff_not, Int.not_lt, Int.not_le] at *); (try simp only [inK, big, lim, List.length_cons, List.length_nil, List.length_append, List.length_drop, List.length_take, List.length_replicate] at *); omega) (And.intro (by first | kernel_rfl | rfl) (And.intro (fun k2 => (fin_of rfl ?_)) (fun k2 => (And.intro (by intros; (try subst_vars); (try simp only [Bool.cond_true_left, Bool.cond_false_right, Bool.or_eq_true, Bool.or_eq_false_iff, Bool.and_eq_true, Bool.not_eq_true', Bool.not_eq_false', decide_eq_true_eq, decide_eq_false_iff_not, Int.not_lt, Int.not_le] at *); (try simp only [inK, big, lim, List.length_cons, List.length_nil, List.length_append, List.length_drop, List.length_take, List.length_replicate] at *); omega) ?_)))))))) (fun k1 => (fin_of rfl ?_))))
  · have e : xs ≠ ys := by
      rintro rfl
      simp at k2
    show (decide (xs = ys), ()) = (false, ())
    rw [decide_eq_false e]
  · have hi' : i < xs.length := by simpa using k1
    refine Exists.intro (i + 1) (Exists.intro ([]) (And.intro ?_ (And.intro ?_ (And.intro (by rfl) (And.intro (by rfl) (And.intro True.intro (by rfl)))))))
    · refine ⟨hi', hl, take_ext_succ (d := dflt tE) hi' (by omega) ht ?_⟩
      simp only [Bool.cond_eq_ite, Int.toNat_natCast] at k2
      refine Prod.ext ?_ ?_ <;> simp_all
    · show xs.length - (i + 1) < xs.length - i
      omega
  · have hi' : ¬ i < xs.length := by simpa using k1
    rw [List.take_of_length_le (by omega), List.take_of_length_le (by omega)] at ht
    show (decide (xs = ys), ()) = (true, ())
    rw [decide_eq_true ht]
def c35 : Ctr := fnC [dIs, dIs] rB (fun _ => True) (fun y => (decide (y.1 = y.2.1), ()))
theorem good35 : GoodC Try.prog 35 c35 := by
  refine goodF cx0_good 4 _ _ _ _ ⟨_, Try.func35, rfl, rfl⟩ fun (⟨xs, ys, _⟩ : List Int × List Int × Unit) _ => ?_
  refine (And.intro (by first | kernel_rfl | rfl) (fun h0 => (fun h1 => (And.intro (fun h2 => (fin_of rfl (by (try simp only [Bool.cond_true_left, Bool.cond_false_right, Bool.or_eq_true, Bool.or_eq_false_iff, Bool.and_eq_true, Bool.not_eq_true', Bool.not_eq_false', decide_eq_true_eq, decide_eq_false_iff_not] at *); first | grind | (simp; rintro rfl; simp_all; done)))) (fun h2 => ?_)))))
  refine ex4 _ (fun i : Nat => ⟨[.sl (.int .i64) xs, .sl (.int .i64) ys, .any, .any, .any, .int .i64 (i : Int), .any, .any, .any, .any, .any, .any, .any, .any, .any, .any, .any, .any, .any, .any, .any, .any, .any, .any, .any, .any], [], 0⟩) (fun i => i ≤ xs.length ∧ xs.length = ys.length ∧ xs.take i = ys.take i) (fun i => xs.length - i) (And.intro (Exists.intro (0) (Exists.intro ([]) (And.intro ?_ (And.intro (by rfl) (And.intro (by rfl) (And.intro True.intro (by rfl))))))) ?_)
  · simp_all
    omega
  rintro i ⟨hi, hl, ht⟩
  refine (fun k0 => (And.intro (fun k1 => (And.intro (by first | kernel_rfl | rfl) (And.intro (by intros; (try subst_vars); (try simp only [Bool.cond_true_left, Bool.cond_false_right, Bool.or_eq_true, Bool.or_eq_false_iff, Bool.and_eq_true, Bool.not_eq_true', Bool.not_eq_false', decide_eq_true_eq, decide_eq_false_iff_not, Int.not_lt, Int.not_le] at *); (try simp only [inK, big, lim, List.length_cons, List.length_nil, List.length_append, List.length_drop, List.length_take, List.length_replicate] at *); omega) (And.intro (by intros; (try subst_vars); (try simp only [Bool.cond_true_left, Bool.cond_false_right, Bool.or_eq_true, Bool.or_eq_false_iff, Bool.and_eq_true, Bool.not_eq_true', Bool.not_eq_false', decide_eq_true_eq, decide_eq_false_iff_not, Int.not_lt, Int.not_le] at *); (try simp only [inK, big, lim, List.length_cons, List.length_nil, List.length_append, List.length_drop, List.length_take, List.length_replicate] at *); omega) (And.intro (fun k2 => (fin_of rfl (by (try simp only [Bool.cond_true_left, Bool.cond_false_right, Bool.or_eq_true, Bool.or_eq_false_iff, Bool.and_eq_true, Bool.not_eq_true', Bool.not_eq_false', decide_eq_true_eq, decide_eq_false_iff_not] at *); first | (rw [List.take_of_length_le (by omega), List.take_of_length_le (by omega)] at ht; simp [ht]; done) | (simp; rintro rfl; simp_all; done)))) (fun k2 => (And.intro (by intros; (try subst_vars); (try simp only [Bool.cond_true_left, Bool.cond_false_right, Bool.or_eq_true, Bool.or_eq_false_iff, Bool.and_eq_true, Bool.not_eq_true', Bool.not_eq_false', decide_eq_true_eq, decide_eq_false_iff_not, Int.not_lt, Int.not_le] at *); (try simp only [inK, big, lim, List.length_cons, List.length_nil, List.length_append, List.length_drop, List.length_take, List.length_replicate] at *); omega) ?_))))))) (fun k1 => (fin_of rfl (by (try simp only [Bool.cond_true_left, Bool.cond_false_right, Bool.or_eq_true, Bool.or_eq_false_iff, Bool.and_eq_true, Bool.not_eq_true', Bool.not_eq_false', decide_eq_true_eq, decide_eq_false_iff_not] at *); first | (rw [List.take_of_length_le (by omega), List.take_of_length_le (by omega)] at ht; simp [ht]; done) | (simp; rintro rfl; simp_all; done))))))
  refine Exists.intro (i + 1) (Exists.intro ([]) (And.intro ?_ (And.intro ?_ (And.intro (by rfl) (And.intro (by rfl) (And.intro True.intro (by rfl)))))))
  · have hi' : i < xs.length := by simp only [Bool.cond_true_left, Bool.cond_false_right, Bool.or_eq_true, Bool.or_eq_false_iff, Bool.and_eq_true, Bool.not_eq_true', Bool.not_eq_false', decide_eq_true_eq, decide_eq_false_iff_not] at *; omega
    exact ⟨hi', hl, take_ext_succ (d := 0) hi' (by omega) ht (by simpa using k2)⟩
  · simp only [Bool.cond_true_left, Bool.cond_false_right, Bool.or_eq_true, Bool.or_eq_false_iff, Bool.and_eq_true, Bool.not_eq_true', Bool.not_eq_false', decide_eq_true_eq, decide_eq_false_iff_not] at *; omega
def c23 : Ctr := fnC [dEs, dI, dI] rB (fun _ => True) (fun y => (y.1.any (fun e => decide (e.1 = y.2.1) && decide (e.2 = y.2.2.1)), ()))
theorem good23 : GoodC Try.prog 23 c23 := by
  refine goodF cx0_good 4 _ _ _ _ ⟨_, Try.func23, rfl, rfl⟩ fun (⟨xs, a, b, _⟩ : List Ed × Int × Int × Unit) _ => ?_
  refine (And.intro (by first | kernel_rfl | rfl) ?_)
  refine ex4 _ (fun i : Nat => ⟨[.sl tE xs, .int .i64 a, .int .i64 b, .any, .any, .any, .any, .int .i64 (i : Int), .any, .any, .any, .any, .any, .any, .any, .any, .any, .any, .any, .any, .any, .any, .any, .any, .any, .any, .any, .any, .any, .any], [], 0⟩) (fun i => i ≤ xs.length ∧ (xs.take i).any (fun e => decide (e.1 = a) && decide (e.2 = b)) = false) (fun i => xs.length - i) (And.intro (Exists.intro (0) (Exists.intro ([]) (And.intro ?_ (And.intro (by rfl) (And.intro (by rfl) (And.intro True.intro (by rfl))))))) ?_)
  · simp
  rintro i ⟨hi, ht⟩
  refine (fun k0 => (And.intro (fun k1 => (And.intro (by intros; (try subst_vars); (try simp only [Bool.cond_true_left, Bool.cond_false_right, Bool.or_eq_true, Bool.or_eq_false_iff, Bool.and_eq_true, Bool.not_eq_true', Bool.not_eq_false', decide_eq_true_eq, decide_eq_false_iff_not, Int.not_lt, Int.not_le] at *); (try simp only [inK, big, lim, List.length_cons, List.length_nil, List.length_append, List.length_drop, List.length_take, List.length_replicate] at *); omega) (And.intro (fun k2 => (by intros; (try subst_vars); (try simp only [Bool.cond_true_left, Bool.cond_false_right, Bool.or_eq_true, Bool.or_eq_false_iff, Bool.and_eq_true, Bool.not_eq_true', Bool.not_eq_false', decide_eq_true_eq, decide_eq_false_iff_not, Int.not_lt, Int.not_le] at *); (try simp only [inK, big, lim, List.length_cons, List.length_nil, List.length_append, List.length_drop, List.length_take, List.length_replicate] at *); omega)) (And.intro (fun k3 => (fin_of rfl ?_)) (fun k3 => (And.intro (by intros; (try subst_vars); (try simp only [Bool.cond_true_left, Bool.cond_false_right, Bool.or_eq_true, Bool.or_eq_false_iff, Bool.and_eq_true, Bool.not_eq_true', Bool.not_eq_false', decide_eq_true_eq, decide_eq_false_iff_not, Int.not_lt, Int.not_le] at *); (try simp only [inK, big, lim, List.length_cons, List.length_nil, List.length_append, List.length_drop, List.length_take, List.length_replicate] at *); omega) ?_)))))) (fun k1 => (fin_of rfl ?_))))
  · have hi' : i < xs.length := by simpa using k1
    have e := any_hit (p := fun e : Ed => decide (e.1 = a) && decide (e.2 = b)) (i := i) (d := dflt tE) hi' (by simpa using k3)
    show (xs.any _, ()) = (true, ())
    rw [e]
  · have hi' : i < xs.length := by simpa using k1
    refine Exists.intro (i + 1) (Exists.intro ([]) (And.intro ?_ (And.intro ?_ (And.intro (by rfl) (And.intro (by rfl) (And.intro True.intro (by rfl)))))))
    · exact ⟨hi', any_next (d := dflt tE) hi' ht (by simpa using k3)⟩
    · show xs.length - (i + 1) < xs.length - i
      omega
  · have e := any_end (by simpa using k1) ht
    show (xs.any _, ()) = (false, ())
    rw [e]
end Go.Proofs.Ytlaefkhbpnbahaa
/- Partial orders: the matrix of pairs, as a contract. -/
namespace Go.Proofs.Ytlaefkhbpnbahaa
open Go.Sx

@[reducible] def Mx : Type := List (List Bool)
/-- One pair more. -/
def setP (m : Mx) (p : Ed) : Mx := m.set p.1.toNat ((m.getD p.1.toNat []).set p.2.toNat true)
def zeroM (n : Nat) : Mx := List.replicate n (List.replicate n false)
/-- The matrix of pairs. -/
def matF (n : Int) (l : List Ed) : Mx := l.foldl setP (zeroM n.toNat)
/-- It has n rows of n. -/
def sq (n : Nat) (m : Mx) : Prop := m.length = n ∧ ∀ r ∈ m, r.length = n
theorem sq_zero (n : Nat) : sq n (zeroM n) := ⟨by simp [zeroM], fun r hr => by simp [zeroM] at hr; simp [hr.2]⟩
theorem sq_row {n : Nat} {m : Mx} (h : sq n m) {i : Nat} (hi : i < n) : (m.getD i []).length = n := by
  have hi' : i < m.length := by rw [h.1]; exact hi
  rw [List.getD_eq_getElem?_getD, List.getElem?_eq_getElem hi']
  exact h.2 _ (List.getElem_mem hi')
theorem sq_set {n : Nat} {m : Mx} (h : sq n m) (p : Ed) (hp : p.1.toNat < n) : sq n (setP m p) := by
  refine ⟨by simp [setP, h.1], fun r hr => ?_⟩
  rcases List.mem_or_eq_of_mem_set hr with hr | rfl
  · exact h.2 r hr
  · rw [List.length_set]; exact sq_row h hp
def insideAll (n : Int) (l : List Ed) : Prop := ∀ p ∈ l, outB n p = false
theorem out_false {n : Int} {p : Ed} (h : outB n p = false) : 0 ≤ p.1 ∧ p.1 < n ∧ 0 ≤ p.2 ∧ p.2 < n := by
  simp only [outB, Bool.or_eq_false_iff, decide_eq_false_iff_not, Int.not_lt, Int.not_le] at h
  omega
theorem sq_fold {n : Int} : ∀ (l : List Ed) (m : Mx), insideAll n l → sq n.toNat m → sq n.toNat (l.foldl setP m)
  | [], m, _, h => h
  | p :: l, m, hl, h => by
    have hp := out_false (hl p (by simp))
    exact sq_fold l _ (fun q hq => hl q (by simp [hq])) (sq_set h p (by omega))
theorem sq_mat {n : Int} {l : List Ed} (hl : insideAll n l) : sq n.toNat (matF n l) := sq_fold l _ hl (sq_zero _)

/-- The rows that there are so far. -/
def part (n i : Nat) : Mx := List.replicate i (List.replicate n false)
theorem part_succ (n i : Nat) : part n i ++ [List.replicate n false] = part n (i + 1) := by
  unfold part
  rw [List.replicate_succ']
theorem part_len (n i : Nat) : (part n i).length = i := by simp [part]
theorem take_fold {l : List Ed} {i : Nat} {m : Mx} (h : i < l.length) : (l.take (i + 1)).foldl setP m = setP ((l.take i).foldl setP m) (l.getD i (dflt tE)) := by
  rw [List.take_succ_eq_append_getElem h, List.foldl_append, List.getD_eq_getElem?_getD, List.getElem?_eq_getElem h]
  rfl
theorem inside_take {n : Int} {l : List Ed} (h : insideAll n l) (i : Nat) : insideAll n (l.take i) := fun p hp => h p (List.mem_of_mem_take hp)
theorem inside_get {n : Int} {l : List Ed} (h : insideAll n l) {i : Nat} (hi : i < l.length) : 0 ≤ (l.getD i (dflt tE)).1 ∧ (l.getD i (dflt tE)).1 < n ∧ 0 ≤ (l.getD i (dflt tE)).2 ∧ (l.getD i (dflt tE)).2 < n := by
  rw [List.getD_eq_getElem?_getD, List.getElem?_eq_getElem hi]
  exact out_false (h _ (List.getElem_mem hi))

def tysM : List (TypeId × Ty) := (1000000 + 56, .bool) :: tys0
def cxM : Ctx := ⟨tysM, []⟩
theorem cxM_good : GoodCtx Try.prog cxM := fun _ _ _ h => by simp [cxM, lookL] at h
def c39 : Ctr := fnC [dI, dEs] [(true, tRel)] (fun y => 0 ≤ y.1 ∧ y.1 ≤ 200 ∧ insideAll y.1 y.2.1) (fun y => ((y.1, matF y.1 y.2.1), ()))
set_option maxHeartbeats 1000000 in
theorem good39 : GoodC Try.prog 39 c39 := by
  refine goodF cxM_good 4 _ _ _ _ ⟨_, Try.func39, rfl, rfl⟩ fun (⟨n, l, _⟩ : Int × List Ed × Unit) hn => ?_
  have n0 : (0 : Int) ≤ n := hn.1
  have n1 : n ≤ (200 : Int) := hn.2.1
  have hl : insideAll n l := hn.2.2
  clear hn
  have nz : ((n.toNat : Nat) : Int) = n := Int.toNat_of_nonneg n0
  refine (And.intro (by first | kernel_rfl | rfl) (And.intro (by first | exact ⟨n0, Int.le_refl _, by simp only [lim]; omega, by simp only [lim]; omega⟩ | (intros; (try subst_vars); (try simp only [Bool.cond_true_left, Bool.cond_false_right, Bool.or_eq_true, Bool.or_eq_false_iff, Bool.and_eq_true, Bool.not_eq_true', Bool.not_eq_false', decide_eq_true_eq, decide_eq_false_iff_not, Int.not_lt, Int.not_le] at *); (try simp only [inK, big, lim, List.length_cons, List.length_nil, List.length_append, List.length_drop, List.length_take, List.length_replicate] at *); omega)) (fun h0 => ?_)))
  refine ex4 _ (fun i : Nat => ⟨[.int .i64 n, .sl tE l, .any, .any, .ptr 0 0, .ptr 2 0, .any, .any, .any, .any, .any, .any, .any, .ptr 2 1, .own 1, .int .i64 ((0 + n.toNat : Nat) : Int), .int .i64 (i : Int), .any, .any, .any, .any, .any, .any, .any, .any, .any, .any, .any, .any, .any, .any, .any, .any, .any, .any, .any, .any, .any, .any, .any, .any, .any, .any], [.cells [.int .i64 0, .cap0], .grid .bool (n.toNat - i) (part n.toNat i), .cells [.int .i64 n, .own 1]], 3⟩) (fun i => i ≤ n.toNat) (fun i => n.toNat - i) (And.intro (Exists.intro (0) (Exists.intro ([some 0, some 1, some 2]) (And.intro ?_ (And.intro (by rfl) (And.intro (by rfl) (And.intro (And.intro (And.intro (by rfl) (by rfl)) (And.intro (by rfl) (And.intro (And.intro (by rfl) (by rfl)) True.intro))) (by rfl))))))) ?_)
  · exact Nat.zero_le _
  rintro i hi
  refine (And.intro (fun k0 => (And.intro (by first | kernel_rfl | rfl) (And.intro (by first | exact ⟨n0, Int.le_refl _, by simp only [lim]; omega, by simp only [lim]; omega⟩ | (intros; (try subst_vars); (try simp only [Bool.cond_true_left, Bool.cond_false_right, Bool.or_eq_true, Bool.or_eq_false_iff, Bool.and_eq_true, Bool.not_eq_true', Bool.not_eq_false', decide_eq_true_eq, decide_eq_false_iff_not, Int.not_lt, Int.not_le] at *); (try simp only [inK, big, lim, List.length_cons, List.length_nil, List.length_append, List.length_drop, List.length_take, List.length_replicate] at *); omega)) (And.intro ?_ (And.intro ?_ (And.intro (by first | exact ⟨n0, Int.le_refl _, by simp only [lim]; omega, by simp only [lim]; omega⟩ | (intros; (try subst_vars); (try simp only [Bool.cond_true_left, Bool.cond_false_right, Bool.or_eq_true, Bool.or_eq_false_iff, Bool.and_eq_true, Bool.not_eq_true', Bool.not_eq_false', decide_eq_true_eq, decide_eq_false_iff_not, Int.not_lt, Int.not_le] at *); (try simp only [inK, big, lim, List.length_cons, List.length_nil, List.length_append, List.length_drop, List.length_take, List.length_replicate] at *); omega)) ?_)))))) (fun k0 => (fun k1 => ?_)))
  · rw [part_len]
    have := of_decide_eq_true k0
    omega
  · rw [part_len]
    have := of_decide_eq_true k0
    exact ⟨by omega, by omega⟩
  · have hi' : i < n.toNat := by have := of_decide_eq_true k0; omega
    refine Exists.intro (i + 1) (Exists.intro ([some 0, some 1, some 2]) (And.intro ?_ (And.intro ?_ (And.intro (by rfl) (And.intro (by rfl) (And.intro (And.intro (And.intro (by rfl) (by rfl)) (And.intro ?_ (And.intro (And.intro (by rfl) (by rfl)) True.intro))) (by rfl)))))))
    · exact hi'
    · show n.toNat - (i + 1) < n.toNat - i
      omega
    · show Ob.grid .bool (n.toNat - i - 1) (part n.toNat i ++ [List.replicate n.toNat false]) = Ob.grid .bool (n.toNat - (i + 1)) (part n.toNat (i + 1))
      rw [part_succ]; rfl
  · have e : i = n.toNat := by have := of_decide_eq_false k0; omega
    subst e
    refine ex4 _ (fun j : Nat => ⟨[.any, .sl tE l, .any, .any, .ptr 0 0, .ptr 2 0, .any, .any, .any, .any, .any, .any, .any, .any, .any, .any, .any, .any, .any, .any, .any, .any, .any, .any, .any, .any, .sl tE l, .int .i64 (↑l.length : Int), .int .i64 (j : Int), .any, .any, .any, .any, .any, .any, .any, .any, .any, .any, .any, .any, .any, .any], [.cells [.int .i64 0, .cap0], .grid .bool (n.toNat - n.toNat) ((l.take j).foldl setP (part n.toNat n.toNat)), .cells [.int .i64 n, .own 1]], 3⟩) (fun j => j ≤ l.length) (fun j => l.length - j) (And.intro (Exists.intro (0) (Exists.intro ([some 0, some 1, some 2]) (And.intro ?_ (And.intro (by rfl) (And.intro (by rfl) (And.intro (And.intro (And.intro (by rfl) (by rfl)) (And.intro (by rfl) (And.intro (And.intro (by rfl) (by rfl)) True.intro))) (by rfl))))))) ?_)
    · exact Nat.zero_le _
    rintro j hj
    have hsq : sq n.toNat ((l.take j).foldl setP (part n.toNat n.toNat)) := sq_fold _ _ (inside_take hl j) (sq_zero _)
    refine (And.intro (fun m0 => (And.intro (by intros; (try subst_vars); (try simp only [Bool.cond_true_left, Bool.cond_false_right, Bool.or_eq_true, Bool.or_eq_false_iff, Bool.and_eq_true, Bool.not_eq_true', Bool.not_eq_false', decide_eq_true_eq, decide_eq_false_iff_not, Int.not_lt, Int.not_le] at *); (try simp only [inK, big, lim, List.length_cons, List.length_nil, List.length_append, List.length_drop, List.length_take, List.length_replicate] at *); omega) (And.intro (by first | kernel_rfl | rfl) (And.intro ?_ (And.intro ?_ (And.intro ?_ (And.intro (by intros; (try subst_vars); (try simp only [Bool.cond_true_left, Bool.cond_false_right, Bool.or_eq_true, Bool.or_eq_false_iff, Bool.and_eq_true, Bool.not_eq_true', Bool.not_eq_false', decide_eq_true_eq, decide_eq_false_iff_not, Int.not_lt, Int.not_le] at *); (try simp only [inK, big, lim, List.length_cons, List.length_nil, List.length_append, List.length_drop, List.length_take, List.length_replicate] at *); omega) ?_))))))) (fun m0 => (fin_of rfl ?_)))
    · have hj' : j < l.length := by have := of_decide_eq_true m0; omega
      have hin := inside_get hl hj'
      rw [hsq.1, Int.toNat_natCast]
      omega
    · have hj' : j < l.length := by have := of_decide_eq_true m0; omega
      have hin := inside_get hl hj'
      rw [hsq.1, Int.toNat_natCast]
      omega
    · have hj' : j < l.length := by have := of_decide_eq_true m0; omega
      have hin := inside_get hl hj'
      rw [hsq.1, Int.toNat_natCast, sq_row hsq (by omega)]
      exact ⟨by omega, hin.2.2.1, by omega⟩
    · have hj' : j < l.length := by have := of_decide_eq_true m0; omega
      refine Exists.intro (j + 1) (Exists.intro ([some 0, some 1, some 2]) (And.intro ?_ (And.intro ?_ (And.intro (by rfl) (And.intro (by rfl) (And.intro (And.intro (And.intro (by rfl) (by rfl)) (And.intro ?_ (And.intro (And.intro (by rfl) (by rfl)) True.intro))) (by rfl)))))))
      · exact hj'
      · show l.length - (j + 1) < l.length - j
        omega
      · rw [take_fold hj']; rfl
    · have hj' : ¬ j < l.length := by have := of_decide_eq_false m0; omega
      rw [List.take_of_length_le (by omega), Nat.sub_self, List.replicate_zero, List.append_nil]
      rfl
end Go.Proofs.Ytlaefkhbpnbahaa
/- Partial orders: searches with a function, and Check, as contracts. -/
namespace Go.Proofs.Ytlaefkhbpnbahaa
open Go.Sx

def loopE (p : Ed) : Bool := decide (p.1 = p.2)
def lateE (place : List Int) (p : Ed) : Bool := decide (place.getD p.2.toNat 0 ≤ place.getD p.1.toNat 0)
def cxC : Ctx := ⟨tys0, [(47, ([], c47))]⟩
theorem cxC_good : GoodCtx Try.prog cxC := cx_cons good47 cx0_good
def c64a : Ctr := fnC [dEs, .fn 52 [] []] rI (fun _ => True) (fun y => (firstAt loopE y.1 0, ()))
theorem good64a : GoodC Try.prog 64 c64a := by
  refine goodF cxC_good 4 _ _ _ _ ⟨_, Try.func64, rfl, rfl⟩ fun (⟨xs, _, _⟩ : List Ed × (Unit × Unit) × Unit) _ => ?_
  refine (And.intro (by first | kernel_rfl | rfl) (fun h0 => ?_))
  refine ex4 _ (fun i : Nat => ⟨[.sl tE xs, .fn (Fn.func 52) [] [], .any, .any, .any, .any, .sl tE xs, .int .i64 (↑xs.length : Int), .int .i64 (i : Int), .any, .any, .any, .any, .any, .any, .any, .any, .any, .any], [], 0⟩) (fun i => i ≤ xs.length ∧ firstAt loopE xs 0 = firstAt loopE (xs.drop i) i) (fun i => xs.length - i) (And.intro (Exists.intro (0) (Exists.intro ([]) (And.intro ?_ (And.intro (by rfl) (And.intro (by rfl) (And.intro True.intro (by rfl))))))) ?_)
  · exact ⟨Nat.zero_le _, rfl⟩
  rintro i ⟨hi, ht⟩
  refine (And.intro (fun k0 => (And.intro (by intros; (try subst_vars); (try simp only [Bool.cond_true_left, Bool.cond_false_right, Bool.or_eq_true, Bool.or_eq_false_iff, Bool.and_eq_true, Bool.not_eq_true', Bool.not_eq_false', decide_eq_true_eq, decide_eq_false_iff_not, Int.not_lt, Int.not_le] at *); (try simp only [inK, big, lim, List.length_cons, List.length_nil, List.length_append, List.length_drop, List.length_take, List.length_replicate] at *); omega) (And.intro (by first | kernel_rfl | rfl) (And.intro (fun k1 => (fin_of rfl ?_)) (fun k1 => (And.intro (by intros; (try subst_vars); (try simp only [Bool.cond_true_left, Bool.cond_false_right, Bool.or_eq_true, Bool.or_eq_false_iff, Bool.and_eq_true, Bool.not_eq_true', Bool.not_eq_false', decide_eq_true_eq, decide_eq_false_iff_not, Int.not_lt, Int.not_le] at *); (try simp only [inK, big, lim, List.length_cons, List.length_nil, List.length_append, List.length_drop, List.length_take, List.length_replicate] at *); omega) ?_)))))) (fun k0 => (fin_of rfl ?_)))
  · have hi' : i < xs.length := by simpa using k0
    have e : firstAt loopE xs 0 = i := by rw [ht, firstAt_drop loopE (dflt tE) xs i hi', if_pos (by simpa [loopE] using k1)]
    show (firstAt loopE xs 0, ()) = (_, ())
    rw [e]
  · have hi' : i < xs.length := by simpa using k0
    refine Exists.intro (i + 1) (Exists.intro ([]) (And.intro ?_ (And.intro ?_ (And.intro (by rfl) (And.intro (by rfl) (And.intro True.intro (by rfl)))))))
    · exact ⟨hi', by rw [ht, firstAt_drop loopE (dflt tE) xs i hi', if_neg (by simpa [loopE] using k1)]⟩
    · show xs.length - (i + 1) < xs.length - i
      omega
  · have e : firstAt loopE xs 0 = -1 := by rw [ht, List.drop_of_length_le (by simpa using k0)]; rfl
    show (firstAt loopE xs 0, ()) = (_, ())
    rw [e]
def c64b : Ctr := fnC [dEs, .fn 46 [] [.eptr tI]] rI (fun _ => True) (fun y => (firstAt (outB y.2.1.2.1) y.1 0, ()))
theorem good64b : GoodC Try.prog 64 c64b := by
  refine goodF cxC_good 4 _ _ _ _ ⟨_, Try.func64, rfl, rfl⟩ fun (⟨xs, ⟨_, ⟨n, _⟩⟩, _⟩ : List Ed × (Unit × (Int × Unit)) × Unit) _ => ?_
  refine (And.intro (by first | kernel_rfl | rfl) (fun h0 => ?_))
  refine ex4 _ (fun i : Nat => ⟨[.sl tE xs, .fn (Fn.func 46) [] [.eptr [PV.int .i64 n]], .any, .any, .any, .any, .sl tE xs, .int .i64 (↑xs.length : Int), .int .i64 (i : Int), .any, .any, .any, .any, .any, .any, .any, .any, .any, .any], [], 0⟩) (fun i => i ≤ xs.length ∧ firstAt (outB n) xs 0 = firstAt (outB n) (xs.drop i) i) (fun i => xs.length - i) (And.intro (Exists.intro (0) (Exists.intro ([]) (And.intro ?_ (And.intro (by rfl) (And.intro (by rfl) (And.intro True.intro (by rfl))))))) ?_)
  · exact ⟨Nat.zero_le _, rfl⟩
  rintro i ⟨hi, ht⟩
  refine (And.intro (fun k0 => (And.intro (by intros; (try subst_vars); (try simp only [Bool.cond_true_left, Bool.cond_false_right, Bool.or_eq_true, Bool.or_eq_false_iff, Bool.and_eq_true, Bool.not_eq_true', Bool.not_eq_false', decide_eq_true_eq, decide_eq_false_iff_not, Int.not_lt, Int.not_le] at *); (try simp only [inK, big, lim, List.length_cons, List.length_nil, List.length_append, List.length_drop, List.length_take, List.length_replicate] at *); omega) (And.intro (by first | kernel_rfl | rfl) (And.intro True.intro (And.intro (fun k1 => (fin_of rfl ?_)) (fun k1 => (And.intro (by intros; (try subst_vars); (try simp only [Bool.cond_true_left, Bool.cond_false_right, Bool.or_eq_true, Bool.or_eq_false_iff, Bool.and_eq_true, Bool.not_eq_true', Bool.not_eq_false', decide_eq_true_eq, decide_eq_false_iff_not, Int.not_lt, Int.not_le] at *); (try simp only [inK, big, lim, List.length_cons, List.length_nil, List.length_append, List.length_drop, List.length_take, List.length_replicate] at *); omega) ?_))))))) (fun k0 => (fin_of rfl ?_)))
  · have hi' : i < xs.length := by simpa using k0
    have e : firstAt (outB n) xs 0 = i := by rw [ht, firstAt_drop (outB n) (dflt tE) xs i hi', if_pos (by simpa using k1)]
    show (firstAt (outB n) xs 0, ()) = (_, ())
    rw [e]
  · have hi' : i < xs.length := by simpa using k0
    refine Exists.intro (i + 1) (Exists.intro ([]) (And.intro ?_ (And.intro ?_ (And.intro (by rfl) (And.intro (by rfl) (And.intro True.intro (by rfl)))))))
    · exact ⟨hi', by rw [ht, firstAt_drop (outB n) (dflt tE) xs i hi', if_neg (by simpa using k1)]⟩
    · show xs.length - (i + 1) < xs.length - i
      omega
  · have e : firstAt (outB n) xs 0 = -1 := by rw [ht, List.drop_of_length_le (by simpa using k0)]; rfl
    show (firstAt (outB n) xs 0, ()) = (_, ())
    rw [e]
def c64c : Ctr := fnC [dEs, .fn 59 [] [.eptr tIs]] rI (fun y => insideAll (y.2.1.2.1.length : Int) y.1) (fun y => (firstAt (lateE y.2.1.2.1) y.1 0, ()))
theorem good64c : GoodC Try.prog 64 c64c := by
  refine goodF cxC_good 4 _ _ _ _ ⟨_, Try.func64, rfl, rfl⟩ fun (⟨xs, ⟨_, ⟨pl, _⟩⟩, _⟩ : List Ed × (Unit × (List Int × Unit)) × Unit) hn => ?_
  have hin : insideAll (pl.length : Int) xs := hn
  clear hn
  refine (And.intro (by first | kernel_rfl | rfl) (fun h0 => ?_))
  refine ex4 _ (fun i : Nat => ⟨[.sl tE xs, .fn (Fn.func 59) [] [.eptr [PV.sl (.int .i64) pl]], .any, .any, .any, .any, .sl tE xs, .int .i64 (↑xs.length : Int), .int .i64 (i : Int), .any, .any, .any, .any, .any, .any, .any, .any, .any, .any], [], 0⟩) (fun i => i ≤ xs.length ∧ firstAt (lateE pl) xs 0 = firstAt (lateE pl) (xs.drop i) i) (fun i => xs.length - i) (And.intro (Exists.intro (0) (Exists.intro ([]) (And.intro ?_ (And.intro (by rfl) (And.intro (by rfl) (And.intro True.intro (by rfl))))))) ?_)
  · exact ⟨Nat.zero_le _, rfl⟩
  rintro i ⟨hi, ht⟩
  have idx : i < xs.length → (0 ≤ (xs.getD i (dflt tE)).1 ∧ (xs.getD i (dflt tE)).1 < (pl.length : Int)) ∧ (0 ≤ (xs.getD i (dflt tE)).2 ∧ (xs.getD i (dflt tE)).2 < (pl.length : Int)) := fun h => by
    have := inside_get hin h
    omega
  refine (And.intro (fun k0 => (And.intro (by first | exact (idx (by simpa using k0)).1 | exact (idx (by simpa using k0)).2 | (intros; (try subst_vars); (try simp only [Bool.cond_true_left, Bool.cond_false_right, Bool.or_eq_true, Bool.or_eq_false_iff, Bool.and_eq_true, Bool.not_eq_true', Bool.not_eq_false', decide_eq_true_eq, decide_eq_false_iff_not, Int.not_lt, Int.not_le] at *); (try simp only [inK, big, lim, List.length_cons, List.length_nil, List.length_append, List.length_drop, List.length_take, List.length_replicate] at *); omega)) (And.intro (by first | kernel_rfl | rfl) (And.intro (by first | kernel_rfl | rfl) (And.intro (by first | exact (idx (by simpa using k0)).1 | exact (idx (by simpa using k0)).2 | (intros; (try subst_vars); (try simp only [Bool.cond_true_left, Bool.cond_false_right, Bool.or_eq_true, Bool.or_eq_false_iff, Bool.and_eq_true, Bool.not_eq_true', Bool.not_eq_false', decide_eq_true_eq, decide_eq_false_iff_not, Int.not_lt, Int.not_le] at *); (try simp only [inK, big, lim, List.length_cons, List.length_nil, List.length_append, List.length_drop, List.length_take, List.length_replicate] at *); omega)) (And.intro (by first | exact (idx (by simpa using k0)).1 | exact (idx (by simpa using k0)).2 | (intros; (try subst_vars); (try simp only [Bool.cond_true_left, Bool.cond_false_right, Bool.or_eq_true, Bool.or_eq_false_iff, Bool.and_eq_true, Bool.not_eq_true', Bool.not_eq_false', decide_eq_true_eq, decide_eq_false_iff_not, Int.not_lt, Int.not_le] at *); (try simp only [inK, big, lim, List.length_cons, List.length_nil, List.length_append, List.length_drop, List.length_take, List.length_replicate] at *); omega)) (And.intro (fun k1 => (fin_of rfl ?_)) (fun k1 => (And.intro (by first | exact (idx (by simpa using k0)).1 | exact (idx (by simpa using k0)).2 | (intros; (try subst_vars); (try simp only [Bool.cond_true_left, Bool.cond_false_right, Bool.or_eq_true, Bool.or_eq_false_iff, Bool.and_eq_true, Bool.not_eq_true', Bool.not_eq_false', decide_eq_true_eq, decide_eq_false_iff_not, Int.not_lt, Int.not_le] at *); (try simp only [inK, big, lim, List.length_cons, List.length_nil, List.length_append, List.length_drop, List.length_take, List.length_replicate] at *); omega)) ?_))))))))) (fun k0 => (fin_of rfl ?_)))
  · have hi' : i < xs.length := by simpa using k0
    have e : firstAt (lateE pl) xs 0 = i := by rw [ht, firstAt_drop (lateE pl) (dflt tE) xs i hi', if_pos (by simpa [lateE] using k1)]
    show (firstAt (lateE pl) xs 0, ()) = (_, ())
    rw [e]
  · have hi' : i < xs.length := by simpa using k0
    refine Exists.intro (i + 1) (Exists.intro ([]) (And.intro ?_ (And.intro ?_ (And.intro (by rfl) (And.intro (by rfl) (And.intro True.intro (by rfl)))))))
    · exact ⟨hi', by rw [ht, firstAt_drop (lateE pl) (dflt tE) xs i hi', if_neg (by simpa [lateE] using k1)]⟩
    · show xs.length - (i + 1) < xs.length - i
      omega
  · have e : firstAt (lateE pl) xs 0 = -1 := by rw [ht, List.drop_of_length_le (by simpa using k0)]; rfl
    show (firstAt (lateE pl) xs 0, ()) = (_, ())
    rw [e]
def c64 : Ctr := orC c64a (orC c64b c64c)
theorem good64 : GoodC Try.prog 64 c64 := good_or good64a (good_or good64b good64c)
def cxD : Ctx := ⟨tys0, [(64, ([], c64))]⟩
theorem cxD_good : GoodCtx Try.prog cxD := cx_cons good64 cx0_good
def c45a : Ctr := fnC [dEs, .fn 52 [] []] rB (fun _ => True) (fun y => (y.1.any loopE, ()))
theorem good45a : GoodC Try.prog 45 c45a := by
  refine goodF cxD_good 4 _ _ _ _ ⟨_, Try.func45, rfl, rfl⟩ fun (⟨xs, _, _⟩ : List Ed × (Unit × Unit) × Unit) _ => ?_
  refine (And.intro (by first | kernel_rfl | rfl) (And.intro True.intro (fin_of rfl (by (exact congrArg (fun b => (b, ())) (firstAt_ge _ _ 0 (by omega)).symm)))))
def c45b : Ctr := fnC [dEs, .fn 46 [] [.eptr tI]] rB (fun _ => True) (fun y => (y.1.any (outB y.2.1.2.1), ()))
theorem good45b : GoodC Try.prog 45 c45b := by
  refine goodF cxD_good 4 _ _ _ _ ⟨_, Try.func45, rfl, rfl⟩ fun (⟨xs, ⟨_, ⟨n, _⟩⟩, _⟩ : List Ed × (Unit × (Int × Unit)) × Unit) _ => ?_
  refine (And.intro (by first | kernel_rfl | rfl) (And.intro True.intro (fin_of rfl (by (exact congrArg (fun b => (b, ())) (firstAt_ge _ _ 0 (by omega)).symm)))))
def c45c : Ctr := fnC [dEs, .fn 59 [] [.eptr tIs]] rB (fun y => insideAll (y.2.1.2.1.length : Int) y.1) (fun y => (y.1.any (lateE y.2.1.2.1), ()))
theorem good45c : GoodC Try.prog 45 c45c := by
  refine goodF cxD_good 4 _ _ _ _ ⟨_, Try.func45, rfl, rfl⟩ fun (⟨xs, ⟨_, ⟨pl, _⟩⟩, _⟩ : List Ed × (Unit × (List Int × Unit)) × Unit) hn => ?_
  refine (And.intro (by first | kernel_rfl | rfl) (And.intro (by first | exact hn | (intros; (try subst_vars); (try simp only [Bool.cond_true_left, Bool.cond_false_right, Bool.or_eq_true, Bool.or_eq_false_iff, Bool.and_eq_true, Bool.not_eq_true', Bool.not_eq_false', decide_eq_true_eq, decide_eq_false_iff_not, Int.not_lt, Int.not_le] at *); (try simp only [inK, big, lim, List.length_cons, List.length_nil, List.length_append, List.length_drop, List.length_take, List.length_replicate] at *); omega)) (fin_of rfl (by (exact congrArg (fun b => (b, ())) (firstAt_ge _ _ 0 (by omega)).symm)))))
def c45 : Ctr := orC c45a (orC c45b c45c)
theorem good45 : GoodC Try.prog 45 c45 := good_or good45a (good_or good45b good45c)

def badPrev : Option Ed → Ed → Bool
  | some q, p => decide (0 ≤ cmpE q p)
  | none, _ => false
/-- Is each pair one of elements, behind the pair before it? -/
def scanE (n : Int) : Option Ed → List Ed → Int
  | _, [] => 0
  | q, p :: l => if outB n p = true then 2 else if badPrev q p = true then 9 else scanE n (some p) l
def prevAt (l : List Ed) (i : Nat) : Option Ed := match i with | 0 => none | i + 1 => some (l.getD i (dflt tE))
theorem scan_step (n : Int) {l : List Ed} {i : Nat} (h : i < l.length) : scanE n (prevAt l i) (l.drop i) = if outB n (l.getD i (dflt tE)) = true then 2 else
    if badPrev (prevAt l i) (l.getD i (dflt tE)) = true then 9 else scanE n (prevAt l (i + 1)) (l.drop (i + 1)) := by
  rw [List.drop_eq_getElem_cons h]
  have e : l.getD i (dflt tE) = l[i] := by simp [List.getElem?_eq_getElem h]
  rw [scanE, prevAt, e]
theorem badPrev_at (l : List Ed) (i : Nat) (p : Ed) : badPrev (prevAt l i) p = (bif decide (0 < (i : Int)) then decide (0 ≤ cmpE (l.getD ((i : Int) - 1).toNat (dflt tE)) p) else false) := by
  cases i with
  | zero => rfl
  | succ i =>
    have e : (((i + 1 : Nat) : Int) - 1).toNat = i := by omega
    have e2 : decide (0 < ((i + 1 : Nat) : Int)) = true := decide_eq_true (by omega)
    rw [e, e2]; rfl
/-- Something is in the one row and not in the other. -/
def lacks (n : Nat) (a b : List Bool) : Bool := (List.range n).any fun k => a.getD k false && !b.getD k false
def openE (n : Nat) (m : Mx) (p : Ed) : Bool := lacks n (m.getD p.2.toNat []) (m.getD p.1.toNat [])
def checkF (n : Int) (l : List Ed) : Int :=
  if sizesF n l ≠ 0 then sizesF n l else if scanE n none l ≠ 0 then scanE n none l else if l.any loopE = true then 21
  else if l.any (openE n.toNat (matF n l)) = true then 10 else 0
theorem range_next {p : Nat → Bool} {k : Nat} (h : (List.range k).any p = false) (hp : p k = false) : (List.range (k + 1)).any p = false := by
  rw [List.range_succ, List.any_append, h]
  simp [hp]
theorem range_hit {p : Nat → Bool} {n k : Nat} (hk : k < n) (hp : p k = true) : (List.range n).any p = true := List.any_eq_true.2 ⟨k, List.mem_range.2 hk, hp⟩
theorem scan_inside (n : Int) : ∀ (q : Option Ed) (l : List Ed), scanE n q l = 0 → insideAll n l
  | _, [], _ => fun p hp => by simp at hp
  | q, p :: l, h => by
    rw [scanE] at h
    by_cases h1 : outB n p = true
    · rw [if_pos h1] at h; exact absurd h (by decide)
    · rw [if_neg h1] at h
      by_cases h2 : badPrev q p = true
      · rw [if_pos h2] at h; exact absurd h (by decide)
      · rw [if_neg h2] at h
        intro r hr
        rcases List.mem_cons.1 hr with rfl | hr
        · simpa using h1
        · exact scan_inside n _ l h r hr
theorem sizes_ok {n : Int} {l : List Ed} (h : sizesF n l = 0) : 0 ≤ n ∧ n ≤ 200 ∧ l.length ≤ 2000 := by
  unfold sizesF at h
  split at h
  · cases h
  · split at h
    · cases h
    · omega
def cxE : Ctx := ⟨tys0, [(44, ([], c44)), (47, ([], c47)), (51, ([], c51)), (45, ([], c45)), (39, ([], c39))]⟩
theorem cxE_good : GoodCtx Try.prog cxE := cx_cons good44 (cx_cons good47 (cx_cons good51 (cx_cons good45 (cx_cons good39 cx0_good))))
def c18 : Ctr := fnC [dI, dEs] rI (fun _ => True) (fun y => (checkF y.1 y.2.1, ()))
theorem good18 : GoodC Try.prog 18 c18 := by
  refine goodF cxE_good 4 _ _ _ _ ⟨_, Try.func18, rfl, rfl⟩ fun (⟨n, l, _⟩ : Int × List Ed × Unit) _ => ?_
  refine (And.intro (by first | kernel_rfl | rfl) (And.intro True.intro (And.intro (fun h0 => (fin_of rfl ?_)) (fun h0 => (fun h1 => ?_)))))
  · have e : checkF n l = sizesF n l := by rw [checkF, if_pos (by simpa using h0)]
    show (checkF n l, ()) = (_, ())
    rw [e]
  have hs : sizesF n l = 0 := by simpa using h0
  have e0 : checkF n l = if scanE n none l ≠ 0 then scanE n none l else if l.any loopE = true then 21
    else if l.any (openE n.toNat (matF n l)) = true then 10 else 0 := by rw [checkF, if_neg (by simp [hs])]
  obtain ⟨n0, n1, n2⟩ := sizes_ok hs
  refine ex4 _ (fun i : Nat => ⟨[.int .i64 n, .sl tE l, .any, .any, .any, .any, .any, .any, .any, .any, .any, .any, .any, .any, .any, .any, .any, .any, .any, .sl tE l, .int .i64 (↑l.length : Int), .int .i64 (i : Int), .any, .any, .any, .any, .any, .any, .any, .any, .any, .any, .any, .any, .any, .any, .any, .any, .any, .any, .any, .any, .any, .any, .any, .any, .any, .any, .any, .any, .any, .any, .any, .any, .any, .any, .any, .any, .any, .any, .any, .any, .any, .any, .any, .any, .any, .any, .any, .any, .any, .any, .any, .any, .any, .any, .any, .any, .any, .any], [], 0⟩) (fun i => i ≤ l.length ∧ scanE n none l = scanE n (prevAt l i) (l.drop i)) (fun i => l.length - i) (And.intro (Exists.intro (0) (Exists.intro ([]) (And.intro ?_ (And.intro (by rfl) (And.intro (by rfl) (And.intro True.intro (by rfl))))))) ?_)
  · exact ⟨Nat.zero_le _, rfl⟩
  rintro i ⟨hi, ht⟩
  refine (And.intro (fun k0 => (And.intro (by first | exact ⟨n0, n1, scan_inside n none l (ht.trans (by rw [List.drop_of_length_le (by simpa using k0)]; rfl))⟩ | (intros; (try subst_vars); (try simp only [Bool.cond_true_left, Bool.cond_false_right, Bool.or_eq_true, Bool.or_eq_false_iff, Bool.and_eq_true, Bool.not_eq_true', Bool.not_eq_false', decide_eq_true_eq, decide_eq_false_iff_not, Int.not_lt, Int.not_le] at *); (try simp only [inK, big, lim, List.length_cons, List.length_nil, List.length_append, List.length_drop, List.length_take, List.length_replicate] at *); omega)) (And.intro True.intro (And.intro (fun k1 => (fin_of rfl ?_)) (fun k1 => (And.intro (by first | kernel_rfl | rfl) (And.intro (fun k2 => (by first | exact ⟨n0, n1, scan_inside n none l (ht.trans (by rw [List.drop_of_length_le (by simpa using k0)]; rfl))⟩ | (intros; (try subst_vars); (try simp only [Bool.cond_true_left, Bool.cond_false_right, Bool.or_eq_true, Bool.or_eq_false_iff, Bool.and_eq_true, Bool.not_eq_true', Bool.not_eq_false', decide_eq_true_eq, decide_eq_false_iff_not, Int.not_lt, Int.not_le] at *); (try simp only [inK, big, lim, List.length_cons, List.length_nil, List.length_append, List.length_drop, List.length_take, List.length_replicate] at *); omega))) (And.intro (fun k3 => (by first | exact ⟨n0, n1, scan_inside n none l (ht.trans (by rw [List.drop_of_length_le (by simpa using k0)]; rfl))⟩ | (intros; (try subst_vars); (try simp only [Bool.cond_true_left, Bool.cond_false_right, Bool.or_eq_true, Bool.or_eq_false_iff, Bool.and_eq_true, Bool.not_eq_true', Bool.not_eq_false', decide_eq_true_eq, decide_eq_false_iff_not, Int.not_lt, Int.not_le] at *); (try simp only [inK, big, lim, List.length_cons, List.length_nil, List.length_append, List.length_drop, List.length_take, List.length_replicate] at *); omega))) (And.intro (fun k4 => True.intro) (And.intro (fun k5 => (fin_of rfl ?_)) (fun k5 => (And.intro (by first | exact ⟨n0, n1, scan_inside n none l (ht.trans (by rw [List.drop_of_length_le (by simpa using k0)]; rfl))⟩ | (intros; (try subst_vars); (try simp only [Bool.cond_true_left, Bool.cond_false_right, Bool.or_eq_true, Bool.or_eq_false_iff, Bool.and_eq_true, Bool.not_eq_true', Bool.not_eq_false', decide_eq_true_eq, decide_eq_false_iff_not, Int.not_lt, Int.not_le] at *); (try simp only [inK, big, lim, List.length_cons, List.length_nil, List.length_append, List.length_drop, List.length_take, List.length_replicate] at *); omega)) ?_)))))))))))) (fun k0 => (And.intro True.intro (And.intro (fun k6 => (fin_of rfl ?_)) (fun k6 => (And.intro (by first | exact ⟨n0, n1, scan_inside n none l (ht.trans (by rw [List.drop_of_length_le (by simpa using k0)]; rfl))⟩ | (intros; (try subst_vars); (try simp only [Bool.cond_true_left, Bool.cond_false_right, Bool.or_eq_true, Bool.or_eq_false_iff, Bool.and_eq_true, Bool.not_eq_true', Bool.not_eq_false', decide_eq_true_eq, decide_eq_false_iff_not, Int.not_lt, Int.not_le] at *); (try simp only [inK, big, lim, List.length_cons, List.length_nil, List.length_append, List.length_drop, List.length_take, List.length_replicate] at *); omega)) (fun (k7 : (Int × List (List Bool)) × PUnit) => (fun k8 => (fun k9 => ?_)))))))))
  · have hi' : i < l.length := by simpa using k0
    have e : scanE n none l = 2 := by rw [ht, scan_step n hi', if_pos (by simpa using k1)]
    show (checkF n l, ()) = (2, ())
    rw [e0, e]; rfl
  · have hi' : i < l.length := by simpa using k0
    have k1' : outB n (l.getD i (dflt tE)) = false := k1
    have e : scanE n none l = 9 := by
      rw [ht, scan_step n hi', if_neg (by rw [k1']; simp), if_pos]
      rw [badPrev_at]
      exact k5
    show (checkF n l, ()) = (9, ())
    rw [e0, e]; rfl
  · have hi' : i < l.length := by simpa using k0
    have k1' : outB n (l.getD i (dflt tE)) = false := k1
    refine Exists.intro (i + 1) (Exists.intro ([]) (And.intro ?_ (And.intro ?_ (And.intro (by rfl) (And.intro (by rfl) (And.intro True.intro (by rfl)))))))
    · refine ⟨hi', ?_⟩
      rw [ht, scan_step n hi', if_neg (by rw [k1']; simp), if_neg]
      rw [badPrev_at]
      intro h
      rw [show (bif decide (0 < (i : Int)) then decide (0 ≤ cmpE (l.getD ((i : Int) - 1).toNat (dflt tE)) (l.getD i (dflt tE))) else false) = false from k5] at h
      cases h
    · show l.length - (i + 1) < l.length - i
      omega
  · have hi' : ¬ i < l.length := by simpa using k0
    rw [List.drop_of_length_le (by omega)] at ht
    have ht' : scanE n none l = 0 := ht
    have k6' : l.any loopE = true := k6
    show (checkF n l, ()) = (21, ())
    rw [e0, ht', k6']; rfl
  have hi' : ¬ i < l.length := by simpa using k0
  rw [List.drop_of_length_le (by omega)] at ht
  have ht' : scanE n none l = 0 := ht
  have k6' : l.any loopE = false := k6
  have hin := scan_inside n none l ht'
  rw [ht', k6', if_neg (by simp), if_neg (by simp)] at e0
  have ek : k7 = ((n, matF n l), ()) := k8
  subst ek
  have hsq := sq_mat hin
  refine ex4 _ (fun j : Nat => ⟨[.any, .sl tE l, .any, .any, .any, .any, .any, .any, .ptr 0 0, .any, .any, .any, .any, .any, .any, .any, .any, .any, .any, .any, .any, .any, .any, .any, .any, .any, .any, .any, .any, .any, .any, .any, .any, .any, .any, .any, .any, .any, .any, .any, .any, .any, .any, .any, .any, .any, .any, .sl tE l, .int .i64 (↑l.length : Int), .int .i64 (j : Int), .any, .any, .any, .any, .any, .any, .any, .any, .any, .any, .any, .any, .any, .any, .any, .any, .any, .any, .any, .any, .any, .any, .any, .any, .any, .any, .any, .any, .any, .any], [.cells [.int .i64 n, .sl tBs (matF n l)]], 1⟩) (fun j => j ≤ l.length ∧ (l.take j).any (openE n.toNat (matF n l)) = false) (fun j => l.length - j) (And.intro (Exists.intro (0) (Exists.intro ([some 0]) (And.intro ?_ (And.intro (by rfl) (And.intro (by rfl) (And.intro (And.intro (And.intro (by rfl) (by rfl)) True.intro) (by rfl))))))) ?_)
  · simp
  rintro j ⟨hj, hu⟩
  have idx : j < l.length → (0 ≤ (l.getD j (dflt tE)).2 ∧ (l.getD j (dflt tE)).2 < ((matF n l).length : Int)) ∧ (0 ≤ (l.getD j (dflt tE)).1 ∧ (l.getD j (dflt tE)).1 < ((matF n l).length : Int)) := fun h => by
    have := inside_get hin h
    have e := hsq.1
    omega
  refine (And.intro (fun m0 => (And.intro (by first | exact (idx (by simpa using m0)).1 | exact (idx (by simpa using m0)).2 | (intros; (try subst_vars); (try simp only [Bool.cond_true_left, Bool.cond_false_right, Bool.or_eq_true, Bool.or_eq_false_iff, Bool.and_eq_true, Bool.not_eq_true', Bool.not_eq_false', decide_eq_true_eq, decide_eq_false_iff_not, Int.not_lt, Int.not_le] at *); (try simp only [inK, big, lim, List.length_cons, List.length_nil, List.length_append, List.length_drop, List.length_take, List.length_replicate] at *); omega)) (And.intro (by first | exact (idx (by simpa using m0)).1 | exact (idx (by simpa using m0)).2 | (intros; (try subst_vars); (try simp only [Bool.cond_true_left, Bool.cond_false_right, Bool.or_eq_true, Bool.or_eq_false_iff, Bool.and_eq_true, Bool.not_eq_true', Bool.not_eq_false', decide_eq_true_eq, decide_eq_false_iff_not, Int.not_lt, Int.not_le] at *); (try simp only [inK, big, lim, List.length_cons, List.length_nil, List.length_append, List.length_drop, List.length_take, List.length_replicate] at *); omega)) (fun m1 => ?_)))) (fun m0 => (fin_of rfl ?_)))
  · have hj' : j < l.length := by simpa using m0
    have hp := inside_get hin hj'
    have l1 := sq_row hsq (i := (l.getD j (dflt tE)).1.toNat) (by omega)
    have l2 := sq_row hsq (i := (l.getD j (dflt tE)).2.toNat) (by omega)
    refine ex4 _ (fun c : Nat => ⟨[.any, .sl tE l, .any, .any, .any, .any, .any, .any, .ptr 0 0, .any, .ptr 1 0, .any, .any, .any, .any, .any, .any, .any, .any, .any, .any, .any, .any, .any, .any, .any, .any, .any, .any, .any, .any, .any, .any, .any, .any, .any, .any, .any, .any, .any, .any, .any, .any, .any, .any, .any, .any, .sl tE l, .int .i64 (↑l.length : Int), .int .i64 (↑j : Int), .bool (decide ((↑j : Int) < (↑l.length : Int))), .eptr   [PV.int .i64 (l.getD (↑j : Int).toNat (dflt tE)).1, PV.int .i64 (l.getD (↑j : Int).toNat (dflt tE)).2], .agg   [.int .i64 (l.getD (↑j : Int).toNat (dflt tE)).1, .int .i64 (l.getD (↑j : Int).toNat (dflt tE)).2], .ptr 0 1, .sl tBs (matF n l), .ptr 1 1, .int .i64 (l.getD (↑j : Int).toNat (dflt tE)).2, .eptr [PV.sl .bool (List.getD (matF n l) (Int.toNat (l.getD (↑j : Int).toNat (dflt tE)).2) (dflt tBs))], .sl .bool (List.getD (matF n l) (Int.toNat (l.getD (↑j : Int).toNat (dflt tE)).2) (dflt tBs)), .int .i64   (↑(List.length (List.getD (matF n l) (Int.toNat (l.getD (↑j : Int).toNat (dflt tE)).2) (dflt tBs))) : Int), .int .i64 (c : Int), .any, .any, .any, .any, .any, .any, .any, .any, .any, .any, .any, .any, .any, .any, .any, .any, .any, .any, .any], [.cells [.int .i64 n, .sl tBs (matF n l)], .cells   [.int .i64 (l.getD (↑j : Int).toNat (dflt tE)).1, .int .i64 (l.getD (↑j : Int).toNat (dflt tE)).2]], 2⟩) (fun c => c ≤ n.toNat ∧ (List.range c).any (fun c => ((matF n l).getD (l.getD j (dflt tE)).2.toNat []).getD c false && !((matF n l).getD (l.getD j (dflt tE)).1.toNat []).getD c false) = false) (fun c => n.toNat - c) (And.intro (Exists.intro (0) (Exists.intro ([some 0, some 1]) (And.intro ?_ (And.intro (by rfl) (And.intro (by rfl) (And.intro (And.intro (And.intro (by rfl) (by rfl)) (And.intro (And.intro (by rfl) (by rfl)) True.intro)) (by rfl))))))) ?_)
    · simp
    rintro c ⟨hc, hv⟩
    have clt : decide ((c : Int) < (((matF n l).getD (l.getD j (dflt tE)).2.toNat []).length : Int)) = true → c < n.toNat := fun h => by
      have := of_decide_eq_true h
      rw [l2] at this
      omega
    have cge : decide ((c : Int) < (((matF n l).getD (l.getD j (dflt tE)).2.toNat []).length : Int)) = false → ¬ c < n.toNat := fun h => by
      have := of_decide_eq_false h
      rw [l2] at this
      omega
    have nb : c < n.toNat → 0 ≤ (c : Int) ∧ (c : Int) < (((matF n l).getD (l.getD j (dflt tE)).1.toNat []).length : Int) := fun h => by
      rw [l1]
      omega
    refine (And.intro (fun q0 => (And.intro (by first | exact (idx hj').2 | exact nb (clt q0) | (intros; (try subst_vars); (try simp only [Bool.cond_true_left, Bool.cond_false_right, Bool.or_eq_true, Bool.or_eq_false_iff, Bool.and_eq_true, Bool.not_eq_true', Bool.not_eq_false', decide_eq_true_eq, decide_eq_false_iff_not, Int.not_lt, Int.not_le] at *); (try simp only [inK, big, lim, List.length_cons, List.length_nil, List.length_append, List.length_drop, List.length_take, List.length_replicate] at *); omega)) (And.intro (fun q1 => (by first | exact (idx hj').2 | exact nb (clt q0) | (intros; (try subst_vars); (try simp only [Bool.cond_true_left, Bool.cond_false_right, Bool.or_eq_true, Bool.or_eq_false_iff, Bool.and_eq_true, Bool.not_eq_true', Bool.not_eq_false', decide_eq_true_eq, decide_eq_false_iff_not, Int.not_lt, Int.not_le] at *); (try simp only [inK, big, lim, List.length_cons, List.length_nil, List.length_append, List.length_drop, List.length_take, List.length_replicate] at *); omega))) (And.intro (fun q2 => (by first | exact (idx hj').2 | exact nb (clt q0) | (intros; (try subst_vars); (try simp only [Bool.cond_true_left, Bool.cond_false_right, Bool.or_eq_true, Bool.or_eq_false_iff, Bool.and_eq_true, Bool.not_eq_true', Bool.not_eq_false', decide_eq_true_eq, decide_eq_false_iff_not, Int.not_lt, Int.not_le] at *); (try simp only [inK, big, lim, List.length_cons, List.length_nil, List.length_append, List.length_drop, List.length_take, List.length_replicate] at *); omega))) (And.intro (fun q3 => (fin_of rfl ?_)) (fun q3 => (And.intro (by first | exact (idx hj').2 | exact nb (clt q0) | (intros; (try subst_vars); (try simp only [Bool.cond_true_left, Bool.cond_false_right, Bool.or_eq_true, Bool.or_eq_false_iff, Bool.and_eq_true, Bool.not_eq_true', Bool.not_eq_false', decide_eq_true_eq, decide_eq_false_iff_not, Int.not_lt, Int.not_le] at *); (try simp only [inK, big, lim, List.length_cons, List.length_nil, List.length_append, List.length_drop, List.length_take, List.length_replicate] at *); omega)) ?_))))))) (fun q0 => (And.intro (by first | exact (idx hj').2 | exact nb (clt q0) | (intros; (try subst_vars); (try simp only [Bool.cond_true_left, Bool.cond_false_right, Bool.or_eq_true, Bool.or_eq_false_iff, Bool.and_eq_true, Bool.not_eq_true', Bool.not_eq_false', decide_eq_true_eq, decide_eq_false_iff_not, Int.not_lt, Int.not_le] at *); (try simp only [inK, big, lim, List.length_cons, List.length_nil, List.length_append, List.length_drop, List.length_take, List.length_replicate] at *); omega)) ?_)))
    · have hc' := clt q0
      have e : openE n.toNat (matF n l) (l.getD j (dflt tE)) = true := range_hit hc' (by simpa [Bool.cond_eq_ite] using q3)
      have e2 : l.any (openE n.toNat (matF n l)) = true := any_hit (d := dflt tE) hj' e
      show (checkF n l, ()) = (10, ())
      rw [e0, e2]; rfl
    · have hc' := clt q0
      refine Exists.intro (c + 1) (Exists.intro ([some 0, some 1]) (And.intro ?_ (And.intro ?_ (And.intro (by rfl) (And.intro (by rfl) (And.intro (And.intro (And.intro (by rfl) (by rfl)) (And.intro (And.intro (by rfl) (by rfl)) True.intro)) (by rfl)))))))
      · exact ⟨hc', range_next hv (by simpa [Bool.cond_eq_ite] using q3)⟩
      · show n.toNat - (c + 1) < n.toNat - c
        omega
    · have hc' := cge q0
      have e : openE n.toNat (matF n l) (l.getD j (dflt tE)) = false := by
        have : c = n.toNat := by omega
        subst this
        exact hv
      refine Exists.intro (j + 1) (Exists.intro ([some 0]) (And.intro ?_ (And.intro ?_ (And.intro (by rfl) (And.intro (by rfl) (And.intro (And.intro (And.intro (by rfl) (by rfl)) True.intro) (by rfl)))))))
      · exact ⟨hj', any_next (d := dflt tE) hj' hu e⟩
      · show l.length - (j + 1) < l.length - j
        omega
  · have hj' : ¬ j < l.length := by simpa using m0
    rw [List.take_of_length_le (by omega)] at hu
    show (checkF n l, ()) = (0, ())
    rw [e0, hu]; rfl
end Go.Proofs.Ytlaefkhbpnbahaa
/- Partial orders: Generate, as a contract. -/
namespace Go.Proofs.Ytlaefkhbpnbahaa
open Go.Sx

/-- The table of a relation on the first n numbers. -/
def tab (n : Nat) (f : Nat → Nat → Bool) : Mx := (List.range n).map fun i => (List.range n).map (f i)
theorem tab_len (n : Nat) (f : Nat → Nat → Bool) : (tab n f).length = n := by simp [tab]
theorem tab_row {n i : Nat} (f : Nat → Nat → Bool) (h : i < n) : (tab n f).getD i [] = (List.range n).map (f i) := by
  simp [tab, List.getD_eq_getElem?_getD, h]
theorem tab_rlen {n i : Nat} (f : Nat → Nat → Bool) (h : i < n) : ((tab n f).getD i []).length = n := by rw [tab_row f h]; simp
theorem tab_at {n i j : Nat} (f : Nat → Nat → Bool) (h : i < n) (h' : j < n) : ((tab n f).getD i []).getD j false = f i j := by
  rw [tab_row f h]; simp [List.getD_eq_getElem?_getD, h']
theorem tab_congr {n : Nat} {f g : Nat → Nat → Bool} (h : ∀ i j, i < n → j < n → f i j = g i j) : tab n f = tab n g := by
  unfold tab
  refine List.map_congr_left fun i hi => List.map_congr_left fun j hj => h i j (List.mem_range.1 hi) (List.mem_range.1 hj)
theorem set_range {α : Type} (n i : Nat) (f : Nat → α) (v : α) : ((List.range n).map f).set i v = (List.range n).map fun a => if a = i then v else f a := by
  refine List.ext_getElem (by simp) fun a h1 h2 => ?_
  simp only [List.length_set, List.length_map, List.length_range] at h1
  by_cases h : a = i
  · subst h; simp
  · rw [List.getElem_set_ne (Ne.symm h)]; simp [h]
theorem tab_set {n i j : Nat} (f : Nat → Nat → Bool) (v : Bool) (h : i < n) : (tab n f).set i (((tab n f).getD i []).set j v) = tab n fun a b => if a = i ∧ b = j then v else f a b := by
  rw [tab_row f h, set_range, tab, set_range, tab]
  refine List.map_congr_left fun a ha => ?_
  by_cases hai : a = i
  · subst hai; simp
  · simp [hai]
def inL (l : List Ed) (i j : Nat) : Bool := l.any fun p => decide (p.1 = (i : Int)) && decide (p.2 = (j : Int))
theorem fold_tab {n : Nat} : ∀ (l : List Ed) (f : Nat → Nat → Bool), insideAll n l → l.foldl setP (tab n f) = tab n fun i j => f i j || inL l i j
  | [], f, _ => by simp [inL]
  | p :: l, f, hl => by
    have hp := out_false (hl p (by simp))
    rw [List.foldl_cons, setP, tab_set f true (by omega), fold_tab l _ fun q hq => hl q (by simp [hq])]
    refine tab_congr fun i j hi hj => ?_
    have e : (decide (p.1 = (i : Int)) && decide (p.2 = (j : Int))) = decide (i = p.1.toNat ∧ j = p.2.toNat) := by
      rw [← Bool.decide_and]
      refine decide_eq_decide.2 ?_
      constructor <;> rintro ⟨h1, h2⟩ <;> constructor <;> omega
    simp only [inL, List.any_cons, e]
    by_cases h : i = p.1.toNat ∧ j = p.2.toNat
    · simp [h]
    · simp [h]
theorem zero_tab (n : Nat) : zeroM n = tab n fun _ _ => false := by
  simp [zeroM, tab, List.map_const']
/-- The matrix of pairs, as a table. -/
theorem mat_tab {n : Int} {l : List Ed} (h0 : 0 ≤ n) (hl : insideAll n l) : matF n l = tab n.toNat (inL l) := by
  rw [matF, zero_tab, fold_tab l _ (by rw [Int.toNat_of_nonneg h0]; exact hl)]
  simp

def warsh (k : Nat) (f : Nat → Nat → Bool) (i j : Nat) : Bool := f i j || (f i k && f k j)
def closeK (f : Nat → Nat → Bool) : Nat → Nat → Nat → Bool
  | 0 => f
  | k + 1 => warsh k (closeK f k)
def midI (f : Nat → Nat → Bool) (k i a b : Nat) : Bool := if a < i then warsh k f a b else f a b
def inJ (f : Nat → Nat → Bool) (k i j a b : Nat) : Bool := if a < i then warsh k f a b else if a = i ∧ b < j then f a b || f k b else f a b
/-- The pairs of a relation, in ascending order. -/
def pairsF (n : Nat) (f : Nat → Nat → Bool) : List Ed := (List.range n).flatMap fun i => ((List.range n).filter (f i)).map fun (j : Nat) => ((i : Int), (j : Int))
def rowP (n : Nat) (f : Nat → Nat → Bool) (i j : Nat) : List Ed := ((List.range j).filter (f i)).map fun (b : Nat) => ((i : Int), (b : Int))
def accI (n : Nat) (f : Nat → Nat → Bool) (i : Nat) : List Ed := (List.range i).flatMap fun a => rowP n f a n
theorem acc_next (n : Nat) (f : Nat → Nat → Bool) (i : Nat) : accI n f (i + 1) = accI n f i ++ rowP n f i n := by
  simp [accI, List.range_succ]
theorem row_next (n : Nat) (f : Nat → Nat → Bool) (i j : Nat) : rowP n f i (j + 1) = rowP n f i j ++ (if f i j = true then [((i : Int), (j : Int))] else []) := by
  simp only [rowP, List.range_succ, List.filter_append, List.map_append, List.filter_cons, List.filter_nil]
  split <;> rfl
theorem row_len (n : Nat) (f : Nat → Nat → Bool) (i j : Nat) : (rowP n f i j).length ≤ j := by
  have := List.length_filter_le (f i) (List.range j)
  simpa [rowP] using this
theorem acc_len (n : Nat) (f : Nat → Nat → Bool) : ∀ i, (accI n f i).length ≤ i * n
  | 0 => by simp [accI]
  | i + 1 => by
    have h1 := acc_len n f i
    have h2 := row_len n f i n
    rw [acc_next, List.length_append, Nat.add_mul]
    omega
theorem acc_pairs (n : Nat) (f : Nat → Nat → Bool) : accI n f n = pairsF n f := rfl
theorem acc_row_len {n : Nat} (f : Nat → Nat → Bool) {i j : Nat} (h : n ≤ 200) (hi : i ≤ n) (hj : j ≤ n) : (accI n f i ++ rowP n f i j).length ≤ 40200 := by
  have h1 := acc_len n f i
  have h2 := row_len n f i j
  have h3 := Nat.mul_le_mul (Nat.le_trans hi h) h
  rw [List.length_append]
  omega
def genF (n : Int) (l : List Ed) : List Ed × Int :=
  if sizesF n l ≠ 0 then ([], sizesF n l) else if l.any (outB n) = true then ([], 2)
  else if (List.range n.toNat).any (fun i => closeK (inL l) n.toNat i i) = true then ([], 21)
  else if 2000 < ((pairsF n.toNat (closeK (inL l) n.toNat)).length : Int) then ([], 4) else (pairsF n.toNat (closeK (inL l) n.toNat), 0)

def cxG : Ctx := ⟨tysM, [(44, ([], c44)), (45, ([], c45))]⟩
theorem cxG_good : GoodCtx Try.prog cxG := cx_cons good44 (cx_cons good45 cxM_good)
@[reducible] def rEsI : List (Bool × Ty) := [(false, tEs), (false, tI)]
def c17 : Ctr := fnC [dI, dEs] rEsI (fun _ => True) (fun y => ((genF y.1 y.2.1).1, (genF y.1 y.2.1).2, ()))
set_option maxHeartbeats 4000000 in
theorem good17 : GoodC Try.prog 17 c17 := by
  refine goodF cxG_good 9 _ _ _ _ ⟨_, Try.func17, rfl, rfl⟩ fun (⟨n, l, _⟩ : Int × List Ed × Unit) _ => ?_
  have mkn : ∀ m : Int, sizesF n l = 0 → 0 ≤ n ∧ n ≤ n ∧ n * ((24 : Nat) : Int) ≤ (lim : Int) ∧ n ≤ (lim : Int) := fun _ h => by
    have := sizes_ok h
    simp only [lim]
    omega
  refine (And.intro (by first | kernel_rfl | rfl) (And.intro True.intro (And.intro (fun h0 => (fin_of rfl ?_)) (fun h0 => (And.intro True.intro (And.intro (fun h1 => (fin_of rfl ?_)) (fun h1 => (And.intro (by first | kernel_rfl | rfl) (And.intro (by first | exact mkn 0 (by simpa using h0) | (intros; (try subst_vars); (try simp only [Bool.cond_true_left, Bool.cond_false_right, Bool.or_eq_true, Bool.or_eq_false_iff, Bool.and_eq_true, Bool.not_eq_true', Bool.not_eq_false', decide_eq_true_eq, decide_eq_false_iff_not, Int.not_lt, Int.not_le] at *); (try simp only [inK, big, lim, List.length_cons, List.length_nil, List.length_append, List.length_drop, List.length_take, List.length_replicate] at *); omega)) (fun h2 => ?_))))))))))
  · have h0' : sizesF n l ≠ 0 := by simpa using h0
    show ((genF n l).1, (genF n l).2, ()) = ([], sizesF n l, ())
    rw [genF, if_pos h0']
  · have h0' : sizesF n l = 0 := by simpa using h0
    have h1' : l.any (outB n) = true := h1
    show ((genF n l).1, (genF n l).2, ()) = ([], 2, ())
    rw [genF, if_neg (by simp [h0']), if_pos h1']
  have h0' : sizesF n l = 0 := by simpa using h0
  have h1' : l.any (outB n) = false := h1
  have eg : genF n l = if (List.range n.toNat).any (fun i => closeK (inL l) n.toNat i i) = true then ([], 21)
      else if 2000 < ((pairsF n.toNat (closeK (inL l) n.toNat)).length : Int) then ([], 4) else (pairsF n.toNat (closeK (inL l) n.toNat), 0) := by
    rw [genF, if_neg (by simp [h0']), if_neg (by simp [h1'])]
  obtain ⟨n0, n1, n2⟩ := sizes_ok h0'
  have hl : insideAll n l := fun p hp => by
    have := List.any_eq_false.1 h1' p hp
    simpa using this
  have nz : ((n.toNat : Nat) : Int) = n := Int.toNat_of_nonneg n0
  have need : 0 ≤ n ∧ n ≤ n ∧ n * ((1 : Nat) : Int) ≤ (lim : Int) ∧ n ≤ (lim : Int) := by simp only [lim]; omega
  refine ex4 _ (fun i : Nat => ⟨[.int .i64 n, .sl tE l, .any, .any, .ptr 1 0, .ptr 3 0, .any, .any, .any, .int .i64 n, .any, .any, .any, .ptr 3 1, .own 2, .int .i64 ((0 + n.toNat : Nat) : Int), .int .i64 (i : Int), .any, .any, .any, .any, .any, .any, .any, .any, .any, .any, .any, .any, .any, .any, .any, .any, .any, .any, .any, .any, .any, .any, .any, .any, .any, .any], [.cells [.int .i64 n], .cells [.int .i64 0, .cap0], .grid .bool (n.toNat - i) (part n.toNat i), .cells [.int .i64 n, .own 2]], 4⟩) (fun i => i ≤ n.toNat) (fun i => n.toNat - i) (And.intro (Exists.intro (0) (Exists.intro ([some 0, some 1, some 2, some 3]) (And.intro ?_ (And.intro (by rfl) (And.intro (by rfl) (And.intro (And.intro (And.intro (by rfl) (by rfl)) (And.intro (And.intro (by rfl) (by rfl)) (And.intro (by rfl) (And.intro (And.intro (by rfl) (by rfl)) True.intro)))) (by rfl))))))) ?_)
  · exact Nat.zero_le _
  rintro i hi
  refine (And.intro (fun k0 => (And.intro (by first | kernel_rfl | rfl) (And.intro (by first | exact need | (intros; (try subst_vars); (try simp only [Bool.cond_true_left, Bool.cond_false_right, Bool.or_eq_true, Bool.or_eq_false_iff, Bool.and_eq_true, Bool.not_eq_true', Bool.not_eq_false', decide_eq_true_eq, decide_eq_false_iff_not, Int.not_lt, Int.not_le] at *); (try simp only [inK, big, lim, List.length_cons, List.length_nil, List.length_append, List.length_drop, List.length_take, List.length_replicate] at *); omega)) (And.intro ?_ (And.intro ?_ (And.intro (by first | exact need | (intros; (try subst_vars); (try simp only [Bool.cond_true_left, Bool.cond_false_right, Bool.or_eq_true, Bool.or_eq_false_iff, Bool.and_eq_true, Bool.not_eq_true', Bool.not_eq_false', decide_eq_true_eq, decide_eq_false_iff_not, Int.not_lt, Int.not_le] at *); (try simp only [inK, big, lim, List.length_cons, List.length_nil, List.length_append, List.length_drop, List.length_take, List.length_replicate] at *); omega)) ?_)))))) (fun k0 => (fun k1 => ?_)))
  · rw [part_len]
    have := of_decide_eq_true k0
    omega
  · rw [part_len]
    have := of_decide_eq_true k0
    exact ⟨by omega, by omega⟩
  · have hi' : i < n.toNat := by have := of_decide_eq_true k0; omega
    refine Exists.intro (i + 1) (Exists.intro ([some 0, some 1, some 2, some 3]) (And.intro ?_ (And.intro ?_ (And.intro (by rfl) (And.intro (by rfl) (And.intro (And.intro (And.intro (by rfl) (by rfl)) (And.intro (And.intro (by rfl) (by rfl)) (And.intro ?_ (And.intro (And.intro (by rfl) (by rfl)) True.intro)))) (by rfl)))))))
    · exact hi'
    · show n.toNat - (i + 1) < n.toNat - i
      omega
    · show Ob.grid .bool (n.toNat - i - 1) (part n.toNat i ++ [List.replicate n.toNat false]) = Ob.grid .bool (n.toNat - (i + 1)) (part n.toNat (i + 1))
      rw [part_succ]; rfl
  have e : i = n.toNat := by have := of_decide_eq_false k0; omega
  subst e
  refine ex4 _ (fun j : Nat => ⟨[.any, .sl tE l, .any, .any, .ptr 1 0, .ptr 3 0, .any, .any, .any, .int .i64 n, .any, .any, .any, .any, .any, .any, .any, .any, .any, .any, .any, .any, .any, .any, .any, .any, .sl tE l, .int .i64 (↑l.length : Int), .int .i64 (j : Int), .any, .any, .any, .any, .any, .any, .any, .any, .any, .any, .any, .any, .any, .any], [.cells [.int .i64 n], .cells [.int .i64 0, .cap0], .grid .bool (n.toNat - n.toNat) ((l.take j).foldl setP (part n.toNat n.toNat)), .cells [.int .i64 n, .own 2]], 4⟩) (fun j => j ≤ l.length) (fun j => l.length - j) (And.intro (Exists.intro (0) (Exists.intro ([some 0, some 1, some 2, some 3]) (And.intro ?_ (And.intro (by rfl) (And.intro (by rfl) (And.intro (And.intro (And.intro (by rfl) (by rfl)) (And.intro (And.intro (by rfl) (by rfl)) (And.intro (by rfl) (And.intro (And.intro (by rfl) (by rfl)) True.intro)))) (by rfl))))))) ?_)
  · exact Nat.zero_le _
  rintro j hj
  have hsq : sq n.toNat ((l.take j).foldl setP (part n.toNat n.toNat)) := sq_fold _ _ (inside_take hl j) (sq_zero _)
  refine (And.intro (fun m0 => (And.intro (by intros; (try subst_vars); (try simp only [Bool.cond_true_left, Bool.cond_false_right, Bool.or_eq_true, Bool.or_eq_false_iff, Bool.and_eq_true, Bool.not_eq_true', Bool.not_eq_false', decide_eq_true_eq, decide_eq_false_iff_not, Int.not_lt, Int.not_le] at *); (try simp only [inK, big, lim, List.length_cons, List.length_nil, List.length_append, List.length_drop, List.length_take, List.length_replicate] at *); omega) (And.intro (by first | kernel_rfl | rfl) (And.intro ?_ (And.intro ?_ (And.intro ?_ (And.intro (by intros; (try subst_vars); (try simp only [Bool.cond_true_left, Bool.cond_false_right, Bool.or_eq_true, Bool.or_eq_false_iff, Bool.and_eq_true, Bool.not_eq_true', Bool.not_eq_false', decide_eq_true_eq, decide_eq_false_iff_not, Int.not_lt, Int.not_le] at *); (try simp only [inK, big, lim, List.length_cons, List.length_nil, List.length_append, List.length_drop, List.length_take, List.length_replicate] at *); omega) ?_))))))) (fun m0 => (And.intro (by first | kernel_rfl | rfl) ?_)))
  · have hj' : j < l.length := by have := of_decide_eq_true m0; omega
    have hin := inside_get hl hj'
    rw [hsq.1, Int.toNat_natCast]
    omega
  · have hj' : j < l.length := by have := of_decide_eq_true m0; omega
    have hin := inside_get hl hj'
    rw [hsq.1, Int.toNat_natCast]
    omega
  · have hj' : j < l.length := by have := of_decide_eq_true m0; omega
    have hin := inside_get hl hj'
    rw [hsq.1, Int.toNat_natCast, sq_row hsq (by omega)]
    exact ⟨by omega, hin.2.2.1, by omega⟩
  · have hj' : j < l.length := by have := of_decide_eq_true m0; omega
    refine Exists.intro (j + 1) (Exists.intro ([some 0, some 1, some 2, some 3]) (And.intro ?_ (And.intro ?_ (And.intro (by rfl) (And.intro (by rfl) (And.intro (And.intro (And.intro (by rfl) (by rfl)) (And.intro (And.intro (by rfl) (by rfl)) (And.intro ?_ (And.intro (And.intro (by rfl) (by rfl)) True.intro)))) (by rfl)))))))
    · exact hj'
    · show l.length - (j + 1) < l.length - j
      omega
    · rw [take_fold hj']; rfl
  have hj' : ¬ j < l.length := by have := of_decide_eq_false m0; omega
  have em : (l.take j).foldl setP (part n.toNat n.toNat) = tab n.toNat (closeK (inL l) 0) := by
    rw [List.take_of_length_le (by omega)]; exact mat_tab n0 hl
  have ez : n.toNat - n.toNat = 0 := Nat.sub_self _
  rw [em, ez]
  refine ?_
  refine ex4 _ (fun k : Nat => ⟨[.any, .ptr 5 0, .any, .any, .any, .any, .any, .int .i64 n, .int .i64 (k : Int), .any, .any, .any, .any, .any, .any, .any, .any, .any, .any, .any, .any, .any, .any, .any, .any, .any, .any, .any, .any, .any, .any, .any, .any, .any, .any, .any, .any, .any, .any, .any, .any, .any, .any, .any, .any, .any, .any, .any, .any, .any, .any, .any, .any, .any, .any, .any, .any], [.cells [.int .i64 n], .cells [.int .i64 n, .own 2], .grid .bool 0 (tab n.toNat (closeK (inL l) k)), .cells [.int .i64 n, .own 2], .cells [.int .i64 n, .own 2], .cells [.int .i64 n, .own 2]], 6⟩) (fun k => k ≤ n.toNat) (fun k => n.toNat - k) (And.intro (Exists.intro (0) (Exists.intro ([some 0, some 1, some 2, some 3, some 4, some 5]) (And.intro ?_ (And.intro (by rfl) (And.intro (by rfl) (And.intro (And.intro (And.intro (by rfl) (by rfl)) (And.intro (And.intro (by rfl) (by rfl)) (And.intro (by rfl) (And.intro (And.intro (by rfl) (by rfl)) (And.intro (And.intro (by rfl) (by rfl)) (And.intro (And.intro (by rfl) (by rfl)) True.intro)))))) (by rfl))))))) ?_)
  · exact Nat.zero_le _
  rintro k hk
  refine (And.intro (fun b0 => ?_) (fun b0 => ?_))
  · have hk' : k < n.toNat := by have := of_decide_eq_true b0; omega
    refine ex4 _ (fun i : Nat => ⟨[.any, .ptr 5 0, .int .i64 (↑k : Int), .any, .any, .any, .any, .int .i64 n, .int .i64 (↑k : Int), .bool (decide ((↑k : Int) < n)), .int .i64 (↑k : Int), .ptr 5 0, .int .i64 n, .int .i64 (i : Int), .any, .any, .any, .any, .any, .any, .any, .any, .any, .any, .any, .any, .any, .any, .any, .any, .any, .any, .any, .any, .any, .any, .any, .any, .any, .any, .any, .any, .any, .any, .any, .any, .any, .any, .any, .any, .any, .any, .any, .any, .any, .any, .any], [.cells [.int .i64 n], .cells [.int .i64 n, .own 2], .grid .bool 0 (tab n.toNat (midI (closeK (inL l) k) k i)), .cells [.int .i64 n, .own 2], .cells [.int .i64 n, .own 2], .cells [.int .i64 n, .own 2]], 6⟩) (fun i => i ≤ n.toNat) (fun i => n.toNat - i) (And.intro (Exists.intro (0) (Exists.intro ([some 0, some 1, some 2, some 3, some 4, some 5]) (And.intro ?_ (And.intro (by rfl) (And.intro (by rfl) (And.intro (And.intro (And.intro (by rfl) (by rfl)) (And.intro (And.intro (by rfl) (by rfl)) (And.intro (by rfl) (And.intro (And.intro (by rfl) (by rfl)) (And.intro (And.intro (by rfl) (by rfl)) (And.intro (And.intro (by rfl) (by rfl)) True.intro)))))) (by rfl))))))) ?_)
    · exact Nat.zero_le _
    rintro i hi2
    have lt : ∀ a : Nat, decide ((a : Int) < n) = true → a < n.toNat := fun a h => by have := of_decide_eq_true h; omega
    have f1 : ∀ (f : Nat → Nat → Bool) (a : Nat), a < n.toNat → 0 ≤ (a : Int) ∧ (a : Int) < (((tab n.toNat f).length + 0 : Nat) : Int) := fun f a h => by rw [tab_len]; omega
    have f2 : ∀ (f : Nat → Nat → Bool) (a : Nat), a < n.toNat → (a : Int).toNat < (tab n.toNat f).length := fun f a h => by rw [tab_len]; omega
    have f3 : ∀ (f : Nat → Nat → Bool) (a b : Nat), a < n.toNat → b < n.toNat → (a : Int).toNat < (tab n.toNat f).length ∧ 0 ≤ (b : Int) ∧ (b : Int) < (((tab n.toNat f).getD (a : Int).toNat []).length : Int) := fun f a b h h' => by
      rw [tab_len, Int.toNat_natCast, tab_rlen f h]; omega
    refine (And.intro (fun c0 => (And.intro (by first | (intros; (try subst_vars); (try simp only [Bool.cond_true_left, Bool.cond_false_right, Bool.or_eq_true, Bool.or_eq_false_iff, Bool.and_eq_true, Bool.not_eq_true', Bool.not_eq_false', decide_eq_true_eq, decide_eq_false_iff_not, Int.not_lt, Int.not_le] at *); (try simp only [inK, big, lim, List.length_cons, List.length_nil, List.length_append, List.length_drop, List.length_take, List.length_replicate] at *); omega) | exact f1 _ _ (lt _ c0) | exact f2 _ _ (lt _ c0) | exact f3 _ _ _ (lt _ c0) hk' | exact f1 _ _ hk' | exact f2 _ _ hk') (And.intro (by first | (intros; (try subst_vars); (try simp only [Bool.cond_true_left, Bool.cond_false_right, Bool.or_eq_true, Bool.or_eq_false_iff, Bool.and_eq_true, Bool.not_eq_true', Bool.not_eq_false', decide_eq_true_eq, decide_eq_false_iff_not, Int.not_lt, Int.not_le] at *); (try simp only [inK, big, lim, List.length_cons, List.length_nil, List.length_append, List.length_drop, List.length_take, List.length_replicate] at *); omega) | exact f1 _ _ (lt _ c0) | exact f2 _ _ (lt _ c0) | exact f3 _ _ _ (lt _ c0) hk' | exact f1 _ _ hk' | exact f2 _ _ hk') (And.intro (by first | (intros; (try subst_vars); (try simp only [Bool.cond_true_left, Bool.cond_false_right, Bool.or_eq_true, Bool.or_eq_false_iff, Bool.and_eq_true, Bool.not_eq_true', Bool.not_eq_false', decide_eq_true_eq, decide_eq_false_iff_not, Int.not_lt, Int.not_le] at *); (try simp only [inK, big, lim, List.length_cons, List.length_nil, List.length_append, List.length_drop, List.length_take, List.length_replicate] at *); omega) | exact f1 _ _ (lt _ c0) | exact f2 _ _ (lt _ c0) | exact f3 _ _ _ (lt _ c0) hk' | exact f1 _ _ hk' | exact f2 _ _ hk') (And.intro (fun c1 => (And.intro (by first | (intros; (try subst_vars); (try simp only [Bool.cond_true_left, Bool.cond_false_right, Bool.or_eq_true, Bool.or_eq_false_iff, Bool.and_eq_true, Bool.not_eq_true', Bool.not_eq_false', decide_eq_true_eq, decide_eq_false_iff_not, Int.not_lt, Int.not_le] at *); (try simp only [inK, big, lim, List.length_cons, List.length_nil, List.length_append, List.length_drop, List.length_take, List.length_replicate] at *); omega) | exact f1 _ _ (lt _ c0) | exact f2 _ _ (lt _ c0) | exact f3 _ _ _ (lt _ c0) hk' | exact f1 _ _ hk' | exact f2 _ _ hk') ?_)) (fun c1 => (And.intro (by first | (intros; (try subst_vars); (try simp only [Bool.cond_true_left, Bool.cond_false_right, Bool.or_eq_true, Bool.or_eq_false_iff, Bool.and_eq_true, Bool.not_eq_true', Bool.not_eq_false', decide_eq_true_eq, decide_eq_false_iff_not, Int.not_lt, Int.not_le] at *); (try simp only [inK, big, lim, List.length_cons, List.length_nil, List.length_append, List.length_drop, List.length_take, List.length_replicate] at *); omega) | exact f1 _ _ (lt _ c0) | exact f2 _ _ (lt _ c0) | exact f3 _ _ _ (lt _ c0) hk' | exact f1 _ _ hk' | exact f2 _ _ hk') (And.intro (by first | (intros; (try subst_vars); (try simp only [Bool.cond_true_left, Bool.cond_false_right, Bool.or_eq_true, Bool.or_eq_false_iff, Bool.and_eq_true, Bool.not_eq_true', Bool.not_eq_false', decide_eq_true_eq, decide_eq_false_iff_not, Int.not_lt, Int.not_le] at *); (try simp only [inK, big, lim, List.length_cons, List.length_nil, List.length_append, List.length_drop, List.length_take, List.length_replicate] at *); omega) | exact f1 _ _ (lt _ c0) | exact f2 _ _ (lt _ c0) | exact f3 _ _ _ (lt _ c0) hk' | exact f1 _ _ hk' | exact f2 _ _ hk') (And.intro (by first | (intros; (try subst_vars); (try simp only [Bool.cond_true_left, Bool.cond_false_right, Bool.or_eq_true, Bool.or_eq_false_iff, Bool.and_eq_true, Bool.not_eq_true', Bool.not_eq_false', decide_eq_true_eq, decide_eq_false_iff_not, Int.not_lt, Int.not_le] at *); (try simp only [inK, big, lim, List.length_cons, List.length_nil, List.length_append, List.length_drop, List.length_take, List.length_replicate] at *); omega) | exact f1 _ _ (lt _ c0) | exact f2 _ _ (lt _ c0) | exact f3 _ _ _ (lt _ c0) hk' | exact f1 _ _ hk' | exact f2 _ _ hk') (fun c2 => ?_)))))))))) (fun c0 => (And.intro (by first | (intros; (try subst_vars); (try simp only [Bool.cond_true_left, Bool.cond_false_right, Bool.or_eq_true, Bool.or_eq_false_iff, Bool.and_eq_true, Bool.not_eq_true', Bool.not_eq_false', decide_eq_true_eq, decide_eq_false_iff_not, Int.not_lt, Int.not_le] at *); (try simp only [inK, big, lim, List.length_cons, List.length_nil, List.length_append, List.length_drop, List.length_take, List.length_replicate] at *); omega) | exact f1 _ _ (lt _ c0) | exact f2 _ _ (lt _ c0) | exact f3 _ _ _ (lt _ c0) hk' | exact f1 _ _ hk' | exact f2 _ _ hk') ?_)))
    · have hi' := lt _ c0
      have c1' : midI (closeK (inL l) k) k i i k = false := by
        rw [← tab_at (n := n.toNat) (midI (closeK (inL l) k) k i) hi' hk']
        simpa using c1
      refine Exists.intro (i + 1) (Exists.intro ([some 0, some 1, some 2, some 3, some 4, some 5]) (And.intro ?_ (And.intro ?_ (And.intro (by rfl) (And.intro (by rfl) (And.intro (And.intro (And.intro (by rfl) (by rfl)) (And.intro (And.intro (by rfl) (by rfl)) (And.intro ?_ (And.intro (And.intro (by rfl) (by rfl)) (And.intro (And.intro (by rfl) (by rfl)) (And.intro (And.intro (by rfl) (by rfl)) True.intro)))))) (by rfl)))))))
      · exact hi'
      · show n.toNat - (i + 1) < n.toNat - i
        omega
      · refine congrArg (Ob.grid .bool 0) (tab_congr fun a b ha hb => ?_)
        have c2 : closeK (inL l) k i k = false := by simpa [midI] using c1'
        unfold midI
        by_cases h1 : a < i
        · rw [if_pos h1, if_pos (by omega)]
        · rw [if_neg h1]
          by_cases h2 : a = i
          · subst h2; rw [if_pos (by omega)]; simp [warsh, c2]
          · rw [if_neg (by omega)]
    · have hi' := lt _ c0
      have c2 : closeK (inL l) k i k = true := by
        have c1' : midI (closeK (inL l) k) k i i k = true := by
          rw [← tab_at (n := n.toNat) (midI (closeK (inL l) k) k i) hi' hk']
          simpa using c1
        simpa [midI] using c1'
      refine ex4 _ (fun j : Nat => ⟨[.any, .ptr 5 0, .int .i64 (↑k : Int), .int .i64 (↑i : Int), .any, .any, .any, .int .i64 n, .int .i64 (↑k : Int), .bool (decide ((↑k : Int) < n)), .int .i64 (↑k : Int), .ptr 5 0, .int .i64 n, .int .i64 (↑i : Int), .bool (decide ((↑i : Int) < n)), .int .i64 (↑i : Int), .ptr 5 1, .own 2, .int .i64 (↑i : Int), .rptr 2 1 (↑i : Int).toNat 0, .grow 2 (↑i : Int).toNat, .int .i64 (↑k : Int), .gptr 2 (↑i : Int).toNat (↑k : Int).toNat, .bool   ((List.getD (tab n.toNat (midI (closeK (inL l) k) k i)) (↑i : Int).toNat []).getD (↑k : Int).toNat (dflt .bool)), .bool   !(List.getD (tab n.toNat (midI (closeK (inL l) k) k i)) (↑i : Int).toNat []).getD (↑k : Int).toNat (dflt .bool), .ptr 5 1, .own 2, .int .i64 (↑k : Int), .rptr 2 1 (↑k : Int).toNat 0, .grow 2 (↑k : Int).toNat, .int .i64 (↑(List.getD (tab n.toNat (midI (closeK (inL l) k) k i)) (↑k : Int).toNat []).length : Int), .int .i64 (j : Int), .any, .any, .any, .any, .any, .any, .any, .any, .any, .any, .any, .any, .any, .any, .any, .any, .any, .any, .any, .any, .any, .any, .any, .any, .any], [.cells [.int .i64 n], .cells [.int .i64 n, .own 2], .grid .bool 0 (tab n.toNat (inJ (closeK (inL l) k) k i j)), .cells [.int .i64 n, .own 2], .cells [.int .i64 n, .own 2], .cells [.int .i64 n, .own 2]], 6⟩) (fun j => j ≤ n.toNat) (fun j => n.toNat - j) (And.intro (Exists.intro (0) (Exists.intro ([some 0, some 1, some 2, some 3, some 4, some 5]) (And.intro ?_ (And.intro (by rfl) (And.intro (by rfl) (And.intro (And.intro (And.intro (by rfl) (by rfl)) (And.intro (And.intro (by rfl) (by rfl)) (And.intro ?_ (And.intro (And.intro (by rfl) (by rfl)) (And.intro (And.intro (by rfl) (by rfl)) (And.intro (And.intro (by rfl) (by rfl)) True.intro)))))) (by rfl))))))) ?_)
      · exact Nat.zero_le _
      · exact congrArg (Ob.grid .bool 0) (tab_congr fun a b ha hb => by simp [midI, inJ])
      rintro j hj
      have ltd : decide ((j : Int) < (((tab n.toNat (midI (closeK (inL l) k) k i)).getD (k : Int).toNat []).length : Int)) = true → j < n.toNat := fun h => by
        have := of_decide_eq_true h
        rw [Int.toNat_natCast, tab_rlen _ hk'] at this
        omega
      have ged : decide ((j : Int) < (((tab n.toNat (midI (closeK (inL l) k) k i)).getD (k : Int).toNat []).length : Int)) = false → j = n.toNat := fun h => by
        have := of_decide_eq_false h
        rw [Int.toNat_natCast, tab_rlen _ hk'] at this
        omega
      refine (And.intro (fun d0 => (And.intro (by first | (intros; (try subst_vars); (try simp only [Bool.cond_true_left, Bool.cond_false_right, Bool.or_eq_true, Bool.or_eq_false_iff, Bool.and_eq_true, Bool.not_eq_true', Bool.not_eq_false', decide_eq_true_eq, decide_eq_false_iff_not, Int.not_lt, Int.not_le] at *); (try simp only [inK, big, lim, List.length_cons, List.length_nil, List.length_append, List.length_drop, List.length_take, List.length_replicate] at *); omega) | exact f1 _ _ hi' | exact f2 _ _ hi' | exact f3 _ _ _ hk' (ltd d0) | exact f3 _ _ _ hi' (ltd d0)) (And.intro (by first | kernel_rfl | rfl) (And.intro (by first | (intros; (try subst_vars); (try simp only [Bool.cond_true_left, Bool.cond_false_right, Bool.or_eq_true, Bool.or_eq_false_iff, Bool.and_eq_true, Bool.not_eq_true', Bool.not_eq_false', decide_eq_true_eq, decide_eq_false_iff_not, Int.not_lt, Int.not_le] at *); (try simp only [inK, big, lim, List.length_cons, List.length_nil, List.length_append, List.length_drop, List.length_take, List.length_replicate] at *); omega) | exact f1 _ _ hi' | exact f2 _ _ hi' | exact f3 _ _ _ hk' (ltd d0) | exact f3 _ _ _ hi' (ltd d0)) (And.intro (by first | (intros; (try subst_vars); (try simp only [Bool.cond_true_left, Bool.cond_false_right, Bool.or_eq_true, Bool.or_eq_false_iff, Bool.and_eq_true, Bool.not_eq_true', Bool.not_eq_false', decide_eq_true_eq, decide_eq_false_iff_not, Int.not_lt, Int.not_le] at *); (try simp only [inK, big, lim, List.length_cons, List.length_nil, List.length_append, List.length_drop, List.length_take, List.length_replicate] at *); omega) | exact f1 _ _ hi' | exact f2 _ _ hi' | exact f3 _ _ _ hk' (ltd d0) | exact f3 _ _ _ hi' (ltd d0)) (And.intro (by first | (intros; (try subst_vars); (try simp only [Bool.cond_true_left, Bool.cond_false_right, Bool.or_eq_true, Bool.or_eq_false_iff, Bool.and_eq_true, Bool.not_eq_true', Bool.not_eq_false', decide_eq_true_eq, decide_eq_false_iff_not, Int.not_lt, Int.not_le] at *); (try simp only [inK, big, lim, List.length_cons, List.length_nil, List.length_append, List.length_drop, List.length_take, List.length_replicate] at *); omega) | exact f1 _ _ hi' | exact f2 _ _ hi' | exact f3 _ _ _ hk' (ltd d0) | exact f3 _ _ _ hi' (ltd d0)) (And.intro (by first | (intros; (try subst_vars); (try simp only [Bool.cond_true_left, Bool.cond_false_right, Bool.or_eq_true, Bool.or_eq_false_iff, Bool.and_eq_true, Bool.not_eq_true', Bool.not_eq_false', decide_eq_true_eq, decide_eq_false_iff_not, Int.not_lt, Int.not_le] at *); (try simp only [inK, big, lim, List.length_cons, List.length_nil, List.length_append, List.length_drop, List.length_take, List.length_replicate] at *); omega) | exact f1 _ _ hi' | exact f2 _ _ hi' | exact f3 _ _ _ hk' (ltd d0) | exact f3 _ _ _ hi' (ltd d0)) (And.intro (by first | (intros; (try subst_vars); (try simp only [Bool.cond_true_left, Bool.cond_false_right, Bool.or_eq_true, Bool.or_eq_false_iff, Bool.and_eq_true, Bool.not_eq_true', Bool.not_eq_false', decide_eq_true_eq, decide_eq_false_iff_not, Int.not_lt, Int.not_le] at *); (try simp only [inK, big, lim, List.length_cons, List.length_nil, List.length_append, List.length_drop, List.length_take, List.length_replicate] at *); omega) | exact f1 _ _ hi' | exact f2 _ _ hi' | exact f3 _ _ _ hk' (ltd d0) | exact f3 _ _ _ hi' (ltd d0)) (And.intro (by first | (intros; (try subst_vars); (try simp only [Bool.cond_true_left, Bool.cond_false_right, Bool.or_eq_true, Bool.or_eq_false_iff, Bool.and_eq_true, Bool.not_eq_true', Bool.not_eq_false', decide_eq_true_eq, decide_eq_false_iff_not, Int.not_lt, Int.not_le] at *); (try simp only [inK, big, lim, List.length_cons, List.length_nil, List.length_append, List.length_drop, List.length_take, List.length_replicate] at *); omega) | exact f1 _ _ hi' | exact f2 _ _ hi' | exact f3 _ _ _ hk' (ltd d0) | exact f3 _ _ _ hi' (ltd d0)) (And.intro (by first | (intros; (try subst_vars); (try simp only [Bool.cond_true_left, Bool.cond_false_right, Bool.or_eq_true, Bool.or_eq_false_iff, Bool.and_eq_true, Bool.not_eq_true', Bool.not_eq_false', decide_eq_true_eq, decide_eq_false_iff_not, Int.not_lt, Int.not_le] at *); (try simp only [inK, big, lim, List.length_cons, List.length_nil, List.length_append, List.length_drop, List.length_take, List.length_replicate] at *); omega) | exact f1 _ _ hi' | exact f2 _ _ hi' | exact f3 _ _ _ hk' (ltd d0) | exact f3 _ _ _ hi' (ltd d0)) ?_)))))))))) (fun d0 => (And.intro (by first | (intros; (try subst_vars); (try simp only [Bool.cond_true_left, Bool.cond_false_right, Bool.or_eq_true, Bool.or_eq_false_iff, Bool.and_eq_true, Bool.not_eq_true', Bool.not_eq_false', decide_eq_true_eq, decide_eq_false_iff_not, Int.not_lt, Int.not_le] at *); (try simp only [inK, big, lim, List.length_cons, List.length_nil, List.length_append, List.length_drop, List.length_take, List.length_replicate] at *); omega) | exact f1 _ _ hi' | exact f2 _ _ hi' | exact f3 _ _ _ hk' (ltd d0) | exact f3 _ _ _ hi' (ltd d0)) ?_)))
      · have hj' := ltd d0
        refine Exists.intro (j + 1) (Exists.intro ([some 0, some 1, some 2, some 3, some 4, some 5]) (And.intro ?_ (And.intro ?_ (And.intro (by rfl) (And.intro (by rfl) (And.intro (And.intro (And.intro (by rfl) (by rfl)) (And.intro (And.intro (by rfl) (by rfl)) (And.intro ?_ (And.intro (And.intro (by rfl) (by rfl)) (And.intro (And.intro (by rfl) (by rfl)) (And.intro (And.intro (by rfl) (by rfl)) True.intro)))))) (by rfl)))))))
        · exact hj'
        · show n.toNat - (j + 1) < n.toNat - j
          omega
        · refine congrArg (Ob.grid .bool 0) ?_
          simp only [Int.toNat_natCast, dflt]
          rw [tab_at _ hi' hj', tab_at _ hk' hj', tab_set _ _ hi']
          refine tab_congr fun a b ha hb => ?_
          have ek : inJ (closeK (inL l) k) k i j k j = closeK (inL l) k k j := by
            unfold inJ
            by_cases h1 : k < i
            · rw [if_pos h1]; simp [warsh]
            · rw [if_neg h1, if_neg (by omega)]
          have ei : inJ (closeK (inL l) k) k i j i j = closeK (inL l) k i j := by
            unfold inJ
            rw [if_neg (by omega), if_neg (by omega)]
          rw [ek, ei]
          unfold inJ
          by_cases h1 : a < i
          · rw [if_neg (by omega), if_pos h1, if_pos h1]
          · by_cases h2 : a = i
            · subst h2
              by_cases h3 : b = j
              · subst h3
                rw [if_pos ⟨rfl, rfl⟩, if_neg h1, if_pos ⟨rfl, by omega⟩]
                cases closeK (inL l) k a b <;> rfl
              · rw [if_neg (by omega), if_neg h1, if_neg h1]
                by_cases h4 : b < j
                · rw [if_pos ⟨rfl, h4⟩, if_pos ⟨rfl, by omega⟩]
                · rw [if_neg (by omega), if_neg (by omega)]
            · rw [if_neg (by omega), if_neg h1, if_neg (by omega), if_neg h1, if_neg (by omega)]
      · have hj' := ged d0
        refine Exists.intro (i + 1) (Exists.intro ([some 0, some 1, some 2, some 3, some 4, some 5]) (And.intro ?_ (And.intro ?_ (And.intro (by rfl) (And.intro (by rfl) (And.intro (And.intro (And.intro (by rfl) (by rfl)) (And.intro (And.intro (by rfl) (by rfl)) (And.intro ?_ (And.intro (And.intro (by rfl) (by rfl)) (And.intro (And.intro (by rfl) (by rfl)) (And.intro (And.intro (by rfl) (by rfl)) True.intro)))))) (by rfl)))))))
        · exact hi'
        · show n.toNat - (i + 1) < n.toNat - i
          omega
        · refine congrArg (Ob.grid .bool 0) (tab_congr fun a b ha hb => ?_)
          subst hj'
          unfold inJ midI
          by_cases h1 : a < i
          · rw [if_pos h1, if_pos (by omega)]
          · rw [if_neg h1]
            by_cases h2 : a = i
            · subst h2
              rw [if_pos ⟨rfl, hb⟩, if_pos (by omega)]
              simp [warsh, c2]
            · rw [if_neg (by omega), if_neg (by omega)]
    · have hi' : ¬ i < n.toNat := by have := of_decide_eq_false c0; omega
      refine Exists.intro (k + 1) (Exists.intro ([some 0, some 1, some 2, some 3, some 4, some 5]) (And.intro ?_ (And.intro ?_ (And.intro (by rfl) (And.intro (by rfl) (And.intro (And.intro (And.intro (by rfl) (by rfl)) (And.intro (And.intro (by rfl) (by rfl)) (And.intro ?_ (And.intro (And.intro (by rfl) (by rfl)) (And.intro (And.intro (by rfl) (by rfl)) (And.intro (And.intro (by rfl) (by rfl)) True.intro)))))) (by rfl)))))))
      · exact hk'
      · show n.toNat - (k + 1) < n.toNat - k
        omega
      · refine congrArg (Ob.grid .bool 0) (tab_congr fun a b ha hb => ?_)
        show midI (closeK (inL l) k) k i a b = warsh k (closeK (inL l) k) a b
        unfold midI
        rw [if_pos (by omega)]
  have ek : k = n.toNat := by have := of_decide_eq_false b0; omega
  subst ek
  have lt : ∀ a : Nat, decide ((a : Int) < n) = true → a < n.toNat := fun a h => by have := of_decide_eq_true h; omega
  have f1 : ∀ (f : Nat → Nat → Bool) (a : Nat), a < n.toNat → 0 ≤ (a : Int) ∧ (a : Int) < (((tab n.toNat f).length + 0 : Nat) : Int) := fun f a h => by rw [tab_len]; omega
  have f2 : ∀ (f : Nat → Nat → Bool) (a : Nat), a < n.toNat → (a : Int).toNat < (tab n.toNat f).length := fun f a h => by rw [tab_len]; omega
  have f3 : ∀ (f : Nat → Nat → Bool) (a b : Nat), a < n.toNat → b < n.toNat → (a : Int).toNat < (tab n.toNat f).length ∧ 0 ≤ (b : Int) ∧ (b : Int) < (((tab n.toNat f).getD (a : Int).toNat []).length : Int) := fun f a b h h' => by
    rw [tab_len, Int.toNat_natCast, tab_rlen f h]; omega
  refine ex4 _ (fun d : Nat => ⟨[.any, .any, .ptr 0 0, .any, .any, .any, .any, .ptr 4 0, .any, .any, .any, .any, .any, .any, .any, .any, .any, .any, .any, .any, .any, .any, .any, .any, .int .i64 n, .int .i64 (d : Int), .any, .any, .any, .any, .any, .any, .any, .any, .any, .any, .any, .any, .any, .any, .any, .any, .any, .any], [.cells [.int .i64 n], .cells [.int .i64 n, .own 2], .grid .bool 0 (tab n.toNat (closeK (inL l) n.toNat)), .cells [.int .i64 n, .own 2], .cells [.int .i64 n, .own 2], .cells [.int .i64 n, .own 2]], 6⟩) (fun d => d ≤ n.toNat ∧ (List.range d).any (fun i => closeK (inL l) n.toNat i i) = false) (fun d => n.toNat - d) (And.intro (Exists.intro (0) (Exists.intro ([some 0, some 1, some 2, some 3, some 4, some 5]) (And.intro ?_ (And.intro (by rfl) (And.intro (by rfl) (And.intro (And.intro (And.intro (by rfl) (by rfl)) (And.intro (And.intro (by rfl) (by rfl)) (And.intro (by rfl) (And.intro (And.intro (by rfl) (by rfl)) (And.intro (And.intro (by rfl) (by rfl)) (And.intro (And.intro (by rfl) (by rfl)) True.intro)))))) (by rfl))))))) ?_)
  · exact ⟨Nat.zero_le _, rfl⟩
  rintro d ⟨hd, hv⟩
  refine (And.intro (fun u0 => (And.intro (by first | (intros; (try subst_vars); (try simp only [Bool.cond_true_left, Bool.cond_false_right, Bool.or_eq_true, Bool.or_eq_false_iff, Bool.and_eq_true, Bool.not_eq_true', Bool.not_eq_false', decide_eq_true_eq, decide_eq_false_iff_not, Int.not_lt, Int.not_le] at *); (try simp only [inK, big, lim, List.length_cons, List.length_nil, List.length_append, List.length_drop, List.length_take, List.length_replicate] at *); omega) | exact f1 _ _ (lt _ u0) | exact f2 _ _ (lt _ u0) | exact f3 _ _ _ (lt _ u0) (lt _ u0)) (And.intro (by first | (intros; (try subst_vars); (try simp only [Bool.cond_true_left, Bool.cond_false_right, Bool.or_eq_true, Bool.or_eq_false_iff, Bool.and_eq_true, Bool.not_eq_true', Bool.not_eq_false', decide_eq_true_eq, decide_eq_false_iff_not, Int.not_lt, Int.not_le] at *); (try simp only [inK, big, lim, List.length_cons, List.length_nil, List.length_append, List.length_drop, List.length_take, List.length_replicate] at *); omega) | exact f1 _ _ (lt _ u0) | exact f2 _ _ (lt _ u0) | exact f3 _ _ _ (lt _ u0) (lt _ u0)) (And.intro (by first | (intros; (try subst_vars); (try simp only [Bool.cond_true_left, Bool.cond_false_right, Bool.or_eq_true, Bool.or_eq_false_iff, Bool.and_eq_true, Bool.not_eq_true', Bool.not_eq_false', decide_eq_true_eq, decide_eq_false_iff_not, Int.not_lt, Int.not_le] at *); (try simp only [inK, big, lim, List.length_cons, List.length_nil, List.length_append, List.length_drop, List.length_take, List.length_replicate] at *); omega) | exact f1 _ _ (lt _ u0) | exact f2 _ _ (lt _ u0) | exact f3 _ _ _ (lt _ u0) (lt _ u0)) (And.intro (fun u1 => (fin_of rfl ?_)) (fun u1 => (And.intro (by first | (intros; (try subst_vars); (try simp only [Bool.cond_true_left, Bool.cond_false_right, Bool.or_eq_true, Bool.or_eq_false_iff, Bool.and_eq_true, Bool.not_eq_true', Bool.not_eq_false', decide_eq_true_eq, decide_eq_false_iff_not, Int.not_lt, Int.not_le] at *); (try simp only [inK, big, lim, List.length_cons, List.length_nil, List.length_append, List.length_drop, List.length_take, List.length_replicate] at *); omega) | exact f1 _ _ (lt _ u0) | exact f2 _ _ (lt _ u0) | exact f3 _ _ _ (lt _ u0) (lt _ u0)) ?_))))))) (fun u0 => (And.intro (by first | kernel_rfl | rfl) (And.intro (by first | kernel_rfl | rfl) (And.intro (by first | kernel_rfl | rfl) (And.intro (by first | kernel_rfl | rfl) (And.intro (by first | kernel_rfl | rfl) ?_)))))))
  · have hd' := lt _ u0
    have u1' : closeK (inL l) n.toNat d d = true := by
      rw [← tab_at (n := n.toNat) (closeK (inL l) n.toNat) hd' hd']
      simpa using u1
    have e := range_hit (p := fun i => closeK (inL l) n.toNat i i) hd' u1'
    show ((genF n l).1, (genF n l).2, ()) = ([], 21, ())
    rw [eg, if_pos e]
  · have hd' := lt _ u0
    have u1' : closeK (inL l) n.toNat d d = false := by
      rw [← tab_at (n := n.toNat) (closeK (inL l) n.toNat) hd' hd']
      simpa using u1
    refine Exists.intro (d + 1) (Exists.intro ([some 0, some 1, some 2, some 3, some 4, some 5]) (And.intro ?_ (And.intro ?_ (And.intro (by rfl) (And.intro (by rfl) (And.intro (And.intro (And.intro (by rfl) (by rfl)) (And.intro (And.intro (by rfl) (by rfl)) (And.intro (by rfl) (And.intro (And.intro (by rfl) (by rfl)) (And.intro (And.intro (by rfl) (by rfl)) (And.intro (And.intro (by rfl) (by rfl)) True.intro)))))) (by rfl)))))))
    · exact ⟨hd', range_next hv u1'⟩
    · show n.toNat - (d + 1) < n.toNat - d
      omega
  have ed : d = n.toNat := by have := of_decide_eq_false u0; omega
  subst ed
  rw [if_neg (by rw [hv]; simp)] at eg
  refine ?_
  have g1 : ∀ (f : Nat → Nat → Bool) (a b : Nat), a < n.toNat → b < n.toNat → 0 ≤ (b : Int) ∧ (b : Int) < (((tab n.toNat f).getD (a : Int).toNat []).length : Int) := fun f a b h h' => (f3 f a b h h').2
  refine ex4 _ (fun i : Nat => ⟨[.yld 8, .ptr 6 0, .any, .any, .any, .ptr 6 0, .int .i64 n, .int .i64 (i : Int), .any, .any, .any, .any, .any, .any, .any, .any, .any, .any, .any, .any, .any, .any, .any, .any, .any, .any, .any, .any, .any, .any, .any, .any, .any], [.cells [.int .i64 n], .cells [.int .i64 n, .own 2], .grid .bool 0 (tab n.toNat (closeK (inL l) n.toNat)), .cells [.int .i64 n, .own 2], .cells [.int .i64 n, .own 2], .cells [.int .i64 n, .own 2], .cells [.int .i64 n, .own 2], .cells [.own 9], .loop .ready .no ([7]) _ _ [.cap0, .fn (Fn.func 66) [] [.ptr 6 0], .ptr 7 0, .any, .cap0, .any, .fn (Fn.func 66) [] [.ptr 6 0], .any, .any, .any, .any, .any, .any], .rows tE (accI n.toNat (closeK (inL l) n.toNat) i)], 10⟩) (fun i => i ≤ n.toNat) (fun i => n.toNat - i) (And.intro (Exists.intro (0) (Exists.intro ([some 0, some 1, some 2, some 3, some 4, some 5, some 6, some 7, some 8, none]) (And.intro ?_ (And.intro (by rfl) (And.intro (by rfl) (And.intro (And.intro (And.intro (by rfl) (by rfl)) (And.intro (And.intro (by rfl) (by rfl)) (And.intro (by rfl) (And.intro (And.intro (by rfl) (by rfl)) (And.intro (And.intro (by rfl) (by rfl)) (And.intro (And.intro (by rfl) (by rfl)) (And.intro (And.intro (by rfl) (by rfl)) (And.intro (And.intro (by rfl) (by rfl)) (And.intro (And.intro (And.intro rfl (And.intro rfl (And.intro rfl (And.intro rfl rfl)))) (And.intro (by rfl) (by rfl))) (And.intro (by rfl) True.intro)))))))))) (by rfl))))))) ?_)
  · exact Nat.zero_le _
  rintro i hi
  refine (And.intro (fun w0 => ?_) (fun w0 => (fun w1 => (And.intro (fun w2 => (fin_of rfl ?_)) (fun w2 => (fin_of rfl ?_))))))
  · have hi' := lt _ w0
    refine ex4 _ (fun j : Nat => ⟨[.yld 8, .ptr 6 0, .any, .int .i64 (↑i : Int), .any, .ptr 6 0, .int .i64 n, .int .i64 (↑i : Int), .bool (decide ((↑i : Int) < n)), .int .i64 (↑i : Int), .ptr 6 0, .int .i64 n, .int .i64 (j : Int), .any, .any, .any, .any, .any, .any, .any, .any, .any, .any, .any, .any, .any, .any, .any, .any, .any, .any, .any, .any], [.cells [.int .i64 n], .cells [.int .i64 n, .own 2], .grid .bool 0 (tab n.toNat (closeK (inL l) n.toNat)), .cells [.int .i64 n, .own 2], .cells [.int .i64 n, .own 2], .cells [.int .i64 n, .own 2], .cells [.int .i64 n, .own 2], .cells [.own 9], .loop .ready .no ([7]) _ _ [.cap0, .fn (Fn.func 66) [] [.ptr 6 0], .ptr 7 0, .any, .cap0, .any, .fn (Fn.func 66) [] [.ptr 6 0], .any, .any, .any, .any, .any, .any], .rows tE (accI n.toNat (closeK (inL l) n.toNat) i ++ rowP n.toNat (closeK (inL l) n.toNat) i j)], 10⟩) (fun j => j ≤ n.toNat) (fun j => n.toNat - j) (And.intro (Exists.intro (0) (Exists.intro ([some 0, some 1, some 2, some 3, some 4, some 5, some 6, some 7, some 8, some 9]) (And.intro ?_ (And.intro (by rfl) (And.intro (by rfl) (And.intro (And.intro (And.intro (by rfl) (by rfl)) (And.intro (And.intro (by rfl) (by rfl)) (And.intro (by rfl) (And.intro (And.intro (by rfl) (by rfl)) (And.intro (And.intro (by rfl) (by rfl)) (And.intro (And.intro (by rfl) (by rfl)) (And.intro (And.intro (by rfl) (by rfl)) (And.intro (And.intro (by rfl) (by rfl)) (And.intro (And.intro (And.intro rfl (And.intro rfl (And.intro rfl (And.intro rfl rfl)))) (And.intro (by rfl) (by rfl))) (And.intro ?_ True.intro)))))))))) (by rfl))))))) ?_)
    · exact Nat.zero_le _
    · exact congrArg (Ob.rows tE) (by simp [rowP])
    rintro j hj
    have room : ∀ b : Nat, b < n.toNat → ((accI n.toNat (closeK (inL l) n.toNat) i ++ rowP n.toNat (closeK (inL l) n.toNat) i j).length + [((i : Int), (b : Int))].length) * 16 ≤ lim := fun b _ => by
      have := acc_row_len (closeK (inL l) n.toNat) (n := n.toNat) (i := i) (j := j) (by omega) hi hj
      simp only [lim, List.length_cons, List.length_nil]
      omega
    refine (And.intro (fun x0 => (And.intro (by first | (intros; (try subst_vars); (try simp only [Bool.cond_true_left, Bool.cond_false_right, Bool.or_eq_true, Bool.or_eq_false_iff, Bool.and_eq_true, Bool.not_eq_true', Bool.not_eq_false', decide_eq_true_eq, decide_eq_false_iff_not, Int.not_lt, Int.not_le] at *); (try simp only [inK, big, lim, List.length_cons, List.length_nil, List.length_append, List.length_drop, List.length_take, List.length_replicate] at *); omega) | exact f1 _ _ hi' | exact f2 _ _ hi' | exact f3 _ _ _ hi' (lt _ x0)) (And.intro (by first | (intros; (try subst_vars); (try simp only [Bool.cond_true_left, Bool.cond_false_right, Bool.or_eq_true, Bool.or_eq_false_iff, Bool.and_eq_true, Bool.not_eq_true', Bool.not_eq_false', decide_eq_true_eq, decide_eq_false_iff_not, Int.not_lt, Int.not_le] at *); (try simp only [inK, big, lim, List.length_cons, List.length_nil, List.length_append, List.length_drop, List.length_take, List.length_replicate] at *); omega) | exact f1 _ _ hi' | exact f2 _ _ hi' | exact f3 _ _ _ hi' (lt _ x0)) (And.intro (by first | (intros; (try subst_vars); (try simp only [Bool.cond_true_left, Bool.cond_false_right, Bool.or_eq_true, Bool.or_eq_false_iff, Bool.and_eq_true, Bool.not_eq_true', Bool.not_eq_false', decide_eq_true_eq, decide_eq_false_iff_not, Int.not_lt, Int.not_le] at *); (try simp only [inK, big, lim, List.length_cons, List.length_nil, List.length_append, List.length_drop, List.length_take, List.length_replicate] at *); omega) | exact f1 _ _ hi' | exact f2 _ _ hi' | exact f3 _ _ _ hi' (lt _ x0)) (And.intro (fun x1 => ?_) (fun x2 => (And.intro (fun x3 => (fun x4 => (And.intro (fun x5 => (fin_of rfl ?_)) (fun x5 => (fin_of rfl ?_))))) (fun x3 => (And.intro (by first | (intros; (try subst_vars); (try simp only [Bool.cond_true_left, Bool.cond_false_right, Bool.or_eq_true, Bool.or_eq_false_iff, Bool.and_eq_true, Bool.not_eq_true', Bool.not_eq_false', decide_eq_true_eq, decide_eq_false_iff_not, Int.not_lt, Int.not_le] at *); (try simp only [inK, big, lim, List.length_cons, List.length_nil, List.length_append, List.length_drop, List.length_take, List.length_replicate] at *); omega) | exact f1 _ _ hi' | exact f2 _ _ hi' | exact f3 _ _ _ hi' (lt _ x0)) ?_))))))))) (fun x0 => (And.intro (by first | (intros; (try subst_vars); (try simp only [Bool.cond_true_left, Bool.cond_false_right, Bool.or_eq_true, Bool.or_eq_false_iff, Bool.and_eq_true, Bool.not_eq_true', Bool.not_eq_false', decide_eq_true_eq, decide_eq_false_iff_not, Int.not_lt, Int.not_le] at *); (try simp only [inK, big, lim, List.length_cons, List.length_nil, List.length_append, List.length_drop, List.length_take, List.length_replicate] at *); omega) | exact f1 _ _ hi' | exact f2 _ _ hi' | exact f3 _ _ _ hi' (lt _ x0)) ?_)))
    · refine ⟨room j (lt _ x0), ?_⟩
      have hj' := lt _ x0
      have x1' : closeK (inL l) n.toNat i j = true := by
        rw [← tab_at (n := n.toNat) (closeK (inL l) n.toNat) hi' hj']
        simpa using x1
      refine (And.intro (fun y0 => (fun y1 => (And.intro (fun y2 => (fin_of rfl ?_)) (fun y2 => (fin_of rfl ?_))))) (fun y0 => (And.intro (by intros; (try subst_vars); (try simp only [Bool.cond_true_left, Bool.cond_false_right, Bool.or_eq_true, Bool.or_eq_false_iff, Bool.and_eq_true, Bool.not_eq_true', Bool.not_eq_false', decide_eq_true_eq, decide_eq_false_iff_not, Int.not_lt, Int.not_le] at *); (try simp only [inK, big, lim, List.length_cons, List.length_nil, List.length_append, List.length_drop, List.length_take, List.length_replicate] at *); omega) ?_)))
      · rw [x1] at y0
        exact nomatch y0
      · rw [x1] at y0
        exact nomatch y0
      · refine Exists.intro (j + 1) (Exists.intro ([some 0, some 1, some 2, some 3, some 4, some 5, some 6, some 7, some 8, some 12]) (And.intro ?_ (And.intro ?_ (And.intro (by rfl) (And.intro (by rfl) (And.intro (And.intro (And.intro (by rfl) (by rfl)) (And.intro (And.intro (by rfl) (by rfl)) (And.intro (by rfl) (And.intro (And.intro (by rfl) (by rfl)) (And.intro (And.intro (by rfl) (by rfl)) (And.intro (And.intro (by rfl) (by rfl)) (And.intro (And.intro (by rfl) (by rfl)) (And.intro (And.intro (by rfl) (by rfl)) (And.intro (And.intro (And.intro rfl (And.intro rfl (And.intro rfl (And.intro rfl rfl)))) (And.intro (by rfl) (by rfl))) (And.intro ?_ True.intro)))))))))) (by rfl)))))))
        · exact hj'
        · show n.toNat - (j + 1) < n.toNat - j
          omega
        · refine congrArg (Ob.rows tE) ?_
          rw [row_next, if_pos x1', List.append_assoc]
    · rw [x2] at x3
      exact nomatch x3
    · rw [x2] at x3
      exact nomatch x3
    · have hj' := lt _ x0
      refine Exists.intro (j + 1) (Exists.intro ([some 0, some 1, some 2, some 3, some 4, some 5, some 6, some 7, some 8, some 9]) (And.intro ?_ (And.intro ?_ (And.intro (by rfl) (And.intro (by rfl) (And.intro (And.intro (And.intro (by rfl) (by rfl)) (And.intro (And.intro (by rfl) (by rfl)) (And.intro (by rfl) (And.intro (And.intro (by rfl) (by rfl)) (And.intro (And.intro (by rfl) (by rfl)) (And.intro (And.intro (by rfl) (by rfl)) (And.intro (And.intro (by rfl) (by rfl)) (And.intro (And.intro (by rfl) (by rfl)) (And.intro (And.intro (And.intro rfl (And.intro rfl (And.intro rfl (And.intro rfl rfl)))) (And.intro (by rfl) (by rfl))) (And.intro ?_ True.intro)))))))))) (by rfl)))))))
      · exact hj'
      · show n.toNat - (j + 1) < n.toNat - j
        omega
      · refine congrArg (Ob.rows tE) ?_
        have x2' : closeK (inL l) n.toNat i j = false := by
          rw [← tab_at (n := n.toNat) (closeK (inL l) n.toNat) hi' hj']
          simpa using x2
        rw [row_next, if_neg (by simp [x2']), List.append_nil]
    · have ej : j = n.toNat := by have := of_decide_eq_false x0; omega
      subst ej
      refine Exists.intro (i + 1) (Exists.intro ([some 0, some 1, some 2, some 3, some 4, some 5, some 6, some 7, some 8, some 9]) (And.intro ?_ (And.intro ?_ (And.intro (by rfl) (And.intro (by rfl) (And.intro (And.intro (And.intro (by rfl) (by rfl)) (And.intro (And.intro (by rfl) (by rfl)) (And.intro (by rfl) (And.intro (And.intro (by rfl) (by rfl)) (And.intro (And.intro (by rfl) (by rfl)) (And.intro (And.intro (by rfl) (by rfl)) (And.intro (And.intro (by rfl) (by rfl)) (And.intro (And.intro (by rfl) (by rfl)) (And.intro (And.intro (And.intro rfl (And.intro rfl (And.intro rfl (And.intro rfl rfl)))) (And.intro (by rfl) (by rfl))) (And.intro ?_ True.intro)))))))))) (by rfl)))))))
      · exact hi'
      · show n.toNat - (i + 1) < n.toNat - i
        omega
      · refine congrArg (Ob.rows tE) ?_
        rw [acc_next]
  · have en : i = n.toNat := by have := of_decide_eq_false w0; omega
    subst en
    rw [if_pos (of_decide_eq_true (show decide (2000 < ((pairsF n.toNat (closeK (inL l) n.toNat)).length : Int)) = true from w2))] at eg
    show ((genF n l).1, (genF n l).2, ()) = ([], 4, ())
    rw [eg]
  · have en : i = n.toNat := by have := of_decide_eq_false w0; omega
    subst en
    rw [if_neg (of_decide_eq_false (show decide (2000 < ((pairsF n.toNat (closeK (inL l) n.toNat)).length : Int)) = false from w2))] at eg
    show ((genF n l).1, (genF n l).2, ()) = (accI n.toNat (closeK (inL l) n.toNat) n.toNat, 0, ())
    rw [eg]; rfl
end Go.Proofs.Ytlaefkhbpnbahaa
/- Partial orders: Covers, Concurrent and Extends, as contracts. -/
namespace Go.Proofs.Ytlaefkhbpnbahaa
open Go.Sx

theorem chk_ok {n : Int} {l : List Ed} (h : checkF n l = 0) : 0 ≤ n ∧ n ≤ 200 ∧ l.length ≤ 2000 ∧ insideAll n l := by
  unfold checkF at h
  by_cases h1 : sizesF n l = 0
  · rw [if_neg (by simp [h1])] at h
    by_cases h2 : scanE n none l = 0
    · obtain ⟨a, b, c⟩ := sizes_ok h1
      exact ⟨a, b, c, scan_inside n none l h2⟩
    · rw [if_pos h2] at h; exact absurd h h2
  · rw [if_pos h1] at h; exact absurd h h1
theorem take_filter {α : Type} {p : α → Bool} {xs : List α} {i : Nat} {d : α} (h : i < xs.length) : (xs.take (i + 1)).filter p = (xs.take i).filter p ++ (if p (xs.getD i d) = true then [xs.getD i d] else []) := by
  rw [List.take_succ_eq_append_getElem h, List.filter_append, List.getD_eq_getElem?_getD, List.getElem?_eq_getElem h]
  simp only [List.filter_cons, List.filter_nil, Option.getD_some]
theorem range_any (k : Nat) (p : Nat → Bool) : (List.range (k + 1)).any p = ((List.range k).any p || p k) := by
  rw [List.range_succ, List.any_append]
  simp
/-- Is there an element between? -/
def covB (n : Nat) (f : Nat → Nat → Bool) (p : Ed) : Bool := (List.range n).any fun k => f p.1.toNat k && f k p.2.toNat
def coversF (n : Int) (l : List Ed) : List Ed × Int :=
  if checkF n l ≠ 0 then ([], checkF n l) else (l.filter (fun p => !covB n.toNat (inL l) p), 0)
def cxH : Ctx := ⟨tys0, [(18, ([], c18)), (39, ([], c39)), (45, ([], c45))]⟩
theorem cxH_good : GoodCtx Try.prog cxH := cx_cons good18 (cx_cons good39 (cx_cons good45 cx0_good))
def c25 : Ctr := fnC [dI, dEs] rEsI (fun _ => True) (fun y => ((coversF y.1 y.2.1).1, (coversF y.1 y.2.1).2, ()))
set_option maxHeartbeats 4000000 in
theorem good25 : GoodC Try.prog 25 c25 := by
  refine goodF cxH_good 6 _ _ _ _ ⟨_, Try.func25, rfl, rfl⟩ fun (⟨n, l, _⟩ : Int × List Ed × Unit) _ => ?_
  have mk : checkF n l = 0 → 0 ≤ n ∧ n ≤ 200 ∧ insideAll n l := fun h => ⟨(chk_ok h).1, (chk_ok h).2.1, (chk_ok h).2.2.2⟩
  refine (And.intro (by first | kernel_rfl | rfl) (And.intro True.intro (And.intro (fun h0 => (fin_of rfl ?_)) (fun h0 => (And.intro (by first | exact mk (by simpa using h0) | (intros; (try subst_vars); (try simp only [Bool.cond_true_left, Bool.cond_false_right, Bool.or_eq_true, Bool.or_eq_false_iff, Bool.and_eq_true, Bool.not_eq_true', Bool.not_eq_false', decide_eq_true_eq, decide_eq_false_iff_not, Int.not_lt, Int.not_le] at *); (try simp only [inK, big, lim, List.length_cons, List.length_nil, List.length_append, List.length_drop, List.length_take, List.length_replicate] at *); omega)) (fun (h1 : (Int × List (List Bool)) × PUnit) => (fun h2 => (fun h3 => ?_))))))))
  · have h0' : checkF n l ≠ 0 := by simpa using h0
    show ((coversF n l).1, (coversF n l).2, ()) = ([], checkF n l, ())
    rw [coversF, if_pos h0']
  have h0' : checkF n l = 0 := by simpa using h0
  obtain ⟨n0, n1, n2, hl⟩ := chk_ok h0'
  have ek : h1 = ((n, matF n l), ()) := h2
  subst ek
  rw [mat_tab n0 hl]
  have eg : coversF n l = (l.filter (fun p => !covB n.toNat (inL l) p), 0) := by rw [coversF, if_neg (by simp [h0'])]
  have nz : ((n.toNat : Nat) : Int) = n := Int.toNat_of_nonneg n0
  refine ex4 _ (fun i : Nat => ⟨[.any, .sl tE l, .any, .any, .any, .any, .any, .ptr 0 0, .own 1, .any, .any, .any, .any, .any, .any, .any, .any, .any, .any, .any, .any, .any, .any, .sl tE l, .int .i64 (↑l.length : Int), .int .i64 (i : Int), .any, .any, .any, .any, .any, .any, .any, .any, .any, .any, .any, .any, .any, .any, .any, .any, .any, .any, .any, .any, .any, .any, .any, .any, .any, .any, .any, .any, .any, .any, .any, .any, .any, .any, .any, .any, .any, .any, .any], [.cells [.int .i64 n, .sl tBs (tab n.toNat (inL l))], .rows tE ((l.take i).filter (fun p => !covB n.toNat (inL l) p))], 2⟩) (fun i => i ≤ l.length) (fun i => l.length - i) (And.intro (Exists.intro (0) (Exists.intro ([some 0, none]) (And.intro ?_ (And.intro (by rfl) (And.intro (by rfl) (And.intro (And.intro (And.intro (by rfl) (by rfl)) (And.intro (by rfl) True.intro)) (by rfl))))))) ?_)
  · exact Nat.zero_le _
  rintro i hi
  have idx : i < l.length → 0 ≤ (l.getD (i : Int).toNat (dflt tE)).1 ∧ (l.getD (i : Int).toNat (dflt tE)).1 < ((tab n.toNat (inL l)).length : Int) := fun h => by
    have := inside_get hl h
    rw [tab_len, Int.toNat_natCast]
    omega
  refine (And.intro (fun k0 => (And.intro (by first | (intros; (try subst_vars); (try simp only [Bool.cond_true_left, Bool.cond_false_right, Bool.or_eq_true, Bool.or_eq_false_iff, Bool.and_eq_true, Bool.not_eq_true', Bool.not_eq_false', decide_eq_true_eq, decide_eq_false_iff_not, Int.not_lt, Int.not_le] at *); (try simp only [inK, big, lim, List.length_cons, List.length_nil, List.length_append, List.length_drop, List.length_take, List.length_replicate] at *); omega) | exact idx (by simpa using k0)) (And.intro (by first | (intros; (try subst_vars); (try simp only [Bool.cond_true_left, Bool.cond_false_right, Bool.or_eq_true, Bool.or_eq_false_iff, Bool.and_eq_true, Bool.not_eq_true', Bool.not_eq_false', decide_eq_true_eq, decide_eq_false_iff_not, Int.not_lt, Int.not_le] at *); (try simp only [inK, big, lim, List.length_cons, List.length_nil, List.length_append, List.length_drop, List.length_take, List.length_replicate] at *); omega) | exact idx (by simpa using k0)) (fun k1 => ?_)))) (fun k0 => (fin_of rfl ?_)))
  · have hi' : i < l.length := by simpa using k0
    have hin := inside_get hl hi'
    have ha : (l.getD i (dflt tE)).1.toNat < n.toNat := by omega
    have hb' : (l.getD i (dflt tE)).2.toNat < n.toNat := by omega
    have lt : ∀ k : Nat, decide ((k : Int) < (((tab n.toNat (inL l)).getD (l.getD (i : Int).toNat (dflt tE)).1.toNat []).length : Int)) = true → k < n.toNat := fun k h => by
      have := of_decide_eq_true h
      rw [Int.toNat_natCast, tab_rlen _ ha] at this
      omega
    have ge : ∀ k : Nat, decide ((k : Int) < (((tab n.toNat (inL l)).getD (l.getD (i : Int).toNat (dflt tE)).1.toNat []).length : Int)) = false → n.toNat ≤ k := fun k h => by
      have := of_decide_eq_false h
      rw [Int.toNat_natCast, tab_rlen _ ha] at this
      omega
    have need1 : ∀ k : Nat, k < n.toNat → 0 ≤ (k : Int) ∧ (k : Int) < ((tab n.toNat (inL l)).length : Int) := fun k h => by rw [tab_len]; omega
    have need2 : ∀ k : Nat, k < n.toNat → 0 ≤ (l.getD (i : Int).toNat (dflt tE)).2 ∧ (l.getD (i : Int).toNat (dflt tE)).2 < (((tab n.toNat (inL l)).getD (k : Int).toNat (dflt tBs)).length : Int) := fun k h => by
      have e := tab_rlen (inL l) h
      show 0 ≤ (l.getD i (dflt tE)).2 ∧ (l.getD i (dflt tE)).2 < (((tab n.toNat (inL l)).getD k []).length : Int)
      rw [e]
      omega
    have room : (((l.take i).filter fun p => !covB n.toNat (inL l) p).length + 1) * 16 ≤ lim := by
      have h1 := List.length_filter_le (fun p => !covB n.toNat (inL l) p) (l.take i)
      have h2 := List.length_take_le i l
      simp only [lim]
      omega
    refine ex4 _ (fun p : Nat × Bool => ⟨[.any, .sl tE l, .any, .any, .any, .any, .any, .ptr 0 0, .own 1, .any, .ptr 2 0, .bool p.2, .any, .any, .any, .any, .any, .any, .any, .any, .any, .any, .any, .sl tE l, .int .i64 (↑l.length : Int), .int .i64 (↑i : Int), .bool (decide ((↑i : Int) < (↑l.length : Int))), .eptr   [PV.int .i64 (l.getD (↑i : Int).toNat (dflt tE)).1, PV.int .i64 (l.getD (↑i : Int).toNat (dflt tE)).2], .agg   [.int .i64 (l.getD (↑i : Int).toNat (dflt tE)).1, .int .i64 (l.getD (↑i : Int).toNat (dflt tE)).2], .ptr 0 1, .sl tBs (tab n.toNat (inL l)), .ptr 2 0, .int .i64 (l.getD (↑i : Int).toNat (dflt tE)).1, .eptr [PV.sl .bool (List.getD (tab n.toNat (inL l)) (Int.toNat (l.getD (↑i : Int).toNat (dflt tE)).1) (dflt tBs))], .sl .bool (List.getD (tab n.toNat (inL l)) (Int.toNat (l.getD (↑i : Int).toNat (dflt tE)).1) (dflt tBs)), .int .i64   (↑(List.length (List.getD (tab n.toNat (inL l)) (Int.toNat (l.getD (↑i : Int).toNat (dflt tE)).1) (dflt tBs))) : Int), .int .i64 (p.1 : Int), .any, .any, .any, .any, .any, .any, .any, .any, .any, .any, .any, .any, .any, .any, .any, .any, .any, .any, .any, .any, .any, .any, .any, .any, .any, .any, .any, .any], [.cells [.int .i64 n, .sl tBs (tab n.toNat (inL l))], .rows tE (List.filter (fun p => !covB n.toNat (inL l) p) (List.take i l)), .cells   [.int .i64 (l.getD (↑i : Int).toNat (dflt tE)).1, .int .i64 (l.getD (↑i : Int).toNat (dflt tE)).2]], 3⟩) (fun p => p.1 ≤ n.toNat ∧ p.2 = (List.range p.1).any fun k => inL l (l.getD i (dflt tE)).1.toNat k && inL l k (l.getD i (dflt tE)).2.toNat) (fun p => n.toNat - p.1) (And.intro (Exists.intro ((0, false)) (Exists.intro ([some 0, some 1, some 2]) (And.intro ?_ (And.intro (by rfl) (And.intro (by rfl) (And.intro (And.intro (And.intro (by rfl) (by rfl)) (And.intro (by rfl) (And.intro (And.intro (by rfl) (by rfl)) True.intro))) (by rfl))))))) ?_)
    · exact ⟨Nat.zero_le _, rfl⟩
    rintro ⟨k, b⟩ ⟨hk, hb⟩
    refine (And.intro (fun m0 => (And.intro (by first | exact room | (intros; (try subst_vars); (try simp only [Bool.cond_true_left, Bool.cond_false_right, Bool.or_eq_true, Bool.or_eq_false_iff, Bool.and_eq_true, Bool.not_eq_true', Bool.not_eq_false', decide_eq_true_eq, decide_eq_false_iff_not, Int.not_lt, Int.not_le] at *); (try simp only [inK, big, lim, List.length_cons, List.length_nil, List.length_append, List.length_drop, List.length_take, List.length_replicate] at *); omega) | exact need1 k (lt k m0) | exact need2 k (lt k m0)) (And.intro (by first | kernel_rfl | rfl) (And.intro (fun m1 => (by first | exact room | (intros; (try subst_vars); (try simp only [Bool.cond_true_left, Bool.cond_false_right, Bool.or_eq_true, Bool.or_eq_false_iff, Bool.and_eq_true, Bool.not_eq_true', Bool.not_eq_false', decide_eq_true_eq, decide_eq_false_iff_not, Int.not_lt, Int.not_le] at *); (try simp only [inK, big, lim, List.length_cons, List.length_nil, List.length_append, List.length_drop, List.length_take, List.length_replicate] at *); omega) | exact need1 k (lt k m0) | exact need2 k (lt k m0))) (And.intro (fun m2 => (by first | exact room | (intros; (try subst_vars); (try simp only [Bool.cond_true_left, Bool.cond_false_right, Bool.or_eq_true, Bool.or_eq_false_iff, Bool.and_eq_true, Bool.not_eq_true', Bool.not_eq_false', decide_eq_true_eq, decide_eq_false_iff_not, Int.not_lt, Int.not_le] at *); (try simp only [inK, big, lim, List.length_cons, List.length_nil, List.length_append, List.length_drop, List.length_take, List.length_replicate] at *); omega) | exact need1 k (lt k m0) | exact need2 k (lt k m0))) (And.intro (by first | exact room | (intros; (try subst_vars); (try simp only [Bool.cond_true_left, Bool.cond_false_right, Bool.or_eq_true, Bool.or_eq_false_iff, Bool.and_eq_true, Bool.not_eq_true', Bool.not_eq_false', decide_eq_true_eq, decide_eq_false_iff_not, Int.not_lt, Int.not_le] at *); (try simp only [inK, big, lim, List.length_cons, List.length_nil, List.length_append, List.length_drop, List.length_take, List.length_replicate] at *); omega) | exact need1 k (lt k m0) | exact need2 k (lt k m0)) ?_)))))) (fun m0 => (And.intro (fun m3 => (And.intro (by first | exact room | (intros; (try subst_vars); (try simp only [Bool.cond_true_left, Bool.cond_false_right, Bool.or_eq_true, Bool.or_eq_false_iff, Bool.and_eq_true, Bool.not_eq_true', Bool.not_eq_false', decide_eq_true_eq, decide_eq_false_iff_not, Int.not_lt, Int.not_le] at *); (try simp only [inK, big, lim, List.length_cons, List.length_nil, List.length_append, List.length_drop, List.length_take, List.length_replicate] at *); omega) | exact need1 k (lt k m0) | exact need2 k (lt k m0)) (And.intro (by first | exact room | (intros; (try subst_vars); (try simp only [Bool.cond_true_left, Bool.cond_false_right, Bool.or_eq_true, Bool.or_eq_false_iff, Bool.and_eq_true, Bool.not_eq_true', Bool.not_eq_false', decide_eq_true_eq, decide_eq_false_iff_not, Int.not_lt, Int.not_le] at *); (try simp only [inK, big, lim, List.length_cons, List.length_nil, List.length_append, List.length_drop, List.length_take, List.length_replicate] at *); omega) | exact need1 k (lt k m0) | exact need2 k (lt k m0)) ?_))) (fun m3 => (And.intro (by first | exact room | (intros; (try subst_vars); (try simp only [Bool.cond_true_left, Bool.cond_false_right, Bool.or_eq_true, Bool.or_eq_false_iff, Bool.and_eq_true, Bool.not_eq_true', Bool.not_eq_false', decide_eq_true_eq, decide_eq_false_iff_not, Int.not_lt, Int.not_le] at *); (try simp only [inK, big, lim, List.length_cons, List.length_nil, List.length_append, List.length_drop, List.length_take, List.length_replicate] at *); omega) | exact need1 k (lt k m0) | exact need2 k (lt k m0)) ?_)))))
    · have hk' := lt k m0
      refine Exists.intro ((k + 1, _)) (Exists.intro ([some 0, some 1, some 2]) (And.intro ?_ (And.intro ?_ (And.intro (by rfl) (And.intro (by rfl) (And.intro (And.intro (And.intro (by rfl) (by rfl)) (And.intro (by rfl) (And.intro (And.intro (by rfl) (by rfl)) True.intro))) (by rfl)))))))
      · refine ⟨hk', ?_⟩
        rw [range_any, ← hb]
        show (bif b then true else bif ((tab n.toNat (inL l)).getD (l.getD i (dflt tE)).1.toNat []).getD k false then ((tab n.toNat (inL l)).getD k []).getD (l.getD i (dflt tE)).2.toNat false else false) = _
        rw [tab_at _ ha hk', tab_at _ hk' hb']
        cases b <;> cases inL l (l.getD i (dflt tE)).1.toNat k <;> rfl
      · show n.toNat - (k + 1) < n.toNat - k
        omega
    · have hk' : k = n.toNat := Nat.le_antisymm hk (ge k m0)
      subst hk'
      have eb : covB n.toNat (inL l) (l.getD i (dflt tE)) = b := hb.symm
      refine Exists.intro (i + 1) (Exists.intro ([some 0, some 4]) (And.intro ?_ (And.intro ?_ (And.intro (by rfl) (And.intro (by rfl) (And.intro (And.intro (And.intro (by rfl) (by rfl)) (And.intro ?_ True.intro)) (by rfl)))))))
      · exact hi'
      · show l.length - (i + 1) < l.length - i
        omega
      · refine congrArg (Ob.rows tE) ?_
        rw [take_filter hi', eb, if_pos m3]
        rfl
    · have hk' : k = n.toNat := Nat.le_antisymm hk (ge k m0)
      subst hk'
      have eb : covB n.toNat (inL l) (l.getD i (dflt tE)) = b := hb.symm
      refine Exists.intro (i + 1) (Exists.intro ([some 0, some 1]) (And.intro ?_ (And.intro ?_ (And.intro (by rfl) (And.intro (by rfl) (And.intro (And.intro (And.intro (by rfl) (by rfl)) (And.intro ?_ True.intro)) (by rfl)))))))
      · exact hi'
      · show l.length - (i + 1) < l.length - i
        omega
      · refine congrArg (Ob.rows tE) ?_
        rw [take_filter hi', eb, if_neg (by rw [m3]; simp), List.append_nil]
  · have hi' : ¬ i < l.length := by simpa using k0
    rw [List.take_of_length_le (by omega)]
    show ((coversF n l).1, (coversF n l).2, ()) = _
    rw [eg]
/-- Neither is before the other one. -/
def concG (f : Nat → Nat → Bool) (i j : Nat) : Bool := decide (i < j) && (!f i j && !f j i)
def concF (n : Int) (l : List Ed) : List Ed := if checkF n l ≠ 0 then [] else pairsF n.toNat (concG (inL l))
theorem row_conc (n : Nat) (f : Nat → Nat → Bool) (i : Nat) : ∀ j, j ≤ i + 1 → rowP n (concG f) i j = []
  | 0, _ => rfl
  | j + 1, h => by
    rw [row_next, row_conc n f i j (by omega), if_neg]
    · rfl
    · simp [concG]; omega
def rEs : List (Bool × Ty) := [(false, tEs)]
def c21 : Ctr := fnC [dI, dEs] rEs (fun _ => True) (fun y => (concF y.1 y.2.1, ()))
set_option maxHeartbeats 4000000 in
theorem good21 : GoodC Try.prog 21 c21 := by
  refine goodF cxH_good 4 _ _ _ _ ⟨_, Try.func21, rfl, rfl⟩ fun (⟨n, l, _⟩ : Int × List Ed × Unit) _ => ?_
  have mk : checkF n l = 0 → 0 ≤ n ∧ n ≤ 200 ∧ insideAll n l := fun h => ⟨(chk_ok h).1, (chk_ok h).2.1, (chk_ok h).2.2.2⟩
  refine (And.intro (by first | kernel_rfl | rfl) (And.intro True.intro (And.intro (fun h0 => (fin_of rfl ?_)) (fun h0 => (And.intro (by first | exact mk (by simpa using h0) | (intros; (try subst_vars); (try simp only [Bool.cond_true_left, Bool.cond_false_right, Bool.or_eq_true, Bool.or_eq_false_iff, Bool.and_eq_true, Bool.not_eq_true', Bool.not_eq_false', decide_eq_true_eq, decide_eq_false_iff_not, Int.not_lt, Int.not_le] at *); (try simp only [inK, big, lim, List.length_cons, List.length_nil, List.length_append, List.length_drop, List.length_take, List.length_replicate] at *); omega)) (fun (h1 : (Int × List (List Bool)) × PUnit) => (fun h2 => ?_)))))))
  · have h0' : checkF n l ≠ 0 := by simpa using h0
    show (concF n l, ()) = ([], ())
    rw [concF, if_pos h0']
  have h0' : checkF n l = 0 := by simpa using h0
  obtain ⟨n0, n1, n2, hl⟩ := chk_ok h0'
  have ek : h1 = ((n, matF n l), ()) := h2
  subst ek
  rw [mat_tab n0 hl]
  have eg : concF n l = pairsF n.toNat (concG (inL l)) := by rw [concF, if_neg (by simp [h0'])]
  have nz : ((n.toNat : Nat) : Int) = n := Int.toNat_of_nonneg n0
  have lt : ∀ a : Nat, decide ((a : Int) < n) = true → a < n.toNat := fun a h => by have := of_decide_eq_true h; omega
  have ge : ∀ a : Nat, decide ((a : Int) < n) = false → n.toNat ≤ a := fun a h => by have := of_decide_eq_false h; omega
  have f1 : ∀ a : Nat, a < n.toNat → 0 ≤ (a : Int) ∧ (a : Int) < ((tab n.toNat (inL l)).length : Int) := fun a h => by rw [tab_len]; omega
  have f2 : ∀ a b : Nat, a < n.toNat → b < n.toNat → 0 ≤ (b : Int) ∧ (b : Int) < (((tab n.toNat (inL l)).getD (a : Int).toNat []).length : Int) := fun a b h h' => by
    rw [Int.toNat_natCast, tab_rlen _ h]; omega
  refine ex4 _ (fun i : Nat => ⟨[.int .i64 n, .any, .any, .any, .any, .ptr 0 0, .own 1, .any, .any, .any, .any, .any, .any, .any, .any, .any, .int .i64 n, .int .i64 (i : Int), .any, .any, .any, .any, .any, .any, .any, .any, .any, .any, .any, .any, .any, .any, .any, .any, .any, .any, .any, .any, .any, .any, .any, .any, .any, .any, .any, .any, .any, .any, .any, .any, .any, .any, .any, .any, .any], [.cells [.int .i64 n, .sl tBs (tab n.toNat (inL l))], .rows tE (accI n.toNat (concG (inL l)) i)], 2⟩) (fun i => i ≤ n.toNat) (fun i => n.toNat - i) (And.intro (Exists.intro (0) (Exists.intro ([some 0, none]) (And.intro ?_ (And.intro (by rfl) (And.intro (by rfl) (And.intro (And.intro (And.intro (by rfl) (by rfl)) (And.intro (by rfl) True.intro)) (by rfl))))))) ?_)
  · exact Nat.zero_le _
  rintro i hi
  refine (And.intro (fun k0 => (And.intro (by intros; (try subst_vars); (try simp only [Bool.cond_true_left, Bool.cond_false_right, Bool.or_eq_true, Bool.or_eq_false_iff, Bool.and_eq_true, Bool.not_eq_true', Bool.not_eq_false', decide_eq_true_eq, decide_eq_false_iff_not, Int.not_lt, Int.not_le] at *); (try simp only [inK, big, lim, List.length_cons, List.length_nil, List.length_append, List.length_drop, List.length_take, List.length_replicate] at *); omega) ?_)) (fun k0 => (fin_of rfl ?_)))
  · have hi' := lt _ k0
    refine ex4 _ (fun j : Nat => ⟨[.int .i64 n, .any, .any, .any, .any, .ptr 0 0, .own 1, .int .i64 (↑i : Int), .int .i64 (j : Int), .any, .any, .any, .any, .any, .any, .any, .int .i64 n, .int .i64 (↑i : Int), .bool (decide ((↑i : Int) < n)), .int .i64 (↑i : Int), .int .i64 (↑i : Int), .int .i64 ((↑i : Int) + 1), .any, .any, .any, .any, .any, .any, .any, .any, .any, .any, .any, .any, .any, .any, .any, .any, .any, .any, .any, .any, .any, .any, .any, .any, .any, .any, .any, .any, .any, .any, .any, .any, .any], [.cells [.int .i64 n, .sl tBs (tab n.toNat (inL l))], .rows tE (accI n.toNat (concG (inL l)) i ++ rowP n.toNat (concG (inL l)) i j)], 2⟩) (fun j => i < j ∧ j ≤ n.toNat) (fun j => n.toNat - j) (And.intro (Exists.intro ((i + 1)) (Exists.intro ([some 0, some 1]) (And.intro ?_ (And.intro (by rfl) (And.intro (by rfl) (And.intro (And.intro (And.intro (by rfl) (by rfl)) (And.intro ?_ True.intro)) (by rfl))))))) ?_)
    · exact ⟨Nat.lt_succ_self _, hi'⟩
    · exact congrArg (Ob.rows tE) (by rw [row_conc _ _ _ _ (Nat.le_refl _), List.append_nil])
    rintro j ⟨hij, hj⟩
    have room : ((accI n.toNat (concG (inL l)) i ++ rowP n.toNat (concG (inL l)) i j).length + 1) * 16 ≤ lim := by
      have := acc_row_len (concG (inL l)) (n := n.toNat) (i := i) (j := j) (by omega) hi hj
      simp only [lim]
      omega
    refine (And.intro (fun m0 => (And.intro (by first | exact room | (intros; (try subst_vars); (try simp only [Bool.cond_true_left, Bool.cond_false_right, Bool.or_eq_true, Bool.or_eq_false_iff, Bool.and_eq_true, Bool.not_eq_true', Bool.not_eq_false', decide_eq_true_eq, decide_eq_false_iff_not, Int.not_lt, Int.not_le] at *); (try simp only [inK, big, lim, List.length_cons, List.length_nil, List.length_append, List.length_drop, List.length_take, List.length_replicate] at *); omega) | exact f1 _ hi' | exact f1 _ (lt _ m0) | exact f2 _ _ hi' (lt _ m0) | exact f2 _ _ (lt _ m0) hi') (And.intro (by first | exact room | (intros; (try subst_vars); (try simp only [Bool.cond_true_left, Bool.cond_false_right, Bool.or_eq_true, Bool.or_eq_false_iff, Bool.and_eq_true, Bool.not_eq_true', Bool.not_eq_false', decide_eq_true_eq, decide_eq_false_iff_not, Int.not_lt, Int.not_le] at *); (try simp only [inK, big, lim, List.length_cons, List.length_nil, List.length_append, List.length_drop, List.length_take, List.length_replicate] at *); omega) | exact f1 _ hi' | exact f1 _ (lt _ m0) | exact f2 _ _ hi' (lt _ m0) | exact f2 _ _ (lt _ m0) hi') (And.intro (fun m1 => (by first | exact room | (intros; (try subst_vars); (try simp only [Bool.cond_true_left, Bool.cond_false_right, Bool.or_eq_true, Bool.or_eq_false_iff, Bool.and_eq_true, Bool.not_eq_true', Bool.not_eq_false', decide_eq_true_eq, decide_eq_false_iff_not, Int.not_lt, Int.not_le] at *); (try simp only [inK, big, lim, List.length_cons, List.length_nil, List.length_append, List.length_drop, List.length_take, List.length_replicate] at *); omega) | exact f1 _ hi' | exact f1 _ (lt _ m0) | exact f2 _ _ hi' (lt _ m0) | exact f2 _ _ (lt _ m0) hi')) (And.intro (fun m2 => (by first | exact room | (intros; (try subst_vars); (try simp only [Bool.cond_true_left, Bool.cond_false_right, Bool.or_eq_true, Bool.or_eq_false_iff, Bool.and_eq_true, Bool.not_eq_true', Bool.not_eq_false', decide_eq_true_eq, decide_eq_false_iff_not, Int.not_lt, Int.not_le] at *); (try simp only [inK, big, lim, List.length_cons, List.length_nil, List.length_append, List.length_drop, List.length_take, List.length_replicate] at *); omega) | exact f1 _ hi' | exact f1 _ (lt _ m0) | exact f2 _ _ hi' (lt _ m0) | exact f2 _ _ (lt _ m0) hi')) (And.intro (fun m3 => (And.intro (by first | exact room | (intros; (try subst_vars); (try simp only [Bool.cond_true_left, Bool.cond_false_right, Bool.or_eq_true, Bool.or_eq_false_iff, Bool.and_eq_true, Bool.not_eq_true', Bool.not_eq_false', decide_eq_true_eq, decide_eq_false_iff_not, Int.not_lt, Int.not_le] at *); (try simp only [inK, big, lim, List.length_cons, List.length_nil, List.length_append, List.length_drop, List.length_take, List.length_replicate] at *); omega) | exact f1 _ hi' | exact f1 _ (lt _ m0) | exact f2 _ _ hi' (lt _ m0) | exact f2 _ _ (lt _ m0) hi') (And.intro (by first | exact room | (intros; (try subst_vars); (try simp only [Bool.cond_true_left, Bool.cond_false_right, Bool.or_eq_true, Bool.or_eq_false_iff, Bool.and_eq_true, Bool.not_eq_true', Bool.not_eq_false', decide_eq_true_eq, decide_eq_false_iff_not, Int.not_lt, Int.not_le] at *); (try simp only [inK, big, lim, List.length_cons, List.length_nil, List.length_append, List.length_drop, List.length_take, List.length_replicate] at *); omega) | exact f1 _ hi' | exact f1 _ (lt _ m0) | exact f2 _ _ hi' (lt _ m0) | exact f2 _ _ (lt _ m0) hi') ?_))) (fun m3 => (And.intro (by first | exact room | (intros; (try subst_vars); (try simp only [Bool.cond_true_left, Bool.cond_false_right, Bool.or_eq_true, Bool.or_eq_false_iff, Bool.and_eq_true, Bool.not_eq_true', Bool.not_eq_false', decide_eq_true_eq, decide_eq_false_iff_not, Int.not_lt, Int.not_le] at *); (try simp only [inK, big, lim, List.length_cons, List.length_nil, List.length_append, List.length_drop, List.length_take, List.length_replicate] at *); omega) | exact f1 _ hi' | exact f1 _ (lt _ m0) | exact f2 _ _ hi' (lt _ m0) | exact f2 _ _ (lt _ m0) hi') ?_)))))))) (fun m0 => (And.intro (by first | exact room | (intros; (try subst_vars); (try simp only [Bool.cond_true_left, Bool.cond_false_right, Bool.or_eq_true, Bool.or_eq_false_iff, Bool.and_eq_true, Bool.not_eq_true', Bool.not_eq_false', decide_eq_true_eq, decide_eq_false_iff_not, Int.not_lt, Int.not_le] at *); (try simp only [inK, big, lim, List.length_cons, List.length_nil, List.length_append, List.length_drop, List.length_take, List.length_replicate] at *); omega) | exact f1 _ hi' | exact f1 _ (lt _ m0) | exact f2 _ _ hi' (lt _ m0) | exact f2 _ _ (lt _ m0) hi') ?_)))
    · have hj' := lt _ m0
      have e : concG (inL l) i j = true := by
        have h3 : (bif !((tab n.toNat (inL l)).getD i []).getD j false then !((tab n.toNat (inL l)).getD j []).getD i false else false) = true := m3
        rw [tab_at _ hi' hj', tab_at _ hj' hi'] at h3
        simp only [concG, decide_eq_true hij, Bool.true_and]
        revert h3
        cases inL l i j <;> cases inL l j i <;> simp
      refine Exists.intro (j + 1) (Exists.intro ([some 0, some 3]) (And.intro ?_ (And.intro ?_ (And.intro (by rfl) (And.intro (by rfl) (And.intro (And.intro (And.intro (by rfl) (by rfl)) (And.intro ?_ True.intro)) (by rfl)))))))
      · exact ⟨by omega, hj'⟩
      · show n.toNat - (j + 1) < n.toNat - j
        omega
      · refine congrArg (Ob.rows tE) ?_
        rw [row_next, if_pos e, List.append_assoc]
    · have hj' := lt _ m0
      have e : concG (inL l) i j = false := by
        have h3 : (bif !((tab n.toNat (inL l)).getD i []).getD j false then !((tab n.toNat (inL l)).getD j []).getD i false else false) = false := m3
        rw [tab_at _ hi' hj', tab_at _ hj' hi'] at h3
        simp only [concG, decide_eq_true hij, Bool.true_and]
        revert h3
        cases inL l i j <;> cases inL l j i <;> simp
      refine Exists.intro (j + 1) (Exists.intro ([some 0, some 1]) (And.intro ?_ (And.intro ?_ (And.intro (by rfl) (And.intro (by rfl) (And.intro (And.intro (And.intro (by rfl) (by rfl)) (And.intro ?_ True.intro)) (by rfl)))))))
      · exact ⟨by omega, hj'⟩
      · show n.toNat - (j + 1) < n.toNat - j
        omega
      · refine congrArg (Ob.rows tE) ?_
        rw [row_next, if_neg (by simp [e]), List.append_nil]
    · have ej : j = n.toNat := Nat.le_antisymm hj (ge _ m0)
      subst ej
      refine Exists.intro (i + 1) (Exists.intro ([some 0, some 1]) (And.intro ?_ (And.intro ?_ (And.intro (by rfl) (And.intro (by rfl) (And.intro (And.intro (And.intro (by rfl) (by rfl)) (And.intro ?_ True.intro)) (by rfl)))))))
      · exact hi'
      · show n.toNat - (i + 1) < n.toNat - i
        omega
      · refine congrArg (Ob.rows tE) ?_
        rw [acc_next]
  · have ei : i = n.toNat := Nat.le_antisymm hi (ge _ k0)
    subst ei
    show (concF n l, ()) = (accI n.toNat (concG (inL l)) n.toNat, ())
    rw [eg]; rfl

/-- Where a number stands. -/
def placeAt (o : List Int) (x : Int) : Int := if x ∈ o then (o.idxOf x : Int) else 0
def goodO (n : Int) (o : List Int) : Prop := (∀ x ∈ o, 0 ≤ x ∧ x < n) ∧ o.Nodup
instance (n : Int) (o : List Int) : Decidable (goodO n o) := by unfold goodO; infer_instance
def extF (n : Int) (l : List Ed) (o : List Int) : Bool :=
  decide (checkF n l = 0) && (decide ((o.length : Int) = n) && (decide (goodO n o) && !l.any fun p => decide (placeAt o p.2 ≤ placeAt o p.1)))
/-- The places so far. -/
def PlI (n : Int) (o : List Int) (i : Nat) (pl : List Int) (met : List Bool) : Prop :=
  i ≤ o.length ∧ goodO n (o.take i) ∧ pl.length = n.toNat ∧ met.length = n.toNat ∧
  (∀ x : Nat, x < n.toNat → met.getD x false = decide ((x : Int) ∈ o.take i)) ∧ (∀ x : Nat, x < n.toNat → pl.getD x 0 = placeAt (o.take i) x)
theorem pl_start (n : Int) (o : List Int) : PlI n o 0 (List.replicate n.toNat 0) (List.replicate n.toNat false) := by
  refine ⟨Nat.zero_le _, ⟨fun x hx => by simp at hx, by simp⟩, by simp, by simp, fun x hx => ?_, fun x hx => ?_⟩
  · simp [List.getD_eq_getElem?_getD, hx]
  · simp [List.getD_eq_getElem?_getD, hx, placeAt]
theorem take_get {o : List Int} {i : Nat} (h : i < o.length) : o.take (i + 1) = o.take i ++ [o.getD i 0] := by
  rw [List.take_succ_eq_append_getElem h, List.getD_eq_getElem?_getD, List.getElem?_eq_getElem h]
  rfl
theorem pl_mem {n : Int} {o : List Int} {i : Nat} {pl : List Int} {met : List Bool} (h : PlI n o i pl met) {x : Int} (hx : 0 ≤ x) (hx' : x < n) : met.getD x.toNat false = decide (x ∈ o.take i) := by
  rw [h.2.2.2.2.1 _ (by omega), Int.toNat_of_nonneg hx]
theorem get_set {α : Type} {d v : α} {l : List α} {x y : Nat} (h : y < l.length) : (l.set y v).getD x d = if y = x then v else l.getD x d := by
  by_cases e : y = x
  · subst e
    rw [if_pos rfl, List.getD_eq_getElem?_getD, List.getElem?_set_self h]; rfl
  · rw [if_neg e, List.getD_eq_getElem?_getD, List.getElem?_set_ne e, ← List.getD_eq_getElem?_getD]
theorem pl_next {n : Int} {o : List Int} {i : Nat} {pl : List Int} {met : List Bool} (h : PlI n o i pl met) (hi : i < o.length) (hx : 0 ≤ o.getD i 0) (hx' : o.getD i 0 < n) (hm : o.getD i 0 ∉ o.take i) :
    PlI n o (i + 1) (pl.set (o.getD i 0).toNat i) (met.set (o.getD i 0).toNat true) := by
  obtain ⟨h1, h2, h3, h4, h5, h6⟩ := h
  have et := take_get hi
  generalize o.getD i 0 = y at *
  have hy : y.toNat < n.toNat := by omega
  have hl : (o.take i).length = i := by rw [List.length_take]; omega
  refine ⟨hi, ?_, by simp [h3], by simp [h4], fun x hlt => ?_, fun x hlt => ?_⟩
  · rw [et]
    refine ⟨fun x hx => ?_, List.nodup_append.2 ⟨h2.2, by simp, fun a ha b hb => ?_⟩⟩
    · rcases List.mem_append.1 hx with h | h
      · exact h2.1 x h
      · rw [List.mem_singleton.1 h]; exact ⟨‹_›, ‹_›⟩
    · rw [List.mem_singleton.1 hb]
      intro e
      subst e
      exact hm ha
  · rw [et, get_set (by omega), h5 x hlt]
    by_cases hxx : y.toNat = x
    · have ex : (x : Int) = y := by omega
      rw [if_pos hxx, ex]
      simp
    · have ex : ¬ (x : Int) = y := by omega
      rw [if_neg hxx]
      refine decide_eq_decide.2 ?_
      simp [ex]
  · rw [et, get_set (by omega), h6 x hlt]
    by_cases hxx : y.toNat = x
    · have ex : (x : Int) = y := by omega
      rw [if_pos hxx, ex, placeAt, if_pos (by simp), List.idxOf_append, if_neg hm, hl]
      simp
    · have ex : ¬ (x : Int) = y := by omega
      rw [if_neg hxx]
      unfold placeAt
      by_cases hin : (x : Int) ∈ o.take i
      · rw [if_pos hin, if_pos (List.mem_append_left _ hin), List.idxOf_append, if_pos hin]
      · rw [if_neg hin, if_neg (by simp [hin, ex])]
theorem pl_bad {n : Int} {o : List Int} {i : Nat} (hi : i < o.length) (h : o.getD i 0 < 0 ∨ n ≤ o.getD i 0 ∨ o.getD i 0 ∈ o.take i) : ¬ goodO n o := by
  rintro ⟨h1, h2⟩
  have hm : o.getD i 0 ∈ o := by rw [List.getD_eq_getElem?_getD, List.getElem?_eq_getElem hi]; exact List.getElem_mem hi
  have := h1 _ hm
  rcases h with h | h | h
  · omega
  · omega
  · have e : o = o.take i ++ o.drop i := (List.take_append_drop i o).symm
    rw [e] at h2
    refine (List.nodup_append.1 h2).2.2 _ h _ ?_ rfl
    rw [List.drop_eq_getElem_cons hi, List.getD_eq_getElem?_getD, List.getElem?_eq_getElem hi]
    exact List.mem_cons_self
theorem pl_late {n : Int} {o : List Int} {pl : List Int} {met : List Bool} {l : List Ed} (h : PlI n o o.length pl met) (hl : insideAll n l) : l.any (lateE pl) = l.any fun p => decide (placeAt o p.2 ≤ placeAt o p.1) := by
  obtain ⟨h1, h2, h3, h4, h5, h6⟩ := h
  rw [List.take_length] at h6
  have e : ∀ p ∈ l, lateE pl p = decide (placeAt o p.2 ≤ placeAt o p.1) := fun p hp => by
    have hp' := out_false (hl p hp)
    unfold lateE
    rw [h6 _ (by omega), h6 _ (by omega), Int.toNat_of_nonneg hp'.1, Int.toNat_of_nonneg hp'.2.2.1]
  clear hl
  induction l with
  | nil => rfl
  | cons p l ih =>
    rw [List.any_cons, List.any_cons, e p (by simp), ih fun q hq => e q (by simp [hq])]
def cxI : Ctx := ⟨tys0, [(18, ([], c18)), (45, ([], c45))]⟩
theorem cxI_good : GoodCtx Try.prog cxI := cx_cons good18 (cx_cons good45 cx0_good)
def c28 : Ctr := fnC [dI, dEs, dIs] rB (fun _ => True) (fun y => (extF y.1 y.2.1 y.2.2.1, ()))
set_option maxHeartbeats 4000000 in
theorem good28 : GoodC Try.prog 28 c28 := by
  refine goodF cxI_good 4 _ _ _ _ ⟨_, Try.func28, rfl, rfl⟩ fun (⟨n, l, o, _⟩ : Int × List Ed × List Int × Unit) _ => ?_
  have dec : (bif !decide (checkF n l = 0) then true else !decide ((o.length : Int) = n)) = false → checkF n l = 0 ∧ (o.length : Int) = n := fun h => by
    by_cases h1 : checkF n l = 0 <;> by_cases h2 : (o.length : Int) = n <;> simp_all
  have mk : ∀ k : Nat, k ≤ 8 → checkF n l = 0 → 0 ≤ n ∧ n ≤ n ∧ n * (k : Int) ≤ (lim : Int) ∧ n ≤ (lim : Int) := fun k hk h => by
    obtain ⟨n0, n1, -⟩ := chk_ok h
    have : n * (k : Int) ≤ 200 * 8 := Int.mul_le_mul n1 (by omega) (by omega) (by omega)
    simp only [lim]
    omega
  refine (And.intro (by first | kernel_rfl | rfl) (And.intro True.intro (fun h0 => (And.intro (fun h1 => (fin_of rfl ?_)) (fun h1 => (And.intro (by first | exact mk _ (by decide) (dec h1).1 | (intros; (try subst_vars); (try simp only [Bool.cond_true_left, Bool.cond_false_right, Bool.or_eq_true, Bool.or_eq_false_iff, Bool.and_eq_true, Bool.not_eq_true', Bool.not_eq_false', decide_eq_true_eq, decide_eq_false_iff_not, Int.not_lt, Int.not_le] at *); (try simp only [inK, big, lim, List.length_cons, List.length_nil, List.length_append, List.length_drop, List.length_take, List.length_replicate] at *); omega)) (And.intro (by first | exact mk _ (by decide) (dec h1).1 | (intros; (try subst_vars); (try simp only [Bool.cond_true_left, Bool.cond_false_right, Bool.or_eq_true, Bool.or_eq_false_iff, Bool.and_eq_true, Bool.not_eq_true', Bool.not_eq_false', decide_eq_true_eq, decide_eq_false_iff_not, Int.not_lt, Int.not_le] at *); (try simp only [inK, big, lim, List.length_cons, List.length_nil, List.length_append, List.length_drop, List.length_take, List.length_replicate] at *); omega)) (fun h2 => ?_))))))))
  · show (extF n l o, ()) = (false, ())
    have : extF n l o = false := by
      unfold extF
      by_cases h2 : checkF n l = 0
      · have h3 : ¬ (o.length : Int) = n := fun e => by simp [h2, e] at h1
        simp [h3]
      · simp [h2]
    rw [this]
  obtain ⟨h0', ho⟩ := dec h1
  obtain ⟨n0, n1, n2, hl⟩ := chk_ok h0'
  have eg : extF n l o = (decide (goodO n o) && !l.any fun p => decide (placeAt o p.2 ≤ placeAt o p.1)) := by simp [extF, h0', ho]
  have nz : ((n.toNat : Nat) : Int) = n := Int.toNat_of_nonneg n0
  refine ex4 _ (fun p : Nat × List Int × List Bool => ⟨[.int .i64 n, .sl tE l, .sl (.int .i64) o, .any, .any, .any, .any, .ptr 1 0, .own 2, .any, .any, .any, .any, .any, .any, .any, .any, .any, .any, .any, .any, .any, .any, .any, .any, .sl (.int .i64) o, .int .i64 (↑o.length : Int), .int .i64 (p.1 : Int), .any, .any, .any, .any, .any, .any, .any, .any, .any, .any, .any, .any, .any, .any, .any, .any, .any, .any, .any, .any, .any, .any, .any, .any, .any, .any, .any, .any, .any], [.rows tI p.2.1, .cells [.own 0], .rows .bool p.2.2], 3⟩) (fun p => PlI n o p.1 p.2.1 p.2.2) (fun p => o.length - p.1) (And.intro (Exists.intro ((0, List.replicate n.toNat 0, List.replicate n.toNat false)) (Exists.intro ([some 0, some 1, some 2]) (And.intro ?_ (And.intro (by rfl) (And.intro (by rfl) (And.intro (And.intro (by rfl) (And.intro (And.intro (by rfl) (by rfl)) (And.intro (by rfl) True.intro))) (by rfl))))))) ?_)
  · exact pl_start n o
  rintro ⟨i, pl, met⟩ hp
  have hpi : PlI n o i pl met := hp
  have fa : (bif decide (o.getD i 0 < 0) then true else decide (n ≤ o.getD i 0)) = false → 0 ≤ o.getD i 0 ∧ o.getD i 0 < n := fun h => by
    generalize o.getD i 0 = x at h ⊢
    by_cases h1 : x < 0
    · simp [h1] at h
    · simp [h1] at h
      omega
  have fm : (bif decide (o.getD i 0 < 0) then true else decide (n ≤ o.getD i 0)) = false → 0 ≤ o.getD i 0 ∧ o.getD i 0 < (met.length : Int) := fun h => by
    rw [hpi.2.2.2.1, nz]; exact fa h
  have fb : (bif bif decide (o.getD i 0 < 0) then true else decide (n ≤ o.getD i 0) then true else met.getD (o.getD i 0).toNat false) = false → (bif decide (o.getD i 0 < 0) then true else decide (n ≤ o.getD i 0)) = false ∧ met.getD (o.getD i 0).toNat false = false := fun h => by
    revert h
    cases (bif decide (o.getD i 0 < 0) then true else decide (n ≤ o.getD i 0)) <;> simp
  have fp : (bif decide (o.getD i 0 < 0) then true else decide (n ≤ o.getD i 0)) = false → 0 ≤ o.getD i 0 ∧ o.getD i 0 < (pl.length : Int) := fun h => by
    rw [hpi.2.2.1, nz]; exact fa h
  have fl : insideAll (pl.length : Int) l := by rw [hpi.2.2.1, nz]; exact hl
  refine (And.intro (fun k0 => (And.intro (by first | (intros; (try subst_vars); (try simp only [Bool.cond_true_left, Bool.cond_false_right, Bool.or_eq_true, Bool.or_eq_false_iff, Bool.and_eq_true, Bool.not_eq_true', Bool.not_eq_false', decide_eq_true_eq, decide_eq_false_iff_not, Int.not_lt, Int.not_le] at *); (try simp only [inK, big, lim, List.length_cons, List.length_nil, List.length_append, List.length_drop, List.length_take, List.length_replicate] at *); omega) | exact fm k1 | exact fm (fb k2).1 | exact fp (fb k2).1 | exact fl) (And.intro (fun k1 => (by first | (intros; (try subst_vars); (try simp only [Bool.cond_true_left, Bool.cond_false_right, Bool.or_eq_true, Bool.or_eq_false_iff, Bool.and_eq_true, Bool.not_eq_true', Bool.not_eq_false', decide_eq_true_eq, decide_eq_false_iff_not, Int.not_lt, Int.not_le] at *); (try simp only [inK, big, lim, List.length_cons, List.length_nil, List.length_append, List.length_drop, List.length_take, List.length_replicate] at *); omega) | exact fm k1 | exact fm (fb k2).1 | exact fp (fb k2).1 | exact fl)) (And.intro (fun k2 => (fin_of rfl ?_)) (fun k2 => (And.intro (by first | (intros; (try subst_vars); (try simp only [Bool.cond_true_left, Bool.cond_false_right, Bool.or_eq_true, Bool.or_eq_false_iff, Bool.and_eq_true, Bool.not_eq_true', Bool.not_eq_false', decide_eq_true_eq, decide_eq_false_iff_not, Int.not_lt, Int.not_le] at *); (try simp only [inK, big, lim, List.length_cons, List.length_nil, List.length_append, List.length_drop, List.length_take, List.length_replicate] at *); omega) | exact fm k1 | exact fm (fb k2).1 | exact fp (fb k2).1 | exact fl) (And.intro (by first | (intros; (try subst_vars); (try simp only [Bool.cond_true_left, Bool.cond_false_right, Bool.or_eq_true, Bool.or_eq_false_iff, Bool.and_eq_true, Bool.not_eq_true', Bool.not_eq_false', decide_eq_true_eq, decide_eq_false_iff_not, Int.not_lt, Int.not_le] at *); (try simp only [inK, big, lim, List.length_cons, List.length_nil, List.length_append, List.length_drop, List.length_take, List.length_replicate] at *); omega) | exact fm k1 | exact fm (fb k2).1 | exact fp (fb k2).1 | exact fl) (And.intro (by first | (intros; (try subst_vars); (try simp only [Bool.cond_true_left, Bool.cond_false_right, Bool.or_eq_true, Bool.or_eq_false_iff, Bool.and_eq_true, Bool.not_eq_true', Bool.not_eq_false', decide_eq_true_eq, decide_eq_false_iff_not, Int.not_lt, Int.not_le] at *); (try simp only [inK, big, lim, List.length_cons, List.length_nil, List.length_append, List.length_drop, List.length_take, List.length_replicate] at *); omega) | exact fm k1 | exact fm (fb k2).1 | exact fp (fb k2).1 | exact fl) ?_)))))))) (fun k0 => (And.intro (by first | (intros; (try subst_vars); (try simp only [Bool.cond_true_left, Bool.cond_false_right, Bool.or_eq_true, Bool.or_eq_false_iff, Bool.and_eq_true, Bool.not_eq_true', Bool.not_eq_false', decide_eq_true_eq, decide_eq_false_iff_not, Int.not_lt, Int.not_le] at *); (try simp only [inK, big, lim, List.length_cons, List.length_nil, List.length_append, List.length_drop, List.length_take, List.length_replicate] at *); omega) | exact fm k1 | exact fm (fb k2).1 | exact fp (fb k2).1 | exact fl) (fin_of rfl ?_))))
  · have hi : i < o.length := by simpa using k0
    have hb : ¬ goodO n o := by
      refine pl_bad hi ?_
      by_cases h1 : o.getD i 0 < 0
      · exact Or.inl h1
      · by_cases h2 : n ≤ o.getD i 0
        · exact Or.inr (Or.inl h2)
        · refine Or.inr (Or.inr ?_)
          have k2' : (bif bif decide (o.getD i 0 < 0) then true else decide (n ≤ o.getD i 0) then true else met.getD (o.getD i 0).toNat false) = true := k2
          rw [pl_mem hpi (by omega) (by omega)] at k2'
          rw [decide_eq_false h1, decide_eq_false h2] at k2'
          exact of_decide_eq_true k2'
    show (extF n l o, ()) = (false, ())
    rw [eg, decide_eq_false hb]; rfl
  · have hi : i < o.length := by simpa using k0
    obtain ⟨f1, f2⟩ := fb k2
    obtain ⟨f3, f4⟩ := fa f1
    rw [pl_mem hpi f3 f4] at f2
    refine Exists.intro ((i + 1, pl.set (o.getD i 0).toNat (i : Int), met.set (o.getD i 0).toNat true)) (Exists.intro ([some 0, some 1, some 2]) (And.intro ?_ (And.intro ?_ (And.intro (by rfl) (And.intro (by rfl) (And.intro (And.intro (by rfl) (And.intro (And.intro (by rfl) (by rfl)) (And.intro (by rfl) True.intro))) (by rfl)))))))
    · exact pl_next hpi hi f3 f4 (of_decide_eq_false f2)
    · show o.length - (i + 1) < o.length - i
      omega
  · have hi : i = o.length := by
      have := hpi.1
      have : ¬ i < o.length := by simpa using k0
      omega
    subst hi
    have hg : goodO n o := by
      have := hpi.2.1
      rwa [List.take_length] at this
    show (extF n l o, ()) = (!l.any (lateE pl), ())
    rw [eg, decide_eq_true hg, pl_late hpi hl]; rfl
end Go.Proofs.Ytlaefkhbpnbahaa
/- Partial orders: Least, as a contract. -/
namespace Go.Proofs.Ytlaefkhbpnbahaa
open Go.Sx

/-- Not used, and nothing unused before it. -/
def freeB (n : Nat) (f : Nat → Nat → Bool) (u : List Bool) (i : Nat) : Bool := !(u.getD i false || (List.range n).any fun k => f k i && !u.getD k false)
def leastK (n : Nat) (f : Nat → Nat → Bool) : Nat → List Bool × List Int
  | 0 => (List.replicate n false, [])
  | k + 1 => match (List.range n).find? (freeB n f (leastK n f k).1) with
    | some i => ((leastK n f k).1.set i true, (leastK n f k).2 ++ [(i : Int)])
    | none => leastK n f k
theorem least_len (n : Nat) (f : Nat → Nat → Bool) : ∀ k, (leastK n f k).1.length = n
  | 0 => by simp [leastK]
  | k + 1 => by
    rw [leastK]
    split
    · rw [List.length_set]; exact least_len n f k
    · exact least_len n f k
theorem least_olen (n : Nat) (f : Nat → Nat → Bool) : ∀ k, (leastK n f k).2.length ≤ k
  | 0 => by simp [leastK]
  | k + 1 => by
    have := least_olen n f k
    rw [leastK]
    split
    · simp; exact this
    · omega
theorem least_none {n : Nat} {f : Nat → Nat → Bool} {k : Nat} (h : (List.range n).any (freeB n f (leastK n f k).1) = false) : leastK n f (k + 1) = leastK n f k := by
  have e : (List.range n).find? (freeB n f (leastK n f k).1) = none := List.find?_eq_none.2 fun x hx => by
    have := List.any_eq_false.1 h x hx
    simpa using this
  rw [leastK, e]
theorem find_hit {n x : Nat} {p : Nat → Bool} (hx : x < n) (h : (List.range x).any p = false) (hp : p x = true) : (List.range n).find? p = some x := by
  refine List.find?_range_eq_some.2 ⟨hp, List.mem_range.2 hx, fun j hj => ?_⟩
  have := List.any_eq_false.1 h j (List.mem_range.2 hj)
  simpa using this
theorem least_hit {n : Nat} {f : Nat → Nat → Bool} {k x : Nat} (hx : x < n) (h : (List.range x).any (freeB n f (leastK n f k).1) = false) (hp : freeB n f (leastK n f k).1 x = true) :
    leastK n f (k + 1) = ((leastK n f k).1.set x true, (leastK n f k).2 ++ [(x : Int)]) := by
  rw [leastK, find_hit hx h hp]
def leastF (n : Int) (l : List Ed) : List Int × Int :=
  if checkF n l ≠ 0 then ([], checkF n l) else ((leastK n.toNat (inL l) n.toNat).2, 0)
def cxJ : Ctx := ⟨tys0, [(18, ([], c18)), (39, ([], c39))]⟩
theorem cxJ_good : GoodCtx Try.prog cxJ := cx_cons good18 (cx_cons good39 cx0_good)
@[reducible] def rIsI : List (Bool × Ty) := [(false, tIs), (false, tI)]
def c33 : Ctr := fnC [dI, dEs] rIsI (fun _ => True) (fun y => ((leastF y.1 y.2.1).1, (leastF y.1 y.2.1).2, ()))
set_option maxHeartbeats 4000000 in
theorem good33 : GoodC Try.prog 33 c33 := by
  refine goodF cxJ_good 9 _ _ _ _ ⟨_, Try.func33, rfl, rfl⟩ fun (⟨n, l, _⟩ : Int × List Ed × Unit) _ => ?_
  have mk : checkF n l = 0 → 0 ≤ n ∧ n ≤ 200 ∧ insideAll n l := fun h => ⟨(chk_ok h).1, (chk_ok h).2.1, (chk_ok h).2.2.2⟩
  have mk1 : checkF n l = 0 → 0 ≤ n ∧ n ≤ n ∧ n * ((1 : Nat) : Int) ≤ (lim : Int) ∧ n ≤ (lim : Int) := fun h => by
    obtain ⟨n0, n1, -⟩ := chk_ok h
    simp only [lim]
    omega
  refine (And.intro (by first | kernel_rfl | rfl) (And.intro True.intro (And.intro (fun h0 => (fin_of rfl ?_)) (fun h0 => (And.intro (by first | exact mk (by simpa using h0) | exact mk1 (by simpa using h0) | (intros; (try subst_vars); (try simp only [Bool.cond_true_left, Bool.cond_false_right, Bool.or_eq_true, Bool.or_eq_false_iff, Bool.and_eq_true, Bool.not_eq_true', Bool.not_eq_false', decide_eq_true_eq, decide_eq_false_iff_not, Int.not_lt, Int.not_le] at *); (try simp only [inK, big, lim, List.length_cons, List.length_nil, List.length_append, List.length_drop, List.length_take, List.length_replicate] at *); omega)) (fun (h1 : (Int × List (List Bool)) × PUnit) => (fun h2 => (And.intro (by first | exact mk (by simpa using h0) | exact mk1 (by simpa using h0) | (intros; (try subst_vars); (try simp only [Bool.cond_true_left, Bool.cond_false_right, Bool.or_eq_true, Bool.or_eq_false_iff, Bool.and_eq_true, Bool.not_eq_true', Bool.not_eq_false', decide_eq_true_eq, decide_eq_false_iff_not, Int.not_lt, Int.not_le] at *); (try simp only [inK, big, lim, List.length_cons, List.length_nil, List.length_append, List.length_drop, List.length_take, List.length_replicate] at *); omega)) ?_))))))))
  · have h0' : checkF n l ≠ 0 := by simpa using h0
    show ((leastF n l).1, (leastF n l).2, ()) = ([], checkF n l, ())
    rw [leastF, if_pos h0']
  have h0' : checkF n l = 0 := by simpa using h0
  obtain ⟨n0, n1, n2, hl⟩ := chk_ok h0'
  have ek : h1 = ((n, matF n l), ()) := h2
  subst ek
  rw [mat_tab n0 hl]
  have eg : leastF n l = ((leastK n.toNat (inL l) n.toNat).2, 0) := by rw [leastF, if_neg (by simp [h0'])]
  have nz : ((n.toNat : Nat) : Int) = n := Int.toNat_of_nonneg n0
  have lt : ∀ a : Nat, decide ((a : Int) < n) = true → a < n.toNat := fun a h => by have := of_decide_eq_true h; omega
  have ge : ∀ a : Nat, decide ((a : Int) < n) = false → n.toNat ≤ a := fun a h => by have := of_decide_eq_false h; omega
  refine ex4 _ (fun i : Nat => ⟨[.int .i64 n, .any, .any, .any, .any, .any, .any, .ptr 0 0, .ptr 2 0, .ptr 3 0, .any, .any, .any, .any, .any, .any, .any, .any, .any, .any, .any, .any, .int .i64 n, .int .i64 (i : Int), .any, .any, .any, .any, .any, .any, .any, .any, .any, .any, .any, .any, .any, .any], [.cells [.int .i64 n, .sl tBs (tab n.toNat (inL l))], .rows .bool (leastK n.toNat (inL l) i).1, .cells [.own 1], .cells [.own 4], .rows tI (leastK n.toNat (inL l) i).2], 5⟩) (fun i => i ≤ n.toNat) (fun i => n.toNat - i) (And.intro (Exists.intro (0) (Exists.intro ([some 0, some 1, some 2, some 3, none]) (And.intro ?_ (And.intro (by rfl) (And.intro (by rfl) (And.intro (And.intro (And.intro (by rfl) (by rfl)) (And.intro (by rfl) (And.intro (And.intro (by rfl) (by rfl)) (And.intro (And.intro (by rfl) (by rfl)) (And.intro (by rfl) True.intro))))) (by rfl))))))) ?_)
  · exact Nat.zero_le _
  rintro i hi
  refine (And.intro (fun k0 => (And.intro (by first | kernel_rfl | rfl) (And.intro (by first | kernel_rfl | rfl) (And.intro (by first | kernel_rfl | rfl) ?_)))) (fun k0 => (fin_of rfl ?_)))
  · have hi' := lt _ k0
    have f1 : ∀ a : Nat, a < n.toNat → 0 ≤ (a : Int) ∧ (a : Int) < ((tab n.toNat (inL l)).length : Int) := fun a h => by rw [tab_len]; omega
    have f2 : ∀ a b : Nat, a < n.toNat → b < n.toNat → 0 ≤ (b : Int) ∧ (b : Int) < (((tab n.toNat (inL l)).getD (a : Int).toNat []).length : Int) := fun a b h h' => by
      rw [Int.toNat_natCast, tab_rlen _ h]; omega
    have ul : (leastK n.toNat (inL l) i).1.length = n.toNat := least_len _ _ _
    have f3 : ∀ a : Nat, a < n.toNat → 0 ≤ (a : Int) ∧ (a : Int) < ((leastK n.toNat (inL l) i).1.length : Int) := fun a h => by rw [ul]; omega
    have room : ((leastK n.toNat (inL l) i).2.length + 1) * 8 ≤ lim := by
      have := least_olen n.toNat (inL l) i
      simp only [lim]
      omega
    refine ex4 _ (fun x : Nat => ⟨[.yld 7, .ptr 5 0, .ptr 6 0, .any, .any, .any, .any, .ptr 5 0, .int .i64 n, .int .i64 (x : Int), .any, .any, .any, .any, .any, .any, .any, .any, .any, .any, .any, .any, .any, .any, .any, .any, .any, .any, .any, .any, .any, .any, .any, .any, .any, .any, .any, .any, .any, .any, .any, .any, .any, .any, .any, .any, .any, .any, .any], [.cells [.int .i64 n, .sl tBs (tab n.toNat (inL l))], .rows .bool (leastK n.toNat (inL l) i).1, .cells [.own 1], .cells [.own 4], .rows tI (leastK n.toNat (inL l) i).2, .cells [.int .i64 n, .sl tBs (tab n.toNat (inL l))], .cells [.own 1], .loop .ready .no ([28]) _ _ [.int .i64 n, .any, .any, .any, .any, .any, .any, .ptr 0 0, .ptr 2 0, .ptr 3 0, .any, .any, .any, .any, .any, .any, .any, .any, .any, .any, .any, .any, .int .i64 n, .int .i64 (↑i : Int), .bool (decide ((↑i : Int) < n)), .agg [.int .i64 n, .sl tBs (tab n.toNat (inL l))], .own 1, .fn (Fn.func 63) [] [.ptr 5 0, .ptr 6 0], .any, .any, .any, .any, .any, .any, .any, .any, .any, .any]], 8⟩) (fun x => x ≤ n.toNat ∧ (List.range x).any (freeB n.toNat (inL l) (leastK n.toNat (inL l) i).1) = false) (fun x => n.toNat - x) (And.intro (Exists.intro (0) (Exists.intro ([some 0, some 1, some 2, some 3, some 4, some 5, some 6, some 7]) (And.intro ?_ (And.intro (by rfl) (And.intro (by rfl) (And.intro (And.intro (And.intro (by rfl) (by rfl)) (And.intro (by rfl) (And.intro (And.intro (by rfl) (by rfl)) (And.intro (And.intro (by rfl) (by rfl)) (And.intro (by rfl) (And.intro (And.intro (by rfl) (by rfl)) (And.intro (And.intro (by rfl) (by rfl)) (And.intro (And.intro (And.intro rfl (And.intro rfl (And.intro rfl (And.intro rfl rfl)))) (And.intro (by rfl) (by rfl))) True.intro)))))))) (by rfl))))))) ?_)
    · exact ⟨Nat.zero_le _, rfl⟩
    rintro x ⟨hx, hv⟩
    refine (And.intro (fun m0 => (And.intro (by first | (intros; (try subst_vars); (try simp only [Bool.cond_true_left, Bool.cond_false_right, Bool.or_eq_true, Bool.or_eq_false_iff, Bool.and_eq_true, Bool.not_eq_true', Bool.not_eq_false', decide_eq_true_eq, decide_eq_false_iff_not, Int.not_lt, Int.not_le] at *); (try simp only [inK, big, lim, List.length_cons, List.length_nil, List.length_append, List.length_drop, List.length_take, List.length_replicate] at *); omega) | exact f3 _ (lt _ m0)) ?_)) (fun m0 => (And.intro (by first | (intros; (try subst_vars); (try simp only [Bool.cond_true_left, Bool.cond_false_right, Bool.or_eq_true, Bool.or_eq_false_iff, Bool.and_eq_true, Bool.not_eq_true', Bool.not_eq_false', decide_eq_true_eq, decide_eq_false_iff_not, Int.not_lt, Int.not_le] at *); (try simp only [inK, big, lim, List.length_cons, List.length_nil, List.length_append, List.length_drop, List.length_take, List.length_replicate] at *); omega) | exact f3 _ (lt _ m0)) ?_)))
    · have hx' := lt _ m0
      refine ex4 _ (fun p : Nat × Bool => ⟨[.yld 7, .ptr 5 0, .ptr 6 0, .any, .int .i64 (↑x : Int), .bool p.2, .any, .ptr 5 0, .int .i64 n, .int .i64 (↑x : Int), .bool (decide ((↑x : Int) < n)), .int .i64 (↑x : Int), .own 1, .int .i64 (↑x : Int), .any, .bool ((leastK n.toNat (inL l) i).1.getD (↑x : Int).toNat (dflt .bool)), .ptr 5 0, .int .i64 n, .int .i64 (p.1 : Int), .any, .any, .any, .any, .any, .any, .any, .any, .any, .any, .any, .any, .any, .any, .any, .any, .any, .any, .any, .any, .any, .any, .any, .any, .any, .any, .any, .any, .any, .any], [.cells [.int .i64 n, .sl tBs (tab n.toNat (inL l))], .rows .bool (leastK n.toNat (inL l) i).1, .cells [.own 1], .cells [.own 4], .rows tI (leastK n.toNat (inL l) i).2, .cells [.int .i64 n, .sl tBs (tab n.toNat (inL l))], .cells [.own 1], .loop .ready .no ([28]) _ _ [.int .i64 n, .any, .any, .any, .any, .any, .any, .ptr 0 0, .ptr 2 0, .ptr 3 0, .any, .any, .any, .any, .any, .any, .any, .any, .any, .any, .any, .any, .int .i64 n, .int .i64 (↑i : Int), .bool (decide ((↑i : Int) < n)), .agg [.int .i64 n, .sl tBs (tab n.toNat (inL l))], .own 1, .fn (Fn.func 63) [] [.ptr 5 0, .ptr 6 0], .any, .any, .any, .any, .any, .any, .any, .any, .any, .any]], 8⟩) (fun p => p.1 ≤ n.toNat ∧ p.2 = ((leastK n.toNat (inL l) i).1.getD x false || (List.range p.1).any fun k => inL l k x && !(leastK n.toNat (inL l) i).1.getD k false)) (fun p => n.toNat - p.1) (And.intro (Exists.intro ((0, (leastK n.toNat (inL l) i).1.getD x false)) (Exists.intro ([some 0, some 1, some 2, some 3, some 4, some 5, some 6, some 7]) (And.intro ?_ (And.intro (by rfl) (And.intro (by rfl) (And.intro (And.intro (And.intro (by rfl) (by rfl)) (And.intro (by rfl) (And.intro (And.intro (by rfl) (by rfl)) (And.intro (And.intro (by rfl) (by rfl)) (And.intro (by rfl) (And.intro (And.intro (by rfl) (by rfl)) (And.intro (And.intro (by rfl) (by rfl)) (And.intro (And.intro (And.intro rfl (And.intro rfl (And.intro rfl (And.intro rfl rfl)))) (And.intro (by rfl) (by rfl))) True.intro)))))))) (by rfl))))))) ?_)
      · exact ⟨Nat.zero_le _, by simp⟩
      rintro ⟨k, b⟩ ⟨hk, hb⟩
      refine (And.intro (fun w0 => (And.intro (fun w1 => (by first | exact room | (intros; (try subst_vars); (try simp only [Bool.cond_true_left, Bool.cond_false_right, Bool.or_eq_true, Bool.or_eq_false_iff, Bool.and_eq_true, Bool.not_eq_true', Bool.not_eq_false', decide_eq_true_eq, decide_eq_false_iff_not, Int.not_lt, Int.not_le] at *); (try simp only [inK, big, lim, List.length_cons, List.length_nil, List.length_append, List.length_drop, List.length_take, List.length_replicate] at *); omega) | exact f1 _ (lt _ w0) | exact f2 _ _ (lt _ w0) hx' | exact f3 _ (lt _ w0) | exact f3 _ hx')) (And.intro (fun w2 => (by first | exact room | (intros; (try subst_vars); (try simp only [Bool.cond_true_left, Bool.cond_false_right, Bool.or_eq_true, Bool.or_eq_false_iff, Bool.and_eq_true, Bool.not_eq_true', Bool.not_eq_false', decide_eq_true_eq, decide_eq_false_iff_not, Int.not_lt, Int.not_le] at *); (try simp only [inK, big, lim, List.length_cons, List.length_nil, List.length_append, List.length_drop, List.length_take, List.length_replicate] at *); omega) | exact f1 _ (lt _ w0) | exact f2 _ _ (lt _ w0) hx' | exact f3 _ (lt _ w0) | exact f3 _ hx')) (And.intro (fun w3 => (by first | exact room | (intros; (try subst_vars); (try simp only [Bool.cond_true_left, Bool.cond_false_right, Bool.or_eq_true, Bool.or_eq_false_iff, Bool.and_eq_true, Bool.not_eq_true', Bool.not_eq_false', decide_eq_true_eq, decide_eq_false_iff_not, Int.not_lt, Int.not_le] at *); (try simp only [inK, big, lim, List.length_cons, List.length_nil, List.length_append, List.length_drop, List.length_take, List.length_replicate] at *); omega) | exact f1 _ (lt _ w0) | exact f2 _ _ (lt _ w0) hx' | exact f3 _ (lt _ w0) | exact f3 _ hx')) (And.intro (by first | exact room | (intros; (try subst_vars); (try simp only [Bool.cond_true_left, Bool.cond_false_right, Bool.or_eq_true, Bool.or_eq_false_iff, Bool.and_eq_true, Bool.not_eq_true', Bool.not_eq_false', decide_eq_true_eq, decide_eq_false_iff_not, Int.not_lt, Int.not_le] at *); (try simp only [inK, big, lim, List.length_cons, List.length_nil, List.length_append, List.length_drop, List.length_take, List.length_replicate] at *); omega) | exact f1 _ (lt _ w0) | exact f2 _ _ (lt _ w0) hx' | exact f3 _ (lt _ w0) | exact f3 _ hx') ?_))))) (fun w0 => (And.intro (fun w4 => ?_) (fun w5 => (And.intro (fun w6 => (And.intro (by first | exact room | (intros; (try subst_vars); (try simp only [Bool.cond_true_left, Bool.cond_false_right, Bool.or_eq_true, Bool.or_eq_false_iff, Bool.and_eq_true, Bool.not_eq_true', Bool.not_eq_false', decide_eq_true_eq, decide_eq_false_iff_not, Int.not_lt, Int.not_le] at *); (try simp only [inK, big, lim, List.length_cons, List.length_nil, List.length_append, List.length_drop, List.length_take, List.length_replicate] at *); omega) | exact f1 _ (lt _ w0) | exact f2 _ _ (lt _ w0) hx' | exact f3 _ (lt _ w0) | exact f3 _ hx') ?_)) (fun w6 => (And.intro (by first | exact room | (intros; (try subst_vars); (try simp only [Bool.cond_true_left, Bool.cond_false_right, Bool.or_eq_true, Bool.or_eq_false_iff, Bool.and_eq_true, Bool.not_eq_true', Bool.not_eq_false', decide_eq_true_eq, decide_eq_false_iff_not, Int.not_lt, Int.not_le] at *); (try simp only [inK, big, lim, List.length_cons, List.length_nil, List.length_append, List.length_drop, List.length_take, List.length_replicate] at *); omega) | exact f1 _ (lt _ w0) | exact f2 _ _ (lt _ w0) hx' | exact f3 _ (lt _ w0) | exact f3 _ hx') ?_)))))))
      · have hk' := lt _ w0
        refine Exists.intro ((k + 1, _)) (Exists.intro ([some 0, some 1, some 2, some 3, some 4, some 5, some 6, some 7]) (And.intro ?_ (And.intro ?_ (And.intro (by rfl) (And.intro (by rfl) (And.intro (And.intro (And.intro (by rfl) (by rfl)) (And.intro (by rfl) (And.intro (And.intro (by rfl) (by rfl)) (And.intro (And.intro (by rfl) (by rfl)) (And.intro (by rfl) (And.intro (And.intro (by rfl) (by rfl)) (And.intro (And.intro (by rfl) (by rfl)) (And.intro (And.intro (And.intro rfl (And.intro rfl (And.intro rfl (And.intro rfl rfl)))) (And.intro (by rfl) (by rfl))) True.intro)))))))) (by rfl)))))))
        · refine ⟨hk', ?_⟩
          rw [range_any, ← Bool.or_assoc, ← hb]
          show (bif b then true else bif ((tab n.toNat (inL l)).getD k []).getD x false then !(leastK n.toNat (inL l) i).1.getD k false else false) = _
          rw [tab_at _ hk' hx']
          cases b <;> cases inL l k x <;> cases (leastK n.toNat (inL l) i).1.getD k false <;> rfl
        · show n.toNat - (k + 1) < n.toNat - k
          omega
      · have ek : k = n.toNat := Nat.le_antisymm hk (ge _ w0)
        subst ek
        have ef : freeB n.toNat (inL l) (leastK n.toNat (inL l) i).1 x = true := by
          have : freeB n.toNat (inL l) (leastK n.toNat (inL l) i).1 x = !b := congrArg (fun c => !c) hb.symm
          rw [this]; exact w4
        have el := least_hit hx' hv ef
        refine ⟨f3 _ hx', ?_⟩
        refine (And.intro (by first | exact room | (intros; (try subst_vars); (try simp only [Bool.cond_true_left, Bool.cond_false_right, Bool.or_eq_true, Bool.or_eq_false_iff, Bool.and_eq_true, Bool.not_eq_true', Bool.not_eq_false', decide_eq_true_eq, decide_eq_false_iff_not, Int.not_lt, Int.not_le] at *); (try simp only [inK, big, lim, List.length_cons, List.length_nil, List.length_append, List.length_drop, List.length_take, List.length_replicate] at *); omega)) (And.intro (fun y0 => (And.intro (by first | exact room | (intros; (try subst_vars); (try simp only [Bool.cond_true_left, Bool.cond_false_right, Bool.or_eq_true, Bool.or_eq_false_iff, Bool.and_eq_true, Bool.not_eq_true', Bool.not_eq_false', decide_eq_true_eq, decide_eq_false_iff_not, Int.not_lt, Int.not_le] at *); (try simp only [inK, big, lim, List.length_cons, List.length_nil, List.length_append, List.length_drop, List.length_take, List.length_replicate] at *); omega)) ?_)) (fun y0 => (And.intro (by first | exact room | (intros; (try subst_vars); (try simp only [Bool.cond_true_left, Bool.cond_false_right, Bool.or_eq_true, Bool.or_eq_false_iff, Bool.and_eq_true, Bool.not_eq_true', Bool.not_eq_false', decide_eq_true_eq, decide_eq_false_iff_not, Int.not_lt, Int.not_le] at *); (try simp only [inK, big, lim, List.length_cons, List.length_nil, List.length_append, List.length_drop, List.length_take, List.length_replicate] at *); omega)) ?_))))
        · refine Exists.intro (i + 1) (Exists.intro ([some 0, some 1, some 2, some 3, some 9]) (And.intro ?_ (And.intro ?_ (And.intro (by rfl) (And.intro (by rfl) (And.intro (And.intro (And.intro (by rfl) (by rfl)) (And.intro ?_ (And.intro (And.intro (by rfl) (by rfl)) (And.intro (And.intro (by rfl) (by rfl)) (And.intro ?_ True.intro))))) (by rfl)))))))
          · exact hi'
          · show n.toNat - (i + 1) < n.toNat - i
            omega
          · refine congrArg (Ob.rows .bool) ?_
            rw [el]; rfl
          · refine congrArg (Ob.rows tI) ?_
            rw [el]
        · have e : b = false := by simpa using w4
          subst e
          exact nomatch y0
      · have e : b = true := by simpa using w5
        subst e
        exact nomatch w6
      · have ek : k = n.toNat := Nat.le_antisymm hk (ge _ w0)
        subst ek
        have e : b = true := by simpa using w5
        have ef : freeB n.toNat (inL l) (leastK n.toNat (inL l) i).1 x = false := by
          have : freeB n.toNat (inL l) (leastK n.toNat (inL l) i).1 x = !b := congrArg (fun c => !c) hb.symm
          rw [this, e]; rfl
        refine Exists.intro (x + 1) (Exists.intro ([some 0, some 1, some 2, some 3, some 4, some 5, some 6, some 7]) (And.intro ?_ (And.intro ?_ (And.intro (by rfl) (And.intro (by rfl) (And.intro (And.intro (And.intro (by rfl) (by rfl)) (And.intro (by rfl) (And.intro (And.intro (by rfl) (by rfl)) (And.intro (And.intro (by rfl) (by rfl)) (And.intro (by rfl) (And.intro (And.intro (by rfl) (by rfl)) (And.intro (And.intro (by rfl) (by rfl)) (And.intro (And.intro (And.intro rfl (And.intro rfl (And.intro rfl (And.intro rfl rfl)))) (And.intro (by rfl) (by rfl))) True.intro)))))))) (by rfl)))))))
        · exact ⟨hx', range_next hv ef⟩
        · show n.toNat - (x + 1) < n.toNat - x
          omega
    · have e : x = n.toNat := Nat.le_antisymm hx (ge _ m0)
      subst e
      have el := least_none hv
      refine Exists.intro (i + 1) (Exists.intro ([some 0, some 1, some 2, some 3, some 4]) (And.intro ?_ (And.intro ?_ (And.intro (by rfl) (And.intro (by rfl) (And.intro (And.intro (And.intro (by rfl) (by rfl)) (And.intro ?_ (And.intro (And.intro (by rfl) (by rfl)) (And.intro (And.intro (by rfl) (by rfl)) (And.intro ?_ True.intro))))) (by rfl)))))))
      · exact hi'
      · show n.toNat - (i + 1) < n.toNat - i
        omega
      · refine congrArg (Ob.rows .bool) ?_
        rw [el]
      · refine congrArg (Ob.rows tI) ?_
        rw [el]
  · have e : i = n.toNat := Nat.le_antisymm hi (ge _ k0)
    subst e
    show ((leastF n l).1, (leastF n l).2, ()) = ((leastK n.toNat (inL l) n.toNat).2, 0, ())
    rw [eg]
end Go.Proofs.Ytlaefkhbpnbahaa
/- Partial orders: Extensions, as a contract. -/
namespace Go.Proofs.Ytlaefkhbpnbahaa
open Go.Sx

def rIs : List (Bool × Ty) := [(false, tIs)]
def c41 : Ctr := fnO [dIs] tI (fun y => y.1.length ≤ 200) (fun y => y.1)
theorem good41 : GoodC Try.prog 41 c41 := by
  refine Go.Sx.goodO cx0_good 4 _ _ _ _ ⟨_, Try.func41, rfl, rfl⟩ fun (⟨xs, _⟩ : List Int × Unit) hn => ?_
  have hn' : xs.length ≤ 200 := hn
  clear hn
  have room : xs.length * 8 ≤ lim := by simp only [lim]; omega
  refine (And.intro (by first | kernel_rfl | rfl) (fun h0 => (fun h1 => (And.intro (fun h2 => (fin_cap0 (by simp_all))) (fun h2 => (And.intro (by first | exact room | (intros; (try subst_vars); (try simp only [Bool.cond_true_left, Bool.cond_false_right, Bool.or_eq_true, Bool.or_eq_false_iff, Bool.and_eq_true, Bool.not_eq_true', Bool.not_eq_false', decide_eq_true_eq, decide_eq_false_iff_not, Int.not_lt, Int.not_le] at *); (try simp only [inK, big, lim, List.length_cons, List.length_nil, List.length_append, List.length_drop, List.length_take, List.length_replicate] at *); omega)) (fin_own rfl (by simp_all))))))))
def tysX : List (TypeId × Ty) := (2000000 + 3, tI) :: tys0
def cxX : Ctx := ⟨tysX, [(41, ([], c41))]⟩
theorem cxX_good : GoodCtx Try.prog cxX := cx_ty (cx_cons good41 cx0_good)
/-- The state of memory that the search works in. -/
def exT (n : Nat) (m : Mx) (most : Int) (out : List (List Int)) (used : List Bool) (buf : List Int) : List Ob :=
  [.cells [.int .i64 (n : Int)], .cells [.own 6], .cells [.int .i64 most], .cells [.int .i64 (n : Int), .sl tBs m], .cells [.own 7], .cells [.fn (.func 40) [] [.ptr 0 0, .ptr 1 0, .ptr 2 0, .ptr 3 0, .ptr 4 0, .ptr 5 0]],
    .rows tIs out, .rows .bool used, .rows tI buf]
def exT1 (n : Nat) (m : Mx) (most : Int) (out : List (List Int)) (used : List Bool) (buf : List Int) : List Ob :=
  [.cells [.int .i64 (n : Int)], .cells [.own 9], .cells [.int .i64 most], .cells [.int .i64 (n : Int), .sl tBs m], .cells [.own 7], .cells [.fn (.func 40) [] [.ptr 0 0, .ptr 1 0, .ptr 2 0, .ptr 3 0, .ptr 4 0, .ptr 5 0]],
    .dead, .rows .bool used, .rows tI buf, .rows tIs out]
/-- The search, as the program makes it: what is found so far, and the row that the order is written into. -/
def extD (n : Nat) (f : Nat → Nat → Bool) (most : Int) : Nat → List Bool → Nat → List (List Int) × List Int → List (List Int) × List Int
  | 0, _, len, s => if (len : Int) = n ∧ (s.1.length : Int) < most then (s.1 ++ [s.2.take len], s.2) else s
  | d + 1, used, len, s => if (len : Int) = n ∧ (s.1.length : Int) < most then (s.1 ++ [s.2.take len], s.2) else
    (List.range n).foldl (fun s x => if freeB n f used x = true ∧ (s.1.length : Int) < most then extD n f most d (used.set x true) (len + 1) (s.1, s.2.set len (x : Int)) else s) s
def extStep (n : Nat) (f : Nat → Nat → Bool) (most : Int) (d : Nat) (used : List Bool) (len : Nat) (s : List (List Int) × List Int) (x : Nat) : List (List Int) × List Int :=
  match d with
  | 0 => s
  | d + 1 => if freeB n f used x = true ∧ (s.1.length : Int) < most then extD n f most d (used.set x true) (len + 1) (s.1, s.2.set len (x : Int)) else s
theorem extD_eq (n : Nat) (f : Nat → Nat → Bool) (most : Int) (d : Nat) (used : List Bool) (len : Nat) (s : List (List Int) × List Int) :
    extD n f most d used len s = if (len : Int) = n ∧ (s.1.length : Int) < most then (s.1 ++ [s.2.take len], s.2) else (List.range n).foldl (extStep n f most d used len) s := by
  cases d with
  | zero =>
    have e : ∀ l : List Nat, l.foldl (extStep n f most 0 used len) s = s := fun l => by
      induction l with
      | nil => rfl
      | cons x l ih => exact ih
    rw [e]; rfl
  | succ d => rfl
theorem ext_blen (n : Nat) (f : Nat → Nat → Bool) (most : Int) : ∀ (d : Nat) (used : List Bool) (len : Nat) (s : List (List Int) × List Int), (extD n f most d used len s).2.length = s.2.length
  | 0, used, len, s => by
    rw [extD]
    split <;> rfl
  | d + 1, used, len, s => by
    rw [extD]
    split
    · rfl
    · rename_i hneg
      clear hneg
      generalize List.range n = l
      induction l generalizing s with
      | nil => rfl
      | cons x l ih =>
        rw [List.foldl_cons, ih]
        split
        · rw [ext_blen n f most d]; simp
        · rfl
theorem step_blen (n : Nat) (f : Nat → Nat → Bool) (most : Int) (d : Nat) (used : List Bool) (len : Nat) (l : List Nat) : ∀ (s : List (List Int) × List Int), (l.foldl (extStep n f most d used len) s).2.length = s.2.length := by
  induction l with
  | nil => exact fun _ => rfl
  | cons x l ih =>
    intro s
    rw [List.foldl_cons, ih]
    cases d with
    | zero => rfl
    | succ d =>
      simp only [extStep]
      split
      · rw [ext_blen]; simp
      · rfl
theorem step_stay (n : Nat) (f : Nat → Nat → Bool) {most : Int} (d : Nat) (used : List Bool) (len : Nat) (l : List Nat) {s : List (List Int) × List Int} (h : most ≤ (s.1.length : Int)) : l.foldl (extStep n f most d used len) s = s := by
  induction l with
  | nil => rfl
  | cons x l ih =>
    have e : extStep n f most d used len s x = s := by
      cases d with
      | zero => rfl
      | succ d => simp only [extStep]; rw [if_neg (by omega)]
    rw [List.foldl_cons, e, ih]
theorem fold_next {β : Type} (g : β → Nat → β) (s : β) (x : Nat) : (List.range (x + 1)).foldl g s = g ((List.range x).foldl g s) x := by
  rw [List.range_succ, List.foldl_append]; rfl
theorem free_used {n : Nat} {f : Nat → Nat → Bool} {used : List Bool} {x : Nat} (h : freeB n f used x = true) (hx : x < used.length) : used.getD x false = false ∧ 0 < used.count false ∧ (used.set x true).count false + 1 = used.count false := by
  have h1 : used.getD x false = false := by
    unfold freeB at h
    revert h
    cases used.getD x false <;> simp
  have h2 : used[x] = false := by rw [← h1, List.getD_eq_getElem?_getD, List.getElem?_eq_getElem hx]; rfl
  have h3 : 0 < used.count false := List.count_pos_iff.2 (h2 ▸ List.getElem_mem hx)
  refine ⟨h1, h3, ?_⟩
  rw [List.count_set hx, h2]
  simp
  omega
theorem fold_stay {n x : Nat} {f : Nat → Nat → Bool} {most : Int} {d : Nat} {used : List Bool} {len : Nat} {s0 s : List (List Int) × List Int} (hx : x ≤ n) (hs : (List.range x).foldl (extStep n f most d used len) s0 = s) (h : most ≤ (s.1.length : Int)) :
    (List.range n).foldl (extStep n f most d used len) s0 = s := by
  obtain ⟨k, rfl⟩ : ∃ k, n = x + k := ⟨n - x, by omega⟩
  rw [List.range_add, List.foldl_append, hs, step_stay _ _ _ _ _ _ h]
theorem buf_set {bf : List Int} {len : Nat} (x : Int) (h : len < bf.length) : List.take (0 + len) bf ++ ([x] ++ List.drop (0 + len + [x].length) bf) = bf.set len x := by
  rw [Nat.zero_add, List.set_eq_take_append_cons_drop, if_pos h]
  simp
theorem step_hit {n : Nat} {f : Nat → Nat → Bool} {most : Int} {d : Nat} {used : List Bool} {len x : Nat} {s : List (List Int)} {bf : List Int} (hd : 0 < d) (hf : freeB n f used x = true) (hm : (s.length : Int) < most) :
    extStep n f most d used len (s, bf) x = extD n f most (d - 1) (used.set x true) (len + 1) (s, bf.set len (x : Int)) := by
  cases d with
  | zero => exact absurd hd (Nat.lt_irrefl _)
  | succ d => simp only [extStep]; rw [if_pos ⟨hf, hm⟩]; rfl
theorem step_miss {n : Nat} {f : Nat → Nat → Bool} {most : Int} {d : Nat} {used : List Bool} {len x : Nat} {s : List (List Int) × List Int} (hf : freeB n f used x = false) : extStep n f most d used len s x = s := by
  cases d with
  | zero => rfl
  | succ d => simp only [extStep]; rw [if_neg (by simp [hf])]
theorem set_back {used : List Bool} {x : Nat} (h : used.getD x false = false) (hx : x < used.length) : (used.set x true).set x false = used := by
  rw [List.set_set]
  have h2 : used[x] = false := by rw [← h, List.getD_eq_getElem?_getD, List.getElem?_eq_getElem hx]; rfl
  rw [← h2]
  exact List.set_getElem_self hx
/-- What a call with k unused elements does. -/
def RelX (k : Nat) : FuncId → List AV → List Ob → AV → List Ob → Prop := fun g args T x1 T1 =>
  ∃ (n : Nat) (f : Nat → Nat → Bool) (most : Int) (out : List (List Int)) (used : List Bool) (buf : List Int) (len : Nat), n ≤ 200 ∧ most ≤ 5000 ∧ used.length = n ∧ buf.length = n ∧ len + used.count false = n ∧ used.count false = k ∧
    g = 40 ∧ args = [.ownc 8 1 0 len, .ptr 0 0, .ptr 1 0, .ptr 2 0, .ptr 3 0, .ptr 4 0, .ptr 5 0] ∧ T = exT n (tab n f) most out used buf ∧ x1 = .tup [] ∧
    T1 = exT1 n (tab n f) most (extD n f most k used len (out, buf)).1 used (extD n f most k used len (out, buf)).2
set_option maxHeartbeats 4000000 in
theorem walk40 (base : CallSem) (n : Nat) (f : Nat → Nat → Bool) (most : Int) (out : List (List Int)) (used : List Bool) (buf : List Int) (len d : Nat) (hn : n ≤ 200) (hm : most ≤ 5000) (hu : used.length = n) (hb : buf.length = n) (hl : len + used.count false = n) (hd : used.count false = d)
    (hbase : ∀ k args H m K, k + 1 = d → frameS (RelX k) 40 args H m K → base 40 args H m K) :
    callS cxX Try.prog (callS cxX Try.prog (callS cxX Try.prog base)) 40 [.ownc 8 1 0 len, .ptr 0 0, .ptr 1 0, .ptr 2 0, .ptr 3 0, .ptr 4 0, .ptr 5 0]
      [.cells [.int .i64 (n : Int)], .cells [.own 6], .cells [.int .i64 most], .cells [.int .i64 (n : Int), .sl tBs (tab n f)], .cells [.own 7], .cells [.fn (.func 40) [] [.ptr 0 0, .ptr 1 0, .ptr 2 0, .ptr 3 0, .ptr 4 0, .ptr 5 0]],
        .rows tIs out, .rows .bool used, .rows tI buf] 9
      (fun x T' n' => ∃ σ, weak 9 σ [noW x] T' n' ⟨[.tup []], exT1 n (tab n f) most (extD n f most d used len (out, buf)).1 used (extD n f most d used len (out, buf)).2, 10⟩) := by
  have room : (bif decide ((len : Int) = n) then decide ((out.length : Int) < most) else false) = true → (out.length + 1) * 24 ≤ lim := fun h => by
    have : (out.length : Int) < most := by
      revert h
      cases decide ((len : Int) = n) <;> simp
    simp only [lim]
    omega
  have ful : (bif decide ((len : Int) = n) then decide ((out.length : Int) < most) else false) = false → extD n f most d used len (out, buf) = (List.range n).foldl (extStep n f most d used len) (out, buf) := fun h => by
    rw [extD_eq, if_neg]
    rintro ⟨h1, h2⟩
    have h2' : (out.length : Int) < most := h2
    rw [decide_eq_true h1, decide_eq_true h2'] at h
    cases h
  refine (And.intro (by first | kernel_rfl | rfl) (fun h0 => (And.intro (fun h1 => (And.intro (by first | kernel_rfl | rfl) (And.intro (by first | exact room h1 | (intros; (try subst_vars); (try simp only [Bool.cond_true_left, Bool.cond_false_right, Bool.or_eq_true, Bool.or_eq_false_iff, Bool.and_eq_true, Bool.not_eq_true', Bool.not_eq_false', decide_eq_true_eq, decide_eq_false_iff_not, Int.not_lt, Int.not_le] at *); (try simp only [inK, big, lim, List.length_cons, List.length_nil, List.length_append, List.length_drop, List.length_take, List.length_replicate] at *); omega)) (And.intro (by first | exact room h1 | (intros; (try subst_vars); (try simp only [Bool.cond_true_left, Bool.cond_false_right, Bool.or_eq_true, Bool.or_eq_false_iff, Bool.and_eq_true, Bool.not_eq_true', Bool.not_eq_false', decide_eq_true_eq, decide_eq_false_iff_not, Int.not_lt, Int.not_le] at *); (try simp only [inK, big, lim, List.length_cons, List.length_nil, List.length_append, List.length_drop, List.length_take, List.length_replicate] at *); omega)) ?_)))) (fun h1 => (And.intro (by first | kernel_rfl | rfl) (And.intro (by first | kernel_rfl | rfl) (And.intro (by first | kernel_rfl | rfl) ?_)))))))
  · have e : extD n f most d used len (out, buf) = (out ++ [buf.take len], buf) := by
      have h1' : (bif decide ((len : Int) = n) then decide ((out.length : Int) < most) else false) = true := h1
      rw [extD_eq, if_pos]
      revert h1'
      by_cases c1 : (len : Int) = n <;> by_cases c2 : (out.length : Int) < most <;> simp [c1, c2]
    rw [e]
    refine ⟨[some 0, some 1, some 2, some 3, some 4, some 5, none, some 7, some 8, some 12], by rfl, by rfl, ⟨⟨by rfl, by rfl⟩, ⟨by rfl, by rfl⟩, ⟨by rfl, by rfl⟩, ⟨by rfl, by rfl⟩, ⟨by rfl, by rfl⟩, ⟨by rfl, by rfl⟩, by rfl, by rfl, by rfl, trivial⟩, by rfl⟩
  have eg := ful h1
  rw [eg]
  have lt : ∀ a : Nat, decide ((a : Int) < (n : Int)) = true → a < n := fun a h => by have := of_decide_eq_true h; omega
  have ge : ∀ a : Nat, decide ((a : Int) < (n : Int)) = false → n ≤ a := fun a h => by have := of_decide_eq_false h; omega
  have f1 : ∀ a : Nat, a < n → 0 ≤ (a : Int) ∧ (a : Int) < ((tab n f).length : Int) := fun a h => by rw [tab_len]; omega
  have f2 : ∀ a b : Nat, a < n → b < n → 0 ≤ (b : Int) ∧ (b : Int) < (((tab n f).getD (a : Int).toNat []).length : Int) := fun a b h h' => by
    rw [Int.toNat_natCast, tab_rlen _ h]; omega
  have f3 : ∀ a : Nat, a < n → 0 ≤ (a : Int) ∧ (a : Int) < (used.length : Int) := fun a h => by rw [hu]; omega
  refine ex4 _ (fun p : Nat × List (List Int) × List Int => ⟨[.yld 12, .ptr 10 0, .ptr 11 0, .any, .any, .any, .any, .ptr 10 0, .int .i64 (↑n : Int), .int .i64 (p.1 : Int), .any, .any, .any, .any, .any, .any, .any, .any, .any, .any, .any, .any, .any, .any, .any, .any, .any, .any, .any, .any, .any, .any, .any, .any, .any, .any, .any, .any, .any, .any, .any, .any, .any, .any, .any, .any, .any, .any, .any], [.cells [.int .i64 (↑n : Int)], .cells [.own 13], .cells [.int .i64 most], .cells [.int .i64 (↑n : Int), .sl tBs (tab n f)], .cells [.own 7], .cells [.fn (Fn.func 40) [] [.ptr 0 0, .ptr 1 0, .ptr 2 0, .ptr 3 0, .ptr 4 0, .ptr 5 0]], .dead, .rows .bool used, .rows tI p.2.2, .cells [.ownc 8 1 0 len], .cells [.int .i64 (↑n : Int), .sl tBs (tab n f)], .cells [.own 7], .loop .ready .no ([27]) _ _ [.ownc 8 1 0 len, .ptr 0 0, .ptr 1 0, .ptr 2 0, .ptr 3 0, .ptr 4 0, .ptr 5 0, .ptr 9 0, .any, .ownc 8 1 0 len, .int .i64 (↑len : Int), .int .i64 (↑n : Int), .bool (decide ((↑len : Int) = (↑n : Int))), .bool (decide ((↑len : Int) = (↑n : Int))), .any, .any, .any, .any, .bool (bif decide ((↑len : Int) = (↑n : Int)) then decide ((↑out.length : Int) < most) else false), .any, .any, .any, .any, .any, .agg [.int .i64 (↑n : Int), .sl tBs (tab n f)], .own 7, .fn (Fn.func 63) [] [.ptr 10 0, .ptr 11 0], .any, .any, .any, .any, .any, .any, .any, .any, .any, .any, .any, .any, .any, .any, .any, .any, .any], .rows tIs p.2.1], 14⟩) (fun p => p.1 ≤ n ∧ p.2 = (List.range p.1).foldl (extStep n f most d used len) (out, buf)) (fun p => n - p.1) (And.intro (Exists.intro ((0, out, buf)) (Exists.intro ([some 0, some 1, some 2, some 3, some 4, some 5, some 6, some 7, some 8, some 9, some 10, some 11, some 12, some 6]) (And.intro ?_ (And.intro (by rfl) (And.intro (by rfl) (And.intro (And.intro (And.intro (by rfl) (by rfl)) (And.intro (And.intro (by rfl) (by rfl)) (And.intro (And.intro (by rfl) (by rfl)) (And.intro (And.intro (by rfl) (by rfl)) (And.intro (And.intro (by rfl) (by rfl)) (And.intro (And.intro (by rfl) (by rfl)) (And.intro (by rfl) (And.intro (by rfl) (And.intro (And.intro (by rfl) (by rfl)) (And.intro (And.intro (by rfl) (by rfl)) (And.intro (And.intro (by rfl) (by rfl)) (And.intro (And.intro (And.intro rfl (And.intro rfl (And.intro rfl (And.intro rfl rfl)))) (And.intro (by rfl) (by rfl))) (And.intro (by rfl) True.intro))))))))))))) (by rfl))))))) ?_)
  · exact ⟨Nat.zero_le _, rfl⟩
  rintro ⟨x, s, bf⟩ ⟨hx, hs⟩
  have hx' : x ≤ n := hx
  have hs' : (s, bf) = (List.range x).foldl (extStep n f most d used len) (out, buf) := hs
  have hbf : bf.length = n := by
    have := step_blen n f most d used len (List.range x) (out, buf)
    rw [← hs'] at this
    exact this.trans hb
  refine (And.intro (fun m0 => (And.intro (by first | (intros; (try subst_vars); (try simp only [Bool.cond_true_left, Bool.cond_false_right, Bool.or_eq_true, Bool.or_eq_false_iff, Bool.and_eq_true, Bool.not_eq_true', Bool.not_eq_false', decide_eq_true_eq, decide_eq_false_iff_not, Int.not_lt, Int.not_le] at *); (try simp only [inK, big, lim, List.length_cons, List.length_nil, List.length_append, List.length_drop, List.length_take, List.length_replicate] at *); omega) | exact f3 _ (lt _ m0)) ?_)) (fun m0 => ?_))
  · have hxn := lt _ m0
    refine ex4 _ (fun p : Nat × Bool => ⟨[.yld 12, .ptr 10 0, .ptr 11 0, .any, .int .i64 (↑x : Int), .bool p.2, .any, .ptr 10 0, .int .i64 (↑n : Int), .int .i64 (↑x : Int), .any, .int .i64 (↑x : Int), .own 7, .int .i64 (↑x : Int), .any, .bool (used.getD (↑x : Int).toNat (dflt .bool)), .ptr 10 0, .int .i64 (↑n : Int), .int .i64 (p.1 : Int), .any, .any, .any, .any, .any, .any, .any, .any, .any, .any, .any, .any, .any, .any, .any, .any, .any, .any, .any, .any, .any, .any, .any, .any, .any, .any, .any, .any, .any, .any], [.cells [.int .i64 (↑n : Int)], .cells [.own 13], .cells [.int .i64 most], .cells [.int .i64 (↑n : Int), .sl tBs (tab n f)], .cells [.own 7], .cells [.fn (Fn.func 40) [] [.ptr 0 0, .ptr 1 0, .ptr 2 0, .ptr 3 0, .ptr 4 0, .ptr 5 0]], .dead, .rows .bool used, .rows tI bf, .cells [.ownc 8 1 0 len], .cells [.int .i64 (↑n : Int), .sl tBs (tab n f)], .cells [.own 7], .loop .ready .no ([27]) _ _ [.ownc 8 1 0 len, .ptr 0 0, .ptr 1 0, .ptr 2 0, .ptr 3 0, .ptr 4 0, .ptr 5 0, .ptr 9 0, .any, .ownc 8 1 0 len, .int .i64 (↑len : Int), .int .i64 (↑n : Int), .bool (decide ((↑len : Int) = (↑n : Int))), .bool (decide ((↑len : Int) = (↑n : Int))), .any, .any, .any, .any, .bool (bif decide ((↑len : Int) = (↑n : Int)) then decide ((↑out.length : Int) < most) else false), .any, .any, .any, .any, .any, .agg [.int .i64 (↑n : Int), .sl tBs (tab n f)], .own 7, .fn (Fn.func 63) [] [.ptr 10 0, .ptr 11 0], .any, .any, .any, .any, .any, .any, .any, .any, .any, .any, .any, .any, .any, .any, .any, .any, .any], .rows tIs s], 14⟩) (fun p => p.1 ≤ n ∧ p.2 = (used.getD x false || (List.range p.1).any fun k => f k x && !used.getD k false)) (fun p => n - p.1) (And.intro (Exists.intro ((0, used.getD x false)) (Exists.intro ([some 0, some 1, some 2, some 3, some 4, some 5, some 6, some 7, some 8, some 9, some 10, some 11, some 12, some 13]) (And.intro ?_ (And.intro (by rfl) (And.intro (by rfl) (And.intro (And.intro (And.intro (by rfl) (by rfl)) (And.intro (And.intro (by rfl) (by rfl)) (And.intro (And.intro (by rfl) (by rfl)) (And.intro (And.intro (by rfl) (by rfl)) (And.intro (And.intro (by rfl) (by rfl)) (And.intro (And.intro (by rfl) (by rfl)) (And.intro (by rfl) (And.intro (by rfl) (And.intro (And.intro (by rfl) (by rfl)) (And.intro (And.intro (by rfl) (by rfl)) (And.intro (And.intro (by rfl) (by rfl)) (And.intro (And.intro (And.intro rfl (And.intro rfl (And.intro rfl (And.intro rfl rfl)))) (And.intro (by rfl) (by rfl))) (And.intro (by rfl) True.intro))))))))))))) (by rfl))))))) ?_)
    · exact ⟨Nat.zero_le _, by simp⟩
    rintro ⟨k, b⟩ ⟨hk, hbb⟩
    refine (And.intro (fun w0 => (And.intro (fun w1 => (by first | (intros; (try subst_vars); (try simp only [Bool.cond_true_left, Bool.cond_false_right, Bool.or_eq_true, Bool.or_eq_false_iff, Bool.and_eq_true, Bool.not_eq_true', Bool.not_eq_false', decide_eq_true_eq, decide_eq_false_iff_not, Int.not_lt, Int.not_le] at *); (try simp only [inK, big, lim, List.length_cons, List.length_nil, List.length_append, List.length_drop, List.length_take, List.length_replicate] at *); omega) | exact f1 _ (lt _ w0) | exact f2 _ _ (lt _ w0) hxn | exact f3 _ (lt _ w0) | exact f3 _ hxn)) (And.intro (fun w2 => (by first | (intros; (try subst_vars); (try simp only [Bool.cond_true_left, Bool.cond_false_right, Bool.or_eq_true, Bool.or_eq_false_iff, Bool.and_eq_true, Bool.not_eq_true', Bool.not_eq_false', decide_eq_true_eq, decide_eq_false_iff_not, Int.not_lt, Int.not_le] at *); (try simp only [inK, big, lim, List.length_cons, List.length_nil, List.length_append, List.length_drop, List.length_take, List.length_replicate] at *); omega) | exact f1 _ (lt _ w0) | exact f2 _ _ (lt _ w0) hxn | exact f3 _ (lt _ w0) | exact f3 _ hxn)) (And.intro (fun w3 => (by first | (intros; (try subst_vars); (try simp only [Bool.cond_true_left, Bool.cond_false_right, Bool.or_eq_true, Bool.or_eq_false_iff, Bool.and_eq_true, Bool.not_eq_true', Bool.not_eq_false', decide_eq_true_eq, decide_eq_false_iff_not, Int.not_lt, Int.not_le] at *); (try simp only [inK, big, lim, List.length_cons, List.length_nil, List.length_append, List.length_drop, List.length_take, List.length_replicate] at *); omega) | exact f1 _ (lt _ w0) | exact f2 _ _ (lt _ w0) hxn | exact f3 _ (lt _ w0) | exact f3 _ hxn)) (And.intro (by first | (intros; (try subst_vars); (try simp only [Bool.cond_true_left, Bool.cond_false_right, Bool.or_eq_true, Bool.or_eq_false_iff, Bool.and_eq_true, Bool.not_eq_true', Bool.not_eq_false', decide_eq_true_eq, decide_eq_false_iff_not, Int.not_lt, Int.not_le] at *); (try simp only [inK, big, lim, List.length_cons, List.length_nil, List.length_append, List.length_drop, List.length_take, List.length_replicate] at *); omega) | exact f1 _ (lt _ w0) | exact f2 _ _ (lt _ w0) hxn | exact f3 _ (lt _ w0) | exact f3 _ hxn) ?_))))) (fun w0 => (And.intro (fun w4 => ?_) (fun w5 => (And.intro (fun w6 => ?_) (fun w6 => (And.intro (by first | (intros; (try subst_vars); (try simp only [Bool.cond_true_left, Bool.cond_false_right, Bool.or_eq_true, Bool.or_eq_false_iff, Bool.and_eq_true, Bool.not_eq_true', Bool.not_eq_false', decide_eq_true_eq, decide_eq_false_iff_not, Int.not_lt, Int.not_le] at *); (try simp only [inK, big, lim, List.length_cons, List.length_nil, List.length_append, List.length_drop, List.length_take, List.length_replicate] at *); omega) | exact f1 _ (lt _ w0) | exact f2 _ _ (lt _ w0) hxn | exact f3 _ (lt _ w0) | exact f3 _ hxn) ?_)))))))
    · have hk' := lt _ w0
      refine Exists.intro ((k + 1, _)) (Exists.intro ([some 0, some 1, some 2, some 3, some 4, some 5, some 6, some 7, some 8, some 9, some 10, some 11, some 12, some 13]) (And.intro ?_ (And.intro ?_ (And.intro (by rfl) (And.intro (by rfl) (And.intro (And.intro (And.intro (by rfl) (by rfl)) (And.intro (And.intro (by rfl) (by rfl)) (And.intro (And.intro (by rfl) (by rfl)) (And.intro (And.intro (by rfl) (by rfl)) (And.intro (And.intro (by rfl) (by rfl)) (And.intro (And.intro (by rfl) (by rfl)) (And.intro (by rfl) (And.intro (by rfl) (And.intro (And.intro (by rfl) (by rfl)) (And.intro (And.intro (by rfl) (by rfl)) (And.intro (And.intro (by rfl) (by rfl)) (And.intro (And.intro (And.intro rfl (And.intro rfl (And.intro rfl (And.intro rfl rfl)))) (And.intro (by rfl) (by rfl))) (And.intro (by rfl) True.intro))))))))))))) (by rfl)))))))
      · refine ⟨hk', ?_⟩
        rw [range_any, ← Bool.or_assoc, ← hbb]
        show (bif b then true else bif ((tab n f).getD k []).getD x false then !used.getD k false else false) = _
        rw [tab_at _ hk' hxn]
        cases b <;> cases f k x <;> cases used.getD k false <;> rfl
      · show n - (k + 1) < n - k
        omega
    · have ek : n = k := (Nat.le_antisymm hk (ge _ w0)).symm
      subst ek
      have ef : freeB n f used x = true := by
        have : freeB n f used x = !b := congrArg (fun c => !c) hbb.symm
        rw [this]; exact w4
      obtain ⟨hux, hcnt⟩ := free_used ef (by rw [hu]; exact hxn)
      have rm : 0 + len + 1 ≤ bf.length := by rw [hbf]; omega
      intro hg
      refine (And.intro (fun y0 => (And.intro (fun y1 => ?_) (fun y1 => (And.intro (by first | exact rm | (intros; (try subst_vars); (try simp only [Bool.cond_true_left, Bool.cond_false_right, Bool.or_eq_true, Bool.or_eq_false_iff, Bool.and_eq_true, Bool.not_eq_true', Bool.not_eq_false', decide_eq_true_eq, decide_eq_false_iff_not, Int.not_lt, Int.not_le] at *); (try simp only [inK, big, lim, List.length_cons, List.length_nil, List.length_append, List.length_drop, List.length_take, List.length_replicate] at *); omega)) ?_)))) (fun y0 => (And.intro (by first | exact rm | (intros; (try subst_vars); (try simp only [Bool.cond_true_left, Bool.cond_false_right, Bool.or_eq_true, Bool.or_eq_false_iff, Bool.and_eq_true, Bool.not_eq_true', Bool.not_eq_false', decide_eq_true_eq, decide_eq_false_iff_not, Int.not_lt, Int.not_le] at *); (try simp only [inK, big, lim, List.length_cons, List.length_nil, List.length_append, List.length_drop, List.length_take, List.length_replicate] at *); omega)) (And.intro (by kernel_rfl) (And.intro (by rfl) (And.intro (by rfl) (And.intro (by rfl) (And.intro (by rfl) (And.intro (by rfl) (And.intro (by first | exact rm | (intros; (try subst_vars); (try simp only [Bool.cond_true_left, Bool.cond_false_right, Bool.or_eq_true, Bool.or_eq_false_iff, Bool.and_eq_true, Bool.not_eq_true', Bool.not_eq_false', decide_eq_true_eq, decide_eq_false_iff_not, Int.not_lt, Int.not_le] at *); (try simp only [inK, big, lim, List.length_cons, List.length_nil, List.length_append, List.length_drop, List.length_take, List.length_replicate] at *); omega)) (And.intro (by rfl) ?_)))))))))))
      · have hst : (List.range n).foldl (extStep n f most d used len) (out, buf) = (s, bf) := fold_stay hx' hs'.symm (of_decide_eq_true y0)
        rw [hst]
        exact Exists.intro [some 0, some 1, some 2, some 3, some 4, some 5, none, some 7, some 8, some 13] ⟨by rfl, by rfl, ⟨⟨by rfl, by rfl⟩, ⟨by rfl, by rfl⟩, ⟨by rfl, by rfl⟩, ⟨by rfl, by rfl⟩, ⟨by rfl, by rfl⟩, ⟨by rfl, by rfl⟩, by rfl, by rfl, by rfl, trivial⟩, by rfl⟩
      · have e : b = false := by simpa using w4
        subst e
        exact nomatch y1
      · refine hbase (d - 1) _ _ _ _ (by omega) ⟨True.intro, [.ownc 8 1 0 (len + 1), .ptr 0 0, .ptr 1 0, .ptr 2 0, .ptr 3 0, .ptr 4 0, .ptr 5 0], exT n (tab n f) most _ _ _, .tup [], exT1 n (tab n f) most _ _ _, [some 0, some 1, some 2, some 3, some 4, some 5, some 13, some 7, some 8],
          ⟨n, f, most, s, used.set x true, _, len + 1, hn, hm, ?_, ?_, ?_, ?_, rfl, rfl, rfl, rfl, rfl⟩, ⟨by rfl, by rfl, ⟨⟨by rfl, by rfl⟩, ⟨by rfl, by rfl⟩, ⟨by rfl, by rfl⟩, ⟨by rfl, by rfl⟩, ⟨by rfl, by rfl⟩, ⟨by rfl, by rfl⟩, by rfl, by rfl, by rfl, trivial⟩, by rfl⟩, by rfl, ?_⟩
        · rw [List.length_set]; exact hu
        · rw [buf_set _ (by omega)]; simp [hbf]
        · omega
        · omega
        rw [buf_set _ (by omega)]
        obtain ⟨r, hr⟩ : ∃ r, extD n f most (d - 1) (used.set x true) (len + 1) (s, bf.set len (x : Int)) = r := ⟨_, rfl⟩
        rw [hr]
        obtain ⟨s1, b1⟩ := r
        dsimp only [putL, renObs, renOb, renAL, renA, setN, getN, newN, exT1, exT, List.length_cons, List.length_nil, List.cons_append, List.nil_append, Nat.reduceAdd, Nat.reduceSub]
        have ux : 0 ≤ (x : Int) ∧ (x : Int) < ((used.set x true).length : Int) := by rw [List.length_set]; exact f3 x hxn
        refine (And.intro (by first | exact ux | (intros; (try subst_vars); (try simp only [Bool.cond_true_left, Bool.cond_false_right, Bool.or_eq_true, Bool.or_eq_false_iff, Bool.and_eq_true, Bool.not_eq_true', Bool.not_eq_false', decide_eq_true_eq, decide_eq_false_iff_not, Int.not_lt, Int.not_le] at *); (try simp only [inK, big, lim, List.length_cons, List.length_nil, List.length_append, List.length_drop, List.length_take, List.length_replicate] at *); omega)) (And.intro (fun z0 => ?_) (fun z0 => (And.intro (by first | exact ux | (intros; (try subst_vars); (try simp only [Bool.cond_true_left, Bool.cond_false_right, Bool.or_eq_true, Bool.or_eq_false_iff, Bool.and_eq_true, Bool.not_eq_true', Bool.not_eq_false', decide_eq_true_eq, decide_eq_false_iff_not, Int.not_lt, Int.not_le] at *); (try simp only [inK, big, lim, List.length_cons, List.length_nil, List.length_append, List.length_drop, List.length_take, List.length_replicate] at *); omega)) ?_))))
        · have e : b = false := by simpa using w4
          subst e
          exact nomatch z0
        · have y0' : (s.length : Int) < most := by have := of_decide_eq_false y0; omega
          refine Exists.intro ((x + 1, s1, b1)) (Exists.intro ([some 0, some 1, some 2, some 3, some 4, some 5, some 6, some 7, some 8, some 9, some 10, some 11, some 12, some 15]) (And.intro ?_ (And.intro ?_ (And.intro (by rfl) (And.intro (by rfl) (And.intro (And.intro (And.intro (by rfl) (by rfl)) (And.intro (And.intro (by rfl) (by rfl)) (And.intro (And.intro (by rfl) (by rfl)) (And.intro (And.intro (by rfl) (by rfl)) (And.intro (And.intro (by rfl) (by rfl)) (And.intro (And.intro (by rfl) (by rfl)) (And.intro ?_ (And.intro (by rfl) (And.intro (And.intro (by rfl) (by rfl)) (And.intro (And.intro (by rfl) (by rfl)) (And.intro (And.intro (by rfl) (by rfl)) (And.intro (And.intro (And.intro rfl (And.intro rfl (And.intro rfl (And.intro rfl rfl)))) (And.intro (by rfl) (by rfl))) (And.intro (by rfl) True.intro))))))))))))) (by rfl)))))))
          · refine ⟨hxn, ?_⟩
            show (s1, b1) = (List.range (x + 1)).foldl (extStep n f most d used len) (out, buf)
            rw [fold_next, ← hs', step_hit (by omega) ef y0', hr]
          · show n - (x + 1) < n - x
            omega
          · refine congrArg (Ob.rows .bool) ?_
            exact set_back hux (by rw [hu]; exact hxn)
    · have e : b = true := by simpa using w5
      subst e
      exact nomatch w6
    · have ek : n = k := (Nat.le_antisymm hk (ge _ w0)).symm
      subst ek
      have e : b = true := by simpa using w5
      have ef : freeB n f used x = false := by
        have : freeB n f used x = !b := congrArg (fun c => !c) hbb.symm
        rw [this, e]; rfl
      refine Exists.intro ((x + 1, s, bf)) (Exists.intro ([some 0, some 1, some 2, some 3, some 4, some 5, some 6, some 7, some 8, some 9, some 10, some 11, some 12, some 13]) (And.intro ?_ (And.intro ?_ (And.intro (by rfl) (And.intro (by rfl) (And.intro (And.intro (And.intro (by rfl) (by rfl)) (And.intro (And.intro (by rfl) (by rfl)) (And.intro (And.intro (by rfl) (by rfl)) (And.intro (And.intro (by rfl) (by rfl)) (And.intro (And.intro (by rfl) (by rfl)) (And.intro (And.intro (by rfl) (by rfl)) (And.intro (by rfl) (And.intro (by rfl) (And.intro (And.intro (by rfl) (by rfl)) (And.intro (And.intro (by rfl) (by rfl)) (And.intro (And.intro (by rfl) (by rfl)) (And.intro (And.intro (And.intro rfl (And.intro rfl (And.intro rfl (And.intro rfl rfl)))) (And.intro (by rfl) (by rfl))) (And.intro (by rfl) True.intro))))))))))))) (by rfl)))))))
      · refine ⟨hxn, ?_⟩
        show (s, bf) = (List.range (x + 1)).foldl (extStep n f most d used len) (out, buf)
        rw [fold_next, ← hs', step_miss ef]
      · show n - (x + 1) < n - x
        omega
  · have e : x = n := Nat.le_antisymm hx' (ge _ m0)
    subst e
    rw [← hs']
    refine ⟨[some 0, some 1, some 2, some 3, some 4, some 5, none, some 7, some 8, some 13], by rfl, by rfl, ⟨⟨by rfl, by rfl⟩, ⟨by rfl, by rfl⟩, ⟨by rfl, by rfl⟩, ⟨by rfl, by rfl⟩, ⟨by rfl, by rfl⟩, ⟨by rfl, by rfl⟩, by rfl, by rfl, by rfl, trivial⟩, by rfl⟩
end Go.Proofs.Ytlaefkhbpnbahaa
/- Partial orders: Extensions, as a contract. -/
namespace Go.Proofs.Ytlaefkhbpnbahaa
open Go.Sx

/-- The search, to a depth. -/
def SEM : Nat → CallSem
  | 0 => callS cxX Try.prog (callS cxX Try.prog (callS cxX Try.prog fun _ _ _ _ _ => False))
  | d + 1 => callS cxX Try.prog (callS cxX Try.prog (callS cxX Try.prog (frameS (RelX d))))
theorem sem_rel (d : Nat) : ∀ g args T x1 T1, RelX d g args T x1 T1 → SEM d g args T T.length (fun x T' n' => ∃ σ, weak T.length σ [noW x] T' n' ⟨[x1], T1, T1.length⟩) := by
  rintro g args T x1 T1 ⟨n, f, most, out, used, buf, len, hn, hm, hu, hb, hl, hk, rfl, rfl, rfl, rfl, rfl⟩
  cases d with
  | zero => exact walk40 _ n f most out used buf len 0 hn hm hu hb hl hk (fun k args H m K h => by omega)
  | succ d =>
    refine walk40 _ n f most out used buf len (d + 1) hn hm hu hb hl hk (fun k args H m K h h' => ?_)
    have e : k = d := by omega
    exact e ▸ h'
theorem sem_ok : ∀ d, CallOk Try.prog (SEM d)
  | 0 => callS_good cxX_good (callS_good cxX_good (callS_good cxX_good no_call))
  | d + 1 => callS_good cxX_good (callS_good cxX_good (callS_good cxX_good (frame_ok (sem_ok d) (sem_rel d))))
def semU : CallSem := fun g a H n K => ∃ d, SEM d g a H n K
theorem semU_ok : CallOk Try.prog semU := ⟨fun g a H n K ⟨d, h⟩ => (sem_ok d).1 g a H n K h, fun id a H n K ⟨d, h⟩ => (sem_ok d).2 id a H n K h⟩
def RelU : FuncId → List AV → List Ob → AV → List Ob → Prop := fun g a T x T1 => ∃ k, RelX k g a T x T1
theorem frameU_ok : CallOk Try.prog (frameS RelU) := frame_ok semU_ok fun g a T x T1 ⟨k, h⟩ => ⟨k, sem_rel k g a T x T1 h⟩
def extsF (n : Int) (l : List Ed) (most : Int) : List (List Int) × Int :=
  if checkF n l ≠ 0 then ([], checkF n l) else if most < 0 ∨ 5000 < most then ([], 2) else
  ((extD n.toNat (inL l) most n.toNat (List.replicate n.toNat false) 0 ([], List.replicate n.toNat 0)).1, 0)
def cxY : Ctx := ⟨tysX, [(18, ([], c18)), (39, ([], c39))]⟩
theorem cxY_good : GoodCtx Try.prog cxY := cx_ty (cx_cons good18 (cx_cons good39 cx0_good))
@[reducible] def rIssI : List (Bool × Ty) := [(false, .sl tIs), (false, tI)]
def c14 : Ctr := fnC [dI, dEs, dI] rIssI (fun _ => True) (fun y => ((extsF y.1 y.2.1 y.2.2.1).1, (extsF y.1 y.2.1 y.2.2.1).2, ()))
set_option maxHeartbeats 4000000 in
theorem good14 : GoodC Try.prog 14 c14 := by
  refine goodFS (callS_good cxY_good frameU_ok) _ _ _ _ ⟨_, Try.func14, rfl, rfl⟩ fun (⟨n, l, most, _⟩ : Int × List Ed × Int × Unit) _ => ?_
  have mk : checkF n l = 0 → 0 ≤ n ∧ n ≤ 200 ∧ insideAll n l := fun h => ⟨(chk_ok h).1, (chk_ok h).2.1, (chk_ok h).2.2.2⟩
  have mk1 : ∀ k : Nat, k ≤ 8 → checkF n l = 0 → 0 ≤ n ∧ n ≤ n ∧ n * (k : Int) ≤ (lim : Int) ∧ n ≤ (lim : Int) := fun k hk h => by
    obtain ⟨n0, n1, -⟩ := chk_ok h
    have : n * (k : Int) ≤ 200 * 8 := Int.mul_le_mul n1 (by omega) (by omega) (by omega)
    simp only [lim]
    omega
  refine (And.intro (by first | kernel_rfl | rfl) (And.intro True.intro (And.intro (fun h0 => (fin_of rfl ?_)) (fun h0 => (And.intro (fun h1 => (fin_of rfl ?_)) (fun h1 => (And.intro (by first | exact mk (by simpa using h0) | exact mk1 _ (by decide) (by simpa using h0) | (intros; (try subst_vars); (try simp only [Bool.cond_true_left, Bool.cond_false_right, Bool.or_eq_true, Bool.or_eq_false_iff, Bool.and_eq_true, Bool.not_eq_true', Bool.not_eq_false', decide_eq_true_eq, decide_eq_false_iff_not, Int.not_lt, Int.not_le] at *); (try simp only [inK, big, lim, List.length_cons, List.length_nil, List.length_append, List.length_drop, List.length_take, List.length_replicate] at *); omega)) (fun (h2 : (Int × List (List Bool)) × PUnit) => (fun h3 => (And.intro (by first | exact mk (by simpa using h0) | exact mk1 _ (by decide) (by simpa using h0) | (intros; (try subst_vars); (try simp only [Bool.cond_true_left, Bool.cond_false_right, Bool.or_eq_true, Bool.or_eq_false_iff, Bool.and_eq_true, Bool.not_eq_true', Bool.not_eq_false', decide_eq_true_eq, decide_eq_false_iff_not, Int.not_lt, Int.not_le] at *); (try simp only [inK, big, lim, List.length_cons, List.length_nil, List.length_append, List.length_drop, List.length_take, List.length_replicate] at *); omega)) (And.intro (by kernel_rfl) (And.intro (by rfl) (And.intro (by rfl) (And.intro (by first | exact mk (by simpa using h0) | exact mk1 _ (by decide) (by simpa using h0) | (intros; (try subst_vars); (try simp only [Bool.cond_true_left, Bool.cond_false_right, Bool.or_eq_true, Bool.or_eq_false_iff, Bool.and_eq_true, Bool.not_eq_true', Bool.not_eq_false', decide_eq_true_eq, decide_eq_false_iff_not, Int.not_lt, Int.not_le] at *); (try simp only [inK, big, lim, List.length_cons, List.length_nil, List.length_append, List.length_drop, List.length_take, List.length_replicate] at *); omega)) (And.intro (by rfl) (And.intro True.intro ?_))))))))))))))))
  · have h0' : checkF n l ≠ 0 := by simpa using h0
    show ((extsF n l most).1, (extsF n l most).2, ()) = ([], checkF n l, ())
    rw [extsF, if_pos h0']
  · have h0' : checkF n l = 0 := by simpa using h0
    have h1' : most < 0 ∨ 5000 < most := by simpa [Bool.cond_eq_ite] using h1
    show ((extsF n l most).1, (extsF n l most).2, ()) = ([], 2, ())
    rw [extsF, if_neg (by simp [h0']), if_pos h1']
  have h0' : checkF n l = 0 := by simpa using h0
  have h1' : ¬ (most < 0 ∨ 5000 < most) := by
    have h1'' : (bif decide (most < 0) then true else decide (5000 < most)) = false := h1
    rintro (h | h)
    · rw [decide_eq_true h] at h1''; cases h1''
    · rw [decide_eq_true h] at h1''
      revert h1''
      cases decide (most < 0) <;> simp
  obtain ⟨n0, n1, n2, hl⟩ := chk_ok h0'
  have ek : h2 = ((n, matF n l), ()) := h3
  subst ek
  rw [mat_tab n0 hl]
  have eg : extsF n l most = ((extD n.toNat (inL l) most n.toNat (List.replicate n.toNat false) 0 ([], List.replicate n.toNat 0)).1, 0) := by rw [extsF, if_neg (by simp [h0']), if_neg h1']
  obtain ⟨m, rfl⟩ : ∃ m : Nat, n = (m : Int) := ⟨n.toNat, by omega⟩
  refine Exists.intro [.ownc 8 1 0 0, .ptr 0 0, .ptr 1 0, .ptr 2 0, .ptr 3 0, .ptr 4 0, .ptr 5 0] (Exists.intro (exT m (tab m (inL l)) most [] (List.replicate m false) (List.replicate m 0)) (Exists.intro (.tup []) (Exists.intro (exT1 m (tab m (inL l)) most _ _ _) (Exists.intro [some 0, some 5, some 1, some 2, some 4, some 6, none, some 3, some 7]
    ⟨⟨m, m, inL l, most, [], List.replicate m false, List.replicate m 0, 0, by omega, by omega, by simp, by simp, by simp, by simp, rfl, rfl, rfl, rfl, rfl⟩, ⟨by rfl, by rfl, ⟨⟨by rfl, by rfl⟩, ⟨by rfl, by rfl⟩, ⟨by rfl, by rfl⟩, ⟨by rfl, by rfl⟩, ⟨by rfl, by rfl⟩, ⟨by rfl, by rfl⟩, by rfl, by rfl, by rfl, trivial⟩, by rfl⟩, by rfl, ?_⟩))))
  obtain ⟨r, hr⟩ : ∃ r, extD m (inL l) most m (List.replicate m false) 0 ([], List.replicate m 0) = r := ⟨_, rfl⟩
  rw [hr]
  obtain ⟨s1, b1⟩ := r
  dsimp only [putL, renObs, renOb, renAL, renA, setN, getN, newN, exT1, exT, List.length_cons, List.length_nil, List.cons_append, List.nil_append, Nat.reduceAdd, Nat.reduceSub]
  refine (fin_of rfl ?_)
  show ((extsF (m : Int) l most).1, (extsF (m : Int) l most).2, ()) = (s1, 0, ())
  rw [eg]
  simp only [Int.toNat_natCast, hr]
end Go.Proofs.Ytlaefkhbpnbahaa
