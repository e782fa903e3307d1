/- Channel: the small functions, as contracts. -/
import Derived.Test.YtnaejponobbahaaSxFn
import Derived.Test.YtnaejponobbahaaRows
import Derived.KernelRfl
set_option linter.unusedSimpArgs false
set_option linter.unusedVariables false
set_option maxRecDepth 100000
namespace Go.Proofs.Ytnaejponobbahaa
open Go.Sx

@[reducible] def tI : Ty := .int .i64
@[reducible] def tIs : Ty := .sl (.int .i64)
@[reducible] def tW : Ty := .pair tI (.pair tI (.pair tI (.pair tI tI)))
@[reducible] def tWs : Ty := .sl tW
@[reducible] def tCu : Ty := .pair tI tIs
@[reducible] def tOS : Ty := .pair tI (.pair tI (.pair tI (.pair tIs (.pair tWs (.pair tIs (.pair (.sl tCu) (.pair .bool tI)))))))
@[reducible] def tObj : Ty := .pair .str (.pair tI (.pair tI tI))
@[reducible] def tWk : Ty := .pair tI (.pair tI (.pair tI (.pair .bool tI)))
@[reducible] def tRp : Ty := .pair tOS (.pair .bool (.pair tI (.pair .bool (.sl tWk))))
@[reducible] def dI : AK := .dat false tI
@[reducible] def dIs : AK := .dat false tIs
@[reducible] def dW : AK := .dat true tW
@[reducible] def dWs : AK := .dat false tWs
@[reducible] def dOS : AK := .dat true tOS
@[reducible] def dObj : AK := .dat true tObj
@[reducible] def dRp : AK := .dat true tRp
abbrev W := Int × Int × Int × Int × Int
abbrev Cu := Int × List Int
abbrev OS := Int × Int × Int × List Int × List W × List Int × List Cu × Bool × Int
abbrev ObT := ByteArray × Int × Int × Int
abbrev Wk := Int × Int × Int × Bool × Int
abbrev Rp := OS × Bool × Int × Bool × List Wk
def tys0 : List (TypeId × Ty) := [(3, tI), (4, .bool), (36, tW), (47, tWk)]
def cx0 : Ctx := ⟨tys0, []⟩
theorem cx0_good : GoodCtx Try.prog cx0 := fun _ _ _ h => by simp [cx0, lookL] at h
/-- The contract of one more function. -/
theorem cx_cons {P : Program} {ty : List (TypeId × Ty)} {g : FuncId} {C : Ctr} {tab : List (FuncId × (List Sh × Ctr))} (hg : GoodC P g C) (h : GoodCtx P ⟨ty, tab⟩) : GoodCtx P ⟨ty, (g, ([], C)) :: tab⟩ := by
  intro g' s C' h'
  simp only [lookL] at h'
  split at h'
  · rename_i he
    have := Nat.eq_of_beq_eq_true he
    subst this
    cases h'
    exact hg
  · exact h g' s C' h'
theorem ex4 {β : (ι : Type) → (ι → St) → (ι → Prop) → (ι → Nat) → Prop} (ι : Type) (S : ι → St) (I : ι → Prop) (μ : ι → Nat) (h : β ι S I μ) : ∃ ι S I μ, β ι S I μ := ⟨ι, S, I, μ, h⟩

/-- The first place of xs, from i on, at which p says so. -/
def firstAt {α : Type} (p : α → Bool) : List α → Int → Int
  | [], _ => -1
  | x :: l, i => if p x then i else firstAt p l (i + 1)
theorem firstAt_drop {α : Type} (p : α → Bool) (d : α) (xs : List α) (i : Nat) (h : i < xs.length) : firstAt p (xs.drop i) i = if p (xs.getD i d) then (i : Int) else firstAt p (xs.drop (i + 1)) ((i + 1 : Nat) : Int) := by
  rw [List.drop_eq_getElem_cons h]
  simp [firstAt, List.getElem?_eq_getElem h]
theorem firstAt_ge {α : Type} (p : α → Bool) : ∀ (xs : List α) (i : Int), 0 ≤ i → (decide (0 ≤ firstAt p xs i)) = xs.any p
  | [], i, h => rfl
  | x :: l, i, h => by
    unfold firstAt
    cases hp : p x <;> simp [hp]
    · exact firstAt_ge p l (i + 1) (by omega)
    · exact h
theorem any_take_succ {α : Type} {xs : List α} {i : Nat} {d : α} (p : α → Bool) (h1 : i < xs.length) : (xs.take (i + 1)).any p = ((xs.take i).any p || p (xs.getD i d)) := by
  rw [List.take_succ_eq_append_getElem h1]
  simp only [List.any_append, List.any_cons, List.any_nil, Bool.or_false, List.getD_eq_getElem?_getD, List.getElem?_eq_getElem h1, Option.getD_some]
theorem any_hit {α : Type} {xs : List α} {i : Nat} {d : α} {p : α → Bool} (h1 : i < xs.length) (h : p (xs.getD i d) = true) : xs.any p = true := by
  simp only [List.getD_eq_getElem?_getD, List.getElem?_eq_getElem h1, Option.getD_some] at h
  exact List.any_eq_true.2 ⟨_, List.getElem_mem h1, h⟩
theorem any_end {α : Type} {xs : List α} {i : Nat} {p : α → Bool} (h1 : xs.length ≤ i) (h : (xs.take i).any p = false) : xs.any p = false := by
  rwa [List.take_of_length_le h1] at h
theorem any_next {α : Type} {xs : List α} {i : Nat} {d : α} {p : α → Bool} (h1 : i < xs.length) (h : (xs.take i).any p = false) (hp : p (xs.getD i d) = false) : (xs.take (i + 1)).any p = false := by
  rw [any_take_succ (d := d) p h1, h, hp]; rfl
theorem take_ext_succ {α : Type} {xs ys : List α} {i : Nat} {d : α} (h1 : i < xs.length) (h2 : i < ys.length) (h : xs.take i = ys.take i) (hd : xs.getD i d = ys.getD i d) : xs.take (i + 1) = ys.take (i + 1) := by
  rw [List.take_succ_eq_append_getElem h1, List.take_succ_eq_append_getElem h2, h]
  simp [List.getD_eq_getElem?_getD, List.getElem?_eq_getElem h1, List.getElem?_eq_getElem h2] at hd
  rw [hd]

def inR (n lo hi : Int) : Bool := decide (lo ≤ n) && decide (n ≤ hi)
def num (n : Int) : Bool := inR n (-1099511627776) 1099511627776
def isTask (n : Int) : Bool := inR n 0 15
def isPrio (n : Int) : Bool := inR n 0 9
def wOk (w : W) : Bool := inR w.1 0 15 && (inR w.2.1 1 99 && (num w.2.2.1 && (inR w.2.2.2.1 0 9 && inR w.2.2.2.2 (-1) 5)))

@[reducible] def rB : List (Bool × Ty) := [(false, .bool)]
def c41 : Ctr := fnC [dI] rB (fun _ => True) (fun y => (isTask y.1, ()))
theorem good41 : GoodC Try.prog 41 c41 := by
  refine goodF cx0_good 3 _ _ _ _ ⟨_, Try.func41, rfl, rfl⟩ fun (⟨n, _⟩ : Int × Unit) _ => ?_
  refine (And.intro (by rfl) (fin_of rfl (by (simp only [inR, num, isTask, isPrio]; grind))))
def c42 : Ctr := fnC [dI] rB (fun _ => True) (fun y => (isPrio y.1, ()))
theorem good42 : GoodC Try.prog 42 c42 := by
  refine goodF cx0_good 3 _ _ _ _ ⟨_, Try.func42, rfl, rfl⟩ fun (⟨n, _⟩ : Int × Unit) _ => ?_
  refine (And.intro (by rfl) (fin_of rfl (by (simp only [inR, num, isTask, isPrio]; grind))))
def c45 : Ctr := fnC [dI] rB (fun _ => True) (fun y => (num y.1, ()))
theorem good45 : GoodC Try.prog 45 c45 := by
  refine goodF cx0_good 3 _ _ _ _ ⟨_, Try.func45, rfl, rfl⟩ fun (⟨n, _⟩ : Int × Unit) _ => ?_
  refine (And.intro (by rfl) (fin_of rfl (by (simp only [inR, num, isTask, isPrio]; grind))))
def c37 : Ctr := fnC [dI] rB (fun _ => True) (fun y => (num y.1, ()))
theorem good37 : GoodC Try.prog 37 c37 := by
  refine goodF cx0_good 3 _ _ _ _ ⟨_, Try.func37, rfl, rfl⟩ fun (⟨n, _⟩ : Int × Unit) _ => ?_
  refine (And.intro (by rfl) (fin_of rfl (by (simp only [inR, num, isTask, isPrio]; grind))))
def c61 : Ctr := fnC [dI] rB (fun _ => True) (fun y => (isTask y.1, ()))
theorem good61 : GoodC Try.prog 61 c61 := by
  refine goodF cx0_good 3 _ _ _ _ ⟨_, Try.func61, rfl, rfl⟩ fun (⟨n, _⟩ : Int × Unit) _ => ?_
  refine (And.intro (by rfl) (fin_of rfl (by (simp only [inR, num, isTask, isPrio]; grind))))
def c95 : Ctr := fnC [dI, dI, dI] rB (fun _ => True) (fun y => (inR y.1 y.2.1 y.2.2.1, ()))
theorem good95 : GoodC Try.prog 95 c95 := by
  refine goodF cx0_good 3 _ _ _ _ ⟨_, Try.func95, rfl, rfl⟩ fun (⟨n, lo, hi, _⟩ : Int × Int × Int × Unit) _ => ?_
  refine (And.intro (by rfl) (fin_of rfl (by (simp only [inR, num, isTask, isPrio]; grind))))
def c91 : Ctr := fnC [dW] rB (fun _ => True) (fun y => (wOk y.1, ()))
theorem good91 : GoodC Try.prog 91 c91 := by
  refine goodF cx0_good 3 _ _ _ _ ⟨_, Try.func91, rfl, rfl⟩ fun (⟨⟨a, b, c, d, e⟩, _⟩ : W × Unit) _ => ?_
  refine (And.intro (by rfl) (And.intro (fun h0 => (fin_of rfl (by (simp only [wOk, inR, num] at *; grind)))) (fun h0 => (fin_of rfl (by (simp only [wOk, inR, num] at *; grind))))))
def cx1 : Ctx := ⟨tys0, [(37, ([], c37)), (41, ([], c41)), (42, ([], c42)), (45, ([], c45)), (61, ([], c61)), (91, ([], c91)), (95, ([], c95))]⟩
theorem cx1_good : GoodCtx Try.prog cx1 := cx_cons good37 (cx_cons good41 (cx_cons good42 (cx_cons good45 (cx_cons good61 (cx_cons good91 (cx_cons good95 cx0_good))))))
def c84 : Ctr := fnC [dW] rB (fun _ => True) (fun y => (wOk y.1, ()))
theorem good84 : GoodC Try.prog 84 c84 := by
  refine goodF cx1_good 3 _ _ _ _ ⟨_, Try.func84, rfl, rfl⟩ fun (⟨⟨a, b, c, d, e⟩, _⟩ : W × Unit) _ => ?_
  refine (And.intro (by rfl) (And.intro True.intro (And.intro (fun h0 => True.intro) (And.intro (fun h1 => True.intro) (And.intro (fun h2 => True.intro) (And.intro (fun h3 => True.intro) (fin_of rfl (by (simp only [wOk, num] at *; grind)))))))))
def sNew (o : ObT) : OS × Int := if o.2.1 ≠ 6 then ((0, 0, 0, [], [], [], [], false, 0), 8) else if o.2.2.1 < 0 ∨ 100 < o.2.2.1 ∨ o.2.2.2 ≠ 0 then ((0, 0, 0, [], [], [], [], false, 0), 2) else ((-1, 0, 0, [], [], [], [], false, 0), 0)
@[reducible] def rOE : List (Bool × Ty) := [(true, tOS), (false, tI)]
def c19 : Ctr := fnC [dObj] rOE (fun _ => True) (fun y => ((sNew y.1).1, (sNew y.1).2, ()))
theorem good19 : GoodC Try.prog 19 c19 := by
  refine goodF cx0_good 3 _ _ _ _ ⟨_, Try.func19, rfl, rfl⟩ fun (⟨⟨nm, k, z, t⟩, _⟩ : ObT × Unit) _ => ?_
  refine (And.intro (by rfl) (And.intro (fun h0 => (fin_of rfl (by (simp only [sNew]; grind)))) (fun h0 => (And.intro (fun h1 => (fin_of rfl (by (simp only [sNew]; grind)))) (fun h1 => (fin_of rfl (by (simp only [sNew]; grind))))))))
def c20 : Ctr := fnC [dObj] rOE (fun _ => True) (fun y => ((sNew y.1).1, (sNew y.1).2, ()))
theorem good20 : GoodC Try.prog 20 c20 := by
  refine goodF cx0_good 3 _ _ _ _ ⟨_, Try.func20, rfl, rfl⟩ fun (⟨⟨nm, k, z, t⟩, _⟩ : ObT × Unit) _ => ?_
  refine (And.intro (by rfl) (And.intro (fun h0 => (fin_of rfl (by (simp only [sNew]; grind)))) (fun h0 => (And.intro (fun h1 => (fin_of rfl (by (simp only [sNew]; grind)))) (fun h1 => (fin_of rfl (by (simp only [sNew]; grind))))))))
end Go.Proofs.Ytnaejponobbahaa
