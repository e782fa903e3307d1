/- Channel: Apply, as a contract. -/
import Derived.Test.YtnaejponobbahaaChanD
set_option linter.unusedSimpArgs false
set_option linter.unusedVariables false
set_option maxRecDepth 100000
namespace Go.Proofs.Ytnaejponobbahaa
open Go.Sx

@[reducible] def tCl : Ty := .pair tI (.pair tI (.pair tI (.pair tI tI)))
@[reducible] def dCl : AK := .dat true tCl
abbrev Cl := Int × Int × Int × Int × Int
abbrev zOS : OS := (0, 0, 0, [], [], [], [], false, 0)
abbrev zRp : Rp := (zOS, false, 0, false, [])
abbrev setQ (s : OS) (q : List W) : OS := (s.1, s.2.1, s.2.2.1, s.2.2.2.1, q, s.2.2.2.2.2)
abbrev setB (s : OS) (b : List Int) : OS := (s.1, s.2.1, s.2.2.1, s.2.2.2.1, s.2.2.2.2.1, b, s.2.2.2.2.2.2)
abbrev setC (s : OS) : OS := (s.1, s.2.1, s.2.2.1, s.2.2.2.1, s.2.2.2.2.1, s.2.2.2.2.2.1, s.2.2.2.2.2.2.1, true, s.2.2.2.2.2.2.2.2)
def isOp (op : Int) (w : W) : Bool := decide (w.2.1 = op)
abbrev wkOf (w : W) (v : Int) (ok : Bool) : Wk := (w.1, w.2.1, v, ok, w.2.2.2.2)
def sPark (s : OS) (c : Cl) (v : Int) : Rp := (setQ s (qu s ++ [(c.1, c.2.1, v, c.2.2.2.1, -1)]), true, 0, false, [])
def sSend (o : ObT) (s : OS) (c : Cl) : Rp := match (qu s).find? (isOp 65) with
  | some w => (setQ s (sRemove (qu s) w.1), false, 0, true, [wkOf w c.2.2.1 true])
  | none => if ((bu s).length : Int) < o.2.2.1 then (setB s (bu s ++ [c.2.2.1]), false, 0, true, []) else sPark s c c.2.2.1
def sRecv (s : OS) (c : Cl) : Rp := match bu s with
  | v :: b => (match (qu s).find? (isOp 64) with
    | some w => (setQ (setB s (b ++ [w.2.2.1])) (sRemove (qu s) w.1), false, v, true, [wkOf w 0 true])
    | none => (setB s b, false, v, true, []))
  | [] => (match (qu s).find? (isOp 64) with
    | some w => (setQ s (sRemove (qu s) w.1), false, w.2.2.1, true, [wkOf w 0 true])
    | none => if clo s = true then (s, false, 0, false, []) else sPark s c 0)
theorem sRemove_len (l : List W) (t : Int) : (sRemove l t).length ≤ l.length := List.length_filter_le _ _
def shutW : List W → List Wk
  | [] => []
  | w :: l => wkOf w 0 false :: shutW (sRemove l w.1)
termination_by l => l.length
decreasing_by exact Nat.lt_succ_of_le (sRemove_len l w.1)
theorem shut_nil : shutW [] = [] := by rw [shutW]
theorem remove_head {l : List W} (h : 0 < l.length) : (sRemove l (l.getD 0 (dflt tW)).1).length < l.length := by
  cases l with
  | nil => simp at h
  | cons w l =>
    have e : sRemove (w :: l) w.1 = sRemove l w.1 := by simp [sRemove, keep]
    show (sRemove (w :: l) w.1).length < _
    rw [e]
    exact Nat.lt_succ_of_le (sRemove_len l w.1)
theorem shut_step {l : List W} (h : 0 < l.length) : shutW l = wkOf (l.getD 0 (dflt tW)) 0 false :: shutW (sRemove l (l.getD 0 (dflt tW)).1) := by
  cases l with
  | nil => simp at h
  | cons w l =>
    have e : sRemove (w :: l) w.1 = sRemove l w.1 := by simp [sRemove, keep]
    show shutW (w :: l) = wkOf w 0 false :: shutW (sRemove (w :: l) w.1)
    rw [e, shutW]
theorem find_hit {α : Type} {xs : List α} {i : Nat} {d : α} {p : α → Bool} (h1 : i < xs.length) (h : (xs.take i).any p = false) (hp : p (xs.getD i d) = true) : xs.find? p = some (xs.getD i d) := by
  rw [List.find?_eq_some_iff_append]
  refine ⟨hp, xs.take i, xs.drop (i + 1), ?_, fun a ha => ?_⟩
  · simp only [List.getD_eq_getElem?_getD, List.getElem?_eq_getElem h1, Option.getD_some]
    rw [← List.drop_eq_getElem_cons h1, List.take_append_drop]
  · rw [List.any_eq_false] at h
    simpa using h a ha
theorem find_end {α : Type} {xs : List α} {i : Nat} {p : α → Bool} (h1 : xs.length ≤ i) (h : (xs.take i).any p = false) : xs.find? p = none := by
  rw [List.take_of_length_le h1] at h
  rw [List.find?_eq_none]
  rw [List.any_eq_false] at h
  exact h
def sShut (s : OS) : Rp := (setC (setQ s []), false, 0, true, shutW (qu s))
def sDo (o : ObT) (s : OS) (c : Cl) : Rp := if c.2.1 = 64 then sSend o s c else if c.2.1 = 65 then sRecv s c else sShut s
def callOk (c : Cl) : Bool := isTask c.1 && (isPrio c.2.2.2.1 && inR c.2.2.2.2 0 1099511627776)
def sApply (o : ObT) (s : OS) (c : Cl) : Rp × Int :=
  if sCheck o s ≠ 0 then (zRp, 1) else if callOk c = false then (zRp, 2) else if ¬ (c.2.1 = 64 ∨ c.2.1 = 65 ∨ c.2.1 = 66) then (zRp, 8)
  else if c.2.1 = 64 ∧ num c.2.2.1 = false then (zRp, 2) else if (qu s).any (isT c.1) = true then (zRp, 17)
  else if clo s = true ∧ c.2.1 = 64 then (zRp, 19) else if clo s = true ∧ c.2.1 = 66 then (zRp, 17) else (sDo o s c, 0)
@[reducible] def rRE : List (Bool × Ty) := [(true, tRp), (false, tI)]
def cx9 : Ctx := ⟨tys0, [(23, ([], c23)), (35, ([], c35)), (41, ([], c41)), (42, ([], c42)), (44, ([], c44)), (45, ([], c45)), (55, ([], c55)), (58, ([], c58))]⟩
theorem cx9_good : GoodCtx Try.prog cx9 := cx_cons good23 (cx_cons good35 (cx_cons good41 (cx_cons good42 (cx_cons good44 (cx_cons good45 (cx_cons good55 (cx_cons good58 cx0_good)))))))
def W16 (y : AK.dens [dObj, dOS, dCl]) : Prop := callN cx9 Try.prog 9 16 (toAVs [dObj, dOS, dCl] y) [] 0 (finK ⟨none, none, [], resAV rRE ((sApply y.1 y.2.1 y.2.2.1).1, (sApply y.1 y.2.1 y.2.2.1).2, ())⟩)
def c16 : Ctr := fnC [dObj, dOS, dCl] rRE (fun y => few y.2.1) (fun y => ((sApply y.1 y.2.1 y.2.2.1).1, (sApply y.1 y.2.1 y.2.2.1).2, ()))
end Go.Proofs.Ytnaejponobbahaa
