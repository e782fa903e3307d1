import Derived.Test.YticmijfmgmkkcaaGreatWSxFrame
set_option linter.unusedSimpArgs false
set_option linter.unusedVariables false
set_option maxRecDepth 100000
namespace Go.Sx
open Go.RowKit
def frzS (ids:List Nat) (sem:CallSem):CallSem:=fun g args H n K=>match args with
 | .rnd _ :: _=>False
 | _=>sem g (frVL ids H args) (frzAll ids H) n K
theorem frzS_ok {P:Program} {ids:List Nat} {sem:CallSem} (hs:CallOk P sem):CallOk P (frzS ids sem):=by
 refine ⟨fun g args H n K h E vs hE hsz hrd=>?_,fun id args H n K h=>h.elim⟩
 have h':sem g (frVL ids H args) (frzAll ids H) n K:=by
  unfold frzS at h
  split at h
  ·exact h.elim
  ·exact h
 obtain ⟨hl,hg⟩:=frVL_get (H:=H) (ids:=ids) args
 obtain ⟨h1,h2⟩:=hs.1 g _ _ n K h' (E.give ids) vs hE.give (by rw [hl];exact hsz) fun i v x hv hx=>by
  obtain ⟨y,hy,rfl⟩:=hg i x hx
  exact frV_ok hE (hrd i v y hv hy)
 refine ⟨h1,h2.mono ?_⟩
 rintro e w' ⟨v,E',x,H',n',k1,k2,k3,k4,k5,k6,k7⟩
 exact ⟨v,E',x,H',n',k1,k2,k3,k4,k5,(give_evo n).trans k6,k7⟩
def giveS (sem:CallSem):CallSem:=fun g args H n K=>∃ ids,frzS ids sem g args H n K
theorem giveS_ok {P:Program} {sem:CallSem} (hs:CallOk P sem):CallOk P (giveS sem) :=
 ⟨fun g args H n K ⟨ids,h⟩=>(frzS_ok (ids:=ids) hs).1 g args H n K h,fun id args H n K ⟨ids,h⟩=>(frzS_ok (ids:=ids) hs).2 id args H n K h⟩
def condS (g0:FuncId) (a b:CallSem):CallSem:=fun g args H n K=>bif Nat.beq g g0 then a g args H n K else b g args H n K
theorem condS_ok {P:Program} {g0:FuncId} {a b:CallSem} (ha:CallOk P a) (hb:CallOk P b):CallOk P (condS g0 a b):=by
 refine ⟨fun g args H n K h=>?_,fun id args H n K h=>?_⟩
 ·unfold condS at h
  cases hg:Nat.beq g g0 with
  | true=>rw [hg] at h;exact ha.1 g args H n K h
  | false=>rw [hg] at h;exact hb.1 g args H n K h
 ·unfold condS at h
  cases hg:Nat.beq 0 g0 with
  | true=>rw [hg] at h;exact ha.2 id args H n K h
  | false=>rw [hg] at h;exact hb.2 id args H n K h
end Go.Sx
