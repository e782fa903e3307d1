/- Channel: what Withdraw and Offer compute. -/
import Derived.Test.YtnaejponobbahaaChanE
set_option linter.unusedSimpArgs false
set_option linter.unusedVariables false
set_option maxRecDepth 100000
namespace Go.Proofs.Ytnaejponobbahaa
open Go.Sx

def sWith (o : ObT) (s : OS) (t : Int) : Rp × Int := if sCheck o s ≠ 0 then (zRp, 1) else if (qu s).any (isT t) = false then (zRp, 7) else ((setQ s (sRemove (qu s) t), false, 0, false, []), 0)
def offOk (w : W) : Bool := isTask w.1 && (isPrio w.2.2.2.1 && (decide (0 ≤ w.2.2.2.2) && decide (w.2.2.2.2 < 6)))
def sOffer (o : ObT) (s : OS) (w : W) : OS × Int :=
  if sCheck o s ≠ 0 then (zOS, 1) else if offOk w = false then (zOS, 2) else if ¬ (w.2.1 = 64 ∨ w.2.1 = 65) then (zOS, 8)
  else if num w.2.2.1 = false ∨ (w.2.1 = 65 ∧ w.2.2.1 ≠ 0) then (zOS, 2) else if clo s = true then (zOS, 17)
  else if fineAt (qu s ++ [w]) (qu s).length = false ∨ vain o (setQ s (qu s ++ [w])) = true then (zOS, 17) else (setQ s (qu s ++ [w]), 0)
end Go.Proofs.Ytnaejponobbahaa
