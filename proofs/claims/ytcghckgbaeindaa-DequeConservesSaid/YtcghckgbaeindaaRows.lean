/-
  No cell of these rows narrows 'for every input' (looked for: loops, veiled, ifaces, maps, wideKeys, modest, calm, conditions, laid).
  DERIVED. THE GIVEN ROWS OF THIS SEAT. 8 by the template 'for every input the law returns true; each argument reads behind the call as it read before'; 0 by the template 'total and deterministic' (their statements: YtcghckgbaeindaaTotals.lean).
  GIVEN WITH THE SEED: the statements are not yours to turn. If you find one false, say at which input.
  Laid BY PROGRAM, IN A SANDBOX (cutbox-rows.mjs): the forced cells as the released guide's own fill.sh prints them over the translation 0ccc8176955d702e… (all of the seat's roots in one cut). By AI agents, Wed Nov 11 2026. No macro, syntax, notation, axiom, sorry.
-/
import Derived.Test.YtcghckgbaeindaaChecked
import GoSem.Claim
import GoSem.ClaimJoined
import GoSem.ClaimMapViews
import Derived.JoinedTies
import Derived.KernelRfl
namespace Go.Proofs.Ytcghckgbaeindaa
/- THE CELL 'sum', in the pinned program and in every row, IS THE sha256 OF THE DUMP (.gsa) THAT YtcghckgbaeindaaProg.lean LOADS. Nothing in Lean hashes anything: it is a label: what it is worth is what the hold of that sum in a sandbox is worth. -/
noncomputable def Try.pinned : Pinned := { name := "ytcghckgbaeindaa", sum := "0ccc8176955d702e2ec85a7677f1a9388a9195f96aa7a8f9bfd39955ebfeb3d0", checked := Try.checked }
namespace Rows
def none {H : Type} : Left H := { results := [], args := [] }

/-- 'nurserylaw08.DequeOps': WHATEVER THE INPUT: true; the input reads as it did. -/
def dequeOpsSpec : ChangeSpec := { name := "dequeOps", fn := fun _ => fun
  | [d1, d2] => { results := [.lit (.bool true)], args := [d1, d2] }
  | _ => none }
def dequeOpsRow : OpenClaim := { program := "ytcghckgbaeindaa", sum := "0ccc8176955d702e2ec85a7677f1a9388a9195f96aa7a8f9bfd39955ebfeb3d0", func := "nursery/nurserylaw08.DequeOps", spec := "dequeOps", unfollowed := true, recurses := true, apart := false }
def DequeOpsSaid : Prop := dequeOpsRow.holds Try.pinned (OpenSpec.ofChange dequeOpsSpec)

/-- ITS FALSE NEIGHBOUR: 'it returns false'. Refute it at one input. -/
def dequeOpsWrong : ChangeSpec := { name := "dequeOps", fn := fun _ => fun
  | [d1, d2] => { results := [.lit (.bool false)], args := [d1, d2] }
  | _ => none }
def DequeOpsWrongFalsely : Prop := dequeOpsRow.holds Try.pinned (OpenSpec.ofChange dequeOpsWrong)

/-- 'nurserylaw08.DequePlay': WHATEVER THE INPUT: true; the input reads as it did. -/
def dequePlaySpec : ChangeSpec := { name := "dequePlay", fn := fun _ => fun
  | [d1, d2] => { results := [.lit (.bool true)], args := [d1, d2] }
  | _ => none }
def dequePlayRow : OpenClaim := { program := "ytcghckgbaeindaa", sum := "0ccc8176955d702e2ec85a7677f1a9388a9195f96aa7a8f9bfd39955ebfeb3d0", func := "nursery/nurserylaw08.DequePlay", spec := "dequePlay", unfollowed := true, recurses := true, apart := false }
def DequePlaySaid : Prop := dequePlayRow.holds Try.pinned (OpenSpec.ofChange dequePlaySpec)

/-- ITS FALSE NEIGHBOUR: 'it returns false'. Refute it at one input. -/
def dequePlayWrong : ChangeSpec := { name := "dequePlay", fn := fun _ => fun
  | [d1, d2] => { results := [.lit (.bool false)], args := [d1, d2] }
  | _ => none }
def DequePlayWrongFalsely : Prop := dequePlayRow.holds Try.pinned (OpenSpec.ofChange dequePlayWrong)

/-- 'nurserylaw08.DequeMany': WHATEVER THE INPUT: true; the input reads as it did. -/
def dequeManySpec : ChangeSpec := { name := "dequeMany", fn := fun _ => fun
  | [d1, d2, d3] => { results := [.lit (.bool true)], args := [d1, d2, d3] }
  | _ => none }
def dequeManyRow : OpenClaim := { program := "ytcghckgbaeindaa", sum := "0ccc8176955d702e2ec85a7677f1a9388a9195f96aa7a8f9bfd39955ebfeb3d0", func := "nursery/nurserylaw08.DequeMany", spec := "dequeMany", unfollowed := true, recurses := true, apart := false }
def DequeManySaid : Prop := dequeManyRow.holds Try.pinned (OpenSpec.ofChange dequeManySpec)

/-- ITS FALSE NEIGHBOUR: 'it returns false'. Refute it at one input. -/
def dequeManyWrong : ChangeSpec := { name := "dequeMany", fn := fun _ => fun
  | [d1, d2, d3] => { results := [.lit (.bool false)], args := [d1, d2, d3] }
  | _ => none }
def DequeManyWrongFalsely : Prop := dequeManyRow.holds Try.pinned (OpenSpec.ofChange dequeManyWrong)

/-- 'nurserylaw08.DequeEnds': WHATEVER THE INPUT: true; the input reads as it did. -/
def dequeEndsSpec : ChangeSpec := { name := "dequeEnds", fn := fun _ => fun
  | [d1, d2] => { results := [.lit (.bool true)], args := [d1, d2] }
  | _ => none }
def dequeEndsRow : OpenClaim := { program := "ytcghckgbaeindaa", sum := "0ccc8176955d702e2ec85a7677f1a9388a9195f96aa7a8f9bfd39955ebfeb3d0", func := "nursery/nurserylaw08.DequeEnds", spec := "dequeEnds", unfollowed := true, recurses := true, apart := false }
def DequeEndsSaid : Prop := dequeEndsRow.holds Try.pinned (OpenSpec.ofChange dequeEndsSpec)

/-- ITS FALSE NEIGHBOUR: 'it returns false'. Refute it at one input. -/
def dequeEndsWrong : ChangeSpec := { name := "dequeEnds", fn := fun _ => fun
  | [d1, d2] => { results := [.lit (.bool false)], args := [d1, d2] }
  | _ => none }
def DequeEndsWrongFalsely : Prop := dequeEndsRow.holds Try.pinned (OpenSpec.ofChange dequeEndsWrong)

/-- 'nurserylaw08.DequeCommutes': WHATEVER THE INPUT: true; the input reads as it did. -/
def dequeCommutesSpec : ChangeSpec := { name := "dequeCommutes", fn := fun _ => fun
  | [d] => { results := [.lit (.bool true)], args := [d] }
  | _ => none }
def dequeCommutesRow : OpenClaim := { program := "ytcghckgbaeindaa", sum := "0ccc8176955d702e2ec85a7677f1a9388a9195f96aa7a8f9bfd39955ebfeb3d0", func := "nursery/nurserylaw08.DequeCommutes", spec := "dequeCommutes", unfollowed := true, recurses := true, apart := false }
def DequeCommutesSaid : Prop := dequeCommutesRow.holds Try.pinned (OpenSpec.ofChange dequeCommutesSpec)

/-- ITS FALSE NEIGHBOUR: 'it returns false'. Refute it at one input. -/
def dequeCommutesWrong : ChangeSpec := { name := "dequeCommutes", fn := fun _ => fun
  | [d] => { results := [.lit (.bool false)], args := [d] }
  | _ => none }
def DequeCommutesWrongFalsely : Prop := dequeCommutesRow.holds Try.pinned (OpenSpec.ofChange dequeCommutesWrong)

/-- 'nurserylaw08.DequeHalves': WHATEVER THE INPUT: true; the input reads as it did. -/
def dequeHalvesSpec : ChangeSpec := { name := "dequeHalves", fn := fun _ => fun
  | [d] => { results := [.lit (.bool true)], args := [d] }
  | _ => none }
def dequeHalvesRow : OpenClaim := { program := "ytcghckgbaeindaa", sum := "0ccc8176955d702e2ec85a7677f1a9388a9195f96aa7a8f9bfd39955ebfeb3d0", func := "nursery/nurserylaw08.DequeHalves", spec := "dequeHalves", unfollowed := true, recurses := true, apart := false }
def DequeHalvesSaid : Prop := dequeHalvesRow.holds Try.pinned (OpenSpec.ofChange dequeHalvesSpec)

/-- ITS FALSE NEIGHBOUR: 'it returns false'. Refute it at one input. -/
def dequeHalvesWrong : ChangeSpec := { name := "dequeHalves", fn := fun _ => fun
  | [d] => { results := [.lit (.bool false)], args := [d] }
  | _ => none }
def DequeHalvesWrongFalsely : Prop := dequeHalvesRow.holds Try.pinned (OpenSpec.ofChange dequeHalvesWrong)

/-- 'nurserylaw08.DequeParts': WHATEVER THE INPUT: true; the input reads as it did. -/
def dequePartsSpec : ChangeSpec := { name := "dequeParts", fn := fun _ => fun
  | [d1, d2, d3] => { results := [.lit (.bool true)], args := [d1, d2, d3] }
  | _ => none }
def dequePartsRow : OpenClaim := { program := "ytcghckgbaeindaa", sum := "0ccc8176955d702e2ec85a7677f1a9388a9195f96aa7a8f9bfd39955ebfeb3d0", func := "nursery/nurserylaw08.DequeParts", spec := "dequeParts", unfollowed := true, recurses := true, apart := false }
def DequePartsSaid : Prop := dequePartsRow.holds Try.pinned (OpenSpec.ofChange dequePartsSpec)

/-- ITS FALSE NEIGHBOUR: 'it returns false'. Refute it at one input. -/
def dequePartsWrong : ChangeSpec := { name := "dequeParts", fn := fun _ => fun
  | [d1, d2, d3] => { results := [.lit (.bool false)], args := [d1, d2, d3] }
  | _ => none }
def DequePartsWrongFalsely : Prop := dequePartsRow.holds Try.pinned (OpenSpec.ofChange dequePartsWrong)

/-- 'nurserylaw08.DequeConserves': WHATEVER THE INPUT: true; the input reads as it did. -/
def dequeConservesSpec : ChangeSpec := { name := "dequeConserves", fn := fun _ => fun
  | [d1, d2] => { results := [.lit (.bool true)], args := [d1, d2] }
  | _ => none }
def dequeConservesRow : OpenClaim := { program := "ytcghckgbaeindaa", sum := "0ccc8176955d702e2ec85a7677f1a9388a9195f96aa7a8f9bfd39955ebfeb3d0", func := "nursery/nurserylaw08.DequeConserves", spec := "dequeConserves", unfollowed := true, recurses := true, apart := false }
def DequeConservesSaid : Prop := dequeConservesRow.holds Try.pinned (OpenSpec.ofChange dequeConservesSpec)

/-- ITS FALSE NEIGHBOUR: 'it returns false'. Refute it at one input. -/
def dequeConservesWrong : ChangeSpec := { name := "dequeConserves", fn := fun _ => fun
  | [d1, d2] => { results := [.lit (.bool false)], args := [d1, d2] }
  | _ => none }
def DequeConservesWrongFalsely : Prop := dequeConservesRow.holds Try.pinned (OpenSpec.ofChange dequeConservesWrong)

/- THE SECOND FORM. 'bulk': how many values and letters a reading holds, each counted each time it is reached (what is shared counts as often as it is met; a slice's spare places count too). A statement '..UptoSaid' is the law's where the arguments, and the package variables that the reading takes, are together of bulk at most 1048576: NARROWER than '..Said'. Prove '..Said' where nothing that the law and all that it calls make is longer than what came in: it says more and counts as full. Else prove '..UptoSaid'. A law counts once. -/
mutual
def uptoBulk {H : Type} : DataW H → Nat
  | .lit (.string bytes) => bytes.length + 1
  | .lit _ => 1
  | .nil => 1
  | .ptr d => uptoBulk d + 1
  | .slice elems spare => uptoBulkAll elems + uptoBulkAll spare + 1
  | .agg parts => uptoBulkAll parts + 1
  | .iface _ d => uptoBulk d + 1
  | .map entries => uptoBulkEntries entries + 1
  | .held _ => 1
def uptoBulkAll {H : Type} : List (DataW H) → Nat
  | [] => 0
  | d :: r => uptoBulk d + uptoBulkAll r
def uptoBulkEntries {H : Type} : List (Lit × DataW H) → Nat
  | [] => 0
  | x :: r => uptoBulkEntry x + uptoBulkEntries r
def uptoBulkEntry {H : Type} : Lit × DataW H → Nat
  | (.string bytes, d) => bytes.length + uptoBulk d + 1
  | (_, d) => uptoBulk d + 1
 end
def uptoSmall : (H : Type) → List (DataW H) → Bool := fun _ ds => decide (uptoBulkAll ds ≤ 1048576)
def OpenSpec.upto (s : _root_.Go.ChangeSpec) : _root_.Go.OpenSpec := { _root_.Go.OpenSpec.ofChange s with cond := some uptoSmall }

/-- 'nurserylaw08.DequeOps', WHERE WHAT IT READS IS OF BULK AT MOST 1048576: true; the input reads as it did. -/
def dequeOpsUptoRow : OpenClaim := { program := "ytcghckgbaeindaa", sum := "0ccc8176955d702e2ec85a7677f1a9388a9195f96aa7a8f9bfd39955ebfeb3d0", func := "nursery/nurserylaw08.DequeOps", spec := "dequeOps", unfollowed := true, recurses := true, apart := false, narrowed := true }
def DequeOpsUptoSaid : Prop := dequeOpsUptoRow.holds Try.pinned (OpenSpec.upto dequeOpsSpec)

/-- 'nurserylaw08.DequePlay', WHERE WHAT IT READS IS OF BULK AT MOST 1048576: true; the input reads as it did. -/
def dequePlayUptoRow : OpenClaim := { program := "ytcghckgbaeindaa", sum := "0ccc8176955d702e2ec85a7677f1a9388a9195f96aa7a8f9bfd39955ebfeb3d0", func := "nursery/nurserylaw08.DequePlay", spec := "dequePlay", unfollowed := true, recurses := true, apart := false, narrowed := true }
def DequePlayUptoSaid : Prop := dequePlayUptoRow.holds Try.pinned (OpenSpec.upto dequePlaySpec)

/-- 'nurserylaw08.DequeMany', WHERE WHAT IT READS IS OF BULK AT MOST 1048576: true; the input reads as it did. -/
def dequeManyUptoRow : OpenClaim := { program := "ytcghckgbaeindaa", sum := "0ccc8176955d702e2ec85a7677f1a9388a9195f96aa7a8f9bfd39955ebfeb3d0", func := "nursery/nurserylaw08.DequeMany", spec := "dequeMany", unfollowed := true, recurses := true, apart := false, narrowed := true }
def DequeManyUptoSaid : Prop := dequeManyUptoRow.holds Try.pinned (OpenSpec.upto dequeManySpec)

/-- 'nurserylaw08.DequeEnds', WHERE WHAT IT READS IS OF BULK AT MOST 1048576: true; the input reads as it did. -/
def dequeEndsUptoRow : OpenClaim := { program := "ytcghckgbaeindaa", sum := "0ccc8176955d702e2ec85a7677f1a9388a9195f96aa7a8f9bfd39955ebfeb3d0", func := "nursery/nurserylaw08.DequeEnds", spec := "dequeEnds", unfollowed := true, recurses := true, apart := false, narrowed := true }
def DequeEndsUptoSaid : Prop := dequeEndsUptoRow.holds Try.pinned (OpenSpec.upto dequeEndsSpec)

/-- 'nurserylaw08.DequeCommutes', WHERE WHAT IT READS IS OF BULK AT MOST 1048576: true; the input reads as it did. -/
def dequeCommutesUptoRow : OpenClaim := { program := "ytcghckgbaeindaa", sum := "0ccc8176955d702e2ec85a7677f1a9388a9195f96aa7a8f9bfd39955ebfeb3d0", func := "nursery/nurserylaw08.DequeCommutes", spec := "dequeCommutes", unfollowed := true, recurses := true, apart := false, narrowed := true }
def DequeCommutesUptoSaid : Prop := dequeCommutesUptoRow.holds Try.pinned (OpenSpec.upto dequeCommutesSpec)

/-- 'nurserylaw08.DequeHalves', WHERE WHAT IT READS IS OF BULK AT MOST 1048576: true; the input reads as it did. -/
def dequeHalvesUptoRow : OpenClaim := { program := "ytcghckgbaeindaa", sum := "0ccc8176955d702e2ec85a7677f1a9388a9195f96aa7a8f9bfd39955ebfeb3d0", func := "nursery/nurserylaw08.DequeHalves", spec := "dequeHalves", unfollowed := true, recurses := true, apart := false, narrowed := true }
def DequeHalvesUptoSaid : Prop := dequeHalvesUptoRow.holds Try.pinned (OpenSpec.upto dequeHalvesSpec)

/-- 'nurserylaw08.DequeParts', WHERE WHAT IT READS IS OF BULK AT MOST 1048576: true; the input reads as it did. -/
def dequePartsUptoRow : OpenClaim := { program := "ytcghckgbaeindaa", sum := "0ccc8176955d702e2ec85a7677f1a9388a9195f96aa7a8f9bfd39955ebfeb3d0", func := "nursery/nurserylaw08.DequeParts", spec := "dequeParts", unfollowed := true, recurses := true, apart := false, narrowed := true }
def DequePartsUptoSaid : Prop := dequePartsUptoRow.holds Try.pinned (OpenSpec.upto dequePartsSpec)

/-- 'nurserylaw08.DequeConserves', WHERE WHAT IT READS IS OF BULK AT MOST 1048576: true; the input reads as it did. -/
def dequeConservesUptoRow : OpenClaim := { program := "ytcghckgbaeindaa", sum := "0ccc8176955d702e2ec85a7677f1a9388a9195f96aa7a8f9bfd39955ebfeb3d0", func := "nursery/nurserylaw08.DequeConserves", spec := "dequeConserves", unfollowed := true, recurses := true, apart := false, narrowed := true }
def DequeConservesUptoSaid : Prop := dequeConservesUptoRow.holds Try.pinned (OpenSpec.upto dequeConservesSpec)

end Rows
end Go.Proofs.Ytcghckgbaeindaa
