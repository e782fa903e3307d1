/-
  No cell of these rows narrows 'for every input' (looked for: loops, veiled, ifaces, maps, wideKeys, modest, calm, conditions, laid).
  DERIVED. THE GIVEN ROWS OF THIS SEAT. 9 by the template 'for every input the law returns true; each argument reads behind the call as it read before'; 0 by the template 'total and deterministic' (their statements: YtlaefkhbpnbahaaTotals.lean).
  GIVEN WITH THE SEED: the statements are not yours to turn. If you find one false, say at which input.
  Laid BY PROGRAM, IN A SANDBOX (cutbox-rows.mjs): the forced cells as the released guide's own fill.sh prints them over the translation b7145b91693b1b32… (all of the seat's roots in one cut). By AI agents, Wed Nov 11 2026. No macro, syntax, notation, axiom, sorry.
-/
import Derived.Test.YtlaefkhbpnbahaaChecked
import GoSem.Claim
import GoSem.ClaimJoined
import GoSem.ClaimMapViews
import Derived.JoinedTies
import Derived.KernelRfl
namespace Go.Proofs.Ytlaefkhbpnbahaa
/- THE CELL 'sum', in the pinned program and in every row, IS THE sha256 OF THE DUMP (.gsa) THAT YtlaefkhbpnbahaaProg.lean LOADS. Nothing in Lean hashes anything: it is a label: what it is worth is what the hold of that sum in a sandbox is worth. -/
noncomputable def Try.pinned : Pinned := { name := "ytlaefkhbpnbahaa", sum := "b7145b91693b1b326305d05a4f171e65a559b12e2b72359275e7cdf43fcb3e90", checked := Try.checked }
namespace Rows
def none {H : Type} : Left H := { results := [], args := [] }

/-- 'nurserylaw04.PartialorderExtensions': WHATEVER THE INPUT: true; the input reads as it did. -/
def partialorderExtensionsSpec : ChangeSpec := { name := "partialorderExtensions", fn := fun _ => fun
  | [d1, d2, d3] => { results := [.lit (.bool true)], args := [d1, d2, d3] }
  | _ => none }
def partialorderExtensionsRow : OpenClaim := { program := "ytlaefkhbpnbahaa", sum := "b7145b91693b1b326305d05a4f171e65a559b12e2b72359275e7cdf43fcb3e90", func := "nursery/nurserylaw04.PartialorderExtensions", spec := "partialorderExtensions", unfollowed := true, recurses := true, apart := false }
def PartialorderExtensionsSaid : Prop := partialorderExtensionsRow.holds Try.pinned (OpenSpec.ofChange partialorderExtensionsSpec)

/-- ITS FALSE NEIGHBOUR: 'it returns false'. Refute it at one input. -/
def partialorderExtensionsWrong : ChangeSpec := { name := "partialorderExtensions", fn := fun _ => fun
  | [d1, d2, d3] => { results := [.lit (.bool false)], args := [d1, d2, d3] }
  | _ => none }
def PartialorderExtensionsWrongFalsely : Prop := partialorderExtensionsRow.holds Try.pinned (OpenSpec.ofChange partialorderExtensionsWrong)

/-- 'nurserylaw04.PartialorderLeast': WHATEVER THE INPUT: true; the input reads as it did. -/
def partialorderLeastSpec : ChangeSpec := { name := "partialorderLeast", fn := fun _ => fun
  | [d1, d2, d3] => { results := [.lit (.bool true)], args := [d1, d2, d3] }
  | _ => none }
def partialorderLeastRow : OpenClaim := { program := "ytlaefkhbpnbahaa", sum := "b7145b91693b1b326305d05a4f171e65a559b12e2b72359275e7cdf43fcb3e90", func := "nursery/nurserylaw04.PartialorderLeast", spec := "partialorderLeast", unfollowed := true, recurses := true, apart := false }
def PartialorderLeastSaid : Prop := partialorderLeastRow.holds Try.pinned (OpenSpec.ofChange partialorderLeastSpec)

/-- ITS FALSE NEIGHBOUR: 'it returns false'. Refute it at one input. -/
def partialorderLeastWrong : ChangeSpec := { name := "partialorderLeast", fn := fun _ => fun
  | [d1, d2, d3] => { results := [.lit (.bool false)], args := [d1, d2, d3] }
  | _ => none }
def PartialorderLeastWrongFalsely : Prop := partialorderLeastRow.holds Try.pinned (OpenSpec.ofChange partialorderLeastWrong)

/-- 'nurserylaw04.PartialorderRefines': WHATEVER THE INPUT: true; the input reads as it did. -/
def partialorderRefinesSpec : ChangeSpec := { name := "partialorderRefines", fn := fun _ => fun
  | [d1, d2] => { results := [.lit (.bool true)], args := [d1, d2] }
  | _ => none }
def partialorderRefinesRow : OpenClaim := { program := "ytlaefkhbpnbahaa", sum := "b7145b91693b1b326305d05a4f171e65a559b12e2b72359275e7cdf43fcb3e90", func := "nursery/nurserylaw04.PartialorderRefines", spec := "partialorderRefines", unfollowed := true, recurses := true, apart := false }
def PartialorderRefinesSaid : Prop := partialorderRefinesRow.holds Try.pinned (OpenSpec.ofChange partialorderRefinesSpec)

/-- ITS FALSE NEIGHBOUR: 'it returns false'. Refute it at one input. -/
def partialorderRefinesWrong : ChangeSpec := { name := "partialorderRefines", fn := fun _ => fun
  | [d1, d2] => { results := [.lit (.bool false)], args := [d1, d2] }
  | _ => none }
def PartialorderRefinesWrongFalsely : Prop := partialorderRefinesRow.holds Try.pinned (OpenSpec.ofChange partialorderRefinesWrong)

/-- 'nurserylaw04.PartialorderMeet': WHATEVER THE INPUT: true; the input reads as it did. -/
def partialorderMeetSpec : ChangeSpec := { name := "partialorderMeet", fn := fun _ => fun
  | [d1, d2] => { results := [.lit (.bool true)], args := [d1, d2] }
  | _ => none }
def partialorderMeetRow : OpenClaim := { program := "ytlaefkhbpnbahaa", sum := "b7145b91693b1b326305d05a4f171e65a559b12e2b72359275e7cdf43fcb3e90", func := "nursery/nurserylaw04.PartialorderMeet", spec := "partialorderMeet", unfollowed := true, recurses := true, apart := false }
def PartialorderMeetSaid : Prop := partialorderMeetRow.holds Try.pinned (OpenSpec.ofChange partialorderMeetSpec)

/-- ITS FALSE NEIGHBOUR: 'it returns false'. Refute it at one input. -/
def partialorderMeetWrong : ChangeSpec := { name := "partialorderMeet", fn := fun _ => fun
  | [d1, d2] => { results := [.lit (.bool false)], args := [d1, d2] }
  | _ => none }
def PartialorderMeetWrongFalsely : Prop := partialorderMeetRow.holds Try.pinned (OpenSpec.ofChange partialorderMeetWrong)

/-- 'nurserylaw04.PartialorderCovers': WHATEVER THE INPUT: true; the input reads as it did. -/
def partialorderCoversSpec : ChangeSpec := { name := "partialorderCovers", fn := fun _ => fun
  | [d1, d2] => { results := [.lit (.bool true)], args := [d1, d2] }
  | _ => none }
def partialorderCoversRow : OpenClaim := { program := "ytlaefkhbpnbahaa", sum := "b7145b91693b1b326305d05a4f171e65a559b12e2b72359275e7cdf43fcb3e90", func := "nursery/nurserylaw04.PartialorderCovers", spec := "partialorderCovers", unfollowed := true, recurses := true, apart := false }
def PartialorderCoversSaid : Prop := partialorderCoversRow.holds Try.pinned (OpenSpec.ofChange partialorderCoversSpec)

/-- ITS FALSE NEIGHBOUR: 'it returns false'. Refute it at one input. -/
def partialorderCoversWrong : ChangeSpec := { name := "partialorderCovers", fn := fun _ => fun
  | [d1, d2] => { results := [.lit (.bool false)], args := [d1, d2] }
  | _ => none }
def PartialorderCoversWrongFalsely : Prop := partialorderCoversRow.holds Try.pinned (OpenSpec.ofChange partialorderCoversWrong)

/-- 'nurserylaw04.PartialorderCheck': WHATEVER THE INPUT: true; the input reads as it did. -/
def partialorderCheckSpec : ChangeSpec := { name := "partialorderCheck", fn := fun _ => fun
  | [d1, d2, d3] => { results := [.lit (.bool true)], args := [d1, d2, d3] }
  | _ => none }
def partialorderCheckRow : OpenClaim := { program := "ytlaefkhbpnbahaa", sum := "b7145b91693b1b326305d05a4f171e65a559b12e2b72359275e7cdf43fcb3e90", func := "nursery/nurserylaw04.PartialorderCheck", spec := "partialorderCheck", unfollowed := true, recurses := true, apart := false }
def PartialorderCheckSaid : Prop := partialorderCheckRow.holds Try.pinned (OpenSpec.ofChange partialorderCheckSpec)

/-- ITS FALSE NEIGHBOUR: 'it returns false'. Refute it at one input. -/
def partialorderCheckWrong : ChangeSpec := { name := "partialorderCheck", fn := fun _ => fun
  | [d1, d2, d3] => { results := [.lit (.bool false)], args := [d1, d2, d3] }
  | _ => none }
def PartialorderCheckWrongFalsely : Prop := partialorderCheckRow.holds Try.pinned (OpenSpec.ofChange partialorderCheckWrong)

/-- 'nurserylaw04.PartialorderGenerate': WHATEVER THE INPUT: true; the input reads as it did. -/
def partialorderGenerateSpec : ChangeSpec := { name := "partialorderGenerate", fn := fun _ => fun
  | [d1, d2] => { results := [.lit (.bool true)], args := [d1, d2] }
  | _ => none }
def partialorderGenerateRow : OpenClaim := { program := "ytlaefkhbpnbahaa", sum := "b7145b91693b1b326305d05a4f171e65a559b12e2b72359275e7cdf43fcb3e90", func := "nursery/nurserylaw04.PartialorderGenerate", spec := "partialorderGenerate", unfollowed := true, recurses := true, apart := false }
def PartialorderGenerateSaid : Prop := partialorderGenerateRow.holds Try.pinned (OpenSpec.ofChange partialorderGenerateSpec)

/-- ITS FALSE NEIGHBOUR: 'it returns false'. Refute it at one input. -/
def partialorderGenerateWrong : ChangeSpec := { name := "partialorderGenerate", fn := fun _ => fun
  | [d1, d2] => { results := [.lit (.bool false)], args := [d1, d2] }
  | _ => none }
def PartialorderGenerateWrongFalsely : Prop := partialorderGenerateRow.holds Try.pinned (OpenSpec.ofChange partialorderGenerateWrong)

/-- 'nurserylaw04.PartialorderLong': WHATEVER THE INPUT: true; the input reads as it did. -/
def partialorderLongSpec : ChangeSpec := { name := "partialorderLong", fn := fun _ => fun
  | [d1, d2, d3] => { results := [.lit (.bool true)], args := [d1, d2, d3] }
  | _ => none }
def partialorderLongRow : OpenClaim := { program := "ytlaefkhbpnbahaa", sum := "b7145b91693b1b326305d05a4f171e65a559b12e2b72359275e7cdf43fcb3e90", func := "nursery/nurserylaw04.PartialorderLong", spec := "partialorderLong", unfollowed := true, recurses := true, apart := false }
def PartialorderLongSaid : Prop := partialorderLongRow.holds Try.pinned (OpenSpec.ofChange partialorderLongSpec)

/-- ITS FALSE NEIGHBOUR: 'it returns false'. Refute it at one input. -/
def partialorderLongWrong : ChangeSpec := { name := "partialorderLong", fn := fun _ => fun
  | [d1, d2, d3] => { results := [.lit (.bool false)], args := [d1, d2, d3] }
  | _ => none }
def PartialorderLongWrongFalsely : Prop := partialorderLongRow.holds Try.pinned (OpenSpec.ofChange partialorderLongWrong)

/-- 'nurserylaw04.PartialorderLinear': WHATEVER THE INPUT: true; the input reads as it did. -/
def partialorderLinearSpec : ChangeSpec := { name := "partialorderLinear", fn := fun _ => fun
  | [d1, d2, d3] => { results := [.lit (.bool true)], args := [d1, d2, d3] }
  | _ => none }
def partialorderLinearRow : OpenClaim := { program := "ytlaefkhbpnbahaa", sum := "b7145b91693b1b326305d05a4f171e65a559b12e2b72359275e7cdf43fcb3e90", func := "nursery/nurserylaw04.PartialorderLinear", spec := "partialorderLinear", unfollowed := true, recurses := true, apart := false }
def PartialorderLinearSaid : Prop := partialorderLinearRow.holds Try.pinned (OpenSpec.ofChange partialorderLinearSpec)

/-- ITS FALSE NEIGHBOUR: 'it returns false'. Refute it at one input. -/
def partialorderLinearWrong : ChangeSpec := { name := "partialorderLinear", fn := fun _ => fun
  | [d1, d2, d3] => { results := [.lit (.bool false)], args := [d1, d2, d3] }
  | _ => none }
def PartialorderLinearWrongFalsely : Prop := partialorderLinearRow.holds Try.pinned (OpenSpec.ofChange partialorderLinearWrong)

/- THE SECOND FORM. 'bulk': how many values and letters a reading holds, each counted each time it is reached (what is shared counts as often as it is met; a slice's spare places count too). A statement '..UptoSaid' is the law's where the arguments, and the package variables that the reading takes, are together of bulk at most 1048576: NARROWER than '..Said'. Prove '..Said' where nothing that the law and all that it calls make is longer than what came in: it says more and counts as full. Else prove '..UptoSaid'. A law counts once. -/
mutual
def uptoBulk {H : Type} : DataW H → Nat
  | .lit (.string bytes) => bytes.length + 1
  | .lit _ => 1
  | .nil => 1
  | .ptr d => uptoBulk d + 1
  | .slice elems spare => uptoBulkAll elems + uptoBulkAll spare + 1
  | .agg parts => uptoBulkAll parts + 1
  | .iface _ d => uptoBulk d + 1
  | .map entries => uptoBulkEntries entries + 1
  | .held _ => 1
def uptoBulkAll {H : Type} : List (DataW H) → Nat
  | [] => 0
  | d :: r => uptoBulk d + uptoBulkAll r
def uptoBulkEntries {H : Type} : List (Lit × DataW H) → Nat
  | [] => 0
  | x :: r => uptoBulkEntry x + uptoBulkEntries r
def uptoBulkEntry {H : Type} : Lit × DataW H → Nat
  | (.string bytes, d) => bytes.length + uptoBulk d + 1
  | (_, d) => uptoBulk d + 1
 end
def uptoSmall : (H : Type) → List (DataW H) → Bool := fun _ ds => decide (uptoBulkAll ds ≤ 1048576)
def OpenSpec.upto (s : _root_.Go.ChangeSpec) : _root_.Go.OpenSpec := { _root_.Go.OpenSpec.ofChange s with cond := some uptoSmall }

/-- 'nurserylaw04.PartialorderExtensions', WHERE WHAT IT READS IS OF BULK AT MOST 1048576: true; the input reads as it did. -/
def partialorderExtensionsUptoRow : OpenClaim := { program := "ytlaefkhbpnbahaa", sum := "b7145b91693b1b326305d05a4f171e65a559b12e2b72359275e7cdf43fcb3e90", func := "nursery/nurserylaw04.PartialorderExtensions", spec := "partialorderExtensions", unfollowed := true, recurses := true, apart := false, narrowed := true }
def PartialorderExtensionsUptoSaid : Prop := partialorderExtensionsUptoRow.holds Try.pinned (OpenSpec.upto partialorderExtensionsSpec)

/-- 'nurserylaw04.PartialorderLeast', WHERE WHAT IT READS IS OF BULK AT MOST 1048576: true; the input reads as it did. -/
def partialorderLeastUptoRow : OpenClaim := { program := "ytlaefkhbpnbahaa", sum := "b7145b91693b1b326305d05a4f171e65a559b12e2b72359275e7cdf43fcb3e90", func := "nursery/nurserylaw04.PartialorderLeast", spec := "partialorderLeast", unfollowed := true, recurses := true, apart := false, narrowed := true }
def PartialorderLeastUptoSaid : Prop := partialorderLeastUptoRow.holds Try.pinned (OpenSpec.upto partialorderLeastSpec)

/-- 'nurserylaw04.PartialorderRefines', WHERE WHAT IT READS IS OF BULK AT MOST 1048576: true; the input reads as it did. -/
def partialorderRefinesUptoRow : OpenClaim := { program := "ytlaefkhbpnbahaa", sum := "b7145b91693b1b326305d05a4f171e65a559b12e2b72359275e7cdf43fcb3e90", func := "nursery/nurserylaw04.PartialorderRefines", spec := "partialorderRefines", unfollowed := true, recurses := true, apart := false, narrowed := true }
def PartialorderRefinesUptoSaid : Prop := partialorderRefinesUptoRow.holds Try.pinned (OpenSpec.upto partialorderRefinesSpec)

/-- 'nurserylaw04.PartialorderMeet', WHERE WHAT IT READS IS OF BULK AT MOST 1048576: true; the input reads as it did. -/
def partialorderMeetUptoRow : OpenClaim := { program := "ytlaefkhbpnbahaa", sum := "b7145b91693b1b326305d05a4f171e65a559b12e2b72359275e7cdf43fcb3e90", func := "nursery/nurserylaw04.PartialorderMeet", spec := "partialorderMeet", unfollowed := true, recurses := true, apart := false, narrowed := true }
def PartialorderMeetUptoSaid : Prop := partialorderMeetUptoRow.holds Try.pinned (OpenSpec.upto partialorderMeetSpec)

/-- 'nurserylaw04.PartialorderCovers', WHERE WHAT IT READS IS OF BULK AT MOST 1048576: true; the input reads as it did. -/
def partialorderCoversUptoRow : OpenClaim := { program := "ytlaefkhbpnbahaa", sum := "b7145b91693b1b326305d05a4f171e65a559b12e2b72359275e7cdf43fcb3e90", func := "nursery/nurserylaw04.PartialorderCovers", spec := "partialorderCovers", unfollowed := true, recurses := true, apart := false, narrowed := true }
def PartialorderCoversUptoSaid : Prop := partialorderCoversUptoRow.holds Try.pinned (OpenSpec.upto partialorderCoversSpec)

/-- 'nurserylaw04.PartialorderCheck', WHERE WHAT IT READS IS OF BULK AT MOST 1048576: true; the input reads as it did. -/
def partialorderCheckUptoRow : OpenClaim := { program := "ytlaefkhbpnbahaa", sum := "b7145b91693b1b326305d05a4f171e65a559b12e2b72359275e7cdf43fcb3e90", func := "nursery/nurserylaw04.PartialorderCheck", spec := "partialorderCheck", unfollowed := true, recurses := true, apart := false, narrowed := true }
def PartialorderCheckUptoSaid : Prop := partialorderCheckUptoRow.holds Try.pinned (OpenSpec.upto partialorderCheckSpec)

/-- 'nurserylaw04.PartialorderGenerate', WHERE WHAT IT READS IS OF BULK AT MOST 1048576: true; the input reads as it did. -/
def partialorderGenerateUptoRow : OpenClaim := { program := "ytlaefkhbpnbahaa", sum := "b7145b91693b1b326305d05a4f171e65a559b12e2b72359275e7cdf43fcb3e90", func := "nursery/nurserylaw04.PartialorderGenerate", spec := "partialorderGenerate", unfollowed := true, recurses := true, apart := false, narrowed := true }
def PartialorderGenerateUptoSaid : Prop := partialorderGenerateUptoRow.holds Try.pinned (OpenSpec.upto partialorderGenerateSpec)

/-- 'nurserylaw04.PartialorderLong', WHERE WHAT IT READS IS OF BULK AT MOST 1048576: true; the input reads as it did. -/
def partialorderLongUptoRow : OpenClaim := { program := "ytlaefkhbpnbahaa", sum := "b7145b91693b1b326305d05a4f171e65a559b12e2b72359275e7cdf43fcb3e90", func := "nursery/nurserylaw04.PartialorderLong", spec := "partialorderLong", unfollowed := true, recurses := true, apart := false, narrowed := true }
def PartialorderLongUptoSaid : Prop := partialorderLongUptoRow.holds Try.pinned (OpenSpec.upto partialorderLongSpec)

/-- 'nurserylaw04.PartialorderLinear', WHERE WHAT IT READS IS OF BULK AT MOST 1048576: true; the input reads as it did. -/
def partialorderLinearUptoRow : OpenClaim := { program := "ytlaefkhbpnbahaa", sum := "b7145b91693b1b326305d05a4f171e65a559b12e2b72359275e7cdf43fcb3e90", func := "nursery/nurserylaw04.PartialorderLinear", spec := "partialorderLinear", unfollowed := true, recurses := true, apart := false, narrowed := true }
def PartialorderLinearUptoSaid : Prop := partialorderLinearUptoRow.holds Try.pinned (OpenSpec.upto partialorderLinearSpec)

end Rows
end Go.Proofs.Ytlaefkhbpnbahaa
