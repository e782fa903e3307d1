/-
  No cell of these rows narrows 'for every input' (looked for: loops, veiled, ifaces, maps, wideKeys, modest, calm, conditions, laid).
  DERIVED. THE GIVEN ROWS OF THIS SEAT. 8 by the template 'for every input the law returns true; each argument reads behind the call as it read before'; 0 by the template 'total and deterministic' (their statements: YtokkndniihhgjaaTotals.lean).
  GIVEN WITH THE SEED: the statements are not yours to turn. If you find one false, say at which input.
  Laid BY PROGRAM, IN A SANDBOX (cutbox-rows.mjs): the forced cells as the released guide's own fill.sh prints them over the translation 932b94e51fbce1ea… (all of the seat's roots in one cut). By AI agents, Wed Nov 11 2026. No macro, syntax, notation, axiom, sorry.
-/
import Derived.Test.YtokkndniihhgjaaChecked
import GoSem.Claim
import GoSem.ClaimJoined
import GoSem.ClaimMapViews
import Derived.JoinedTies
import Derived.KernelRfl
namespace Go.Proofs.Ytokkndniihhgjaa
/- THE CELL 'sum', in the pinned program and in every row, IS THE sha256 OF THE DUMP (.gsa) THAT YtokkndniihhgjaaProg.lean LOADS. Nothing in Lean hashes anything: it is a label: what it is worth is what the hold of that sum in a sandbox is worth. -/
noncomputable def Try.pinned : Pinned := { name := "ytokkndniihhgjaa", sum := "932b94e51fbce1eaa7ba26c0a0217f4eb4247a1fa1d205a8acd83dd1eb568ee9", checked := Try.checked }
namespace Rows
def none {H : Type} : Left H := { results := [], args := [] }

/-- 'nurserylaw52.FlowProgress': WHATEVER THE INPUT: true; the input reads as it did. -/
def flowProgressSpec : ChangeSpec := { name := "flowProgress", fn := fun _ => fun
  | [d1, d2] => { results := [.lit (.bool true)], args := [d1, d2] }
  | _ => none }
def flowProgressRow : OpenClaim := { program := "ytokkndniihhgjaa", sum := "932b94e51fbce1eaa7ba26c0a0217f4eb4247a1fa1d205a8acd83dd1eb568ee9", func := "nursery/nurserylaw52.FlowProgress", spec := "flowProgress", unfollowed := true, recurses := true, apart := false }
def FlowProgressSaid : Prop := flowProgressRow.holds Try.pinned (OpenSpec.ofChange flowProgressSpec)

/-- ITS FALSE NEIGHBOUR: 'it returns false'. Refute it at one input. -/
def flowProgressWrong : ChangeSpec := { name := "flowProgress", fn := fun _ => fun
  | [d1, d2] => { results := [.lit (.bool false)], args := [d1, d2] }
  | _ => none }
def FlowProgressWrongFalsely : Prop := flowProgressRow.holds Try.pinned (OpenSpec.ofChange flowProgressWrong)

/-- 'nurserylaw52.FlowConsumer': WHATEVER THE INPUT: true; the input reads as it did. -/
def flowConsumerSpec : ChangeSpec := { name := "flowConsumer", fn := fun _ => fun
  | [d1, d2] => { results := [.lit (.bool true)], args := [d1, d2] }
  | _ => none }
def flowConsumerRow : OpenClaim := { program := "ytokkndniihhgjaa", sum := "932b94e51fbce1eaa7ba26c0a0217f4eb4247a1fa1d205a8acd83dd1eb568ee9", func := "nursery/nurserylaw52.FlowConsumer", spec := "flowConsumer", unfollowed := true, recurses := true, apart := false }
def FlowConsumerSaid : Prop := flowConsumerRow.holds Try.pinned (OpenSpec.ofChange flowConsumerSpec)

/-- ITS FALSE NEIGHBOUR: 'it returns false'. Refute it at one input. -/
def flowConsumerWrong : ChangeSpec := { name := "flowConsumer", fn := fun _ => fun
  | [d1, d2] => { results := [.lit (.bool false)], args := [d1, d2] }
  | _ => none }
def FlowConsumerWrongFalsely : Prop := flowConsumerRow.holds Try.pinned (OpenSpec.ofChange flowConsumerWrong)

/-- 'nurserylaw52.FlowProducer': WHATEVER THE INPUT: true; the input reads as it did. -/
def flowProducerSpec : ChangeSpec := { name := "flowProducer", fn := fun _ => fun
  | [d1, d2] => { results := [.lit (.bool true)], args := [d1, d2] }
  | _ => none }
def flowProducerRow : OpenClaim := { program := "ytokkndniihhgjaa", sum := "932b94e51fbce1eaa7ba26c0a0217f4eb4247a1fa1d205a8acd83dd1eb568ee9", func := "nursery/nurserylaw52.FlowProducer", spec := "flowProducer", unfollowed := true, recurses := true, apart := false }
def FlowProducerSaid : Prop := flowProducerRow.holds Try.pinned (OpenSpec.ofChange flowProducerSpec)

/-- ITS FALSE NEIGHBOUR: 'it returns false'. Refute it at one input. -/
def flowProducerWrong : ChangeSpec := { name := "flowProducer", fn := fun _ => fun
  | [d1, d2] => { results := [.lit (.bool false)], args := [d1, d2] }
  | _ => none }
def FlowProducerWrongFalsely : Prop := flowProducerRow.holds Try.pinned (OpenSpec.ofChange flowProducerWrong)

/-- 'nurserylaw52.FlowDemand': WHATEVER THE INPUT: true; the input reads as it did. -/
def flowDemandSpec : ChangeSpec := { name := "flowDemand", fn := fun _ => fun
  | [d1, d2] => { results := [.lit (.bool true)], args := [d1, d2] }
  | _ => none }
def flowDemandRow : OpenClaim := { program := "ytokkndniihhgjaa", sum := "932b94e51fbce1eaa7ba26c0a0217f4eb4247a1fa1d205a8acd83dd1eb568ee9", func := "nursery/nurserylaw52.FlowDemand", spec := "flowDemand", unfollowed := true, recurses := true, apart := false }
def FlowDemandSaid : Prop := flowDemandRow.holds Try.pinned (OpenSpec.ofChange flowDemandSpec)

/-- ITS FALSE NEIGHBOUR: 'it returns false'. Refute it at one input. -/
def flowDemandWrong : ChangeSpec := { name := "flowDemand", fn := fun _ => fun
  | [d1, d2] => { results := [.lit (.bool false)], args := [d1, d2] }
  | _ => none }
def FlowDemandWrongFalsely : Prop := flowDemandRow.holds Try.pinned (OpenSpec.ofChange flowDemandWrong)

/-- 'nurserylaw52.FlowOrder': WHATEVER THE INPUT: true; the input reads as it did. -/
def flowOrderSpec : ChangeSpec := { name := "flowOrder", fn := fun _ => fun
  | [d1, d2] => { results := [.lit (.bool true)], args := [d1, d2] }
  | _ => none }
def flowOrderRow : OpenClaim := { program := "ytokkndniihhgjaa", sum := "932b94e51fbce1eaa7ba26c0a0217f4eb4247a1fa1d205a8acd83dd1eb568ee9", func := "nursery/nurserylaw52.FlowOrder", spec := "flowOrder", unfollowed := true, recurses := true, apart := false }
def FlowOrderSaid : Prop := flowOrderRow.holds Try.pinned (OpenSpec.ofChange flowOrderSpec)

/-- ITS FALSE NEIGHBOUR: 'it returns false'. Refute it at one input. -/
def flowOrderWrong : ChangeSpec := { name := "flowOrder", fn := fun _ => fun
  | [d1, d2] => { results := [.lit (.bool false)], args := [d1, d2] }
  | _ => none }
def FlowOrderWrongFalsely : Prop := flowOrderRow.holds Try.pinned (OpenSpec.ofChange flowOrderWrong)

/-- 'nurserylaw52.FlowSides': WHATEVER THE INPUT: true; the input reads as it did. -/
def flowSidesSpec : ChangeSpec := { name := "flowSides", fn := fun _ => fun
  | [d1, d2, d3] => { results := [.lit (.bool true)], args := [d1, d2, d3] }
  | _ => none }
def flowSidesRow : OpenClaim := { program := "ytokkndniihhgjaa", sum := "932b94e51fbce1eaa7ba26c0a0217f4eb4247a1fa1d205a8acd83dd1eb568ee9", func := "nursery/nurserylaw52.FlowSides", spec := "flowSides", unfollowed := true, recurses := true, apart := false }
def FlowSidesSaid : Prop := flowSidesRow.holds Try.pinned (OpenSpec.ofChange flowSidesSpec)

/-- ITS FALSE NEIGHBOUR: 'it returns false'. Refute it at one input. -/
def flowSidesWrong : ChangeSpec := { name := "flowSides", fn := fun _ => fun
  | [d1, d2, d3] => { results := [.lit (.bool false)], args := [d1, d2, d3] }
  | _ => none }
def FlowSidesWrongFalsely : Prop := flowSidesRow.holds Try.pinned (OpenSpec.ofChange flowSidesWrong)

/-- 'nurserylaw52.FlowValid': WHATEVER THE INPUT: true; the input reads as it did. -/
def flowValidSpec : ChangeSpec := { name := "flowValid", fn := fun _ => fun
  | [d1, d2] => { results := [.lit (.bool true)], args := [d1, d2] }
  | _ => none }
def flowValidRow : OpenClaim := { program := "ytokkndniihhgjaa", sum := "932b94e51fbce1eaa7ba26c0a0217f4eb4247a1fa1d205a8acd83dd1eb568ee9", func := "nursery/nurserylaw52.FlowValid", spec := "flowValid", unfollowed := true, recurses := true, apart := false }
def FlowValidSaid : Prop := flowValidRow.holds Try.pinned (OpenSpec.ofChange flowValidSpec)

/-- ITS FALSE NEIGHBOUR: 'it returns false'. Refute it at one input. -/
def flowValidWrong : ChangeSpec := { name := "flowValid", fn := fun _ => fun
  | [d1, d2] => { results := [.lit (.bool false)], args := [d1, d2] }
  | _ => none }
def FlowValidWrongFalsely : Prop := flowValidRow.holds Try.pinned (OpenSpec.ofChange flowValidWrong)

/-- 'nurserylaw52.FlowEnds': WHATEVER THE INPUT: true; the input reads as it did. -/
def flowEndsSpec : ChangeSpec := { name := "flowEnds", fn := fun _ => fun
  | [d1, d2] => { results := [.lit (.bool true)], args := [d1, d2] }
  | _ => none }
def flowEndsRow : OpenClaim := { program := "ytokkndniihhgjaa", sum := "932b94e51fbce1eaa7ba26c0a0217f4eb4247a1fa1d205a8acd83dd1eb568ee9", func := "nursery/nurserylaw52.FlowEnds", spec := "flowEnds", unfollowed := true, recurses := true, apart := false }
def FlowEndsSaid : Prop := flowEndsRow.holds Try.pinned (OpenSpec.ofChange flowEndsSpec)

/-- ITS FALSE NEIGHBOUR: 'it returns false'. Refute it at one input. -/
def flowEndsWrong : ChangeSpec := { name := "flowEnds", fn := fun _ => fun
  | [d1, d2] => { results := [.lit (.bool false)], args := [d1, d2] }
  | _ => none }
def FlowEndsWrongFalsely : Prop := flowEndsRow.holds Try.pinned (OpenSpec.ofChange flowEndsWrong)

/- THE SECOND FORM. 'bulk': how many values and letters a reading holds, each counted each time it is reached (what is shared counts as often as it is met; a slice's spare places count too). A statement '..UptoSaid' is the law's where the arguments, and the package variables that the reading takes, are together of bulk at most 1048576: NARROWER than '..Said'. Prove '..Said' where nothing that the law and all that it calls make is longer than what came in: it says more and counts as full. Else prove '..UptoSaid'. A law counts once. -/
mutual
def uptoBulk {H : Type} : DataW H → Nat
  | .lit (.string bytes) => bytes.length + 1
  | .lit _ => 1
  | .nil => 1
  | .ptr d => uptoBulk d + 1
  | .slice elems spare => uptoBulkAll elems + uptoBulkAll spare + 1
  | .agg parts => uptoBulkAll parts + 1
  | .iface _ d => uptoBulk d + 1
  | .map entries => uptoBulkEntries entries + 1
  | .held _ => 1
def uptoBulkAll {H : Type} : List (DataW H) → Nat
  | [] => 0
  | d :: r => uptoBulk d + uptoBulkAll r
def uptoBulkEntries {H : Type} : List (Lit × DataW H) → Nat
  | [] => 0
  | x :: r => uptoBulkEntry x + uptoBulkEntries r
def uptoBulkEntry {H : Type} : Lit × DataW H → Nat
  | (.string bytes, d) => bytes.length + uptoBulk d + 1
  | (_, d) => uptoBulk d + 1
 end
def uptoSmall : (H : Type) → List (DataW H) → Bool := fun _ ds => decide (uptoBulkAll ds ≤ 1048576)
def OpenSpec.upto (s : _root_.Go.ChangeSpec) : _root_.Go.OpenSpec := { _root_.Go.OpenSpec.ofChange s with cond := some uptoSmall }

/-- 'nurserylaw52.FlowProgress', WHERE WHAT IT READS IS OF BULK AT MOST 1048576: true; the input reads as it did. -/
def flowProgressUptoRow : OpenClaim := { program := "ytokkndniihhgjaa", sum := "932b94e51fbce1eaa7ba26c0a0217f4eb4247a1fa1d205a8acd83dd1eb568ee9", func := "nursery/nurserylaw52.FlowProgress", spec := "flowProgress", unfollowed := true, recurses := true, apart := false, narrowed := true }
def FlowProgressUptoSaid : Prop := flowProgressUptoRow.holds Try.pinned (OpenSpec.upto flowProgressSpec)

/-- 'nurserylaw52.FlowConsumer', WHERE WHAT IT READS IS OF BULK AT MOST 1048576: true; the input reads as it did. -/
def flowConsumerUptoRow : OpenClaim := { program := "ytokkndniihhgjaa", sum := "932b94e51fbce1eaa7ba26c0a0217f4eb4247a1fa1d205a8acd83dd1eb568ee9", func := "nursery/nurserylaw52.FlowConsumer", spec := "flowConsumer", unfollowed := true, recurses := true, apart := false, narrowed := true }
def FlowConsumerUptoSaid : Prop := flowConsumerUptoRow.holds Try.pinned (OpenSpec.upto flowConsumerSpec)

/-- 'nurserylaw52.FlowProducer', WHERE WHAT IT READS IS OF BULK AT MOST 1048576: true; the input reads as it did. -/
def flowProducerUptoRow : OpenClaim := { program := "ytokkndniihhgjaa", sum := "932b94e51fbce1eaa7ba26c0a0217f4eb4247a1fa1d205a8acd83dd1eb568ee9", func := "nursery/nurserylaw52.FlowProducer", spec := "flowProducer", unfollowed := true, recurses := true, apart := false, narrowed := true }
def FlowProducerUptoSaid : Prop := flowProducerUptoRow.holds Try.pinned (OpenSpec.upto flowProducerSpec)

/-- 'nurserylaw52.FlowDemand', WHERE WHAT IT READS IS OF BULK AT MOST 1048576: true; the input reads as it did. -/
def flowDemandUptoRow : OpenClaim := { program := "ytokkndniihhgjaa", sum := "932b94e51fbce1eaa7ba26c0a0217f4eb4247a1fa1d205a8acd83dd1eb568ee9", func := "nursery/nurserylaw52.FlowDemand", spec := "flowDemand", unfollowed := true, recurses := true, apart := false, narrowed := true }
def FlowDemandUptoSaid : Prop := flowDemandUptoRow.holds Try.pinned (OpenSpec.upto flowDemandSpec)

/-- 'nurserylaw52.FlowOrder', WHERE WHAT IT READS IS OF BULK AT MOST 1048576: true; the input reads as it did. -/
def flowOrderUptoRow : OpenClaim := { program := "ytokkndniihhgjaa", sum := "932b94e51fbce1eaa7ba26c0a0217f4eb4247a1fa1d205a8acd83dd1eb568ee9", func := "nursery/nurserylaw52.FlowOrder", spec := "flowOrder", unfollowed := true, recurses := true, apart := false, narrowed := true }
def FlowOrderUptoSaid : Prop := flowOrderUptoRow.holds Try.pinned (OpenSpec.upto flowOrderSpec)

/-- 'nurserylaw52.FlowSides', WHERE WHAT IT READS IS OF BULK AT MOST 1048576: true; the input reads as it did. -/
def flowSidesUptoRow : OpenClaim := { program := "ytokkndniihhgjaa", sum := "932b94e51fbce1eaa7ba26c0a0217f4eb4247a1fa1d205a8acd83dd1eb568ee9", func := "nursery/nurserylaw52.FlowSides", spec := "flowSides", unfollowed := true, recurses := true, apart := false, narrowed := true }
def FlowSidesUptoSaid : Prop := flowSidesUptoRow.holds Try.pinned (OpenSpec.upto flowSidesSpec)

/-- 'nurserylaw52.FlowValid', WHERE WHAT IT READS IS OF BULK AT MOST 1048576: true; the input reads as it did. -/
def flowValidUptoRow : OpenClaim := { program := "ytokkndniihhgjaa", sum := "932b94e51fbce1eaa7ba26c0a0217f4eb4247a1fa1d205a8acd83dd1eb568ee9", func := "nursery/nurserylaw52.FlowValid", spec := "flowValid", unfollowed := true, recurses := true, apart := false, narrowed := true }
def FlowValidUptoSaid : Prop := flowValidUptoRow.holds Try.pinned (OpenSpec.upto flowValidSpec)

/-- 'nurserylaw52.FlowEnds', WHERE WHAT IT READS IS OF BULK AT MOST 1048576: true; the input reads as it did. -/
def flowEndsUptoRow : OpenClaim := { program := "ytokkndniihhgjaa", sum := "932b94e51fbce1eaa7ba26c0a0217f4eb4247a1fa1d205a8acd83dd1eb568ee9", func := "nursery/nurserylaw52.FlowEnds", spec := "flowEnds", unfollowed := true, recurses := true, apart := false, narrowed := true }
def FlowEndsUptoSaid : Prop := flowEndsUptoRow.holds Try.pinned (OpenSpec.upto flowEndsSpec)

end Rows
end Go.Proofs.Ytokkndniihhgjaa
