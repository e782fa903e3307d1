/-
  No cell of these rows narrows 'for every input' (looked for: loops, veiled, ifaces, maps, wideKeys, modest, calm, conditions, laid).
  DERIVED. THE GIVEN ROWS OF THIS SEAT. 7 by the template 'for every input the law returns true; each argument reads behind the call as it read before'; 0 by the template 'total and deterministic' (their statements: YtnaejponobbahaaTotals.lean).
  GIVEN WITH THE SEED: the statements are not yours to turn. If you find one false, say at which input.
  Laid BY PROGRAM, IN A SANDBOX (cutbox-rows.mjs): the forced cells as the released guide's own fill.sh prints them over the translation 4306d80e3f8d448e… (all of the seat's roots in one cut). By AI agents, Wed Nov 11 2026. No macro, syntax, notation, axiom, sorry.
-/
import Derived.Test.YtnaejponobbahaaChecked
import GoSem.Claim
import GoSem.ClaimJoined
import GoSem.ClaimMapViews
import Derived.JoinedTies
import Derived.KernelRfl
namespace Go.Proofs.Ytnaejponobbahaa
/- THE CELL 'sum', in the pinned program and in every row, IS THE sha256 OF THE DUMP (.gsa) THAT YtnaejponobbahaaProg.lean LOADS. Nothing in Lean hashes anything: it is a label: what it is worth is what the hold of that sum in a sandbox is worth. -/
noncomputable def Try.pinned : Pinned := { name := "ytnaejponobbahaa", sum := "4306d80e3f8d448e142665502010ebf09b8188c3302ae48e283727a4d56c4e5a", checked := Try.checked }
namespace Rows
def none {H : Type} : Left H := { results := [], args := [] }

/-- 'nurserylaw21.ChannelClose': WHATEVER THE INPUT: true; the input reads as it did. -/
def channelCloseSpec : ChangeSpec := { name := "channelClose", fn := fun _ => fun
  | [d1, d2] => { results := [.lit (.bool true)], args := [d1, d2] }
  | _ => none }
def channelCloseRow : OpenClaim := { program := "ytnaejponobbahaa", sum := "4306d80e3f8d448e142665502010ebf09b8188c3302ae48e283727a4d56c4e5a", func := "nursery/nurserylaw21.ChannelClose", spec := "channelClose", unfollowed := true, recurses := true, apart := false }
def ChannelCloseSaid : Prop := channelCloseRow.holds Try.pinned (OpenSpec.ofChange channelCloseSpec)

/-- ITS FALSE NEIGHBOUR: 'it returns false'. Refute it at one input. -/
def channelCloseWrong : ChangeSpec := { name := "channelClose", fn := fun _ => fun
  | [d1, d2] => { results := [.lit (.bool false)], args := [d1, d2] }
  | _ => none }
def ChannelCloseWrongFalsely : Prop := channelCloseRow.holds Try.pinned (OpenSpec.ofChange channelCloseWrong)

/-- 'nurserylaw21.ChannelApply': WHATEVER THE INPUT: true; the input reads as it did. -/
def channelApplySpec : ChangeSpec := { name := "channelApply", fn := fun _ => fun
  | [d1, d2, d3] => { results := [.lit (.bool true)], args := [d1, d2, d3] }
  | _ => none }
def channelApplyRow : OpenClaim := { program := "ytnaejponobbahaa", sum := "4306d80e3f8d448e142665502010ebf09b8188c3302ae48e283727a4d56c4e5a", func := "nursery/nurserylaw21.ChannelApply", spec := "channelApply", unfollowed := true, recurses := true, apart := false }
def ChannelApplySaid : Prop := channelApplyRow.holds Try.pinned (OpenSpec.ofChange channelApplySpec)

/-- ITS FALSE NEIGHBOUR: 'it returns false'. Refute it at one input. -/
def channelApplyWrong : ChangeSpec := { name := "channelApply", fn := fun _ => fun
  | [d1, d2, d3] => { results := [.lit (.bool false)], args := [d1, d2, d3] }
  | _ => none }
def ChannelApplyWrongFalsely : Prop := channelApplyRow.holds Try.pinned (OpenSpec.ofChange channelApplyWrong)

/-- 'nurserylaw21.ChannelMeets': WHATEVER THE INPUT: true; the input reads as it did. -/
def channelMeetsSpec : ChangeSpec := { name := "channelMeets", fn := fun _ => fun
  | [d1, d2, d3, d4, d5] => { results := [.lit (.bool true)], args := [d1, d2, d3, d4, d5] }
  | _ => none }
def channelMeetsRow : OpenClaim := { program := "ytnaejponobbahaa", sum := "4306d80e3f8d448e142665502010ebf09b8188c3302ae48e283727a4d56c4e5a", func := "nursery/nurserylaw21.ChannelMeets", spec := "channelMeets", unfollowed := true, recurses := true, apart := false }
def ChannelMeetsSaid : Prop := channelMeetsRow.holds Try.pinned (OpenSpec.ofChange channelMeetsSpec)

/-- ITS FALSE NEIGHBOUR: 'it returns false'. Refute it at one input. -/
def channelMeetsWrong : ChangeSpec := { name := "channelMeets", fn := fun _ => fun
  | [d1, d2, d3, d4, d5] => { results := [.lit (.bool false)], args := [d1, d2, d3, d4, d5] }
  | _ => none }
def ChannelMeetsWrongFalsely : Prop := channelMeetsRow.holds Try.pinned (OpenSpec.ofChange channelMeetsWrong)

/-- 'nurserylaw21.ChannelOffer': WHATEVER THE INPUT: true; the input reads as it did. -/
def channelOfferSpec : ChangeSpec := { name := "channelOffer", fn := fun _ => fun
  | [d1, d2, d3] => { results := [.lit (.bool true)], args := [d1, d2, d3] }
  | _ => none }
def channelOfferRow : OpenClaim := { program := "ytnaejponobbahaa", sum := "4306d80e3f8d448e142665502010ebf09b8188c3302ae48e283727a4d56c4e5a", func := "nursery/nurserylaw21.ChannelOffer", spec := "channelOffer", unfollowed := true, recurses := true, apart := false }
def ChannelOfferSaid : Prop := channelOfferRow.holds Try.pinned (OpenSpec.ofChange channelOfferSpec)

/-- ITS FALSE NEIGHBOUR: 'it returns false'. Refute it at one input. -/
def channelOfferWrong : ChangeSpec := { name := "channelOffer", fn := fun _ => fun
  | [d1, d2, d3] => { results := [.lit (.bool false)], args := [d1, d2, d3] }
  | _ => none }
def ChannelOfferWrongFalsely : Prop := channelOfferRow.holds Try.pinned (OpenSpec.ofChange channelOfferWrong)

/-- 'nurserylaw21.ChannelValid': WHATEVER THE INPUT: true; the input reads as it did. -/
def channelValidSpec : ChangeSpec := { name := "channelValid", fn := fun _ => fun
  | [d1, d2, d3, d4] => { results := [.lit (.bool true)], args := [d1, d2, d3, d4] }
  | _ => none }
def channelValidRow : OpenClaim := { program := "ytnaejponobbahaa", sum := "4306d80e3f8d448e142665502010ebf09b8188c3302ae48e283727a4d56c4e5a", func := "nursery/nurserylaw21.ChannelValid", spec := "channelValid", unfollowed := true, recurses := true, apart := false }
def ChannelValidSaid : Prop := channelValidRow.holds Try.pinned (OpenSpec.ofChange channelValidSpec)

/-- ITS FALSE NEIGHBOUR: 'it returns false'. Refute it at one input. -/
def channelValidWrong : ChangeSpec := { name := "channelValid", fn := fun _ => fun
  | [d1, d2, d3, d4] => { results := [.lit (.bool false)], args := [d1, d2, d3, d4] }
  | _ => none }
def ChannelValidWrongFalsely : Prop := channelValidRow.holds Try.pinned (OpenSpec.ofChange channelValidWrong)

/-- 'nurserylaw21.ChannelUndo': WHATEVER THE INPUT: true; the input reads as it did. -/
def channelUndoSpec : ChangeSpec := { name := "channelUndo", fn := fun _ => fun
  | [d1, d2, d3, d4] => { results := [.lit (.bool true)], args := [d1, d2, d3, d4] }
  | _ => none }
def channelUndoRow : OpenClaim := { program := "ytnaejponobbahaa", sum := "4306d80e3f8d448e142665502010ebf09b8188c3302ae48e283727a4d56c4e5a", func := "nursery/nurserylaw21.ChannelUndo", spec := "channelUndo", unfollowed := true, recurses := true, apart := false }
def ChannelUndoSaid : Prop := channelUndoRow.holds Try.pinned (OpenSpec.ofChange channelUndoSpec)

/-- ITS FALSE NEIGHBOUR: 'it returns false'. Refute it at one input. -/
def channelUndoWrong : ChangeSpec := { name := "channelUndo", fn := fun _ => fun
  | [d1, d2, d3, d4] => { results := [.lit (.bool false)], args := [d1, d2, d3, d4] }
  | _ => none }
def ChannelUndoWrongFalsely : Prop := channelUndoRow.holds Try.pinned (OpenSpec.ofChange channelUndoWrong)

/-- 'nurserylaw21.ChannelOrder': WHATEVER THE INPUT: true; the input reads as it did. -/
def channelOrderSpec : ChangeSpec := { name := "channelOrder", fn := fun _ => fun
  | [d1, d2] => { results := [.lit (.bool true)], args := [d1, d2] }
  | _ => none }
def channelOrderRow : OpenClaim := { program := "ytnaejponobbahaa", sum := "4306d80e3f8d448e142665502010ebf09b8188c3302ae48e283727a4d56c4e5a", func := "nursery/nurserylaw21.ChannelOrder", spec := "channelOrder", unfollowed := true, recurses := true, apart := false }
def ChannelOrderSaid : Prop := channelOrderRow.holds Try.pinned (OpenSpec.ofChange channelOrderSpec)

/-- ITS FALSE NEIGHBOUR: 'it returns false'. Refute it at one input. -/
def channelOrderWrong : ChangeSpec := { name := "channelOrder", fn := fun _ => fun
  | [d1, d2] => { results := [.lit (.bool false)], args := [d1, d2] }
  | _ => none }
def ChannelOrderWrongFalsely : Prop := channelOrderRow.holds Try.pinned (OpenSpec.ofChange channelOrderWrong)

/- THE SECOND FORM. 'bulk': how many values and letters a reading holds, each counted each time it is reached (what is shared counts as often as it is met; a slice's spare places count too). A statement '..UptoSaid' is the law's where the arguments, and the package variables that the reading takes, are together of bulk at most 1048576: NARROWER than '..Said'. Prove '..Said' where nothing that the law and all that it calls make is longer than what came in: it says more and counts as full. Else prove '..UptoSaid'. A law counts once. -/
mutual
def uptoBulk {H : Type} : DataW H → Nat
  | .lit (.string bytes) => bytes.length + 1
  | .lit _ => 1
  | .nil => 1
  | .ptr d => uptoBulk d + 1
  | .slice elems spare => uptoBulkAll elems + uptoBulkAll spare + 1
  | .agg parts => uptoBulkAll parts + 1
  | .iface _ d => uptoBulk d + 1
  | .map entries => uptoBulkEntries entries + 1
  | .held _ => 1
def uptoBulkAll {H : Type} : List (DataW H) → Nat
  | [] => 0
  | d :: r => uptoBulk d + uptoBulkAll r
def uptoBulkEntries {H : Type} : List (Lit × DataW H) → Nat
  | [] => 0
  | x :: r => uptoBulkEntry x + uptoBulkEntries r
def uptoBulkEntry {H : Type} : Lit × DataW H → Nat
  | (.string bytes, d) => bytes.length + uptoBulk d + 1
  | (_, d) => uptoBulk d + 1
 end
def uptoSmall : (H : Type) → List (DataW H) → Bool := fun _ ds => decide (uptoBulkAll ds ≤ 1048576)
def OpenSpec.upto (s : _root_.Go.ChangeSpec) : _root_.Go.OpenSpec := { _root_.Go.OpenSpec.ofChange s with cond := some uptoSmall }

/-- 'nurserylaw21.ChannelClose', WHERE WHAT IT READS IS OF BULK AT MOST 1048576: true; the input reads as it did. -/
def channelCloseUptoRow : OpenClaim := { program := "ytnaejponobbahaa", sum := "4306d80e3f8d448e142665502010ebf09b8188c3302ae48e283727a4d56c4e5a", func := "nursery/nurserylaw21.ChannelClose", spec := "channelClose", unfollowed := true, recurses := true, apart := false, narrowed := true }
def ChannelCloseUptoSaid : Prop := channelCloseUptoRow.holds Try.pinned (OpenSpec.upto channelCloseSpec)

/-- 'nurserylaw21.ChannelApply', WHERE WHAT IT READS IS OF BULK AT MOST 1048576: true; the input reads as it did. -/
def channelApplyUptoRow : OpenClaim := { program := "ytnaejponobbahaa", sum := "4306d80e3f8d448e142665502010ebf09b8188c3302ae48e283727a4d56c4e5a", func := "nursery/nurserylaw21.ChannelApply", spec := "channelApply", unfollowed := true, recurses := true, apart := false, narrowed := true }
def ChannelApplyUptoSaid : Prop := channelApplyUptoRow.holds Try.pinned (OpenSpec.upto channelApplySpec)

/-- 'nurserylaw21.ChannelMeets', WHERE WHAT IT READS IS OF BULK AT MOST 1048576: true; the input reads as it did. -/
def channelMeetsUptoRow : OpenClaim := { program := "ytnaejponobbahaa", sum := "4306d80e3f8d448e142665502010ebf09b8188c3302ae48e283727a4d56c4e5a", func := "nursery/nurserylaw21.ChannelMeets", spec := "channelMeets", unfollowed := true, recurses := true, apart := false, narrowed := true }
def ChannelMeetsUptoSaid : Prop := channelMeetsUptoRow.holds Try.pinned (OpenSpec.upto channelMeetsSpec)

/-- 'nurserylaw21.ChannelOffer', WHERE WHAT IT READS IS OF BULK AT MOST 1048576: true; the input reads as it did. -/
def channelOfferUptoRow : OpenClaim := { program := "ytnaejponobbahaa", sum := "4306d80e3f8d448e142665502010ebf09b8188c3302ae48e283727a4d56c4e5a", func := "nursery/nurserylaw21.ChannelOffer", spec := "channelOffer", unfollowed := true, recurses := true, apart := false, narrowed := true }
def ChannelOfferUptoSaid : Prop := channelOfferUptoRow.holds Try.pinned (OpenSpec.upto channelOfferSpec)

/-- 'nurserylaw21.ChannelValid', WHERE WHAT IT READS IS OF BULK AT MOST 1048576: true; the input reads as it did. -/
def channelValidUptoRow : OpenClaim := { program := "ytnaejponobbahaa", sum := "4306d80e3f8d448e142665502010ebf09b8188c3302ae48e283727a4d56c4e5a", func := "nursery/nurserylaw21.ChannelValid", spec := "channelValid", unfollowed := true, recurses := true, apart := false, narrowed := true }
def ChannelValidUptoSaid : Prop := channelValidUptoRow.holds Try.pinned (OpenSpec.upto channelValidSpec)

/-- 'nurserylaw21.ChannelUndo', WHERE WHAT IT READS IS OF BULK AT MOST 1048576: true; the input reads as it did. -/
def channelUndoUptoRow : OpenClaim := { program := "ytnaejponobbahaa", sum := "4306d80e3f8d448e142665502010ebf09b8188c3302ae48e283727a4d56c4e5a", func := "nursery/nurserylaw21.ChannelUndo", spec := "channelUndo", unfollowed := true, recurses := true, apart := false, narrowed := true }
def ChannelUndoUptoSaid : Prop := channelUndoUptoRow.holds Try.pinned (OpenSpec.upto channelUndoSpec)

/-- 'nurserylaw21.ChannelOrder', WHERE WHAT IT READS IS OF BULK AT MOST 1048576: true; the input reads as it did. -/
def channelOrderUptoRow : OpenClaim := { program := "ytnaejponobbahaa", sum := "4306d80e3f8d448e142665502010ebf09b8188c3302ae48e283727a4d56c4e5a", func := "nursery/nurserylaw21.ChannelOrder", spec := "channelOrder", unfollowed := true, recurses := true, apart := false, narrowed := true }
def ChannelOrderUptoSaid : Prop := channelOrderUptoRow.holds Try.pinned (OpenSpec.upto channelOrderSpec)

end Rows
end Go.Proofs.Ytnaejponobbahaa
