/-
  NARROWER THAN 'FOR EVERY INPUT', by the rows' own cells (each row's printed sentence says how): DrainRun: loops · DrainDelivers: loops · DrainOrders: loops · DrainBeginnings: loops · DrainGrows: loops · DrainProgress: loops · DrainCounts: loops · DrainStops: loops · DrainReads: loops · DrainParts: loops.
  DERIVED. THE GIVEN ROWS OF THIS SEAT. 10 by the template 'for every input the law returns true; each argument reads behind the call as it read before'; 0 by the template 'total and deterministic' (their statements: YtckpldpombdkgaaGreatTotals.lean).
  GIVEN WITH THE SEED: the statements are not yours to turn. If you find one false, say at which input.
  Laid BY PROGRAM, IN A SANDBOX (cutbox-rows.mjs): the forced cells as the released guide's own fill.sh prints them over the translation 4c09f7454759f02f… (all of the seat's roots in one cut). By AI agents, Wed Nov 11 2026. No macro, syntax, notation, axiom, sorry.
-/
import Derived.Test.YtckpldpombdkgaaGreatChecked
import GoSem.Claim
import GoSem.ClaimJoined
import GoSem.ClaimMapViews
import Derived.JoinedTies
import Derived.KernelRfl
namespace Go.Proofs.YtckpldpombdkgaaGreat
/- THE CELL 'sum', in the pinned program and in every row, IS THE sha256 OF THE DUMP (.gsa) THAT YtckpldpombdkgaaGreatProg.lean LOADS. Nothing in Lean hashes anything: it is a label: what it is worth is what the hold of that sum in a sandbox is worth. -/
noncomputable def Tryz.pinned : Pinned := { name := "ytckpldpombdkgaagreat", sum := "4c09f7454759f02fda317a98c3eb3f97932fd2d9b01cddbe5017e9f836f84fda", checked := Tryz.checked }
namespace Rows
def none {H : Type} : Left H := { results := [], args := [] }

/-- 'nurserylaw54.DrainRun': WHATEVER THE INPUT: true; the input reads as it did. -/
def drainRunSpec : ChangeSpec := { name := "drainRun", fn := fun _ => fun
  | [d1, d2, d3, d4] => { results := [.lit (.bool true)], args := [d1, d2, d3, d4] }
  | _ => none }
def drainRunRow : OpenClaim := { program := "ytckpldpombdkgaagreat", sum := "4c09f7454759f02fda317a98c3eb3f97932fd2d9b01cddbe5017e9f836f84fda", func := "nursery/nurserylaw54.DrainRun", spec := "drainRun", unfollowed := true, recurses := true, loops := true, apart := false }
def DrainRunSaid : Prop := drainRunRow.holds Tryz.pinned (OpenSpec.ofChange drainRunSpec)

/-- ITS FALSE NEIGHBOUR: 'it returns false'. Refute it at one input. -/
def drainRunWrong : ChangeSpec := { name := "drainRun", fn := fun _ => fun
  | [d1, d2, d3, d4] => { results := [.lit (.bool false)], args := [d1, d2, d3, d4] }
  | _ => none }
def DrainRunWrongFalsely : Prop := drainRunRow.holds Tryz.pinned (OpenSpec.ofChange drainRunWrong)

/-- 'nurserylaw54.DrainDelivers': WHATEVER THE INPUT: true; the input reads as it did. -/
def drainDeliversSpec : ChangeSpec := { name := "drainDelivers", fn := fun _ => fun
  | [d1, d2, d3, d4] => { results := [.lit (.bool true)], args := [d1, d2, d3, d4] }
  | _ => none }
def drainDeliversRow : OpenClaim := { program := "ytckpldpombdkgaagreat", sum := "4c09f7454759f02fda317a98c3eb3f97932fd2d9b01cddbe5017e9f836f84fda", func := "nursery/nurserylaw54.DrainDelivers", spec := "drainDelivers", unfollowed := true, recurses := true, loops := true, apart := false }
def DrainDeliversSaid : Prop := drainDeliversRow.holds Tryz.pinned (OpenSpec.ofChange drainDeliversSpec)

/-- ITS FALSE NEIGHBOUR: 'it returns false'. Refute it at one input. -/
def drainDeliversWrong : ChangeSpec := { name := "drainDelivers", fn := fun _ => fun
  | [d1, d2, d3, d4] => { results := [.lit (.bool false)], args := [d1, d2, d3, d4] }
  | _ => none }
def DrainDeliversWrongFalsely : Prop := drainDeliversRow.holds Tryz.pinned (OpenSpec.ofChange drainDeliversWrong)

/-- 'nurserylaw54.DrainOrders': WHATEVER THE INPUT: true; the input reads as it did. -/
def drainOrdersSpec : ChangeSpec := { name := "drainOrders", fn := fun _ => fun
  | [d1, d2, d3, d4, d5] => { results := [.lit (.bool true)], args := [d1, d2, d3, d4, d5] }
  | _ => none }
def drainOrdersRow : OpenClaim := { program := "ytckpldpombdkgaagreat", sum := "4c09f7454759f02fda317a98c3eb3f97932fd2d9b01cddbe5017e9f836f84fda", func := "nursery/nurserylaw54.DrainOrders", spec := "drainOrders", unfollowed := true, recurses := true, loops := true, apart := false }
def DrainOrdersSaid : Prop := drainOrdersRow.holds Tryz.pinned (OpenSpec.ofChange drainOrdersSpec)

/-- ITS FALSE NEIGHBOUR: 'it returns false'. Refute it at one input. -/
def drainOrdersWrong : ChangeSpec := { name := "drainOrders", fn := fun _ => fun
  | [d1, d2, d3, d4, d5] => { results := [.lit (.bool false)], args := [d1, d2, d3, d4, d5] }
  | _ => none }
def DrainOrdersWrongFalsely : Prop := drainOrdersRow.holds Tryz.pinned (OpenSpec.ofChange drainOrdersWrong)

/-- 'nurserylaw54.DrainBeginnings': WHATEVER THE INPUT: true; the input reads as it did. -/
def drainBeginningsSpec : ChangeSpec := { name := "drainBeginnings", fn := fun _ => fun
  | [d1, d2, d3] => { results := [.lit (.bool true)], args := [d1, d2, d3] }
  | _ => none }
def drainBeginningsRow : OpenClaim := { program := "ytckpldpombdkgaagreat", sum := "4c09f7454759f02fda317a98c3eb3f97932fd2d9b01cddbe5017e9f836f84fda", func := "nursery/nurserylaw54.DrainBeginnings", spec := "drainBeginnings", unfollowed := true, recurses := true, loops := true, apart := false }
def DrainBeginningsSaid : Prop := drainBeginningsRow.holds Tryz.pinned (OpenSpec.ofChange drainBeginningsSpec)

/-- ITS FALSE NEIGHBOUR: 'it returns false'. Refute it at one input. -/
def drainBeginningsWrong : ChangeSpec := { name := "drainBeginnings", fn := fun _ => fun
  | [d1, d2, d3] => { results := [.lit (.bool false)], args := [d1, d2, d3] }
  | _ => none }
def DrainBeginningsWrongFalsely : Prop := drainBeginningsRow.holds Tryz.pinned (OpenSpec.ofChange drainBeginningsWrong)

/-- 'nurserylaw54.DrainGrows': WHATEVER THE INPUT: true; the input reads as it did. -/
def drainGrowsSpec : ChangeSpec := { name := "drainGrows", fn := fun _ => fun
  | [d1, d2, d3, d4, d5] => { results := [.lit (.bool true)], args := [d1, d2, d3, d4, d5] }
  | _ => none }
def drainGrowsRow : OpenClaim := { program := "ytckpldpombdkgaagreat", sum := "4c09f7454759f02fda317a98c3eb3f97932fd2d9b01cddbe5017e9f836f84fda", func := "nursery/nurserylaw54.DrainGrows", spec := "drainGrows", unfollowed := true, recurses := true, loops := true, apart := false }
def DrainGrowsSaid : Prop := drainGrowsRow.holds Tryz.pinned (OpenSpec.ofChange drainGrowsSpec)

/-- ITS FALSE NEIGHBOUR: 'it returns false'. Refute it at one input. -/
def drainGrowsWrong : ChangeSpec := { name := "drainGrows", fn := fun _ => fun
  | [d1, d2, d3, d4, d5] => { results := [.lit (.bool false)], args := [d1, d2, d3, d4, d5] }
  | _ => none }
def DrainGrowsWrongFalsely : Prop := drainGrowsRow.holds Tryz.pinned (OpenSpec.ofChange drainGrowsWrong)

/-- 'nurserylaw54.DrainProgress': WHATEVER THE INPUT: true; the input reads as it did. -/
def drainProgressSpec : ChangeSpec := { name := "drainProgress", fn := fun _ => fun
  | [d1, d2, d3, d4] => { results := [.lit (.bool true)], args := [d1, d2, d3, d4] }
  | _ => none }
def drainProgressRow : OpenClaim := { program := "ytckpldpombdkgaagreat", sum := "4c09f7454759f02fda317a98c3eb3f97932fd2d9b01cddbe5017e9f836f84fda", func := "nursery/nurserylaw54.DrainProgress", spec := "drainProgress", unfollowed := true, recurses := true, loops := true, apart := false }
def DrainProgressSaid : Prop := drainProgressRow.holds Tryz.pinned (OpenSpec.ofChange drainProgressSpec)

/-- ITS FALSE NEIGHBOUR: 'it returns false'. Refute it at one input. -/
def drainProgressWrong : ChangeSpec := { name := "drainProgress", fn := fun _ => fun
  | [d1, d2, d3, d4] => { results := [.lit (.bool false)], args := [d1, d2, d3, d4] }
  | _ => none }
def DrainProgressWrongFalsely : Prop := drainProgressRow.holds Tryz.pinned (OpenSpec.ofChange drainProgressWrong)

/-- 'nurserylaw54.DrainCounts': WHATEVER THE INPUT: true; the input reads as it did. -/
def drainCountsSpec : ChangeSpec := { name := "drainCounts", fn := fun _ => fun
  | [d1, d2] => { results := [.lit (.bool true)], args := [d1, d2] }
  | _ => none }
def drainCountsRow : OpenClaim := { program := "ytckpldpombdkgaagreat", sum := "4c09f7454759f02fda317a98c3eb3f97932fd2d9b01cddbe5017e9f836f84fda", func := "nursery/nurserylaw54.DrainCounts", spec := "drainCounts", unfollowed := true, recurses := true, loops := true, apart := false }
def DrainCountsSaid : Prop := drainCountsRow.holds Tryz.pinned (OpenSpec.ofChange drainCountsSpec)

/-- ITS FALSE NEIGHBOUR: 'it returns false'. Refute it at one input. -/
def drainCountsWrong : ChangeSpec := { name := "drainCounts", fn := fun _ => fun
  | [d1, d2] => { results := [.lit (.bool false)], args := [d1, d2] }
  | _ => none }
def DrainCountsWrongFalsely : Prop := drainCountsRow.holds Tryz.pinned (OpenSpec.ofChange drainCountsWrong)

/-- 'nurserylaw54.DrainStops': WHATEVER THE INPUT: true; the input reads as it did. -/
def drainStopsSpec : ChangeSpec := { name := "drainStops", fn := fun _ => fun
  | [d1, d2, d3, d4, d5] => { results := [.lit (.bool true)], args := [d1, d2, d3, d4, d5] }
  | _ => none }
def drainStopsRow : OpenClaim := { program := "ytckpldpombdkgaagreat", sum := "4c09f7454759f02fda317a98c3eb3f97932fd2d9b01cddbe5017e9f836f84fda", func := "nursery/nurserylaw54.DrainStops", spec := "drainStops", unfollowed := true, recurses := true, loops := true, apart := false }
def DrainStopsSaid : Prop := drainStopsRow.holds Tryz.pinned (OpenSpec.ofChange drainStopsSpec)

/-- ITS FALSE NEIGHBOUR: 'it returns false'. Refute it at one input. -/
def drainStopsWrong : ChangeSpec := { name := "drainStops", fn := fun _ => fun
  | [d1, d2, d3, d4, d5] => { results := [.lit (.bool false)], args := [d1, d2, d3, d4, d5] }
  | _ => none }
def DrainStopsWrongFalsely : Prop := drainStopsRow.holds Tryz.pinned (OpenSpec.ofChange drainStopsWrong)

/-- 'nurserylaw54.DrainReads': WHATEVER THE INPUT: true; the input reads as it did. -/
def drainReadsSpec : ChangeSpec := { name := "drainReads", fn := fun _ => fun
  | [d1, d2] => { results := [.lit (.bool true)], args := [d1, d2] }
  | _ => none }
def drainReadsRow : OpenClaim := { program := "ytckpldpombdkgaagreat", sum := "4c09f7454759f02fda317a98c3eb3f97932fd2d9b01cddbe5017e9f836f84fda", func := "nursery/nurserylaw54.DrainReads", spec := "drainReads", unfollowed := true, recurses := true, loops := true, apart := false }
def DrainReadsSaid : Prop := drainReadsRow.holds Tryz.pinned (OpenSpec.ofChange drainReadsSpec)

/-- ITS FALSE NEIGHBOUR: 'it returns false'. Refute it at one input. -/
def drainReadsWrong : ChangeSpec := { name := "drainReads", fn := fun _ => fun
  | [d1, d2] => { results := [.lit (.bool false)], args := [d1, d2] }
  | _ => none }
def DrainReadsWrongFalsely : Prop := drainReadsRow.holds Tryz.pinned (OpenSpec.ofChange drainReadsWrong)

/-- 'nurserylaw54.DrainParts': WHATEVER THE INPUT: true; the input reads as it did. -/
def drainPartsSpec : ChangeSpec := { name := "drainParts", fn := fun _ => fun
  | [d1, d2, d3, d4, d5] => { results := [.lit (.bool true)], args := [d1, d2, d3, d4, d5] }
  | _ => none }
def drainPartsRow : OpenClaim := { program := "ytckpldpombdkgaagreat", sum := "4c09f7454759f02fda317a98c3eb3f97932fd2d9b01cddbe5017e9f836f84fda", func := "nursery/nurserylaw54.DrainParts", spec := "drainParts", unfollowed := true, recurses := true, loops := true, apart := false }
def DrainPartsSaid : Prop := drainPartsRow.holds Tryz.pinned (OpenSpec.ofChange drainPartsSpec)

/-- ITS FALSE NEIGHBOUR: 'it returns false'. Refute it at one input. -/
def drainPartsWrong : ChangeSpec := { name := "drainParts", fn := fun _ => fun
  | [d1, d2, d3, d4, d5] => { results := [.lit (.bool false)], args := [d1, d2, d3, d4, d5] }
  | _ => none }
def DrainPartsWrongFalsely : Prop := drainPartsRow.holds Tryz.pinned (OpenSpec.ofChange drainPartsWrong)

/- THE SECOND FORM. 'bulk': how many values and letters a reading holds, each counted each time it is reached (what is shared counts as often as it is met; a slice's spare places count too). A statement '..UptoSaid' is the law's where the arguments, and the package variables that the reading takes, are together of bulk at most 1048576: NARROWER than '..Said'. Prove '..Said' where nothing that the law and all that it calls make is longer than what came in: it says more and counts as full. Else prove '..UptoSaid'. A law counts once. -/
mutual
def uptoBulk {H : Type} : DataW H → Nat
  | .lit (.string bytes) => bytes.length + 1
  | .lit _ => 1
  | .nil => 1
  | .ptr d => uptoBulk d + 1
  | .slice elems spare => uptoBulkAll elems + uptoBulkAll spare + 1
  | .agg parts => uptoBulkAll parts + 1
  | .iface _ d => uptoBulk d + 1
  | .map entries => uptoBulkEntries entries + 1
  | .held _ => 1
def uptoBulkAll {H : Type} : List (DataW H) → Nat
  | [] => 0
  | d :: r => uptoBulk d + uptoBulkAll r
def uptoBulkEntries {H : Type} : List (Lit × DataW H) → Nat
  | [] => 0
  | x :: r => uptoBulkEntry x + uptoBulkEntries r
def uptoBulkEntry {H : Type} : Lit × DataW H → Nat
  | (.string bytes, d) => bytes.length + uptoBulk d + 1
  | (_, d) => uptoBulk d + 1
 end
def uptoSmall : (H : Type) → List (DataW H) → Bool := fun _ ds => decide (uptoBulkAll ds ≤ 1048576)
def OpenSpec.upto (s : _root_.Go.ChangeSpec) : _root_.Go.OpenSpec := { _root_.Go.OpenSpec.ofChange s with cond := some uptoSmall }

/-- 'nurserylaw54.DrainRun', WHERE WHAT IT READS IS OF BULK AT MOST 1048576: true; the input reads as it did. -/
def drainRunUptoRow : OpenClaim := { program := "ytckpldpombdkgaagreat", sum := "4c09f7454759f02fda317a98c3eb3f97932fd2d9b01cddbe5017e9f836f84fda", func := "nursery/nurserylaw54.DrainRun", spec := "drainRun", unfollowed := true, recurses := true, loops := true, apart := false, narrowed := true }
def DrainRunUptoSaid : Prop := drainRunUptoRow.holds Tryz.pinned (OpenSpec.upto drainRunSpec)

/-- 'nurserylaw54.DrainDelivers', WHERE WHAT IT READS IS OF BULK AT MOST 1048576: true; the input reads as it did. -/
def drainDeliversUptoRow : OpenClaim := { program := "ytckpldpombdkgaagreat", sum := "4c09f7454759f02fda317a98c3eb3f97932fd2d9b01cddbe5017e9f836f84fda", func := "nursery/nurserylaw54.DrainDelivers", spec := "drainDelivers", unfollowed := true, recurses := true, loops := true, apart := false, narrowed := true }
def DrainDeliversUptoSaid : Prop := drainDeliversUptoRow.holds Tryz.pinned (OpenSpec.upto drainDeliversSpec)

/-- 'nurserylaw54.DrainOrders', WHERE WHAT IT READS IS OF BULK AT MOST 1048576: true; the input reads as it did. -/
def drainOrdersUptoRow : OpenClaim := { program := "ytckpldpombdkgaagreat", sum := "4c09f7454759f02fda317a98c3eb3f97932fd2d9b01cddbe5017e9f836f84fda", func := "nursery/nurserylaw54.DrainOrders", spec := "drainOrders", unfollowed := true, recurses := true, loops := true, apart := false, narrowed := true }
def DrainOrdersUptoSaid : Prop := drainOrdersUptoRow.holds Tryz.pinned (OpenSpec.upto drainOrdersSpec)

/-- 'nurserylaw54.DrainBeginnings', WHERE WHAT IT READS IS OF BULK AT MOST 1048576: true; the input reads as it did. -/
def drainBeginningsUptoRow : OpenClaim := { program := "ytckpldpombdkgaagreat", sum := "4c09f7454759f02fda317a98c3eb3f97932fd2d9b01cddbe5017e9f836f84fda", func := "nursery/nurserylaw54.DrainBeginnings", spec := "drainBeginnings", unfollowed := true, recurses := true, loops := true, apart := false, narrowed := true }
def DrainBeginningsUptoSaid : Prop := drainBeginningsUptoRow.holds Tryz.pinned (OpenSpec.upto drainBeginningsSpec)

/-- 'nurserylaw54.DrainGrows', WHERE WHAT IT READS IS OF BULK AT MOST 1048576: true; the input reads as it did. -/
def drainGrowsUptoRow : OpenClaim := { program := "ytckpldpombdkgaagreat", sum := "4c09f7454759f02fda317a98c3eb3f97932fd2d9b01cddbe5017e9f836f84fda", func := "nursery/nurserylaw54.DrainGrows", spec := "drainGrows", unfollowed := true, recurses := true, loops := true, apart := false, narrowed := true }
def DrainGrowsUptoSaid : Prop := drainGrowsUptoRow.holds Tryz.pinned (OpenSpec.upto drainGrowsSpec)

/-- 'nurserylaw54.DrainProgress', WHERE WHAT IT READS IS OF BULK AT MOST 1048576: true; the input reads as it did. -/
def drainProgressUptoRow : OpenClaim := { program := "ytckpldpombdkgaagreat", sum := "4c09f7454759f02fda317a98c3eb3f97932fd2d9b01cddbe5017e9f836f84fda", func := "nursery/nurserylaw54.DrainProgress", spec := "drainProgress", unfollowed := true, recurses := true, loops := true, apart := false, narrowed := true }
def DrainProgressUptoSaid : Prop := drainProgressUptoRow.holds Tryz.pinned (OpenSpec.upto drainProgressSpec)

/-- 'nurserylaw54.DrainCounts', WHERE WHAT IT READS IS OF BULK AT MOST 1048576: true; the input reads as it did. -/
def drainCountsUptoRow : OpenClaim := { program := "ytckpldpombdkgaagreat", sum := "4c09f7454759f02fda317a98c3eb3f97932fd2d9b01cddbe5017e9f836f84fda", func := "nursery/nurserylaw54.DrainCounts", spec := "drainCounts", unfollowed := true, recurses := true, loops := true, apart := false, narrowed := true }
def DrainCountsUptoSaid : Prop := drainCountsUptoRow.holds Tryz.pinned (OpenSpec.upto drainCountsSpec)

/-- 'nurserylaw54.DrainStops', WHERE WHAT IT READS IS OF BULK AT MOST 1048576: true; the input reads as it did. -/
def drainStopsUptoRow : OpenClaim := { program := "ytckpldpombdkgaagreat", sum := "4c09f7454759f02fda317a98c3eb3f97932fd2d9b01cddbe5017e9f836f84fda", func := "nursery/nurserylaw54.DrainStops", spec := "drainStops", unfollowed := true, recurses := true, loops := true, apart := false, narrowed := true }
def DrainStopsUptoSaid : Prop := drainStopsUptoRow.holds Tryz.pinned (OpenSpec.upto drainStopsSpec)

/-- 'nurserylaw54.DrainReads', WHERE WHAT IT READS IS OF BULK AT MOST 1048576: true; the input reads as it did. -/
def drainReadsUptoRow : OpenClaim := { program := "ytckpldpombdkgaagreat", sum := "4c09f7454759f02fda317a98c3eb3f97932fd2d9b01cddbe5017e9f836f84fda", func := "nursery/nurserylaw54.DrainReads", spec := "drainReads", unfollowed := true, recurses := true, loops := true, apart := false, narrowed := true }
def DrainReadsUptoSaid : Prop := drainReadsUptoRow.holds Tryz.pinned (OpenSpec.upto drainReadsSpec)

/-- 'nurserylaw54.DrainParts', WHERE WHAT IT READS IS OF BULK AT MOST 1048576: true; the input reads as it did. -/
def drainPartsUptoRow : OpenClaim := { program := "ytckpldpombdkgaagreat", sum := "4c09f7454759f02fda317a98c3eb3f97932fd2d9b01cddbe5017e9f836f84fda", func := "nursery/nurserylaw54.DrainParts", spec := "drainParts", unfollowed := true, recurses := true, loops := true, apart := false, narrowed := true }
def DrainPartsUptoSaid : Prop := drainPartsUptoRow.holds Tryz.pinned (OpenSpec.upto drainPartsSpec)

end Rows
end Go.Proofs.YtckpldpombdkgaaGreat
