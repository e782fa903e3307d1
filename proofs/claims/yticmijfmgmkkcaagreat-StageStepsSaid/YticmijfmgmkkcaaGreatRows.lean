/-
  NARROWER THAN 'FOR EVERY INPUT', by the rows' own cells (each row's printed sentence says how): StageTwice: loops · StageBeginnings: loops · StageMeaning: loops · StageLengths: loops · StageConserves: loops · StageRuns: loops · StageValid: loops · StageSteps: loops.
  DERIVED. THE GIVEN ROWS OF THIS SEAT. 8 by the template 'for every input the law returns true; each argument reads behind the call as it read before'; 0 by the template 'total and deterministic' (their statements: YticmijfmgmkkcaaGreatTotals.lean).
  GIVEN WITH THE SEED: the statements are not yours to turn. If you find one false, say at which input.
  Laid BY PROGRAM, IN A SANDBOX (cutbox-rows.mjs): the forced cells as the released guide's own fill.sh prints them over the translation 435f2a75b12213cd… (all of the seat's roots in one cut). By AI agents, Wed Nov 11 2026. No macro, syntax, notation, axiom, sorry.
-/
import Derived.Test.YticmijfmgmkkcaaGreatChecked
import GoSem.Claim
import GoSem.ClaimJoined
import GoSem.ClaimMapViews
import Derived.JoinedTies
import Derived.KernelRfl
namespace Go.Proofs.YticmijfmgmkkcaaGreat
/- THE CELL 'sum', in the pinned program and in every row, IS THE sha256 OF THE DUMP (.gsa) THAT YticmijfmgmkkcaaGreatProg.lean LOADS. Nothing in Lean hashes anything: it is a label: what it is worth is what the hold of that sum in a sandbox is worth. -/
noncomputable def Tryz.pinned : Pinned := { name := "yticmijfmgmkkcaagreat", sum := "435f2a75b12213cde0087ebd7b886f5e28238a9412e46b8d3859514b3d1bc0ec", checked := Tryz.checked }
namespace Rows
def none {H : Type} : Left H := { results := [], args := [] }

/-- 'nurserylaw51.StageTwice': WHATEVER THE INPUT: true; the input reads as it did. -/
def stageTwiceSpec : ChangeSpec := { name := "stageTwice", fn := fun _ => fun
  | [d1, d2, d3] => { results := [.lit (.bool true)], args := [d1, d2, d3] }
  | _ => none }
def stageTwiceRow : OpenClaim := { program := "yticmijfmgmkkcaagreat", sum := "435f2a75b12213cde0087ebd7b886f5e28238a9412e46b8d3859514b3d1bc0ec", func := "nursery/nurserylaw51.StageTwice", spec := "stageTwice", unfollowed := true, recurses := true, loops := true, apart := false }
def StageTwiceSaid : Prop := stageTwiceRow.holds Tryz.pinned (OpenSpec.ofChange stageTwiceSpec)

/-- ITS FALSE NEIGHBOUR: 'it returns false'. Refute it at one input. -/
def stageTwiceWrong : ChangeSpec := { name := "stageTwice", fn := fun _ => fun
  | [d1, d2, d3] => { results := [.lit (.bool false)], args := [d1, d2, d3] }
  | _ => none }
def StageTwiceWrongFalsely : Prop := stageTwiceRow.holds Tryz.pinned (OpenSpec.ofChange stageTwiceWrong)

/-- 'nurserylaw51.StageBeginnings': WHATEVER THE INPUT: true; the input reads as it did. -/
def stageBeginningsSpec : ChangeSpec := { name := "stageBeginnings", fn := fun _ => fun
  | [d1, d2, d3] => { results := [.lit (.bool true)], args := [d1, d2, d3] }
  | _ => none }
def stageBeginningsRow : OpenClaim := { program := "yticmijfmgmkkcaagreat", sum := "435f2a75b12213cde0087ebd7b886f5e28238a9412e46b8d3859514b3d1bc0ec", func := "nursery/nurserylaw51.StageBeginnings", spec := "stageBeginnings", unfollowed := true, recurses := true, loops := true, apart := false }
def StageBeginningsSaid : Prop := stageBeginningsRow.holds Tryz.pinned (OpenSpec.ofChange stageBeginningsSpec)

/-- ITS FALSE NEIGHBOUR: 'it returns false'. Refute it at one input. -/
def stageBeginningsWrong : ChangeSpec := { name := "stageBeginnings", fn := fun _ => fun
  | [d1, d2, d3] => { results := [.lit (.bool false)], args := [d1, d2, d3] }
  | _ => none }
def StageBeginningsWrongFalsely : Prop := stageBeginningsRow.holds Tryz.pinned (OpenSpec.ofChange stageBeginningsWrong)

/-- 'nurserylaw51.StageMeaning': WHATEVER THE INPUT: true; the input reads as it did. -/
def stageMeaningSpec : ChangeSpec := { name := "stageMeaning", fn := fun _ => fun
  | [d1, d2] => { results := [.lit (.bool true)], args := [d1, d2] }
  | _ => none }
def stageMeaningRow : OpenClaim := { program := "yticmijfmgmkkcaagreat", sum := "435f2a75b12213cde0087ebd7b886f5e28238a9412e46b8d3859514b3d1bc0ec", func := "nursery/nurserylaw51.StageMeaning", spec := "stageMeaning", unfollowed := true, recurses := true, loops := true, apart := false }
def StageMeaningSaid : Prop := stageMeaningRow.holds Tryz.pinned (OpenSpec.ofChange stageMeaningSpec)

/-- ITS FALSE NEIGHBOUR: 'it returns false'. Refute it at one input. -/
def stageMeaningWrong : ChangeSpec := { name := "stageMeaning", fn := fun _ => fun
  | [d1, d2] => { results := [.lit (.bool false)], args := [d1, d2] }
  | _ => none }
def StageMeaningWrongFalsely : Prop := stageMeaningRow.holds Tryz.pinned (OpenSpec.ofChange stageMeaningWrong)

/-- 'nurserylaw51.StageLengths': WHATEVER THE INPUT: true; the input reads as it did. -/
def stageLengthsSpec : ChangeSpec := { name := "stageLengths", fn := fun _ => fun
  | [d1, d2] => { results := [.lit (.bool true)], args := [d1, d2] }
  | _ => none }
def stageLengthsRow : OpenClaim := { program := "yticmijfmgmkkcaagreat", sum := "435f2a75b12213cde0087ebd7b886f5e28238a9412e46b8d3859514b3d1bc0ec", func := "nursery/nurserylaw51.StageLengths", spec := "stageLengths", unfollowed := true, recurses := true, loops := true, apart := false }
def StageLengthsSaid : Prop := stageLengthsRow.holds Tryz.pinned (OpenSpec.ofChange stageLengthsSpec)

/-- ITS FALSE NEIGHBOUR: 'it returns false'. Refute it at one input. -/
def stageLengthsWrong : ChangeSpec := { name := "stageLengths", fn := fun _ => fun
  | [d1, d2] => { results := [.lit (.bool false)], args := [d1, d2] }
  | _ => none }
def StageLengthsWrongFalsely : Prop := stageLengthsRow.holds Tryz.pinned (OpenSpec.ofChange stageLengthsWrong)

/-- 'nurserylaw51.StageConserves': WHATEVER THE INPUT: true; the input reads as it did. -/
def stageConservesSpec : ChangeSpec := { name := "stageConserves", fn := fun _ => fun
  | [d1, d2] => { results := [.lit (.bool true)], args := [d1, d2] }
  | _ => none }
def stageConservesRow : OpenClaim := { program := "yticmijfmgmkkcaagreat", sum := "435f2a75b12213cde0087ebd7b886f5e28238a9412e46b8d3859514b3d1bc0ec", func := "nursery/nurserylaw51.StageConserves", spec := "stageConserves", unfollowed := true, recurses := true, loops := true, apart := false }
def StageConservesSaid : Prop := stageConservesRow.holds Tryz.pinned (OpenSpec.ofChange stageConservesSpec)

/-- ITS FALSE NEIGHBOUR: 'it returns false'. Refute it at one input. -/
def stageConservesWrong : ChangeSpec := { name := "stageConserves", fn := fun _ => fun
  | [d1, d2] => { results := [.lit (.bool false)], args := [d1, d2] }
  | _ => none }
def StageConservesWrongFalsely : Prop := stageConservesRow.holds Tryz.pinned (OpenSpec.ofChange stageConservesWrong)

/-- 'nurserylaw51.StageRuns': WHATEVER THE INPUT: true; the input reads as it did. -/
def stageRunsSpec : ChangeSpec := { name := "stageRuns", fn := fun _ => fun
  | [d1, d2] => { results := [.lit (.bool true)], args := [d1, d2] }
  | _ => none }
def stageRunsRow : OpenClaim := { program := "yticmijfmgmkkcaagreat", sum := "435f2a75b12213cde0087ebd7b886f5e28238a9412e46b8d3859514b3d1bc0ec", func := "nursery/nurserylaw51.StageRuns", spec := "stageRuns", unfollowed := true, recurses := true, loops := true, apart := false }
def StageRunsSaid : Prop := stageRunsRow.holds Tryz.pinned (OpenSpec.ofChange stageRunsSpec)

/-- ITS FALSE NEIGHBOUR: 'it returns false'. Refute it at one input. -/
def stageRunsWrong : ChangeSpec := { name := "stageRuns", fn := fun _ => fun
  | [d1, d2] => { results := [.lit (.bool false)], args := [d1, d2] }
  | _ => none }
def StageRunsWrongFalsely : Prop := stageRunsRow.holds Tryz.pinned (OpenSpec.ofChange stageRunsWrong)

/-- 'nurserylaw51.StageValid': WHATEVER THE INPUT: true; the input reads as it did. -/
def stageValidSpec : ChangeSpec := { name := "stageValid", fn := fun _ => fun
  | [d1, d2, d3, d4] => { results := [.lit (.bool true)], args := [d1, d2, d3, d4] }
  | _ => none }
def stageValidRow : OpenClaim := { program := "yticmijfmgmkkcaagreat", sum := "435f2a75b12213cde0087ebd7b886f5e28238a9412e46b8d3859514b3d1bc0ec", func := "nursery/nurserylaw51.StageValid", spec := "stageValid", unfollowed := true, recurses := true, loops := true, apart := false }
def StageValidSaid : Prop := stageValidRow.holds Tryz.pinned (OpenSpec.ofChange stageValidSpec)

/-- ITS FALSE NEIGHBOUR: 'it returns false'. Refute it at one input. -/
def stageValidWrong : ChangeSpec := { name := "stageValid", fn := fun _ => fun
  | [d1, d2, d3, d4] => { results := [.lit (.bool false)], args := [d1, d2, d3, d4] }
  | _ => none }
def StageValidWrongFalsely : Prop := stageValidRow.holds Tryz.pinned (OpenSpec.ofChange stageValidWrong)

/-- 'nurserylaw51.StageSteps': WHATEVER THE INPUT: true; the input reads as it did. -/
def stageStepsSpec : ChangeSpec := { name := "stageSteps", fn := fun _ => fun
  | [d1, d2, d3, d4] => { results := [.lit (.bool true)], args := [d1, d2, d3, d4] }
  | _ => none }
def stageStepsRow : OpenClaim := { program := "yticmijfmgmkkcaagreat", sum := "435f2a75b12213cde0087ebd7b886f5e28238a9412e46b8d3859514b3d1bc0ec", func := "nursery/nurserylaw51.StageSteps", spec := "stageSteps", unfollowed := true, recurses := true, loops := true, apart := false }
def StageStepsSaid : Prop := stageStepsRow.holds Tryz.pinned (OpenSpec.ofChange stageStepsSpec)

/-- ITS FALSE NEIGHBOUR: 'it returns false'. Refute it at one input. -/
def stageStepsWrong : ChangeSpec := { name := "stageSteps", fn := fun _ => fun
  | [d1, d2, d3, d4] => { results := [.lit (.bool false)], args := [d1, d2, d3, d4] }
  | _ => none }
def StageStepsWrongFalsely : Prop := stageStepsRow.holds Tryz.pinned (OpenSpec.ofChange stageStepsWrong)

/- THE SECOND FORM. 'bulk': how many values and letters a reading holds, each counted each time it is reached (what is shared counts as often as it is met; a slice's spare places count too). A statement '..UptoSaid' is the law's where the arguments, and the package variables that the reading takes, are together of bulk at most 1048576: NARROWER than '..Said'. Prove '..Said' where nothing that the law and all that it calls make is longer than what came in: it says more and counts as full. Else prove '..UptoSaid'. A law counts once. -/
mutual
def uptoBulk {H : Type} : DataW H → Nat
  | .lit (.string bytes) => bytes.length + 1
  | .lit _ => 1
  | .nil => 1
  | .ptr d => uptoBulk d + 1
  | .slice elems spare => uptoBulkAll elems + uptoBulkAll spare + 1
  | .agg parts => uptoBulkAll parts + 1
  | .iface _ d => uptoBulk d + 1
  | .map entries => uptoBulkEntries entries + 1
  | .held _ => 1
def uptoBulkAll {H : Type} : List (DataW H) → Nat
  | [] => 0
  | d :: r => uptoBulk d + uptoBulkAll r
def uptoBulkEntries {H : Type} : List (Lit × DataW H) → Nat
  | [] => 0
  | x :: r => uptoBulkEntry x + uptoBulkEntries r
def uptoBulkEntry {H : Type} : Lit × DataW H → Nat
  | (.string bytes, d) => bytes.length + uptoBulk d + 1
  | (_, d) => uptoBulk d + 1
 end
def uptoSmall : (H : Type) → List (DataW H) → Bool := fun _ ds => decide (uptoBulkAll ds ≤ 1048576)
def OpenSpec.upto (s : _root_.Go.ChangeSpec) : _root_.Go.OpenSpec := { _root_.Go.OpenSpec.ofChange s with cond := some uptoSmall }

/-- 'nurserylaw51.StageTwice', WHERE WHAT IT READS IS OF BULK AT MOST 1048576: true; the input reads as it did. -/
def stageTwiceUptoRow : OpenClaim := { program := "yticmijfmgmkkcaagreat", sum := "435f2a75b12213cde0087ebd7b886f5e28238a9412e46b8d3859514b3d1bc0ec", func := "nursery/nurserylaw51.StageTwice", spec := "stageTwice", unfollowed := true, recurses := true, loops := true, apart := false, narrowed := true }
def StageTwiceUptoSaid : Prop := stageTwiceUptoRow.holds Tryz.pinned (OpenSpec.upto stageTwiceSpec)

/-- 'nurserylaw51.StageBeginnings', WHERE WHAT IT READS IS OF BULK AT MOST 1048576: true; the input reads as it did. -/
def stageBeginningsUptoRow : OpenClaim := { program := "yticmijfmgmkkcaagreat", sum := "435f2a75b12213cde0087ebd7b886f5e28238a9412e46b8d3859514b3d1bc0ec", func := "nursery/nurserylaw51.StageBeginnings", spec := "stageBeginnings", unfollowed := true, recurses := true, loops := true, apart := false, narrowed := true }
def StageBeginningsUptoSaid : Prop := stageBeginningsUptoRow.holds Tryz.pinned (OpenSpec.upto stageBeginningsSpec)

/-- 'nurserylaw51.StageMeaning', WHERE WHAT IT READS IS OF BULK AT MOST 1048576: true; the input reads as it did. -/
def stageMeaningUptoRow : OpenClaim := { program := "yticmijfmgmkkcaagreat", sum := "435f2a75b12213cde0087ebd7b886f5e28238a9412e46b8d3859514b3d1bc0ec", func := "nursery/nurserylaw51.StageMeaning", spec := "stageMeaning", unfollowed := true, recurses := true, loops := true, apart := false, narrowed := true }
def StageMeaningUptoSaid : Prop := stageMeaningUptoRow.holds Tryz.pinned (OpenSpec.upto stageMeaningSpec)

/-- 'nurserylaw51.StageLengths', WHERE WHAT IT READS IS OF BULK AT MOST 1048576: true; the input reads as it did. -/
def stageLengthsUptoRow : OpenClaim := { program := "yticmijfmgmkkcaagreat", sum := "435f2a75b12213cde0087ebd7b886f5e28238a9412e46b8d3859514b3d1bc0ec", func := "nursery/nurserylaw51.StageLengths", spec := "stageLengths", unfollowed := true, recurses := true, loops := true, apart := false, narrowed := true }
def StageLengthsUptoSaid : Prop := stageLengthsUptoRow.holds Tryz.pinned (OpenSpec.upto stageLengthsSpec)

/-- 'nurserylaw51.StageConserves', WHERE WHAT IT READS IS OF BULK AT MOST 1048576: true; the input reads as it did. -/
def stageConservesUptoRow : OpenClaim := { program := "yticmijfmgmkkcaagreat", sum := "435f2a75b12213cde0087ebd7b886f5e28238a9412e46b8d3859514b3d1bc0ec", func := "nursery/nurserylaw51.StageConserves", spec := "stageConserves", unfollowed := true, recurses := true, loops := true, apart := false, narrowed := true }
def StageConservesUptoSaid : Prop := stageConservesUptoRow.holds Tryz.pinned (OpenSpec.upto stageConservesSpec)

/-- 'nurserylaw51.StageRuns', WHERE WHAT IT READS IS OF BULK AT MOST 1048576: true; the input reads as it did. -/
def stageRunsUptoRow : OpenClaim := { program := "yticmijfmgmkkcaagreat", sum := "435f2a75b12213cde0087ebd7b886f5e28238a9412e46b8d3859514b3d1bc0ec", func := "nursery/nurserylaw51.StageRuns", spec := "stageRuns", unfollowed := true, recurses := true, loops := true, apart := false, narrowed := true }
def StageRunsUptoSaid : Prop := stageRunsUptoRow.holds Tryz.pinned (OpenSpec.upto stageRunsSpec)

/-- 'nurserylaw51.StageValid', WHERE WHAT IT READS IS OF BULK AT MOST 1048576: true; the input reads as it did. -/
def stageValidUptoRow : OpenClaim := { program := "yticmijfmgmkkcaagreat", sum := "435f2a75b12213cde0087ebd7b886f5e28238a9412e46b8d3859514b3d1bc0ec", func := "nursery/nurserylaw51.StageValid", spec := "stageValid", unfollowed := true, recurses := true, loops := true, apart := false, narrowed := true }
def StageValidUptoSaid : Prop := stageValidUptoRow.holds Tryz.pinned (OpenSpec.upto stageValidSpec)

/-- 'nurserylaw51.StageSteps', WHERE WHAT IT READS IS OF BULK AT MOST 1048576: true; the input reads as it did. -/
def stageStepsUptoRow : OpenClaim := { program := "yticmijfmgmkkcaagreat", sum := "435f2a75b12213cde0087ebd7b886f5e28238a9412e46b8d3859514b3d1bc0ec", func := "nursery/nurserylaw51.StageSteps", spec := "stageSteps", unfollowed := true, recurses := true, loops := true, apart := false, narrowed := true }
def StageStepsUptoSaid : Prop := stageStepsUptoRow.holds Tryz.pinned (OpenSpec.upto stageStepsSpec)

end Rows
end Go.Proofs.YticmijfmgmkkcaaGreat
