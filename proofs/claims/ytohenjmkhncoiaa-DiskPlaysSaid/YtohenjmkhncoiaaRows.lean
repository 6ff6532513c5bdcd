/-
  No cell of these rows narrows 'for every input' (looked for: loops, veiled, ifaces, maps, wideKeys, modest, calm, conditions, laid).
  DERIVED. THE GIVEN ROWS OF THIS SEAT. 12 by the template 'for every input the law returns true; each argument reads behind the call as it read before'; 0 by the template 'total and deterministic' (their statements: YtohenjmkhncoiaaTotals.lean).
  GIVEN WITH THE SEED: the statements are not yours to turn. If you find one false, say at which input.
  Laid BY PROGRAM, IN A SANDBOX (cutbox-rows.mjs): the forced cells as the released guide's own fill.sh prints them over the translation 014dad232b53c191… (all of the seat's roots in one cut). By AI agents, Wed Nov 11 2026. No macro, syntax, notation, axiom, sorry.
-/
import Derived.Test.YtohenjmkhncoiaaChecked
import GoSem.Claim
import GoSem.ClaimJoined
import GoSem.ClaimMapViews
import Derived.JoinedTies
import Derived.KernelRfl
namespace Go.Proofs.Ytohenjmkhncoiaa
/- THE CELL 'sum', in the pinned program and in every row, IS THE sha256 OF THE DUMP (.gsa) THAT YtohenjmkhncoiaaProg.lean LOADS. Nothing in Lean hashes anything: it is a label: what it is worth is what the hold of that sum in a sandbox is worth. -/
noncomputable def Try.pinned : Pinned := { name := "ytohenjmkhncoiaa", sum := "014dad232b53c191d2bbcc8fe40fdf1bd932745eff061c2835294ed2980c24e6", checked := Try.checked }
namespace Rows
def none {H : Type} : Left H := { results := [], args := [] }

/-- 'babellaw24.DiskPlays': WHATEVER THE INPUT: true; the input reads as it did. -/
def diskPlaysSpec : ChangeSpec := { name := "diskPlays", fn := fun _ => fun
  | [d1, d2] => { results := [.lit (.bool true)], args := [d1, d2] }
  | _ => none }
def diskPlaysRow : OpenClaim := { program := "ytohenjmkhncoiaa", sum := "014dad232b53c191d2bbcc8fe40fdf1bd932745eff061c2835294ed2980c24e6", func := "babel/babellaw24.DiskPlays", spec := "diskPlays", unfollowed := true, recurses := true, apart := false }
def DiskPlaysSaid : Prop := diskPlaysRow.holds Try.pinned (OpenSpec.ofChange diskPlaysSpec)

/-- ITS FALSE NEIGHBOUR: 'it returns false'. Refute it at one input. -/
def diskPlaysWrong : ChangeSpec := { name := "diskPlays", fn := fun _ => fun
  | [d1, d2] => { results := [.lit (.bool false)], args := [d1, d2] }
  | _ => none }
def DiskPlaysWrongFalsely : Prop := diskPlaysRow.holds Try.pinned (OpenSpec.ofChange diskPlaysWrong)

/-- 'babellaw24.DiskCrash': WHATEVER THE INPUT: true; the input reads as it did. -/
def diskCrashSpec : ChangeSpec := { name := "diskCrash", fn := fun _ => fun
  | [d1, d2, d3] => { results := [.lit (.bool true)], args := [d1, d2, d3] }
  | _ => none }
def diskCrashRow : OpenClaim := { program := "ytohenjmkhncoiaa", sum := "014dad232b53c191d2bbcc8fe40fdf1bd932745eff061c2835294ed2980c24e6", func := "babel/babellaw24.DiskCrash", spec := "diskCrash", unfollowed := true, recurses := true, apart := false }
def DiskCrashSaid : Prop := diskCrashRow.holds Try.pinned (OpenSpec.ofChange diskCrashSpec)

/-- ITS FALSE NEIGHBOUR: 'it returns false'. Refute it at one input. -/
def diskCrashWrong : ChangeSpec := { name := "diskCrash", fn := fun _ => fun
  | [d1, d2, d3] => { results := [.lit (.bool false)], args := [d1, d2, d3] }
  | _ => none }
def DiskCrashWrongFalsely : Prop := diskCrashRow.holds Try.pinned (OpenSpec.ofChange diskCrashWrong)

/-- 'babellaw24.DiskPower': WHATEVER THE INPUT: true; the input reads as it did. -/
def diskPowerSpec : ChangeSpec := { name := "diskPower", fn := fun _ => fun
  | [d1, d2, d3] => { results := [.lit (.bool true)], args := [d1, d2, d3] }
  | _ => none }
def diskPowerRow : OpenClaim := { program := "ytohenjmkhncoiaa", sum := "014dad232b53c191d2bbcc8fe40fdf1bd932745eff061c2835294ed2980c24e6", func := "babel/babellaw24.DiskPower", spec := "diskPower", unfollowed := true, recurses := true, apart := false }
def DiskPowerSaid : Prop := diskPowerRow.holds Try.pinned (OpenSpec.ofChange diskPowerSpec)

/-- ITS FALSE NEIGHBOUR: 'it returns false'. Refute it at one input. -/
def diskPowerWrong : ChangeSpec := { name := "diskPower", fn := fun _ => fun
  | [d1, d2, d3] => { results := [.lit (.bool false)], args := [d1, d2, d3] }
  | _ => none }
def DiskPowerWrongFalsely : Prop := diskPowerRow.holds Try.pinned (OpenSpec.ofChange diskPowerWrong)

/-- 'babellaw24.JournalBytes': WHATEVER THE INPUT: true; the input reads as it did. -/
def journalBytesSpec : ChangeSpec := { name := "journalBytes", fn := fun _ => fun
  | [d] => { results := [.lit (.bool true)], args := [d] }
  | _ => none }
def journalBytesRow : OpenClaim := { program := "ytohenjmkhncoiaa", sum := "014dad232b53c191d2bbcc8fe40fdf1bd932745eff061c2835294ed2980c24e6", func := "babel/babellaw24.JournalBytes", spec := "journalBytes", unfollowed := true, recurses := true, apart := false }
def JournalBytesSaid : Prop := journalBytesRow.holds Try.pinned (OpenSpec.ofChange journalBytesSpec)

/-- ITS FALSE NEIGHBOUR: 'it returns false'. Refute it at one input. -/
def journalBytesWrong : ChangeSpec := { name := "journalBytes", fn := fun _ => fun
  | [d] => { results := [.lit (.bool false)], args := [d] }
  | _ => none }
def JournalBytesWrongFalsely : Prop := journalBytesRow.holds Try.pinned (OpenSpec.ofChange journalBytesWrong)

/-- 'babellaw24.JournalCanonical': WHATEVER THE INPUT: true; the input reads as it did. -/
def journalCanonicalSpec : ChangeSpec := { name := "journalCanonical", fn := fun _ => fun
  | [d1, d2, d3] => { results := [.lit (.bool true)], args := [d1, d2, d3] }
  | _ => none }
def journalCanonicalRow : OpenClaim := { program := "ytohenjmkhncoiaa", sum := "014dad232b53c191d2bbcc8fe40fdf1bd932745eff061c2835294ed2980c24e6", func := "babel/babellaw24.JournalCanonical", spec := "journalCanonical", unfollowed := true, recurses := true, apart := false }
def JournalCanonicalSaid : Prop := journalCanonicalRow.holds Try.pinned (OpenSpec.ofChange journalCanonicalSpec)

/-- ITS FALSE NEIGHBOUR: 'it returns false'. Refute it at one input. -/
def journalCanonicalWrong : ChangeSpec := { name := "journalCanonical", fn := fun _ => fun
  | [d1, d2, d3] => { results := [.lit (.bool false)], args := [d1, d2, d3] }
  | _ => none }
def JournalCanonicalWrongFalsely : Prop := journalCanonicalRow.holds Try.pinned (OpenSpec.ofChange journalCanonicalWrong)

/-- 'babellaw24.JournalDiffers': WHATEVER THE INPUT: true; the input reads as it did. -/
def journalDiffersSpec : ChangeSpec := { name := "journalDiffers", fn := fun _ => fun
  | [d1, d2] => { results := [.lit (.bool true)], args := [d1, d2] }
  | _ => none }
def journalDiffersRow : OpenClaim := { program := "ytohenjmkhncoiaa", sum := "014dad232b53c191d2bbcc8fe40fdf1bd932745eff061c2835294ed2980c24e6", func := "babel/babellaw24.JournalDiffers", spec := "journalDiffers", unfollowed := true, recurses := true, apart := false }
def JournalDiffersSaid : Prop := journalDiffersRow.holds Try.pinned (OpenSpec.ofChange journalDiffersSpec)

/-- ITS FALSE NEIGHBOUR: 'it returns false'. Refute it at one input. -/
def journalDiffersWrong : ChangeSpec := { name := "journalDiffers", fn := fun _ => fun
  | [d1, d2] => { results := [.lit (.bool false)], args := [d1, d2] }
  | _ => none }
def JournalDiffersWrongFalsely : Prop := journalDiffersRow.holds Try.pinned (OpenSpec.ofChange journalDiffersWrong)

/-- 'babellaw24.JournalKeeps': WHATEVER THE INPUT: true; the input reads as it did. -/
def journalKeepsSpec : ChangeSpec := { name := "journalKeeps", fn := fun _ => fun
  | [d1, d2] => { results := [.lit (.bool true)], args := [d1, d2] }
  | _ => none }
def journalKeepsRow : OpenClaim := { program := "ytohenjmkhncoiaa", sum := "014dad232b53c191d2bbcc8fe40fdf1bd932745eff061c2835294ed2980c24e6", func := "babel/babellaw24.JournalKeeps", spec := "journalKeeps", unfollowed := true, recurses := true, apart := false }
def JournalKeepsSaid : Prop := journalKeepsRow.holds Try.pinned (OpenSpec.ofChange journalKeepsSpec)

/-- ITS FALSE NEIGHBOUR: 'it returns false'. Refute it at one input. -/
def journalKeepsWrong : ChangeSpec := { name := "journalKeeps", fn := fun _ => fun
  | [d1, d2] => { results := [.lit (.bool false)], args := [d1, d2] }
  | _ => none }
def JournalKeepsWrongFalsely : Prop := journalKeepsRow.holds Try.pinned (OpenSpec.ofChange journalKeepsWrong)

/-- 'babellaw24.JournalCrash': WHATEVER THE INPUT: true; the input reads as it did. -/
def journalCrashSpec : ChangeSpec := { name := "journalCrash", fn := fun _ => fun
  | [d1, d2, d3] => { results := [.lit (.bool true)], args := [d1, d2, d3] }
  | _ => none }
def journalCrashRow : OpenClaim := { program := "ytohenjmkhncoiaa", sum := "014dad232b53c191d2bbcc8fe40fdf1bd932745eff061c2835294ed2980c24e6", func := "babel/babellaw24.JournalCrash", spec := "journalCrash", unfollowed := true, recurses := true, apart := false }
def JournalCrashSaid : Prop := journalCrashRow.holds Try.pinned (OpenSpec.ofChange journalCrashSpec)

/-- ITS FALSE NEIGHBOUR: 'it returns false'. Refute it at one input. -/
def journalCrashWrong : ChangeSpec := { name := "journalCrash", fn := fun _ => fun
  | [d1, d2, d3] => { results := [.lit (.bool false)], args := [d1, d2, d3] }
  | _ => none }
def JournalCrashWrongFalsely : Prop := journalCrashRow.holds Try.pinned (OpenSpec.ofChange journalCrashWrong)

/-- 'babellaw24.JournalResumes': WHATEVER THE INPUT: true; the input reads as it did. -/
def journalResumesSpec : ChangeSpec := { name := "journalResumes", fn := fun _ => fun
  | [d1, d2, d3] => { results := [.lit (.bool true)], args := [d1, d2, d3] }
  | _ => none }
def journalResumesRow : OpenClaim := { program := "ytohenjmkhncoiaa", sum := "014dad232b53c191d2bbcc8fe40fdf1bd932745eff061c2835294ed2980c24e6", func := "babel/babellaw24.JournalResumes", spec := "journalResumes", unfollowed := true, recurses := true, apart := false }
def JournalResumesSaid : Prop := journalResumesRow.holds Try.pinned (OpenSpec.ofChange journalResumesSpec)

/-- ITS FALSE NEIGHBOUR: 'it returns false'. Refute it at one input. -/
def journalResumesWrong : ChangeSpec := { name := "journalResumes", fn := fun _ => fun
  | [d1, d2, d3] => { results := [.lit (.bool false)], args := [d1, d2, d3] }
  | _ => none }
def JournalResumesWrongFalsely : Prop := journalResumesRow.holds Try.pinned (OpenSpec.ofChange journalResumesWrong)

/-- 'babellaw24.JournalSteps': WHATEVER THE INPUT: true; the input reads as it did. -/
def journalStepsSpec : ChangeSpec := { name := "journalSteps", fn := fun _ => fun
  | [d] => { results := [.lit (.bool true)], args := [d] }
  | _ => none }
def journalStepsRow : OpenClaim := { program := "ytohenjmkhncoiaa", sum := "014dad232b53c191d2bbcc8fe40fdf1bd932745eff061c2835294ed2980c24e6", func := "babel/babellaw24.JournalSteps", spec := "journalSteps", unfollowed := true, recurses := true, apart := false }
def JournalStepsSaid : Prop := journalStepsRow.holds Try.pinned (OpenSpec.ofChange journalStepsSpec)

/-- ITS FALSE NEIGHBOUR: 'it returns false'. Refute it at one input. -/
def journalStepsWrong : ChangeSpec := { name := "journalSteps", fn := fun _ => fun
  | [d] => { results := [.lit (.bool false)], args := [d] }
  | _ => none }
def JournalStepsWrongFalsely : Prop := journalStepsRow.holds Try.pinned (OpenSpec.ofChange journalStepsWrong)

/-- 'babellaw24.JournalFull': WHATEVER THE INPUT: true; the input reads as it did. -/
def journalFullSpec : ChangeSpec := { name := "journalFull", fn := fun _ => fun
  | [d1, d2] => { results := [.lit (.bool true)], args := [d1, d2] }
  | _ => none }
def journalFullRow : OpenClaim := { program := "ytohenjmkhncoiaa", sum := "014dad232b53c191d2bbcc8fe40fdf1bd932745eff061c2835294ed2980c24e6", func := "babel/babellaw24.JournalFull", spec := "journalFull", unfollowed := true, recurses := true, apart := false }
def JournalFullSaid : Prop := journalFullRow.holds Try.pinned (OpenSpec.ofChange journalFullSpec)

/-- ITS FALSE NEIGHBOUR: 'it returns false'. Refute it at one input. -/
def journalFullWrong : ChangeSpec := { name := "journalFull", fn := fun _ => fun
  | [d1, d2] => { results := [.lit (.bool false)], args := [d1, d2] }
  | _ => none }
def JournalFullWrongFalsely : Prop := journalFullRow.holds Try.pinned (OpenSpec.ofChange journalFullWrong)

/-- 'babellaw24.JournalNone': WHATEVER THE INPUT: true; the input reads as it did. -/
def journalNoneSpec : ChangeSpec := { name := "journalNone", fn := fun _ => fun
  | [d1, d2] => { results := [.lit (.bool true)], args := [d1, d2] }
  | _ => none }
def journalNoneRow : OpenClaim := { program := "ytohenjmkhncoiaa", sum := "014dad232b53c191d2bbcc8fe40fdf1bd932745eff061c2835294ed2980c24e6", func := "babel/babellaw24.JournalNone", spec := "journalNone", unfollowed := true, recurses := true, apart := false }
def JournalNoneSaid : Prop := journalNoneRow.holds Try.pinned (OpenSpec.ofChange journalNoneSpec)

/-- ITS FALSE NEIGHBOUR: 'it returns false'. Refute it at one input. -/
def journalNoneWrong : ChangeSpec := { name := "journalNone", fn := fun _ => fun
  | [d1, d2] => { results := [.lit (.bool false)], args := [d1, d2] }
  | _ => none }
def JournalNoneWrongFalsely : Prop := journalNoneRow.holds Try.pinned (OpenSpec.ofChange journalNoneWrong)

/- THE SECOND FORM. 'bulk': how many values and letters a reading holds, each counted each time it is reached (what is shared counts as often as it is met; a slice's spare places count too). A statement '..UptoSaid' is the law's where the arguments, and the package variables that the reading takes, are together of bulk at most 1048576: NARROWER than '..Said'. Prove '..Said' where nothing that the law and all that it calls make is longer than what came in: it says more and counts as full. Else prove '..UptoSaid'. A law counts once. -/
mutual
def uptoBulk {H : Type} : DataW H → Nat
  | .lit (.string bytes) => bytes.length + 1
  | .lit _ => 1
  | .nil => 1
  | .ptr d => uptoBulk d + 1
  | .slice elems spare => uptoBulkAll elems + uptoBulkAll spare + 1
  | .agg parts => uptoBulkAll parts + 1
  | .iface _ d => uptoBulk d + 1
  | .map entries => uptoBulkEntries entries + 1
  | .held _ => 1
def uptoBulkAll {H : Type} : List (DataW H) → Nat
  | [] => 0
  | d :: r => uptoBulk d + uptoBulkAll r
def uptoBulkEntries {H : Type} : List (Lit × DataW H) → Nat
  | [] => 0
  | x :: r => uptoBulkEntry x + uptoBulkEntries r
def uptoBulkEntry {H : Type} : Lit × DataW H → Nat
  | (.string bytes, d) => bytes.length + uptoBulk d + 1
  | (_, d) => uptoBulk d + 1
 end
def uptoSmall : (H : Type) → List (DataW H) → Bool := fun _ ds => decide (uptoBulkAll ds ≤ 1048576)
def OpenSpec.upto (s : _root_.Go.ChangeSpec) : _root_.Go.OpenSpec := { _root_.Go.OpenSpec.ofChange s with cond := some uptoSmall }

/-- 'babellaw24.DiskPlays', WHERE WHAT IT READS IS OF BULK AT MOST 1048576: true; the input reads as it did. -/
def diskPlaysUptoRow : OpenClaim := { program := "ytohenjmkhncoiaa", sum := "014dad232b53c191d2bbcc8fe40fdf1bd932745eff061c2835294ed2980c24e6", func := "babel/babellaw24.DiskPlays", spec := "diskPlays", unfollowed := true, recurses := true, apart := false, narrowed := true }
def DiskPlaysUptoSaid : Prop := diskPlaysUptoRow.holds Try.pinned (OpenSpec.upto diskPlaysSpec)

/-- 'babellaw24.DiskCrash', WHERE WHAT IT READS IS OF BULK AT MOST 1048576: true; the input reads as it did. -/
def diskCrashUptoRow : OpenClaim := { program := "ytohenjmkhncoiaa", sum := "014dad232b53c191d2bbcc8fe40fdf1bd932745eff061c2835294ed2980c24e6", func := "babel/babellaw24.DiskCrash", spec := "diskCrash", unfollowed := true, recurses := true, apart := false, narrowed := true }
def DiskCrashUptoSaid : Prop := diskCrashUptoRow.holds Try.pinned (OpenSpec.upto diskCrashSpec)

/-- 'babellaw24.DiskPower', WHERE WHAT IT READS IS OF BULK AT MOST 1048576: true; the input reads as it did. -/
def diskPowerUptoRow : OpenClaim := { program := "ytohenjmkhncoiaa", sum := "014dad232b53c191d2bbcc8fe40fdf1bd932745eff061c2835294ed2980c24e6", func := "babel/babellaw24.DiskPower", spec := "diskPower", unfollowed := true, recurses := true, apart := false, narrowed := true }
def DiskPowerUptoSaid : Prop := diskPowerUptoRow.holds Try.pinned (OpenSpec.upto diskPowerSpec)

/-- 'babellaw24.JournalBytes', WHERE WHAT IT READS IS OF BULK AT MOST 1048576: true; the input reads as it did. -/
def journalBytesUptoRow : OpenClaim := { program := "ytohenjmkhncoiaa", sum := "014dad232b53c191d2bbcc8fe40fdf1bd932745eff061c2835294ed2980c24e6", func := "babel/babellaw24.JournalBytes", spec := "journalBytes", unfollowed := true, recurses := true, apart := false, narrowed := true }
def JournalBytesUptoSaid : Prop := journalBytesUptoRow.holds Try.pinned (OpenSpec.upto journalBytesSpec)

/-- 'babellaw24.JournalCanonical', WHERE WHAT IT READS IS OF BULK AT MOST 1048576: true; the input reads as it did. -/
def journalCanonicalUptoRow : OpenClaim := { program := "ytohenjmkhncoiaa", sum := "014dad232b53c191d2bbcc8fe40fdf1bd932745eff061c2835294ed2980c24e6", func := "babel/babellaw24.JournalCanonical", spec := "journalCanonical", unfollowed := true, recurses := true, apart := false, narrowed := true }
def JournalCanonicalUptoSaid : Prop := journalCanonicalUptoRow.holds Try.pinned (OpenSpec.upto journalCanonicalSpec)

/-- 'babellaw24.JournalDiffers', WHERE WHAT IT READS IS OF BULK AT MOST 1048576: true; the input reads as it did. -/
def journalDiffersUptoRow : OpenClaim := { program := "ytohenjmkhncoiaa", sum := "014dad232b53c191d2bbcc8fe40fdf1bd932745eff061c2835294ed2980c24e6", func := "babel/babellaw24.JournalDiffers", spec := "journalDiffers", unfollowed := true, recurses := true, apart := false, narrowed := true }
def JournalDiffersUptoSaid : Prop := journalDiffersUptoRow.holds Try.pinned (OpenSpec.upto journalDiffersSpec)

/-- 'babellaw24.JournalKeeps', WHERE WHAT IT READS IS OF BULK AT MOST 1048576: true; the input reads as it did. -/
def journalKeepsUptoRow : OpenClaim := { program := "ytohenjmkhncoiaa", sum := "014dad232b53c191d2bbcc8fe40fdf1bd932745eff061c2835294ed2980c24e6", func := "babel/babellaw24.JournalKeeps", spec := "journalKeeps", unfollowed := true, recurses := true, apart := false, narrowed := true }
def JournalKeepsUptoSaid : Prop := journalKeepsUptoRow.holds Try.pinned (OpenSpec.upto journalKeepsSpec)

/-- 'babellaw24.JournalCrash', WHERE WHAT IT READS IS OF BULK AT MOST 1048576: true; the input reads as it did. -/
def journalCrashUptoRow : OpenClaim := { program := "ytohenjmkhncoiaa", sum := "014dad232b53c191d2bbcc8fe40fdf1bd932745eff061c2835294ed2980c24e6", func := "babel/babellaw24.JournalCrash", spec := "journalCrash", unfollowed := true, recurses := true, apart := false, narrowed := true }
def JournalCrashUptoSaid : Prop := journalCrashUptoRow.holds Try.pinned (OpenSpec.upto journalCrashSpec)

/-- 'babellaw24.JournalResumes', WHERE WHAT IT READS IS OF BULK AT MOST 1048576: true; the input reads as it did. -/
def journalResumesUptoRow : OpenClaim := { program := "ytohenjmkhncoiaa", sum := "014dad232b53c191d2bbcc8fe40fdf1bd932745eff061c2835294ed2980c24e6", func := "babel/babellaw24.JournalResumes", spec := "journalResumes", unfollowed := true, recurses := true, apart := false, narrowed := true }
def JournalResumesUptoSaid : Prop := journalResumesUptoRow.holds Try.pinned (OpenSpec.upto journalResumesSpec)

/-- 'babellaw24.JournalSteps', WHERE WHAT IT READS IS OF BULK AT MOST 1048576: true; the input reads as it did. -/
def journalStepsUptoRow : OpenClaim := { program := "ytohenjmkhncoiaa", sum := "014dad232b53c191d2bbcc8fe40fdf1bd932745eff061c2835294ed2980c24e6", func := "babel/babellaw24.JournalSteps", spec := "journalSteps", unfollowed := true, recurses := true, apart := false, narrowed := true }
def JournalStepsUptoSaid : Prop := journalStepsUptoRow.holds Try.pinned (OpenSpec.upto journalStepsSpec)

/-- 'babellaw24.JournalFull', WHERE WHAT IT READS IS OF BULK AT MOST 1048576: true; the input reads as it did. -/
def journalFullUptoRow : OpenClaim := { program := "ytohenjmkhncoiaa", sum := "014dad232b53c191d2bbcc8fe40fdf1bd932745eff061c2835294ed2980c24e6", func := "babel/babellaw24.JournalFull", spec := "journalFull", unfollowed := true, recurses := true, apart := false, narrowed := true }
def JournalFullUptoSaid : Prop := journalFullUptoRow.holds Try.pinned (OpenSpec.upto journalFullSpec)

/-- 'babellaw24.JournalNone', WHERE WHAT IT READS IS OF BULK AT MOST 1048576: true; the input reads as it did. -/
def journalNoneUptoRow : OpenClaim := { program := "ytohenjmkhncoiaa", sum := "014dad232b53c191d2bbcc8fe40fdf1bd932745eff061c2835294ed2980c24e6", func := "babel/babellaw24.JournalNone", spec := "journalNone", unfollowed := true, recurses := true, apart := false, narrowed := true }
def JournalNoneUptoSaid : Prop := journalNoneUptoRow.holds Try.pinned (OpenSpec.upto journalNoneSpec)

end Rows
end Go.Proofs.Ytohenjmkhncoiaa
