/-
  No cell of these rows narrows 'for every input' (looked for: loops, veiled, ifaces, maps, wideKeys, modest, calm, conditions, laid).
  DERIVED. THE GIVEN ROWS OF THIS SEAT. 10 by the template 'for every input the law returns true; each argument reads behind the call as it read before'; 0 by the template 'total and deterministic' (their statements: YtfdbkclbcajkiaaTotals.lean).
  GIVEN WITH THE SEED: the statements are not yours to turn. If you find one false, say at which input.
  Laid BY PROGRAM, IN A SANDBOX (cutbox-rows.mjs): the forced cells as the released guide's own fill.sh prints them over the translation f50510bd25389c6b… (all of the seat's roots in one cut). By AI agents, Wed Nov 11 2026. No macro, syntax, notation, axiom, sorry.
-/
import Derived.Test.YtfdbkclbcajkiaaChecked
import GoSem.Claim
import GoSem.ClaimJoined
import GoSem.ClaimMapViews
import Derived.JoinedTies
import Derived.KernelRfl
namespace Go.Proofs.Ytfdbkclbcajkiaa
/- THE CELL 'sum', in the pinned program and in every row, IS THE sha256 OF THE DUMP (.gsa) THAT YtfdbkclbcajkiaaProg.lean LOADS. Nothing in Lean hashes anything: it is a label: what it is worth is what the hold of that sum in a sandbox is worth. -/
noncomputable def Try.pinned : Pinned := { name := "ytfdbkclbcajkiaa", sum := "f50510bd25389c6b70164a99c99f42d5b00599e1b3fe1482928a40b8318ae694", checked := Try.checked }
namespace Rows
def none {H : Type} : Left H := { results := [], args := [] }

/-- 'babellaw16.AllocUses': WHATEVER THE INPUT: true; the input reads as it did. -/
def allocUsesSpec : ChangeSpec := { name := "allocUses", fn := fun _ => fun
  | [d1, d2] => { results := [.lit (.bool true)], args := [d1, d2] }
  | _ => none }
def allocUsesRow : OpenClaim := { program := "ytfdbkclbcajkiaa", sum := "f50510bd25389c6b70164a99c99f42d5b00599e1b3fe1482928a40b8318ae694", func := "babel/babellaw16.AllocUses", spec := "allocUses", unfollowed := true, recurses := true, apart := false }
def AllocUsesSaid : Prop := allocUsesRow.holds Try.pinned (OpenSpec.ofChange allocUsesSpec)

/-- ITS FALSE NEIGHBOUR: 'it returns false'. Refute it at one input. -/
def allocUsesWrong : ChangeSpec := { name := "allocUses", fn := fun _ => fun
  | [d1, d2] => { results := [.lit (.bool false)], args := [d1, d2] }
  | _ => none }
def AllocUsesWrongFalsely : Prop := allocUsesRow.holds Try.pinned (OpenSpec.ofChange allocUsesWrong)

/-- 'babellaw16.AllocAssign': WHATEVER THE INPUT: true; the input reads as it did. -/
def allocAssignSpec : ChangeSpec := { name := "allocAssign", fn := fun _ => fun
  | [d1, d2, d3] => { results := [.lit (.bool true)], args := [d1, d2, d3] }
  | _ => none }
def allocAssignRow : OpenClaim := { program := "ytfdbkclbcajkiaa", sum := "f50510bd25389c6b70164a99c99f42d5b00599e1b3fe1482928a40b8318ae694", func := "babel/babellaw16.AllocAssign", spec := "allocAssign", unfollowed := true, recurses := true, apart := false }
def AllocAssignSaid : Prop := allocAssignRow.holds Try.pinned (OpenSpec.ofChange allocAssignSpec)

/-- ITS FALSE NEIGHBOUR: 'it returns false'. Refute it at one input. -/
def allocAssignWrong : ChangeSpec := { name := "allocAssign", fn := fun _ => fun
  | [d1, d2, d3] => { results := [.lit (.bool false)], args := [d1, d2, d3] }
  | _ => none }
def AllocAssignWrongFalsely : Prop := allocAssignRow.holds Try.pinned (OpenSpec.ofChange allocAssignWrong)

/-- 'babellaw16.AllocMost': WHATEVER THE INPUT: true; the input reads as it did. -/
def allocMostSpec : ChangeSpec := { name := "allocMost", fn := fun _ => fun
  | [d1, d2] => { results := [.lit (.bool true)], args := [d1, d2] }
  | _ => none }
def allocMostRow : OpenClaim := { program := "ytfdbkclbcajkiaa", sum := "f50510bd25389c6b70164a99c99f42d5b00599e1b3fe1482928a40b8318ae694", func := "babel/babellaw16.AllocMost", spec := "allocMost", unfollowed := true, recurses := true, apart := false }
def AllocMostSaid : Prop := allocMostRow.holds Try.pinned (OpenSpec.ofChange allocMostSpec)

/-- ITS FALSE NEIGHBOUR: 'it returns false'. Refute it at one input. -/
def allocMostWrong : ChangeSpec := { name := "allocMost", fn := fun _ => fun
  | [d1, d2] => { results := [.lit (.bool false)], args := [d1, d2] }
  | _ => none }
def AllocMostWrongFalsely : Prop := allocMostRow.holds Try.pinned (OpenSpec.ofChange allocMostWrong)

/-- 'babellaw16.AllocPrefers': WHATEVER THE INPUT: true; the input reads as it did. -/
def allocPrefersSpec : ChangeSpec := { name := "allocPrefers", fn := fun _ => fun
  | [d1, d2] => { results := [.lit (.bool true)], args := [d1, d2] }
  | _ => none }
def allocPrefersRow : OpenClaim := { program := "ytfdbkclbcajkiaa", sum := "f50510bd25389c6b70164a99c99f42d5b00599e1b3fe1482928a40b8318ae694", func := "babel/babellaw16.AllocPrefers", spec := "allocPrefers", unfollowed := true, recurses := true, apart := false }
def AllocPrefersSaid : Prop := allocPrefersRow.holds Try.pinned (OpenSpec.ofChange allocPrefersSpec)

/-- ITS FALSE NEIGHBOUR: 'it returns false'. Refute it at one input. -/
def allocPrefersWrong : ChangeSpec := { name := "allocPrefers", fn := fun _ => fun
  | [d1, d2] => { results := [.lit (.bool false)], args := [d1, d2] }
  | _ => none }
def AllocPrefersWrongFalsely : Prop := allocPrefersRow.holds Try.pinned (OpenSpec.ofChange allocPrefersWrong)

/-- 'babellaw16.AllocMore': WHATEVER THE INPUT: true; the input reads as it did. -/
def allocMoreSpec : ChangeSpec := { name := "allocMore", fn := fun _ => fun
  | [d1, d2] => { results := [.lit (.bool true)], args := [d1, d2] }
  | _ => none }
def allocMoreRow : OpenClaim := { program := "ytfdbkclbcajkiaa", sum := "f50510bd25389c6b70164a99c99f42d5b00599e1b3fe1482928a40b8318ae694", func := "babel/babellaw16.AllocMore", spec := "allocMore", unfollowed := true, recurses := true, apart := false }
def AllocMoreSaid : Prop := allocMoreRow.holds Try.pinned (OpenSpec.ofChange allocMoreSpec)

/-- ITS FALSE NEIGHBOUR: 'it returns false'. Refute it at one input. -/
def allocMoreWrong : ChangeSpec := { name := "allocMore", fn := fun _ => fun
  | [d1, d2] => { results := [.lit (.bool false)], args := [d1, d2] }
  | _ => none }
def AllocMoreWrongFalsely : Prop := allocMoreRow.holds Try.pinned (OpenSpec.ofChange allocMoreWrong)

/-- 'babellaw16.AllocParts': WHATEVER THE INPUT: true; the input reads as it did. -/
def allocPartsSpec : ChangeSpec := { name := "allocParts", fn := fun _ => fun
  | [d1, d2, d3] => { results := [.lit (.bool true)], args := [d1, d2, d3] }
  | _ => none }
def allocPartsRow : OpenClaim := { program := "ytfdbkclbcajkiaa", sum := "f50510bd25389c6b70164a99c99f42d5b00599e1b3fe1482928a40b8318ae694", func := "babel/babellaw16.AllocParts", spec := "allocParts", unfollowed := true, recurses := true, apart := false }
def AllocPartsSaid : Prop := allocPartsRow.holds Try.pinned (OpenSpec.ofChange allocPartsSpec)

/-- ITS FALSE NEIGHBOUR: 'it returns false'. Refute it at one input. -/
def allocPartsWrong : ChangeSpec := { name := "allocParts", fn := fun _ => fun
  | [d1, d2, d3] => { results := [.lit (.bool false)], args := [d1, d2, d3] }
  | _ => none }
def AllocPartsWrongFalsely : Prop := allocPartsRow.holds Try.pinned (OpenSpec.ofChange allocPartsWrong)

/-- 'babellaw16.AllocRenamed': WHATEVER THE INPUT: true; the input reads as it did. -/
def allocRenamedSpec : ChangeSpec := { name := "allocRenamed", fn := fun _ => fun
  | [d1, d2] => { results := [.lit (.bool true)], args := [d1, d2] }
  | _ => none }
def allocRenamedRow : OpenClaim := { program := "ytfdbkclbcajkiaa", sum := "f50510bd25389c6b70164a99c99f42d5b00599e1b3fe1482928a40b8318ae694", func := "babel/babellaw16.AllocRenamed", spec := "allocRenamed", unfollowed := true, recurses := true, apart := false }
def AllocRenamedSaid : Prop := allocRenamedRow.holds Try.pinned (OpenSpec.ofChange allocRenamedSpec)

/-- ITS FALSE NEIGHBOUR: 'it returns false'. Refute it at one input. -/
def allocRenamedWrong : ChangeSpec := { name := "allocRenamed", fn := fun _ => fun
  | [d1, d2] => { results := [.lit (.bool false)], args := [d1, d2] }
  | _ => none }
def AllocRenamedWrongFalsely : Prop := allocRenamedRow.holds Try.pinned (OpenSpec.ofChange allocRenamedWrong)

/-- 'babellaw16.AllocKeeps': WHATEVER THE INPUT: true; the input reads as it did. -/
def allocKeepsSpec : ChangeSpec := { name := "allocKeeps", fn := fun _ => fun
  | [d1, d2] => { results := [.lit (.bool true)], args := [d1, d2] }
  | _ => none }
def allocKeepsRow : OpenClaim := { program := "ytfdbkclbcajkiaa", sum := "f50510bd25389c6b70164a99c99f42d5b00599e1b3fe1482928a40b8318ae694", func := "babel/babellaw16.AllocKeeps", spec := "allocKeeps", unfollowed := true, recurses := true, apart := false }
def AllocKeepsSaid : Prop := allocKeepsRow.holds Try.pinned (OpenSpec.ofChange allocKeepsSpec)

/-- ITS FALSE NEIGHBOUR: 'it returns false'. Refute it at one input. -/
def allocKeepsWrong : ChangeSpec := { name := "allocKeeps", fn := fun _ => fun
  | [d1, d2] => { results := [.lit (.bool false)], args := [d1, d2] }
  | _ => none }
def AllocKeepsWrongFalsely : Prop := allocKeepsRow.holds Try.pinned (OpenSpec.ofChange allocKeepsWrong)

/-- 'babellaw16.AllocValid': WHATEVER THE INPUT: true; the input reads as it did. -/
def allocValidSpec : ChangeSpec := { name := "allocValid", fn := fun _ => fun
  | [d1, d2, d3] => { results := [.lit (.bool true)], args := [d1, d2, d3] }
  | _ => none }
def allocValidRow : OpenClaim := { program := "ytfdbkclbcajkiaa", sum := "f50510bd25389c6b70164a99c99f42d5b00599e1b3fe1482928a40b8318ae694", func := "babel/babellaw16.AllocValid", spec := "allocValid", unfollowed := true, recurses := true, apart := false }
def AllocValidSaid : Prop := allocValidRow.holds Try.pinned (OpenSpec.ofChange allocValidSpec)

/-- ITS FALSE NEIGHBOUR: 'it returns false'. Refute it at one input. -/
def allocValidWrong : ChangeSpec := { name := "allocValid", fn := fun _ => fun
  | [d1, d2, d3] => { results := [.lit (.bool false)], args := [d1, d2, d3] }
  | _ => none }
def AllocValidWrongFalsely : Prop := allocValidRow.holds Try.pinned (OpenSpec.ofChange allocValidWrong)

/-- 'babellaw16.AllocNone': WHATEVER THE INPUT: true; the input reads as it did. -/
def allocNoneSpec : ChangeSpec := { name := "allocNone", fn := fun _ => fun
  | [d1, d2, d3] => { results := [.lit (.bool true)], args := [d1, d2, d3] }
  | _ => none }
def allocNoneRow : OpenClaim := { program := "ytfdbkclbcajkiaa", sum := "f50510bd25389c6b70164a99c99f42d5b00599e1b3fe1482928a40b8318ae694", func := "babel/babellaw16.AllocNone", spec := "allocNone", unfollowed := true, recurses := true, apart := false }
def AllocNoneSaid : Prop := allocNoneRow.holds Try.pinned (OpenSpec.ofChange allocNoneSpec)

/-- ITS FALSE NEIGHBOUR: 'it returns false'. Refute it at one input. -/
def allocNoneWrong : ChangeSpec := { name := "allocNone", fn := fun _ => fun
  | [d1, d2, d3] => { results := [.lit (.bool false)], args := [d1, d2, d3] }
  | _ => none }
def AllocNoneWrongFalsely : Prop := allocNoneRow.holds Try.pinned (OpenSpec.ofChange allocNoneWrong)

/- THE SECOND FORM. 'bulk': how many values and letters a reading holds, each counted each time it is reached (what is shared counts as often as it is met; a slice's spare places count too). A statement '..UptoSaid' is the law's where the arguments, and the package variables that the reading takes, are together of bulk at most 1048576: NARROWER than '..Said'. Prove '..Said' where nothing that the law and all that it calls make is longer than what came in: it says more and counts as full. Else prove '..UptoSaid'. A law counts once. -/
mutual
def uptoBulk {H : Type} : DataW H → Nat
  | .lit (.string bytes) => bytes.length + 1
  | .lit _ => 1
  | .nil => 1
  | .ptr d => uptoBulk d + 1
  | .slice elems spare => uptoBulkAll elems + uptoBulkAll spare + 1
  | .agg parts => uptoBulkAll parts + 1
  | .iface _ d => uptoBulk d + 1
  | .map entries => uptoBulkEntries entries + 1
  | .held _ => 1
def uptoBulkAll {H : Type} : List (DataW H) → Nat
  | [] => 0
  | d :: r => uptoBulk d + uptoBulkAll r
def uptoBulkEntries {H : Type} : List (Lit × DataW H) → Nat
  | [] => 0
  | x :: r => uptoBulkEntry x + uptoBulkEntries r
def uptoBulkEntry {H : Type} : Lit × DataW H → Nat
  | (.string bytes, d) => bytes.length + uptoBulk d + 1
  | (_, d) => uptoBulk d + 1
 end
def uptoSmall : (H : Type) → List (DataW H) → Bool := fun _ ds => decide (uptoBulkAll ds ≤ 1048576)
def OpenSpec.upto (s : _root_.Go.ChangeSpec) : _root_.Go.OpenSpec := { _root_.Go.OpenSpec.ofChange s with cond := some uptoSmall }

/-- 'babellaw16.AllocUses', WHERE WHAT IT READS IS OF BULK AT MOST 1048576: true; the input reads as it did. -/
def allocUsesUptoRow : OpenClaim := { program := "ytfdbkclbcajkiaa", sum := "f50510bd25389c6b70164a99c99f42d5b00599e1b3fe1482928a40b8318ae694", func := "babel/babellaw16.AllocUses", spec := "allocUses", unfollowed := true, recurses := true, apart := false, narrowed := true }
def AllocUsesUptoSaid : Prop := allocUsesUptoRow.holds Try.pinned (OpenSpec.upto allocUsesSpec)

/-- 'babellaw16.AllocAssign', WHERE WHAT IT READS IS OF BULK AT MOST 1048576: true; the input reads as it did. -/
def allocAssignUptoRow : OpenClaim := { program := "ytfdbkclbcajkiaa", sum := "f50510bd25389c6b70164a99c99f42d5b00599e1b3fe1482928a40b8318ae694", func := "babel/babellaw16.AllocAssign", spec := "allocAssign", unfollowed := true, recurses := true, apart := false, narrowed := true }
def AllocAssignUptoSaid : Prop := allocAssignUptoRow.holds Try.pinned (OpenSpec.upto allocAssignSpec)

/-- 'babellaw16.AllocMost', WHERE WHAT IT READS IS OF BULK AT MOST 1048576: true; the input reads as it did. -/
def allocMostUptoRow : OpenClaim := { program := "ytfdbkclbcajkiaa", sum := "f50510bd25389c6b70164a99c99f42d5b00599e1b3fe1482928a40b8318ae694", func := "babel/babellaw16.AllocMost", spec := "allocMost", unfollowed := true, recurses := true, apart := false, narrowed := true }
def AllocMostUptoSaid : Prop := allocMostUptoRow.holds Try.pinned (OpenSpec.upto allocMostSpec)

/-- 'babellaw16.AllocPrefers', WHERE WHAT IT READS IS OF BULK AT MOST 1048576: true; the input reads as it did. -/
def allocPrefersUptoRow : OpenClaim := { program := "ytfdbkclbcajkiaa", sum := "f50510bd25389c6b70164a99c99f42d5b00599e1b3fe1482928a40b8318ae694", func := "babel/babellaw16.AllocPrefers", spec := "allocPrefers", unfollowed := true, recurses := true, apart := false, narrowed := true }
def AllocPrefersUptoSaid : Prop := allocPrefersUptoRow.holds Try.pinned (OpenSpec.upto allocPrefersSpec)

/-- 'babellaw16.AllocMore', WHERE WHAT IT READS IS OF BULK AT MOST 1048576: true; the input reads as it did. -/
def allocMoreUptoRow : OpenClaim := { program := "ytfdbkclbcajkiaa", sum := "f50510bd25389c6b70164a99c99f42d5b00599e1b3fe1482928a40b8318ae694", func := "babel/babellaw16.AllocMore", spec := "allocMore", unfollowed := true, recurses := true, apart := false, narrowed := true }
def AllocMoreUptoSaid : Prop := allocMoreUptoRow.holds Try.pinned (OpenSpec.upto allocMoreSpec)

/-- 'babellaw16.AllocParts', WHERE WHAT IT READS IS OF BULK AT MOST 1048576: true; the input reads as it did. -/
def allocPartsUptoRow : OpenClaim := { program := "ytfdbkclbcajkiaa", sum := "f50510bd25389c6b70164a99c99f42d5b00599e1b3fe1482928a40b8318ae694", func := "babel/babellaw16.AllocParts", spec := "allocParts", unfollowed := true, recurses := true, apart := false, narrowed := true }
def AllocPartsUptoSaid : Prop := allocPartsUptoRow.holds Try.pinned (OpenSpec.upto allocPartsSpec)

/-- 'babellaw16.AllocRenamed', WHERE WHAT IT READS IS OF BULK AT MOST 1048576: true; the input reads as it did. -/
def allocRenamedUptoRow : OpenClaim := { program := "ytfdbkclbcajkiaa", sum := "f50510bd25389c6b70164a99c99f42d5b00599e1b3fe1482928a40b8318ae694", func := "babel/babellaw16.AllocRenamed", spec := "allocRenamed", unfollowed := true, recurses := true, apart := false, narrowed := true }
def AllocRenamedUptoSaid : Prop := allocRenamedUptoRow.holds Try.pinned (OpenSpec.upto allocRenamedSpec)

/-- 'babellaw16.AllocKeeps', WHERE WHAT IT READS IS OF BULK AT MOST 1048576: true; the input reads as it did. -/
def allocKeepsUptoRow : OpenClaim := { program := "ytfdbkclbcajkiaa", sum := "f50510bd25389c6b70164a99c99f42d5b00599e1b3fe1482928a40b8318ae694", func := "babel/babellaw16.AllocKeeps", spec := "allocKeeps", unfollowed := true, recurses := true, apart := false, narrowed := true }
def AllocKeepsUptoSaid : Prop := allocKeepsUptoRow.holds Try.pinned (OpenSpec.upto allocKeepsSpec)

/-- 'babellaw16.AllocValid', WHERE WHAT IT READS IS OF BULK AT MOST 1048576: true; the input reads as it did. -/
def allocValidUptoRow : OpenClaim := { program := "ytfdbkclbcajkiaa", sum := "f50510bd25389c6b70164a99c99f42d5b00599e1b3fe1482928a40b8318ae694", func := "babel/babellaw16.AllocValid", spec := "allocValid", unfollowed := true, recurses := true, apart := false, narrowed := true }
def AllocValidUptoSaid : Prop := allocValidUptoRow.holds Try.pinned (OpenSpec.upto allocValidSpec)

/-- 'babellaw16.AllocNone', WHERE WHAT IT READS IS OF BULK AT MOST 1048576: true; the input reads as it did. -/
def allocNoneUptoRow : OpenClaim := { program := "ytfdbkclbcajkiaa", sum := "f50510bd25389c6b70164a99c99f42d5b00599e1b3fe1482928a40b8318ae694", func := "babel/babellaw16.AllocNone", spec := "allocNone", unfollowed := true, recurses := true, apart := false, narrowed := true }
def AllocNoneUptoSaid : Prop := allocNoneUptoRow.holds Try.pinned (OpenSpec.upto allocNoneSpec)

end Rows
end Go.Proofs.Ytfdbkclbcajkiaa
