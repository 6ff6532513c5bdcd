/-
  No cell of these rows narrows 'for every input' (looked for: loops, veiled, ifaces, maps, wideKeys, modest, calm, conditions, laid).
  DERIVED. THE GIVEN ROWS OF THIS SEAT. 12 by the template 'for every input the law returns true; each argument reads behind the call as it read before'; 0 by the template 'total and deterministic' (their statements: YtdoanneelnelbaaTotals.lean).
  GIVEN WITH THE SEED: the statements are not yours to turn. If you find one false, say at which input.
  Laid BY PROGRAM, IN A SANDBOX (cutbox-rows.mjs): the forced cells as the released guide's own fill.sh prints them over the translation 69add4712527ce9e… (all of the seat's roots in one cut). By AI agents, Wed Nov 11 2026. No macro, syntax, notation, axiom, sorry.
-/
import Derived.Test.YtdoanneelnelbaaChecked
import GoSem.Claim
import GoSem.ClaimJoined
import GoSem.ClaimMapViews
import Derived.JoinedTies
import Derived.KernelRfl
namespace Go.Proofs.Ytdoanneelnelbaa
/- THE CELL 'sum', in the pinned program and in every row, IS THE sha256 OF THE DUMP (.gsa) THAT YtdoanneelnelbaaProg.lean LOADS. Nothing in Lean hashes anything: it is a label: what it is worth is what the hold of that sum in a sandbox is worth. -/
noncomputable def Try.pinned : Pinned := { name := "ytdoanneelnelbaa", sum := "69add4712527ce9e81360465b86846a01470df07a9a58be87ba91386a4597eaa", checked := Try.checked }
namespace Rows
def none {H : Type} : Left H := { results := [], args := [] }

/-- 'babellaw03.QcodeEncodes': WHATEVER THE INPUT: true; the input reads as it did. -/
def qcodeEncodesSpec : ChangeSpec := { name := "qcodeEncodes", fn := fun _ => fun
  | [d1, d2, d3] => { results := [.lit (.bool true)], args := [d1, d2, d3] }
  | _ => none }
def qcodeEncodesRow : OpenClaim := { program := "ytdoanneelnelbaa", sum := "69add4712527ce9e81360465b86846a01470df07a9a58be87ba91386a4597eaa", func := "babel/babellaw03.QcodeEncodes", spec := "qcodeEncodes", unfollowed := true, recurses := true, apart := false }
def QcodeEncodesSaid : Prop := qcodeEncodesRow.holds Try.pinned (OpenSpec.ofChange qcodeEncodesSpec)

/-- ITS FALSE NEIGHBOUR: 'it returns false'. Refute it at one input. -/
def qcodeEncodesWrong : ChangeSpec := { name := "qcodeEncodes", fn := fun _ => fun
  | [d1, d2, d3] => { results := [.lit (.bool false)], args := [d1, d2, d3] }
  | _ => none }
def QcodeEncodesWrongFalsely : Prop := qcodeEncodesRow.holds Try.pinned (OpenSpec.ofChange qcodeEncodesWrong)

/-- 'babellaw03.QcodeValid': WHATEVER THE INPUT: true; the input reads as it did. -/
def qcodeValidSpec : ChangeSpec := { name := "qcodeValid", fn := fun _ => fun
  | [d1, d2, d3] => { results := [.lit (.bool true)], args := [d1, d2, d3] }
  | _ => none }
def qcodeValidRow : OpenClaim := { program := "ytdoanneelnelbaa", sum := "69add4712527ce9e81360465b86846a01470df07a9a58be87ba91386a4597eaa", func := "babel/babellaw03.QcodeValid", spec := "qcodeValid", unfollowed := true, recurses := true, apart := false }
def QcodeValidSaid : Prop := qcodeValidRow.holds Try.pinned (OpenSpec.ofChange qcodeValidSpec)

/-- ITS FALSE NEIGHBOUR: 'it returns false'. Refute it at one input. -/
def qcodeValidWrong : ChangeSpec := { name := "qcodeValid", fn := fun _ => fun
  | [d1, d2, d3] => { results := [.lit (.bool false)], args := [d1, d2, d3] }
  | _ => none }
def QcodeValidWrongFalsely : Prop := qcodeValidRow.holds Try.pinned (OpenSpec.ofChange qcodeValidWrong)

/-- 'babellaw03.QcodeDecodes': WHATEVER THE INPUT: true; the input reads as it did. -/
def qcodeDecodesSpec : ChangeSpec := { name := "qcodeDecodes", fn := fun _ => fun
  | [d1, d2, d3] => { results := [.lit (.bool true)], args := [d1, d2, d3] }
  | _ => none }
def qcodeDecodesRow : OpenClaim := { program := "ytdoanneelnelbaa", sum := "69add4712527ce9e81360465b86846a01470df07a9a58be87ba91386a4597eaa", func := "babel/babellaw03.QcodeDecodes", spec := "qcodeDecodes", unfollowed := true, recurses := true, apart := false }
def QcodeDecodesSaid : Prop := qcodeDecodesRow.holds Try.pinned (OpenSpec.ofChange qcodeDecodesSpec)

/-- ITS FALSE NEIGHBOUR: 'it returns false'. Refute it at one input. -/
def qcodeDecodesWrong : ChangeSpec := { name := "qcodeDecodes", fn := fun _ => fun
  | [d1, d2, d3] => { results := [.lit (.bool false)], args := [d1, d2, d3] }
  | _ => none }
def QcodeDecodesWrongFalsely : Prop := qcodeDecodesRow.holds Try.pinned (OpenSpec.ofChange qcodeDecodesWrong)

/-- 'babellaw03.QcodeInverts': WHATEVER THE INPUT: true; the input reads as it did. -/
def qcodeInvertsSpec : ChangeSpec := { name := "qcodeInverts", fn := fun _ => fun
  | [d] => { results := [.lit (.bool true)], args := [d] }
  | _ => none }
def qcodeInvertsRow : OpenClaim := { program := "ytdoanneelnelbaa", sum := "69add4712527ce9e81360465b86846a01470df07a9a58be87ba91386a4597eaa", func := "babel/babellaw03.QcodeInverts", spec := "qcodeInverts", unfollowed := true, recurses := true, apart := false }
def QcodeInvertsSaid : Prop := qcodeInvertsRow.holds Try.pinned (OpenSpec.ofChange qcodeInvertsSpec)

/-- ITS FALSE NEIGHBOUR: 'it returns false'. Refute it at one input. -/
def qcodeInvertsWrong : ChangeSpec := { name := "qcodeInverts", fn := fun _ => fun
  | [d] => { results := [.lit (.bool false)], args := [d] }
  | _ => none }
def QcodeInvertsWrongFalsely : Prop := qcodeInvertsRow.holds Try.pinned (OpenSpec.ofChange qcodeInvertsWrong)

/-- 'babellaw03.QcodeWords': WHATEVER THE INPUT: true; the input reads as it did. -/
def qcodeWordsSpec : ChangeSpec := { name := "qcodeWords", fn := fun _ => fun
  | [d1, d2, d3] => { results := [.lit (.bool true)], args := [d1, d2, d3] }
  | _ => none }
def qcodeWordsRow : OpenClaim := { program := "ytdoanneelnelbaa", sum := "69add4712527ce9e81360465b86846a01470df07a9a58be87ba91386a4597eaa", func := "babel/babellaw03.QcodeWords", spec := "qcodeWords", unfollowed := true, recurses := true, apart := false }
def QcodeWordsSaid : Prop := qcodeWordsRow.holds Try.pinned (OpenSpec.ofChange qcodeWordsSpec)

/-- ITS FALSE NEIGHBOUR: 'it returns false'. Refute it at one input. -/
def qcodeWordsWrong : ChangeSpec := { name := "qcodeWords", fn := fun _ => fun
  | [d1, d2, d3] => { results := [.lit (.bool false)], args := [d1, d2, d3] }
  | _ => none }
def QcodeWordsWrongFalsely : Prop := qcodeWordsRow.holds Try.pinned (OpenSpec.ofChange qcodeWordsWrong)

/-- 'babellaw03.QcodeUnused': WHATEVER THE INPUT: true; the input reads as it did. -/
def qcodeUnusedSpec : ChangeSpec := { name := "qcodeUnused", fn := fun _ => fun
  | [d] => { results := [.lit (.bool true)], args := [d] }
  | _ => none }
def qcodeUnusedRow : OpenClaim := { program := "ytdoanneelnelbaa", sum := "69add4712527ce9e81360465b86846a01470df07a9a58be87ba91386a4597eaa", func := "babel/babellaw03.QcodeUnused", spec := "qcodeUnused", unfollowed := true, recurses := true, apart := false }
def QcodeUnusedSaid : Prop := qcodeUnusedRow.holds Try.pinned (OpenSpec.ofChange qcodeUnusedSpec)

/-- ITS FALSE NEIGHBOUR: 'it returns false'. Refute it at one input. -/
def qcodeUnusedWrong : ChangeSpec := { name := "qcodeUnused", fn := fun _ => fun
  | [d] => { results := [.lit (.bool false)], args := [d] }
  | _ => none }
def QcodeUnusedWrongFalsely : Prop := qcodeUnusedRow.holds Try.pinned (OpenSpec.ofChange qcodeUnusedWrong)

/-- 'babellaw03.QcodeUnlisted': WHATEVER THE INPUT: true; the input reads as it did. -/
def qcodeUnlistedSpec : ChangeSpec := { name := "qcodeUnlisted", fn := fun _ => fun
  | [d] => { results := [.lit (.bool true)], args := [d] }
  | _ => none }
def qcodeUnlistedRow : OpenClaim := { program := "ytdoanneelnelbaa", sum := "69add4712527ce9e81360465b86846a01470df07a9a58be87ba91386a4597eaa", func := "babel/babellaw03.QcodeUnlisted", spec := "qcodeUnlisted", unfollowed := true, recurses := true, apart := false }
def QcodeUnlistedSaid : Prop := qcodeUnlistedRow.holds Try.pinned (OpenSpec.ofChange qcodeUnlistedSpec)

/-- ITS FALSE NEIGHBOUR: 'it returns false'. Refute it at one input. -/
def qcodeUnlistedWrong : ChangeSpec := { name := "qcodeUnlisted", fn := fun _ => fun
  | [d] => { results := [.lit (.bool false)], args := [d] }
  | _ => none }
def QcodeUnlistedWrongFalsely : Prop := qcodeUnlistedRow.holds Try.pinned (OpenSpec.ofChange qcodeUnlistedWrong)

/-- 'babellaw03.QcodeLimits': WHATEVER THE INPUT: true; the input reads as it did. -/
def qcodeLimitsSpec : ChangeSpec := { name := "qcodeLimits", fn := fun _ => fun
  | [d1, d2] => { results := [.lit (.bool true)], args := [d1, d2] }
  | _ => none }
def qcodeLimitsRow : OpenClaim := { program := "ytdoanneelnelbaa", sum := "69add4712527ce9e81360465b86846a01470df07a9a58be87ba91386a4597eaa", func := "babel/babellaw03.QcodeLimits", spec := "qcodeLimits", unfollowed := true, recurses := true, apart := false }
def QcodeLimitsSaid : Prop := qcodeLimitsRow.holds Try.pinned (OpenSpec.ofChange qcodeLimitsSpec)

/-- ITS FALSE NEIGHBOUR: 'it returns false'. Refute it at one input. -/
def qcodeLimitsWrong : ChangeSpec := { name := "qcodeLimits", fn := fun _ => fun
  | [d1, d2] => { results := [.lit (.bool false)], args := [d1, d2] }
  | _ => none }
def QcodeLimitsWrongFalsely : Prop := qcodeLimitsRow.holds Try.pinned (OpenSpec.ofChange qcodeLimitsWrong)

/-- 'babellaw03.QcodeOnce': WHATEVER THE INPUT: true; the input reads as it did. -/
def qcodeOnceSpec : ChangeSpec := { name := "qcodeOnce", fn := fun _ => fun
  | [d1, d2, d3] => { results := [.lit (.bool true)], args := [d1, d2, d3] }
  | _ => none }
def qcodeOnceRow : OpenClaim := { program := "ytdoanneelnelbaa", sum := "69add4712527ce9e81360465b86846a01470df07a9a58be87ba91386a4597eaa", func := "babel/babellaw03.QcodeOnce", spec := "qcodeOnce", unfollowed := true, recurses := true, apart := false }
def QcodeOnceSaid : Prop := qcodeOnceRow.holds Try.pinned (OpenSpec.ofChange qcodeOnceSpec)

/-- ITS FALSE NEIGHBOUR: 'it returns false'. Refute it at one input. -/
def qcodeOnceWrong : ChangeSpec := { name := "qcodeOnce", fn := fun _ => fun
  | [d1, d2, d3] => { results := [.lit (.bool false)], args := [d1, d2, d3] }
  | _ => none }
def QcodeOnceWrongFalsely : Prop := qcodeOnceRow.holds Try.pinned (OpenSpec.ofChange qcodeOnceWrong)

/-- 'babellaw03.QcodeTargets': WHATEVER THE INPUT: true; the input reads as it did. -/
def qcodeTargetsSpec : ChangeSpec := { name := "qcodeTargets", fn := fun _ => fun
  | [d1, d2, d3] => { results := [.lit (.bool true)], args := [d1, d2, d3] }
  | _ => none }
def qcodeTargetsRow : OpenClaim := { program := "ytdoanneelnelbaa", sum := "69add4712527ce9e81360465b86846a01470df07a9a58be87ba91386a4597eaa", func := "babel/babellaw03.QcodeTargets", spec := "qcodeTargets", unfollowed := true, recurses := true, apart := false }
def QcodeTargetsSaid : Prop := qcodeTargetsRow.holds Try.pinned (OpenSpec.ofChange qcodeTargetsSpec)

/-- ITS FALSE NEIGHBOUR: 'it returns false'. Refute it at one input. -/
def qcodeTargetsWrong : ChangeSpec := { name := "qcodeTargets", fn := fun _ => fun
  | [d1, d2, d3] => { results := [.lit (.bool false)], args := [d1, d2, d3] }
  | _ => none }
def QcodeTargetsWrongFalsely : Prop := qcodeTargetsRow.holds Try.pinned (OpenSpec.ofChange qcodeTargetsWrong)

/-- 'babellaw03.QcodeConsts': WHATEVER THE INPUT: true; the input reads as it did. -/
def qcodeConstsSpec : ChangeSpec := { name := "qcodeConsts", fn := fun _ => fun
  | [d1, d2] => { results := [.lit (.bool true)], args := [d1, d2] }
  | _ => none }
def qcodeConstsRow : OpenClaim := { program := "ytdoanneelnelbaa", sum := "69add4712527ce9e81360465b86846a01470df07a9a58be87ba91386a4597eaa", func := "babel/babellaw03.QcodeConsts", spec := "qcodeConsts", unfollowed := true, recurses := true, apart := false }
def QcodeConstsSaid : Prop := qcodeConstsRow.holds Try.pinned (OpenSpec.ofChange qcodeConstsSpec)

/-- ITS FALSE NEIGHBOUR: 'it returns false'. Refute it at one input. -/
def qcodeConstsWrong : ChangeSpec := { name := "qcodeConsts", fn := fun _ => fun
  | [d1, d2] => { results := [.lit (.bool false)], args := [d1, d2] }
  | _ => none }
def QcodeConstsWrongFalsely : Prop := qcodeConstsRow.holds Try.pinned (OpenSpec.ofChange qcodeConstsWrong)

/-- 'babellaw03.QcodeEnds': WHATEVER THE INPUT: true; the input reads as it did. -/
def qcodeEndsSpec : ChangeSpec := { name := "qcodeEnds", fn := fun _ => fun
  | [d1, d2, d3] => { results := [.lit (.bool true)], args := [d1, d2, d3] }
  | _ => none }
def qcodeEndsRow : OpenClaim := { program := "ytdoanneelnelbaa", sum := "69add4712527ce9e81360465b86846a01470df07a9a58be87ba91386a4597eaa", func := "babel/babellaw03.QcodeEnds", spec := "qcodeEnds", unfollowed := true, recurses := true, apart := false }
def QcodeEndsSaid : Prop := qcodeEndsRow.holds Try.pinned (OpenSpec.ofChange qcodeEndsSpec)

/-- ITS FALSE NEIGHBOUR: 'it returns false'. Refute it at one input. -/
def qcodeEndsWrong : ChangeSpec := { name := "qcodeEnds", fn := fun _ => fun
  | [d1, d2, d3] => { results := [.lit (.bool false)], args := [d1, d2, d3] }
  | _ => none }
def QcodeEndsWrongFalsely : Prop := qcodeEndsRow.holds Try.pinned (OpenSpec.ofChange qcodeEndsWrong)

/- THE SECOND FORM. 'bulk': how many values and letters a reading holds, each counted each time it is reached (what is shared counts as often as it is met; a slice's spare places count too). A statement '..UptoSaid' is the law's where the arguments, and the package variables that the reading takes, are together of bulk at most 1048576: NARROWER than '..Said'. Prove '..Said' where nothing that the law and all that it calls make is longer than what came in: it says more and counts as full. Else prove '..UptoSaid'. A law counts once. -/
mutual
def uptoBulk {H : Type} : DataW H → Nat
  | .lit (.string bytes) => bytes.length + 1
  | .lit _ => 1
  | .nil => 1
  | .ptr d => uptoBulk d + 1
  | .slice elems spare => uptoBulkAll elems + uptoBulkAll spare + 1
  | .agg parts => uptoBulkAll parts + 1
  | .iface _ d => uptoBulk d + 1
  | .map entries => uptoBulkEntries entries + 1
  | .held _ => 1
def uptoBulkAll {H : Type} : List (DataW H) → Nat
  | [] => 0
  | d :: r => uptoBulk d + uptoBulkAll r
def uptoBulkEntries {H : Type} : List (Lit × DataW H) → Nat
  | [] => 0
  | x :: r => uptoBulkEntry x + uptoBulkEntries r
def uptoBulkEntry {H : Type} : Lit × DataW H → Nat
  | (.string bytes, d) => bytes.length + uptoBulk d + 1
  | (_, d) => uptoBulk d + 1
 end
def uptoSmall : (H : Type) → List (DataW H) → Bool := fun _ ds => decide (uptoBulkAll ds ≤ 1048576)
def OpenSpec.upto (s : _root_.Go.ChangeSpec) : _root_.Go.OpenSpec := { _root_.Go.OpenSpec.ofChange s with cond := some uptoSmall }

/-- 'babellaw03.QcodeEncodes', WHERE WHAT IT READS IS OF BULK AT MOST 1048576: true; the input reads as it did. -/
def qcodeEncodesUptoRow : OpenClaim := { program := "ytdoanneelnelbaa", sum := "69add4712527ce9e81360465b86846a01470df07a9a58be87ba91386a4597eaa", func := "babel/babellaw03.QcodeEncodes", spec := "qcodeEncodes", unfollowed := true, recurses := true, apart := false, narrowed := true }
def QcodeEncodesUptoSaid : Prop := qcodeEncodesUptoRow.holds Try.pinned (OpenSpec.upto qcodeEncodesSpec)

/-- 'babellaw03.QcodeValid', WHERE WHAT IT READS IS OF BULK AT MOST 1048576: true; the input reads as it did. -/
def qcodeValidUptoRow : OpenClaim := { program := "ytdoanneelnelbaa", sum := "69add4712527ce9e81360465b86846a01470df07a9a58be87ba91386a4597eaa", func := "babel/babellaw03.QcodeValid", spec := "qcodeValid", unfollowed := true, recurses := true, apart := false, narrowed := true }
def QcodeValidUptoSaid : Prop := qcodeValidUptoRow.holds Try.pinned (OpenSpec.upto qcodeValidSpec)

/-- 'babellaw03.QcodeDecodes', WHERE WHAT IT READS IS OF BULK AT MOST 1048576: true; the input reads as it did. -/
def qcodeDecodesUptoRow : OpenClaim := { program := "ytdoanneelnelbaa", sum := "69add4712527ce9e81360465b86846a01470df07a9a58be87ba91386a4597eaa", func := "babel/babellaw03.QcodeDecodes", spec := "qcodeDecodes", unfollowed := true, recurses := true, apart := false, narrowed := true }
def QcodeDecodesUptoSaid : Prop := qcodeDecodesUptoRow.holds Try.pinned (OpenSpec.upto qcodeDecodesSpec)

/-- 'babellaw03.QcodeInverts', WHERE WHAT IT READS IS OF BULK AT MOST 1048576: true; the input reads as it did. -/
def qcodeInvertsUptoRow : OpenClaim := { program := "ytdoanneelnelbaa", sum := "69add4712527ce9e81360465b86846a01470df07a9a58be87ba91386a4597eaa", func := "babel/babellaw03.QcodeInverts", spec := "qcodeInverts", unfollowed := true, recurses := true, apart := false, narrowed := true }
def QcodeInvertsUptoSaid : Prop := qcodeInvertsUptoRow.holds Try.pinned (OpenSpec.upto qcodeInvertsSpec)

/-- 'babellaw03.QcodeWords', WHERE WHAT IT READS IS OF BULK AT MOST 1048576: true; the input reads as it did. -/
def qcodeWordsUptoRow : OpenClaim := { program := "ytdoanneelnelbaa", sum := "69add4712527ce9e81360465b86846a01470df07a9a58be87ba91386a4597eaa", func := "babel/babellaw03.QcodeWords", spec := "qcodeWords", unfollowed := true, recurses := true, apart := false, narrowed := true }
def QcodeWordsUptoSaid : Prop := qcodeWordsUptoRow.holds Try.pinned (OpenSpec.upto qcodeWordsSpec)

/-- 'babellaw03.QcodeUnused', WHERE WHAT IT READS IS OF BULK AT MOST 1048576: true; the input reads as it did. -/
def qcodeUnusedUptoRow : OpenClaim := { program := "ytdoanneelnelbaa", sum := "69add4712527ce9e81360465b86846a01470df07a9a58be87ba91386a4597eaa", func := "babel/babellaw03.QcodeUnused", spec := "qcodeUnused", unfollowed := true, recurses := true, apart := false, narrowed := true }
def QcodeUnusedUptoSaid : Prop := qcodeUnusedUptoRow.holds Try.pinned (OpenSpec.upto qcodeUnusedSpec)

/-- 'babellaw03.QcodeUnlisted', WHERE WHAT IT READS IS OF BULK AT MOST 1048576: true; the input reads as it did. -/
def qcodeUnlistedUptoRow : OpenClaim := { program := "ytdoanneelnelbaa", sum := "69add4712527ce9e81360465b86846a01470df07a9a58be87ba91386a4597eaa", func := "babel/babellaw03.QcodeUnlisted", spec := "qcodeUnlisted", unfollowed := true, recurses := true, apart := false, narrowed := true }
def QcodeUnlistedUptoSaid : Prop := qcodeUnlistedUptoRow.holds Try.pinned (OpenSpec.upto qcodeUnlistedSpec)

/-- 'babellaw03.QcodeLimits', WHERE WHAT IT READS IS OF BULK AT MOST 1048576: true; the input reads as it did. -/
def qcodeLimitsUptoRow : OpenClaim := { program := "ytdoanneelnelbaa", sum := "69add4712527ce9e81360465b86846a01470df07a9a58be87ba91386a4597eaa", func := "babel/babellaw03.QcodeLimits", spec := "qcodeLimits", unfollowed := true, recurses := true, apart := false, narrowed := true }
def QcodeLimitsUptoSaid : Prop := qcodeLimitsUptoRow.holds Try.pinned (OpenSpec.upto qcodeLimitsSpec)

/-- 'babellaw03.QcodeOnce', WHERE WHAT IT READS IS OF BULK AT MOST 1048576: true; the input reads as it did. -/
def qcodeOnceUptoRow : OpenClaim := { program := "ytdoanneelnelbaa", sum := "69add4712527ce9e81360465b86846a01470df07a9a58be87ba91386a4597eaa", func := "babel/babellaw03.QcodeOnce", spec := "qcodeOnce", unfollowed := true, recurses := true, apart := false, narrowed := true }
def QcodeOnceUptoSaid : Prop := qcodeOnceUptoRow.holds Try.pinned (OpenSpec.upto qcodeOnceSpec)

/-- 'babellaw03.QcodeTargets', WHERE WHAT IT READS IS OF BULK AT MOST 1048576: true; the input reads as it did. -/
def qcodeTargetsUptoRow : OpenClaim := { program := "ytdoanneelnelbaa", sum := "69add4712527ce9e81360465b86846a01470df07a9a58be87ba91386a4597eaa", func := "babel/babellaw03.QcodeTargets", spec := "qcodeTargets", unfollowed := true, recurses := true, apart := false, narrowed := true }
def QcodeTargetsUptoSaid : Prop := qcodeTargetsUptoRow.holds Try.pinned (OpenSpec.upto qcodeTargetsSpec)

/-- 'babellaw03.QcodeConsts', WHERE WHAT IT READS IS OF BULK AT MOST 1048576: true; the input reads as it did. -/
def qcodeConstsUptoRow : OpenClaim := { program := "ytdoanneelnelbaa", sum := "69add4712527ce9e81360465b86846a01470df07a9a58be87ba91386a4597eaa", func := "babel/babellaw03.QcodeConsts", spec := "qcodeConsts", unfollowed := true, recurses := true, apart := false, narrowed := true }
def QcodeConstsUptoSaid : Prop := qcodeConstsUptoRow.holds Try.pinned (OpenSpec.upto qcodeConstsSpec)

/-- 'babellaw03.QcodeEnds', WHERE WHAT IT READS IS OF BULK AT MOST 1048576: true; the input reads as it did. -/
def qcodeEndsUptoRow : OpenClaim := { program := "ytdoanneelnelbaa", sum := "69add4712527ce9e81360465b86846a01470df07a9a58be87ba91386a4597eaa", func := "babel/babellaw03.QcodeEnds", spec := "qcodeEnds", unfollowed := true, recurses := true, apart := false, narrowed := true }
def QcodeEndsUptoSaid : Prop := qcodeEndsUptoRow.holds Try.pinned (OpenSpec.upto qcodeEndsSpec)

end Rows
end Go.Proofs.Ytdoanneelnelbaa
