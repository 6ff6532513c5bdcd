/-
  No cell of these rows narrows 'for every input' (looked for: loops, veiled, ifaces, maps, wideKeys, modest, calm, conditions, laid).
  DERIVED. THE GIVEN ROWS OF THIS SEAT. 5 by the template 'for every input the law returns true; each argument reads behind the call as it read before'; 0 by the template 'total and deterministic' (their statements: YtdcbbkpdlcojfaaGreatTotals.lean).
  GIVEN WITH THE SEED: the statements are not yours to turn. If you find one false, say at which input.
  Laid BY PROGRAM, IN A SANDBOX (cutbox-rows.mjs): the forced cells as the released guide's own fill.sh prints them over the translation ca743e7776207b48… (all of the seat's roots in one cut). By AI agents, Wed Nov 11 2026. No macro, syntax, notation, axiom, sorry.
-/
import Derived.Test.YtdcbbkpdlcojfaaGreatChecked
import GoSem.Claim
import GoSem.ClaimJoined
import GoSem.ClaimMapViews
import Derived.JoinedTies
import Derived.KernelRfl
namespace Go.Proofs.YtdcbbkpdlcojfaaGreat
/- THE CELL 'sum', in the pinned program and in every row, IS THE sha256 OF THE DUMP (.gsa) THAT YtdcbbkpdlcojfaaGreatProg.lean LOADS. Nothing in Lean hashes anything: it is a label: what it is worth is what the hold of that sum in a sandbox is worth. -/
noncomputable def Tryz.pinned : Pinned := { name := "ytdcbbkpdlcojfaagreat", sum := "ca743e7776207b48925bdc7eaa810931f37d712ff593f668298170fabd42b2c0", checked := Tryz.checked }
namespace Rows
def none {H : Type} : Left H := { results := [], args := [] }

/-- 'babellaw09.EvalRuns': WHATEVER THE INPUT: true; the input reads as it did. -/
def evalRunsSpec : ChangeSpec := { name := "evalRuns", fn := fun _ => fun
  | [d1, d2, d3] => { results := [.lit (.bool true)], args := [d1, d2, d3] }
  | _ => none }
def evalRunsRow : OpenClaim := { program := "ytdcbbkpdlcojfaagreat", sum := "ca743e7776207b48925bdc7eaa810931f37d712ff593f668298170fabd42b2c0", func := "babel/babellaw09.EvalRuns", spec := "evalRuns", unfollowed := true, recurses := true, apart := false }
def EvalRunsSaid : Prop := evalRunsRow.holds Tryz.pinned (OpenSpec.ofChange evalRunsSpec)

/-- ITS FALSE NEIGHBOUR: 'it returns false'. Refute it at one input. -/
def evalRunsWrong : ChangeSpec := { name := "evalRuns", fn := fun _ => fun
  | [d1, d2, d3] => { results := [.lit (.bool false)], args := [d1, d2, d3] }
  | _ => none }
def EvalRunsWrongFalsely : Prop := evalRunsRow.holds Tryz.pinned (OpenSpec.ofChange evalRunsWrong)

/-- 'babellaw09.EvalSpoilt': WHATEVER THE INPUT: true; the input reads as it did. -/
def evalSpoiltSpec : ChangeSpec := { name := "evalSpoilt", fn := fun _ => fun
  | [d1, d2, d3] => { results := [.lit (.bool true)], args := [d1, d2, d3] }
  | _ => none }
def evalSpoiltRow : OpenClaim := { program := "ytdcbbkpdlcojfaagreat", sum := "ca743e7776207b48925bdc7eaa810931f37d712ff593f668298170fabd42b2c0", func := "babel/babellaw09.EvalSpoilt", spec := "evalSpoilt", unfollowed := true, recurses := true, apart := false }
def EvalSpoiltSaid : Prop := evalSpoiltRow.holds Tryz.pinned (OpenSpec.ofChange evalSpoiltSpec)

/-- ITS FALSE NEIGHBOUR: 'it returns false'. Refute it at one input. -/
def evalSpoiltWrong : ChangeSpec := { name := "evalSpoilt", fn := fun _ => fun
  | [d1, d2, d3] => { results := [.lit (.bool false)], args := [d1, d2, d3] }
  | _ => none }
def EvalSpoiltWrongFalsely : Prop := evalSpoiltRow.holds Tryz.pinned (OpenSpec.ofChange evalSpoiltWrong)

/-- 'babellaw09.EvalUnroll': WHATEVER THE INPUT: true; the input reads as it did. -/
def evalUnrollSpec : ChangeSpec := { name := "evalUnroll", fn := fun _ => fun
  | [d1, d2] => { results := [.lit (.bool true)], args := [d1, d2] }
  | _ => none }
def evalUnrollRow : OpenClaim := { program := "ytdcbbkpdlcojfaagreat", sum := "ca743e7776207b48925bdc7eaa810931f37d712ff593f668298170fabd42b2c0", func := "babel/babellaw09.EvalUnroll", spec := "evalUnroll", unfollowed := true, recurses := true, apart := false }
def EvalUnrollSaid : Prop := evalUnrollRow.holds Tryz.pinned (OpenSpec.ofChange evalUnrollSpec)

/-- ITS FALSE NEIGHBOUR: 'it returns false'. Refute it at one input. -/
def evalUnrollWrong : ChangeSpec := { name := "evalUnroll", fn := fun _ => fun
  | [d1, d2] => { results := [.lit (.bool false)], args := [d1, d2] }
  | _ => none }
def EvalUnrollWrongFalsely : Prop := evalUnrollRow.holds Tryz.pinned (OpenSpec.ofChange evalUnrollWrong)

/-- 'babellaw09.EvalConstants': WHATEVER THE INPUT: true; the input reads as it did. -/
def evalConstantsSpec : ChangeSpec := { name := "evalConstants", fn := fun _ => fun
  | [d1, d2] => { results := [.lit (.bool true)], args := [d1, d2] }
  | _ => none }
def evalConstantsRow : OpenClaim := { program := "ytdcbbkpdlcojfaagreat", sum := "ca743e7776207b48925bdc7eaa810931f37d712ff593f668298170fabd42b2c0", func := "babel/babellaw09.EvalConstants", spec := "evalConstants", unfollowed := true, recurses := true, apart := false }
def EvalConstantsSaid : Prop := evalConstantsRow.holds Tryz.pinned (OpenSpec.ofChange evalConstantsSpec)

/-- ITS FALSE NEIGHBOUR: 'it returns false'. Refute it at one input. -/
def evalConstantsWrong : ChangeSpec := { name := "evalConstants", fn := fun _ => fun
  | [d1, d2] => { results := [.lit (.bool false)], args := [d1, d2] }
  | _ => none }
def EvalConstantsWrongFalsely : Prop := evalConstantsRow.holds Tryz.pinned (OpenSpec.ofChange evalConstantsWrong)

/-- 'babellaw09.EvalCalls': WHATEVER THE INPUT: true; the input reads as it did. -/
def evalCallsSpec : ChangeSpec := { name := "evalCalls", fn := fun _ => fun
  | [d1, d2, d3] => { results := [.lit (.bool true)], args := [d1, d2, d3] }
  | _ => none }
def evalCallsRow : OpenClaim := { program := "ytdcbbkpdlcojfaagreat", sum := "ca743e7776207b48925bdc7eaa810931f37d712ff593f668298170fabd42b2c0", func := "babel/babellaw09.EvalCalls", spec := "evalCalls", unfollowed := true, recurses := true, apart := false }
def EvalCallsSaid : Prop := evalCallsRow.holds Tryz.pinned (OpenSpec.ofChange evalCallsSpec)

/-- ITS FALSE NEIGHBOUR: 'it returns false'. Refute it at one input. -/
def evalCallsWrong : ChangeSpec := { name := "evalCalls", fn := fun _ => fun
  | [d1, d2, d3] => { results := [.lit (.bool false)], args := [d1, d2, d3] }
  | _ => none }
def EvalCallsWrongFalsely : Prop := evalCallsRow.holds Tryz.pinned (OpenSpec.ofChange evalCallsWrong)

/- THE SECOND FORM. 'bulk': how many values and letters a reading holds, each counted each time it is reached (what is shared counts as often as it is met; a slice's spare places count too). A statement '..UptoSaid' is the law's where the arguments, and the package variables that the reading takes, are together of bulk at most 1048576: NARROWER than '..Said'. Prove '..Said' where nothing that the law and all that it calls make is longer than what came in: it says more and counts as full. Else prove '..UptoSaid'. A law counts once. -/
mutual
def uptoBulk {H : Type} : DataW H → Nat
  | .lit (.string bytes) => bytes.length + 1
  | .lit _ => 1
  | .nil => 1
  | .ptr d => uptoBulk d + 1
  | .slice elems spare => uptoBulkAll elems + uptoBulkAll spare + 1
  | .agg parts => uptoBulkAll parts + 1
  | .iface _ d => uptoBulk d + 1
  | .map entries => uptoBulkEntries entries + 1
  | .held _ => 1
def uptoBulkAll {H : Type} : List (DataW H) → Nat
  | [] => 0
  | d :: r => uptoBulk d + uptoBulkAll r
def uptoBulkEntries {H : Type} : List (Lit × DataW H) → Nat
  | [] => 0
  | x :: r => uptoBulkEntry x + uptoBulkEntries r
def uptoBulkEntry {H : Type} : Lit × DataW H → Nat
  | (.string bytes, d) => bytes.length + uptoBulk d + 1
  | (_, d) => uptoBulk d + 1
 end
def uptoSmall : (H : Type) → List (DataW H) → Bool := fun _ ds => decide (uptoBulkAll ds ≤ 1048576)
def OpenSpec.upto (s : _root_.Go.ChangeSpec) : _root_.Go.OpenSpec := { _root_.Go.OpenSpec.ofChange s with cond := some uptoSmall }

/-- 'babellaw09.EvalRuns', WHERE WHAT IT READS IS OF BULK AT MOST 1048576: true; the input reads as it did. -/
def evalRunsUptoRow : OpenClaim := { program := "ytdcbbkpdlcojfaagreat", sum := "ca743e7776207b48925bdc7eaa810931f37d712ff593f668298170fabd42b2c0", func := "babel/babellaw09.EvalRuns", spec := "evalRuns", unfollowed := true, recurses := true, apart := false, narrowed := true }
def EvalRunsUptoSaid : Prop := evalRunsUptoRow.holds Tryz.pinned (OpenSpec.upto evalRunsSpec)

/-- 'babellaw09.EvalSpoilt', WHERE WHAT IT READS IS OF BULK AT MOST 1048576: true; the input reads as it did. -/
def evalSpoiltUptoRow : OpenClaim := { program := "ytdcbbkpdlcojfaagreat", sum := "ca743e7776207b48925bdc7eaa810931f37d712ff593f668298170fabd42b2c0", func := "babel/babellaw09.EvalSpoilt", spec := "evalSpoilt", unfollowed := true, recurses := true, apart := false, narrowed := true }
def EvalSpoiltUptoSaid : Prop := evalSpoiltUptoRow.holds Tryz.pinned (OpenSpec.upto evalSpoiltSpec)

/-- 'babellaw09.EvalUnroll', WHERE WHAT IT READS IS OF BULK AT MOST 1048576: true; the input reads as it did. -/
def evalUnrollUptoRow : OpenClaim := { program := "ytdcbbkpdlcojfaagreat", sum := "ca743e7776207b48925bdc7eaa810931f37d712ff593f668298170fabd42b2c0", func := "babel/babellaw09.EvalUnroll", spec := "evalUnroll", unfollowed := true, recurses := true, apart := false, narrowed := true }
def EvalUnrollUptoSaid : Prop := evalUnrollUptoRow.holds Tryz.pinned (OpenSpec.upto evalUnrollSpec)

/-- 'babellaw09.EvalConstants', WHERE WHAT IT READS IS OF BULK AT MOST 1048576: true; the input reads as it did. -/
def evalConstantsUptoRow : OpenClaim := { program := "ytdcbbkpdlcojfaagreat", sum := "ca743e7776207b48925bdc7eaa810931f37d712ff593f668298170fabd42b2c0", func := "babel/babellaw09.EvalConstants", spec := "evalConstants", unfollowed := true, recurses := true, apart := false, narrowed := true }
def EvalConstantsUptoSaid : Prop := evalConstantsUptoRow.holds Tryz.pinned (OpenSpec.upto evalConstantsSpec)

/-- 'babellaw09.EvalCalls', WHERE WHAT IT READS IS OF BULK AT MOST 1048576: true; the input reads as it did. -/
def evalCallsUptoRow : OpenClaim := { program := "ytdcbbkpdlcojfaagreat", sum := "ca743e7776207b48925bdc7eaa810931f37d712ff593f668298170fabd42b2c0", func := "babel/babellaw09.EvalCalls", spec := "evalCalls", unfollowed := true, recurses := true, apart := false, narrowed := true }
def EvalCallsUptoSaid : Prop := evalCallsUptoRow.holds Tryz.pinned (OpenSpec.upto evalCallsSpec)

end Rows
end Go.Proofs.YtdcbbkpdlcojfaaGreat
