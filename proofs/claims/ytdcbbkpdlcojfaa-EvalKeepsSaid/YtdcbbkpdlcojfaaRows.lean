/-
  No cell of these rows narrows 'for every input' (looked for: loops, veiled, ifaces, maps, wideKeys, modest, calm, conditions, laid).
  DERIVED. THE GIVEN ROWS OF THIS SEAT. 9 by the template 'for every input the law returns true; each argument reads behind the call as it read before'; 0 by the template 'total and deterministic' (their statements: YtdcbbkpdlcojfaaTotals.lean).
  GIVEN WITH THE SEED: the statements are not yours to turn. If you find one false, say at which input.
  Laid BY PROGRAM, IN A SANDBOX (cutbox-rows.mjs): the forced cells as the released guide's own fill.sh prints them over the translation 7bb31d7be13d0acf… (all of the seat's roots in one cut). By AI agents, Wed Nov 11 2026. No macro, syntax, notation, axiom, sorry.
-/
import Derived.Test.YtdcbbkpdlcojfaaChecked
import GoSem.Claim
import GoSem.ClaimJoined
import GoSem.ClaimMapViews
import Derived.JoinedTies
import Derived.KernelRfl
namespace Go.Proofs.Ytdcbbkpdlcojfaa
/- THE CELL 'sum', in the pinned program and in every row, IS THE sha256 OF THE DUMP (.gsa) THAT YtdcbbkpdlcojfaaProg.lean LOADS. Nothing in Lean hashes anything: it is a label: what it is worth is what the hold of that sum in a sandbox is worth. -/
noncomputable def Try.pinned : Pinned := { name := "ytdcbbkpdlcojfaa", sum := "7bb31d7be13d0acf88f12a6e8b4b608fd812536dde7c949223f004dd38cfde86", checked := Try.checked }
namespace Rows
def none {H : Type} : Left H := { results := [], args := [] }

/-- 'babellaw09.EvalOperators': WHATEVER THE INPUT: true; the input reads as it did. -/
def evalOperatorsSpec : ChangeSpec := { name := "evalOperators", fn := fun _ => fun
  | [d1, d2, d3] => { results := [.lit (.bool true)], args := [d1, d2, d3] }
  | _ => none }
def evalOperatorsRow : OpenClaim := { program := "ytdcbbkpdlcojfaa", sum := "7bb31d7be13d0acf88f12a6e8b4b608fd812536dde7c949223f004dd38cfde86", func := "babel/babellaw09.EvalOperators", spec := "evalOperators", unfollowed := true, recurses := true, apart := false }
def EvalOperatorsSaid : Prop := evalOperatorsRow.holds Try.pinned (OpenSpec.ofChange evalOperatorsSpec)

/-- ITS FALSE NEIGHBOUR: 'it returns false'. Refute it at one input. -/
def evalOperatorsWrong : ChangeSpec := { name := "evalOperators", fn := fun _ => fun
  | [d1, d2, d3] => { results := [.lit (.bool false)], args := [d1, d2, d3] }
  | _ => none }
def EvalOperatorsWrongFalsely : Prop := evalOperatorsRow.holds Try.pinned (OpenSpec.ofChange evalOperatorsWrong)

/-- 'babellaw09.EvalIdentities': WHATEVER THE INPUT: true; the input reads as it did. -/
def evalIdentitiesSpec : ChangeSpec := { name := "evalIdentities", fn := fun _ => fun
  | [d1, d2] => { results := [.lit (.bool true)], args := [d1, d2] }
  | _ => none }
def evalIdentitiesRow : OpenClaim := { program := "ytdcbbkpdlcojfaa", sum := "7bb31d7be13d0acf88f12a6e8b4b608fd812536dde7c949223f004dd38cfde86", func := "babel/babellaw09.EvalIdentities", spec := "evalIdentities", unfollowed := true, recurses := true, apart := false }
def EvalIdentitiesSaid : Prop := evalIdentitiesRow.holds Try.pinned (OpenSpec.ofChange evalIdentitiesSpec)

/-- ITS FALSE NEIGHBOUR: 'it returns false'. Refute it at one input. -/
def evalIdentitiesWrong : ChangeSpec := { name := "evalIdentities", fn := fun _ => fun
  | [d1, d2] => { results := [.lit (.bool false)], args := [d1, d2] }
  | _ => none }
def EvalIdentitiesWrongFalsely : Prop := evalIdentitiesRow.holds Try.pinned (OpenSpec.ofChange evalIdentitiesWrong)

/-- 'babellaw09.EvalFuel': WHATEVER THE INPUT: true; the input reads as it did. -/
def evalFuelSpec : ChangeSpec := { name := "evalFuel", fn := fun _ => fun
  | [d1, d2, d3] => { results := [.lit (.bool true)], args := [d1, d2, d3] }
  | _ => none }
def evalFuelRow : OpenClaim := { program := "ytdcbbkpdlcojfaa", sum := "7bb31d7be13d0acf88f12a6e8b4b608fd812536dde7c949223f004dd38cfde86", func := "babel/babellaw09.EvalFuel", spec := "evalFuel", unfollowed := true, recurses := true, apart := false }
def EvalFuelSaid : Prop := evalFuelRow.holds Try.pinned (OpenSpec.ofChange evalFuelSpec)

/-- ITS FALSE NEIGHBOUR: 'it returns false'. Refute it at one input. -/
def evalFuelWrong : ChangeSpec := { name := "evalFuel", fn := fun _ => fun
  | [d1, d2, d3] => { results := [.lit (.bool false)], args := [d1, d2, d3] }
  | _ => none }
def EvalFuelWrongFalsely : Prop := evalFuelRow.holds Try.pinned (OpenSpec.ofChange evalFuelWrong)

/-- 'babellaw09.EvalUnits': WHATEVER THE INPUT: true; the input reads as it did. -/
def evalUnitsSpec : ChangeSpec := { name := "evalUnits", fn := fun _ => fun
  | [d] => { results := [.lit (.bool true)], args := [d] }
  | _ => none }
def evalUnitsRow : OpenClaim := { program := "ytdcbbkpdlcojfaa", sum := "7bb31d7be13d0acf88f12a6e8b4b608fd812536dde7c949223f004dd38cfde86", func := "babel/babellaw09.EvalUnits", spec := "evalUnits", unfollowed := true, recurses := true, apart := false }
def EvalUnitsSaid : Prop := evalUnitsRow.holds Try.pinned (OpenSpec.ofChange evalUnitsSpec)

/-- ITS FALSE NEIGHBOUR: 'it returns false'. Refute it at one input. -/
def evalUnitsWrong : ChangeSpec := { name := "evalUnits", fn := fun _ => fun
  | [d] => { results := [.lit (.bool false)], args := [d] }
  | _ => none }
def EvalUnitsWrongFalsely : Prop := evalUnitsRow.holds Try.pinned (OpenSpec.ofChange evalUnitsWrong)

/-- 'babellaw09.EvalInputs': WHATEVER THE INPUT: true; the input reads as it did. -/
def evalInputsSpec : ChangeSpec := { name := "evalInputs", fn := fun _ => fun
  | [d1, d2, d3] => { results := [.lit (.bool true)], args := [d1, d2, d3] }
  | _ => none }
def evalInputsRow : OpenClaim := { program := "ytdcbbkpdlcojfaa", sum := "7bb31d7be13d0acf88f12a6e8b4b608fd812536dde7c949223f004dd38cfde86", func := "babel/babellaw09.EvalInputs", spec := "evalInputs", unfollowed := true, recurses := true, apart := false }
def EvalInputsSaid : Prop := evalInputsRow.holds Try.pinned (OpenSpec.ofChange evalInputsSpec)

/-- ITS FALSE NEIGHBOUR: 'it returns false'. Refute it at one input. -/
def evalInputsWrong : ChangeSpec := { name := "evalInputs", fn := fun _ => fun
  | [d1, d2, d3] => { results := [.lit (.bool false)], args := [d1, d2, d3] }
  | _ => none }
def EvalInputsWrongFalsely : Prop := evalInputsRow.holds Try.pinned (OpenSpec.ofChange evalInputsWrong)

/-- 'babellaw09.EvalDepth': WHATEVER THE INPUT: true; the input reads as it did. -/
def evalDepthSpec : ChangeSpec := { name := "evalDepth", fn := fun _ => fun
  | [d] => { results := [.lit (.bool true)], args := [d] }
  | _ => none }
def evalDepthRow : OpenClaim := { program := "ytdcbbkpdlcojfaa", sum := "7bb31d7be13d0acf88f12a6e8b4b608fd812536dde7c949223f004dd38cfde86", func := "babel/babellaw09.EvalDepth", spec := "evalDepth", unfollowed := true, recurses := true, apart := false }
def EvalDepthSaid : Prop := evalDepthRow.holds Try.pinned (OpenSpec.ofChange evalDepthSpec)

/-- ITS FALSE NEIGHBOUR: 'it returns false'. Refute it at one input. -/
def evalDepthWrong : ChangeSpec := { name := "evalDepth", fn := fun _ => fun
  | [d] => { results := [.lit (.bool false)], args := [d] }
  | _ => none }
def EvalDepthWrongFalsely : Prop := evalDepthRow.holds Try.pinned (OpenSpec.ofChange evalDepthWrong)

/-- 'babellaw09.EvalPrefix': WHATEVER THE INPUT: true; the input reads as it did. -/
def evalPrefixSpec : ChangeSpec := { name := "evalPrefix", fn := fun _ => fun
  | [d1, d2, d3] => { results := [.lit (.bool true)], args := [d1, d2, d3] }
  | _ => none }
def evalPrefixRow : OpenClaim := { program := "ytdcbbkpdlcojfaa", sum := "7bb31d7be13d0acf88f12a6e8b4b608fd812536dde7c949223f004dd38cfde86", func := "babel/babellaw09.EvalPrefix", spec := "evalPrefix", unfollowed := true, recurses := true, apart := false }
def EvalPrefixSaid : Prop := evalPrefixRow.holds Try.pinned (OpenSpec.ofChange evalPrefixSpec)

/-- ITS FALSE NEIGHBOUR: 'it returns false'. Refute it at one input. -/
def evalPrefixWrong : ChangeSpec := { name := "evalPrefix", fn := fun _ => fun
  | [d1, d2, d3] => { results := [.lit (.bool false)], args := [d1, d2, d3] }
  | _ => none }
def EvalPrefixWrongFalsely : Prop := evalPrefixRow.holds Try.pinned (OpenSpec.ofChange evalPrefixWrong)

/-- 'babellaw09.EvalMem': WHATEVER THE INPUT: true; the input reads as it did. -/
def evalMemSpec : ChangeSpec := { name := "evalMem", fn := fun _ => fun
  | [d] => { results := [.lit (.bool true)], args := [d] }
  | _ => none }
def evalMemRow : OpenClaim := { program := "ytdcbbkpdlcojfaa", sum := "7bb31d7be13d0acf88f12a6e8b4b608fd812536dde7c949223f004dd38cfde86", func := "babel/babellaw09.EvalMem", spec := "evalMem", unfollowed := true, recurses := true, apart := false }
def EvalMemSaid : Prop := evalMemRow.holds Try.pinned (OpenSpec.ofChange evalMemSpec)

/-- ITS FALSE NEIGHBOUR: 'it returns false'. Refute it at one input. -/
def evalMemWrong : ChangeSpec := { name := "evalMem", fn := fun _ => fun
  | [d] => { results := [.lit (.bool false)], args := [d] }
  | _ => none }
def EvalMemWrongFalsely : Prop := evalMemRow.holds Try.pinned (OpenSpec.ofChange evalMemWrong)

/-- 'babellaw09.EvalKeeps': WHATEVER THE INPUT: true; the input reads as it did. -/
def evalKeepsSpec : ChangeSpec := { name := "evalKeeps", fn := fun _ => fun
  | [d1, d2, d3] => { results := [.lit (.bool true)], args := [d1, d2, d3] }
  | _ => none }
def evalKeepsRow : OpenClaim := { program := "ytdcbbkpdlcojfaa", sum := "7bb31d7be13d0acf88f12a6e8b4b608fd812536dde7c949223f004dd38cfde86", func := "babel/babellaw09.EvalKeeps", spec := "evalKeeps", unfollowed := true, recurses := true, apart := false }
def EvalKeepsSaid : Prop := evalKeepsRow.holds Try.pinned (OpenSpec.ofChange evalKeepsSpec)

/-- ITS FALSE NEIGHBOUR: 'it returns false'. Refute it at one input. -/
def evalKeepsWrong : ChangeSpec := { name := "evalKeeps", fn := fun _ => fun
  | [d1, d2, d3] => { results := [.lit (.bool false)], args := [d1, d2, d3] }
  | _ => none }
def EvalKeepsWrongFalsely : Prop := evalKeepsRow.holds Try.pinned (OpenSpec.ofChange evalKeepsWrong)

/- THE SECOND FORM. 'bulk': how many values and letters a reading holds, each counted each time it is reached (what is shared counts as often as it is met; a slice's spare places count too). A statement '..UptoSaid' is the law's where the arguments, and the package variables that the reading takes, are together of bulk at most 1048576: NARROWER than '..Said'. Prove '..Said' where nothing that the law and all that it calls make is longer than what came in: it says more and counts as full. Else prove '..UptoSaid'. A law counts once. -/
mutual
def uptoBulk {H : Type} : DataW H → Nat
  | .lit (.string bytes) => bytes.length + 1
  | .lit _ => 1
  | .nil => 1
  | .ptr d => uptoBulk d + 1
  | .slice elems spare => uptoBulkAll elems + uptoBulkAll spare + 1
  | .agg parts => uptoBulkAll parts + 1
  | .iface _ d => uptoBulk d + 1
  | .map entries => uptoBulkEntries entries + 1
  | .held _ => 1
def uptoBulkAll {H : Type} : List (DataW H) → Nat
  | [] => 0
  | d :: r => uptoBulk d + uptoBulkAll r
def uptoBulkEntries {H : Type} : List (Lit × DataW H) → Nat
  | [] => 0
  | x :: r => uptoBulkEntry x + uptoBulkEntries r
def uptoBulkEntry {H : Type} : Lit × DataW H → Nat
  | (.string bytes, d) => bytes.length + uptoBulk d + 1
  | (_, d) => uptoBulk d + 1
 end
def uptoSmall : (H : Type) → List (DataW H) → Bool := fun _ ds => decide (uptoBulkAll ds ≤ 1048576)
def OpenSpec.upto (s : _root_.Go.ChangeSpec) : _root_.Go.OpenSpec := { _root_.Go.OpenSpec.ofChange s with cond := some uptoSmall }

/-- 'babellaw09.EvalOperators', WHERE WHAT IT READS IS OF BULK AT MOST 1048576: true; the input reads as it did. -/
def evalOperatorsUptoRow : OpenClaim := { program := "ytdcbbkpdlcojfaa", sum := "7bb31d7be13d0acf88f12a6e8b4b608fd812536dde7c949223f004dd38cfde86", func := "babel/babellaw09.EvalOperators", spec := "evalOperators", unfollowed := true, recurses := true, apart := false, narrowed := true }
def EvalOperatorsUptoSaid : Prop := evalOperatorsUptoRow.holds Try.pinned (OpenSpec.upto evalOperatorsSpec)

/-- 'babellaw09.EvalIdentities', WHERE WHAT IT READS IS OF BULK AT MOST 1048576: true; the input reads as it did. -/
def evalIdentitiesUptoRow : OpenClaim := { program := "ytdcbbkpdlcojfaa", sum := "7bb31d7be13d0acf88f12a6e8b4b608fd812536dde7c949223f004dd38cfde86", func := "babel/babellaw09.EvalIdentities", spec := "evalIdentities", unfollowed := true, recurses := true, apart := false, narrowed := true }
def EvalIdentitiesUptoSaid : Prop := evalIdentitiesUptoRow.holds Try.pinned (OpenSpec.upto evalIdentitiesSpec)

/-- 'babellaw09.EvalFuel', WHERE WHAT IT READS IS OF BULK AT MOST 1048576: true; the input reads as it did. -/
def evalFuelUptoRow : OpenClaim := { program := "ytdcbbkpdlcojfaa", sum := "7bb31d7be13d0acf88f12a6e8b4b608fd812536dde7c949223f004dd38cfde86", func := "babel/babellaw09.EvalFuel", spec := "evalFuel", unfollowed := true, recurses := true, apart := false, narrowed := true }
def EvalFuelUptoSaid : Prop := evalFuelUptoRow.holds Try.pinned (OpenSpec.upto evalFuelSpec)

/-- 'babellaw09.EvalUnits', WHERE WHAT IT READS IS OF BULK AT MOST 1048576: true; the input reads as it did. -/
def evalUnitsUptoRow : OpenClaim := { program := "ytdcbbkpdlcojfaa", sum := "7bb31d7be13d0acf88f12a6e8b4b608fd812536dde7c949223f004dd38cfde86", func := "babel/babellaw09.EvalUnits", spec := "evalUnits", unfollowed := true, recurses := true, apart := false, narrowed := true }
def EvalUnitsUptoSaid : Prop := evalUnitsUptoRow.holds Try.pinned (OpenSpec.upto evalUnitsSpec)

/-- 'babellaw09.EvalInputs', WHERE WHAT IT READS IS OF BULK AT MOST 1048576: true; the input reads as it did. -/
def evalInputsUptoRow : OpenClaim := { program := "ytdcbbkpdlcojfaa", sum := "7bb31d7be13d0acf88f12a6e8b4b608fd812536dde7c949223f004dd38cfde86", func := "babel/babellaw09.EvalInputs", spec := "evalInputs", unfollowed := true, recurses := true, apart := false, narrowed := true }
def EvalInputsUptoSaid : Prop := evalInputsUptoRow.holds Try.pinned (OpenSpec.upto evalInputsSpec)

/-- 'babellaw09.EvalDepth', WHERE WHAT IT READS IS OF BULK AT MOST 1048576: true; the input reads as it did. -/
def evalDepthUptoRow : OpenClaim := { program := "ytdcbbkpdlcojfaa", sum := "7bb31d7be13d0acf88f12a6e8b4b608fd812536dde7c949223f004dd38cfde86", func := "babel/babellaw09.EvalDepth", spec := "evalDepth", unfollowed := true, recurses := true, apart := false, narrowed := true }
def EvalDepthUptoSaid : Prop := evalDepthUptoRow.holds Try.pinned (OpenSpec.upto evalDepthSpec)

/-- 'babellaw09.EvalPrefix', WHERE WHAT IT READS IS OF BULK AT MOST 1048576: true; the input reads as it did. -/
def evalPrefixUptoRow : OpenClaim := { program := "ytdcbbkpdlcojfaa", sum := "7bb31d7be13d0acf88f12a6e8b4b608fd812536dde7c949223f004dd38cfde86", func := "babel/babellaw09.EvalPrefix", spec := "evalPrefix", unfollowed := true, recurses := true, apart := false, narrowed := true }
def EvalPrefixUptoSaid : Prop := evalPrefixUptoRow.holds Try.pinned (OpenSpec.upto evalPrefixSpec)

/-- 'babellaw09.EvalMem', WHERE WHAT IT READS IS OF BULK AT MOST 1048576: true; the input reads as it did. -/
def evalMemUptoRow : OpenClaim := { program := "ytdcbbkpdlcojfaa", sum := "7bb31d7be13d0acf88f12a6e8b4b608fd812536dde7c949223f004dd38cfde86", func := "babel/babellaw09.EvalMem", spec := "evalMem", unfollowed := true, recurses := true, apart := false, narrowed := true }
def EvalMemUptoSaid : Prop := evalMemUptoRow.holds Try.pinned (OpenSpec.upto evalMemSpec)

/-- 'babellaw09.EvalKeeps', WHERE WHAT IT READS IS OF BULK AT MOST 1048576: true; the input reads as it did. -/
def evalKeepsUptoRow : OpenClaim := { program := "ytdcbbkpdlcojfaa", sum := "7bb31d7be13d0acf88f12a6e8b4b608fd812536dde7c949223f004dd38cfde86", func := "babel/babellaw09.EvalKeeps", spec := "evalKeeps", unfollowed := true, recurses := true, apart := false, narrowed := true }
def EvalKeepsUptoSaid : Prop := evalKeepsUptoRow.holds Try.pinned (OpenSpec.upto evalKeepsSpec)

end Rows
end Go.Proofs.Ytdcbbkpdlcojfaa
