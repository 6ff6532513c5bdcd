/-
  No cell of these rows narrows 'for every input' (looked for: loops, veiled, ifaces, maps, wideKeys, modest, calm, conditions, laid).
  DERIVED. THE GIVEN ROWS OF THIS SEAT. 9 by the template 'for every input the law returns true; each argument reads behind the call as it read before'; 0 by the template 'total and deterministic' (their statements: YtedmdgbmdplifaaGreatTotals.lean).
  GIVEN WITH THE SEED: the statements are not yours to turn. If you find one false, say at which input.
  Laid BY PROGRAM, IN A SANDBOX (cutbox-rows.mjs): the forced cells as the released guide's own fill.sh prints them over the translation 0c4c0ac571193bd5… (all of the seat's roots in one cut). By AI agents, Wed Nov 11 2026. No macro, syntax, notation, axiom, sorry.
-/
import Derived.Test.YtedmdgbmdplifaaGreatChecked
import GoSem.Claim
import GoSem.ClaimJoined
import GoSem.ClaimMapViews
import Derived.JoinedTies
import Derived.KernelRfl
namespace Go.Proofs.YtedmdgbmdplifaaGreat
/- THE CELL 'sum', in the pinned program and in every row, IS THE sha256 OF THE DUMP (.gsa) THAT YtedmdgbmdplifaaGreatProg.lean LOADS. Nothing in Lean hashes anything: it is a label: what it is worth is what the hold of that sum in a sandbox is worth. -/
noncomputable def Tryz.pinned : Pinned := { name := "ytedmdgbmdplifaagreat", sum := "0c4c0ac571193bd5f7f3d8f1884fe72248a80fe7fc57ad063ae2898ac4f910ca", checked := Tryz.checked }
namespace Rows
def none {H : Type} : Left H := { results := [], args := [] }

/-- 'babellaw11.QgenErrors': WHATEVER THE INPUT: true; the input reads as it did. -/
def qgenErrorsSpec : ChangeSpec := { name := "qgenErrors", fn := fun _ => fun
  | [d1, d2, d3] => { results := [.lit (.bool true)], args := [d1, d2, d3] }
  | _ => none }
def qgenErrorsRow : OpenClaim := { program := "ytedmdgbmdplifaagreat", sum := "0c4c0ac571193bd5f7f3d8f1884fe72248a80fe7fc57ad063ae2898ac4f910ca", func := "babel/babellaw11.QgenErrors", spec := "qgenErrors", inPlace := ["internal/abi.NoEscape"], unfollowed := true, recurses := true, apart := false }
def QgenErrorsSaid : Prop := qgenErrorsRow.holds Tryz.pinned (OpenSpec.ofChange qgenErrorsSpec)

/-- ITS FALSE NEIGHBOUR: 'it returns false'. Refute it at one input. -/
def qgenErrorsWrong : ChangeSpec := { name := "qgenErrors", fn := fun _ => fun
  | [d1, d2, d3] => { results := [.lit (.bool false)], args := [d1, d2, d3] }
  | _ => none }
def QgenErrorsWrongFalsely : Prop := qgenErrorsRow.holds Tryz.pinned (OpenSpec.ofChange qgenErrorsWrong)

/-- 'babellaw11.QgenFits': WHATEVER THE INPUT: true; the input reads as it did. -/
def qgenFitsSpec : ChangeSpec := { name := "qgenFits", fn := fun _ => fun
  | [d] => { results := [.lit (.bool true)], args := [d] }
  | _ => none }
def qgenFitsRow : OpenClaim := { program := "ytedmdgbmdplifaagreat", sum := "0c4c0ac571193bd5f7f3d8f1884fe72248a80fe7fc57ad063ae2898ac4f910ca", func := "babel/babellaw11.QgenFits", spec := "qgenFits", inPlace := ["internal/abi.NoEscape"], unfollowed := true, recurses := true, apart := false }
def QgenFitsSaid : Prop := qgenFitsRow.holds Tryz.pinned (OpenSpec.ofChange qgenFitsSpec)

/-- ITS FALSE NEIGHBOUR: 'it returns false'. Refute it at one input. -/
def qgenFitsWrong : ChangeSpec := { name := "qgenFits", fn := fun _ => fun
  | [d] => { results := [.lit (.bool false)], args := [d] }
  | _ => none }
def QgenFitsWrongFalsely : Prop := qgenFitsRow.holds Tryz.pinned (OpenSpec.ofChange qgenFitsWrong)

/-- 'babellaw11.QgenOperators': WHATEVER THE INPUT: true; the input reads as it did. -/
def qgenOperatorsSpec : ChangeSpec := { name := "qgenOperators", fn := fun _ => fun
  | [d1, d2] => { results := [.lit (.bool true)], args := [d1, d2] }
  | _ => none }
def qgenOperatorsRow : OpenClaim := { program := "ytedmdgbmdplifaagreat", sum := "0c4c0ac571193bd5f7f3d8f1884fe72248a80fe7fc57ad063ae2898ac4f910ca", func := "babel/babellaw11.QgenOperators", spec := "qgenOperators", inPlace := ["internal/abi.NoEscape"], unfollowed := true, recurses := true, apart := false }
def QgenOperatorsSaid : Prop := qgenOperatorsRow.holds Tryz.pinned (OpenSpec.ofChange qgenOperatorsSpec)

/-- ITS FALSE NEIGHBOUR: 'it returns false'. Refute it at one input. -/
def qgenOperatorsWrong : ChangeSpec := { name := "qgenOperators", fn := fun _ => fun
  | [d1, d2] => { results := [.lit (.bool false)], args := [d1, d2] }
  | _ => none }
def QgenOperatorsWrongFalsely : Prop := qgenOperatorsRow.holds Tryz.pinned (OpenSpec.ofChange qgenOperatorsWrong)

/-- 'babellaw11.QgenDepths': WHATEVER THE INPUT: true; the input reads as it did. -/
def qgenDepthsSpec : ChangeSpec := { name := "qgenDepths", fn := fun _ => fun
  | [d1, d2, d3] => { results := [.lit (.bool true)], args := [d1, d2, d3] }
  | _ => none }
def qgenDepthsRow : OpenClaim := { program := "ytedmdgbmdplifaagreat", sum := "0c4c0ac571193bd5f7f3d8f1884fe72248a80fe7fc57ad063ae2898ac4f910ca", func := "babel/babellaw11.QgenDepths", spec := "qgenDepths", inPlace := ["internal/abi.NoEscape"], unfollowed := true, recurses := true, apart := false }
def QgenDepthsSaid : Prop := qgenDepthsRow.holds Tryz.pinned (OpenSpec.ofChange qgenDepthsSpec)

/-- ITS FALSE NEIGHBOUR: 'it returns false'. Refute it at one input. -/
def qgenDepthsWrong : ChangeSpec := { name := "qgenDepths", fn := fun _ => fun
  | [d1, d2, d3] => { results := [.lit (.bool false)], args := [d1, d2, d3] }
  | _ => none }
def QgenDepthsWrongFalsely : Prop := qgenDepthsRow.holds Tryz.pinned (OpenSpec.ofChange qgenDepthsWrong)

/-- 'babellaw11.QgenInputs': WHATEVER THE INPUT: true; the input reads as it did. -/
def qgenInputsSpec : ChangeSpec := { name := "qgenInputs", fn := fun _ => fun
  | [d1, d2, d3] => { results := [.lit (.bool true)], args := [d1, d2, d3] }
  | _ => none }
def qgenInputsRow : OpenClaim := { program := "ytedmdgbmdplifaagreat", sum := "0c4c0ac571193bd5f7f3d8f1884fe72248a80fe7fc57ad063ae2898ac4f910ca", func := "babel/babellaw11.QgenInputs", spec := "qgenInputs", inPlace := ["internal/abi.NoEscape"], unfollowed := true, recurses := true, apart := false }
def QgenInputsSaid : Prop := qgenInputsRow.holds Tryz.pinned (OpenSpec.ofChange qgenInputsSpec)

/-- ITS FALSE NEIGHBOUR: 'it returns false'. Refute it at one input. -/
def qgenInputsWrong : ChangeSpec := { name := "qgenInputs", fn := fun _ => fun
  | [d1, d2, d3] => { results := [.lit (.bool false)], args := [d1, d2, d3] }
  | _ => none }
def QgenInputsWrongFalsely : Prop := qgenInputsRow.holds Tryz.pinned (OpenSpec.ofChange qgenInputsWrong)

/-- 'babellaw11.QgenNested': WHATEVER THE INPUT: true; the input reads as it did. -/
def qgenNestedSpec : ChangeSpec := { name := "qgenNested", fn := fun _ => fun
  | [d1, d2, d3] => { results := [.lit (.bool true)], args := [d1, d2, d3] }
  | _ => none }
def qgenNestedRow : OpenClaim := { program := "ytedmdgbmdplifaagreat", sum := "0c4c0ac571193bd5f7f3d8f1884fe72248a80fe7fc57ad063ae2898ac4f910ca", func := "babel/babellaw11.QgenNested", spec := "qgenNested", inPlace := ["internal/abi.NoEscape"], unfollowed := true, recurses := true, apart := false }
def QgenNestedSaid : Prop := qgenNestedRow.holds Tryz.pinned (OpenSpec.ofChange qgenNestedSpec)

/-- ITS FALSE NEIGHBOUR: 'it returns false'. Refute it at one input. -/
def qgenNestedWrong : ChangeSpec := { name := "qgenNested", fn := fun _ => fun
  | [d1, d2, d3] => { results := [.lit (.bool false)], args := [d1, d2, d3] }
  | _ => none }
def QgenNestedWrongFalsely : Prop := qgenNestedRow.holds Tryz.pinned (OpenSpec.ofChange qgenNestedWrong)

/-- 'babellaw11.QgenScopes': WHATEVER THE INPUT: true; the input reads as it did. -/
def qgenScopesSpec : ChangeSpec := { name := "qgenScopes", fn := fun _ => fun
  | [d] => { results := [.lit (.bool true)], args := [d] }
  | _ => none }
def qgenScopesRow : OpenClaim := { program := "ytedmdgbmdplifaagreat", sum := "0c4c0ac571193bd5f7f3d8f1884fe72248a80fe7fc57ad063ae2898ac4f910ca", func := "babel/babellaw11.QgenScopes", spec := "qgenScopes", inPlace := ["internal/abi.NoEscape"], unfollowed := true, recurses := true, apart := false }
def QgenScopesSaid : Prop := qgenScopesRow.holds Tryz.pinned (OpenSpec.ofChange qgenScopesSpec)

/-- ITS FALSE NEIGHBOUR: 'it returns false'. Refute it at one input. -/
def qgenScopesWrong : ChangeSpec := { name := "qgenScopes", fn := fun _ => fun
  | [d] => { results := [.lit (.bool false)], args := [d] }
  | _ => none }
def QgenScopesWrongFalsely : Prop := qgenScopesRow.holds Tryz.pinned (OpenSpec.ofChange qgenScopesWrong)

/-- 'babellaw11.QgenRejects': WHATEVER THE INPUT: true; the input reads as it did. -/
def qgenRejectsSpec : ChangeSpec := { name := "qgenRejects", fn := fun _ => fun
  | [d1, d2, d3] => { results := [.lit (.bool true)], args := [d1, d2, d3] }
  | _ => none }
def qgenRejectsRow : OpenClaim := { program := "ytedmdgbmdplifaagreat", sum := "0c4c0ac571193bd5f7f3d8f1884fe72248a80fe7fc57ad063ae2898ac4f910ca", func := "babel/babellaw11.QgenRejects", spec := "qgenRejects", inPlace := ["internal/abi.NoEscape"], unfollowed := true, recurses := true, apart := false }
def QgenRejectsSaid : Prop := qgenRejectsRow.holds Tryz.pinned (OpenSpec.ofChange qgenRejectsSpec)

/-- ITS FALSE NEIGHBOUR: 'it returns false'. Refute it at one input. -/
def qgenRejectsWrong : ChangeSpec := { name := "qgenRejects", fn := fun _ => fun
  | [d1, d2, d3] => { results := [.lit (.bool false)], args := [d1, d2, d3] }
  | _ => none }
def QgenRejectsWrongFalsely : Prop := qgenRejectsRow.holds Tryz.pinned (OpenSpec.ofChange qgenRejectsWrong)

/-- 'babellaw11.QgenLoads': WHATEVER THE INPUT: true; the input reads as it did. -/
def qgenLoadsSpec : ChangeSpec := { name := "qgenLoads", fn := fun _ => fun
  | [d1, d2, d3] => { results := [.lit (.bool true)], args := [d1, d2, d3] }
  | _ => none }
def qgenLoadsRow : OpenClaim := { program := "ytedmdgbmdplifaagreat", sum := "0c4c0ac571193bd5f7f3d8f1884fe72248a80fe7fc57ad063ae2898ac4f910ca", func := "babel/babellaw11.QgenLoads", spec := "qgenLoads", inPlace := ["internal/abi.NoEscape"], unfollowed := true, recurses := true, apart := false }
def QgenLoadsSaid : Prop := qgenLoadsRow.holds Tryz.pinned (OpenSpec.ofChange qgenLoadsSpec)

/-- ITS FALSE NEIGHBOUR: 'it returns false'. Refute it at one input. -/
def qgenLoadsWrong : ChangeSpec := { name := "qgenLoads", fn := fun _ => fun
  | [d1, d2, d3] => { results := [.lit (.bool false)], args := [d1, d2, d3] }
  | _ => none }
def QgenLoadsWrongFalsely : Prop := qgenLoadsRow.holds Tryz.pinned (OpenSpec.ofChange qgenLoadsWrong)

/- THE SECOND FORM. 'bulk': how many values and letters a reading holds, each counted each time it is reached (what is shared counts as often as it is met; a slice's spare places count too). A statement '..UptoSaid' is the law's where the arguments, and the package variables that the reading takes, are together of bulk at most 1048576: NARROWER than '..Said'. Prove '..Said' where nothing that the law and all that it calls make is longer than what came in: it says more and counts as full. Else prove '..UptoSaid'. A law counts once. -/
mutual
def uptoBulk {H : Type} : DataW H → Nat
  | .lit (.string bytes) => bytes.length + 1
  | .lit _ => 1
  | .nil => 1
  | .ptr d => uptoBulk d + 1
  | .slice elems spare => uptoBulkAll elems + uptoBulkAll spare + 1
  | .agg parts => uptoBulkAll parts + 1
  | .iface _ d => uptoBulk d + 1
  | .map entries => uptoBulkEntries entries + 1
  | .held _ => 1
def uptoBulkAll {H : Type} : List (DataW H) → Nat
  | [] => 0
  | d :: r => uptoBulk d + uptoBulkAll r
def uptoBulkEntries {H : Type} : List (Lit × DataW H) → Nat
  | [] => 0
  | x :: r => uptoBulkEntry x + uptoBulkEntries r
def uptoBulkEntry {H : Type} : Lit × DataW H → Nat
  | (.string bytes, d) => bytes.length + uptoBulk d + 1
  | (_, d) => uptoBulk d + 1
 end
def uptoSmall : (H : Type) → List (DataW H) → Bool := fun _ ds => decide (uptoBulkAll ds ≤ 1048576)
def OpenSpec.upto (s : _root_.Go.ChangeSpec) : _root_.Go.OpenSpec := { _root_.Go.OpenSpec.ofChange s with cond := some uptoSmall }

/-- 'babellaw11.QgenErrors', WHERE WHAT IT READS IS OF BULK AT MOST 1048576: true; the input reads as it did. -/
def qgenErrorsUptoRow : OpenClaim := { program := "ytedmdgbmdplifaagreat", sum := "0c4c0ac571193bd5f7f3d8f1884fe72248a80fe7fc57ad063ae2898ac4f910ca", func := "babel/babellaw11.QgenErrors", spec := "qgenErrors", inPlace := ["internal/abi.NoEscape"], unfollowed := true, recurses := true, apart := false, narrowed := true }
def QgenErrorsUptoSaid : Prop := qgenErrorsUptoRow.holds Tryz.pinned (OpenSpec.upto qgenErrorsSpec)

/-- 'babellaw11.QgenFits', WHERE WHAT IT READS IS OF BULK AT MOST 1048576: true; the input reads as it did. -/
def qgenFitsUptoRow : OpenClaim := { program := "ytedmdgbmdplifaagreat", sum := "0c4c0ac571193bd5f7f3d8f1884fe72248a80fe7fc57ad063ae2898ac4f910ca", func := "babel/babellaw11.QgenFits", spec := "qgenFits", inPlace := ["internal/abi.NoEscape"], unfollowed := true, recurses := true, apart := false, narrowed := true }
def QgenFitsUptoSaid : Prop := qgenFitsUptoRow.holds Tryz.pinned (OpenSpec.upto qgenFitsSpec)

/-- 'babellaw11.QgenOperators', WHERE WHAT IT READS IS OF BULK AT MOST 1048576: true; the input reads as it did. -/
def qgenOperatorsUptoRow : OpenClaim := { program := "ytedmdgbmdplifaagreat", sum := "0c4c0ac571193bd5f7f3d8f1884fe72248a80fe7fc57ad063ae2898ac4f910ca", func := "babel/babellaw11.QgenOperators", spec := "qgenOperators", inPlace := ["internal/abi.NoEscape"], unfollowed := true, recurses := true, apart := false, narrowed := true }
def QgenOperatorsUptoSaid : Prop := qgenOperatorsUptoRow.holds Tryz.pinned (OpenSpec.upto qgenOperatorsSpec)

/-- 'babellaw11.QgenDepths', WHERE WHAT IT READS IS OF BULK AT MOST 1048576: true; the input reads as it did. -/
def qgenDepthsUptoRow : OpenClaim := { program := "ytedmdgbmdplifaagreat", sum := "0c4c0ac571193bd5f7f3d8f1884fe72248a80fe7fc57ad063ae2898ac4f910ca", func := "babel/babellaw11.QgenDepths", spec := "qgenDepths", inPlace := ["internal/abi.NoEscape"], unfollowed := true, recurses := true, apart := false, narrowed := true }
def QgenDepthsUptoSaid : Prop := qgenDepthsUptoRow.holds Tryz.pinned (OpenSpec.upto qgenDepthsSpec)

/-- 'babellaw11.QgenInputs', WHERE WHAT IT READS IS OF BULK AT MOST 1048576: true; the input reads as it did. -/
def qgenInputsUptoRow : OpenClaim := { program := "ytedmdgbmdplifaagreat", sum := "0c4c0ac571193bd5f7f3d8f1884fe72248a80fe7fc57ad063ae2898ac4f910ca", func := "babel/babellaw11.QgenInputs", spec := "qgenInputs", inPlace := ["internal/abi.NoEscape"], unfollowed := true, recurses := true, apart := false, narrowed := true }
def QgenInputsUptoSaid : Prop := qgenInputsUptoRow.holds Tryz.pinned (OpenSpec.upto qgenInputsSpec)

/-- 'babellaw11.QgenNested', WHERE WHAT IT READS IS OF BULK AT MOST 1048576: true; the input reads as it did. -/
def qgenNestedUptoRow : OpenClaim := { program := "ytedmdgbmdplifaagreat", sum := "0c4c0ac571193bd5f7f3d8f1884fe72248a80fe7fc57ad063ae2898ac4f910ca", func := "babel/babellaw11.QgenNested", spec := "qgenNested", inPlace := ["internal/abi.NoEscape"], unfollowed := true, recurses := true, apart := false, narrowed := true }
def QgenNestedUptoSaid : Prop := qgenNestedUptoRow.holds Tryz.pinned (OpenSpec.upto qgenNestedSpec)

/-- 'babellaw11.QgenScopes', WHERE WHAT IT READS IS OF BULK AT MOST 1048576: true; the input reads as it did. -/
def qgenScopesUptoRow : OpenClaim := { program := "ytedmdgbmdplifaagreat", sum := "0c4c0ac571193bd5f7f3d8f1884fe72248a80fe7fc57ad063ae2898ac4f910ca", func := "babel/babellaw11.QgenScopes", spec := "qgenScopes", inPlace := ["internal/abi.NoEscape"], unfollowed := true, recurses := true, apart := false, narrowed := true }
def QgenScopesUptoSaid : Prop := qgenScopesUptoRow.holds Tryz.pinned (OpenSpec.upto qgenScopesSpec)

/-- 'babellaw11.QgenRejects', WHERE WHAT IT READS IS OF BULK AT MOST 1048576: true; the input reads as it did. -/
def qgenRejectsUptoRow : OpenClaim := { program := "ytedmdgbmdplifaagreat", sum := "0c4c0ac571193bd5f7f3d8f1884fe72248a80fe7fc57ad063ae2898ac4f910ca", func := "babel/babellaw11.QgenRejects", spec := "qgenRejects", inPlace := ["internal/abi.NoEscape"], unfollowed := true, recurses := true, apart := false, narrowed := true }
def QgenRejectsUptoSaid : Prop := qgenRejectsUptoRow.holds Tryz.pinned (OpenSpec.upto qgenRejectsSpec)

/-- 'babellaw11.QgenLoads', WHERE WHAT IT READS IS OF BULK AT MOST 1048576: true; the input reads as it did. -/
def qgenLoadsUptoRow : OpenClaim := { program := "ytedmdgbmdplifaagreat", sum := "0c4c0ac571193bd5f7f3d8f1884fe72248a80fe7fc57ad063ae2898ac4f910ca", func := "babel/babellaw11.QgenLoads", spec := "qgenLoads", inPlace := ["internal/abi.NoEscape"], unfollowed := true, recurses := true, apart := false, narrowed := true }
def QgenLoadsUptoSaid : Prop := qgenLoadsUptoRow.holds Tryz.pinned (OpenSpec.upto qgenLoadsSpec)

end Rows
end Go.Proofs.YtedmdgbmdplifaaGreat
