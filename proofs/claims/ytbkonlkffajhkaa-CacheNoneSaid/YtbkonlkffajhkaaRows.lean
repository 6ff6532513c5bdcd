/-
  No cell of these rows narrows 'for every input' (looked for: loops, veiled, ifaces, maps, wideKeys, modest, calm, conditions, laid).
  DERIVED. THE GIVEN ROWS OF THIS SEAT. 12 by the template 'for every input the law returns true; each argument reads behind the call as it read before'; 0 by the template 'total and deterministic' (their statements: YtbkonlkffajhkaaTotals.lean).
  GIVEN WITH THE SEED: the statements are not yours to turn. If you find one false, say at which input.
  Laid BY PROGRAM, IN A SANDBOX (cutbox-rows.mjs): the forced cells as the released guide's own fill.sh prints them over the translation 0417697d777ee295… (all of the seat's roots in one cut). By AI agents, Wed Nov 11 2026. No macro, syntax, notation, axiom, sorry.
-/
import Derived.Test.YtbkonlkffajhkaaChecked
import GoSem.Claim
import GoSem.ClaimJoined
import GoSem.ClaimMapViews
import Derived.JoinedTies
import Derived.KernelRfl
namespace Go.Proofs.Ytbkonlkffajhkaa
/- THE CELL 'sum', in the pinned program and in every row, IS THE sha256 OF THE DUMP (.gsa) THAT YtbkonlkffajhkaaProg.lean LOADS. Nothing in Lean hashes anything: it is a label: what it is worth is what the hold of that sum in a sandbox is worth. -/
noncomputable def Try.pinned : Pinned := { name := "ytbkonlkffajhkaa", sum := "0417697d777ee295549c2298a8fd49e870ea9768f4b53392b57d248105e97033", checked := Try.checked }
namespace Rows
def none {H : Type} : Left H := { results := [], args := [] }

/-- 'babellaw20.CacheKeeps': WHATEVER THE INPUT: true; the input reads as it did. -/
def cacheKeepsSpec : ChangeSpec := { name := "cacheKeeps", fn := fun _ => fun
  | [d1, d2, d3] => { results := [.lit (.bool true)], args := [d1, d2, d3] }
  | _ => none }
def cacheKeepsRow : OpenClaim := { program := "ytbkonlkffajhkaa", sum := "0417697d777ee295549c2298a8fd49e870ea9768f4b53392b57d248105e97033", func := "babel/babellaw20.CacheKeeps", spec := "cacheKeeps", unfollowed := true, recurses := true, plainKeys := false, apart := false }
def CacheKeepsSaid : Prop := cacheKeepsRow.holds Try.pinned (OpenSpec.ofChange cacheKeepsSpec)

/-- ITS FALSE NEIGHBOUR: 'it returns false'. Refute it at one input. -/
def cacheKeepsWrong : ChangeSpec := { name := "cacheKeeps", fn := fun _ => fun
  | [d1, d2, d3] => { results := [.lit (.bool false)], args := [d1, d2, d3] }
  | _ => none }
def CacheKeepsWrongFalsely : Prop := cacheKeepsRow.holds Try.pinned (OpenSpec.ofChange cacheKeepsWrong)

/-- 'babellaw20.CacheSums': WHATEVER THE INPUT: true; the input reads as it did. -/
def cacheSumsSpec : ChangeSpec := { name := "cacheSums", fn := fun _ => fun
  | [d1, d2, d3] => { results := [.lit (.bool true)], args := [d1, d2, d3] }
  | _ => none }
def cacheSumsRow : OpenClaim := { program := "ytbkonlkffajhkaa", sum := "0417697d777ee295549c2298a8fd49e870ea9768f4b53392b57d248105e97033", func := "babel/babellaw20.CacheSums", spec := "cacheSums", unfollowed := true, recurses := true, plainKeys := false, apart := false }
def CacheSumsSaid : Prop := cacheSumsRow.holds Try.pinned (OpenSpec.ofChange cacheSumsSpec)

/-- ITS FALSE NEIGHBOUR: 'it returns false'. Refute it at one input. -/
def cacheSumsWrong : ChangeSpec := { name := "cacheSums", fn := fun _ => fun
  | [d1, d2, d3] => { results := [.lit (.bool false)], args := [d1, d2, d3] }
  | _ => none }
def CacheSumsWrongFalsely : Prop := cacheSumsRow.holds Try.pinned (OpenSpec.ofChange cacheSumsWrong)

/-- 'babellaw20.CacheLinks': WHATEVER THE INPUT: true; the input reads as it did. -/
def cacheLinksSpec : ChangeSpec := { name := "cacheLinks", fn := fun _ => fun
  | [d1, d2] => { results := [.lit (.bool true)], args := [d1, d2] }
  | _ => none }
def cacheLinksRow : OpenClaim := { program := "ytbkonlkffajhkaa", sum := "0417697d777ee295549c2298a8fd49e870ea9768f4b53392b57d248105e97033", func := "babel/babellaw20.CacheLinks", spec := "cacheLinks", unfollowed := true, recurses := true, plainKeys := false, apart := false }
def CacheLinksSaid : Prop := cacheLinksRow.holds Try.pinned (OpenSpec.ofChange cacheLinksSpec)

/-- ITS FALSE NEIGHBOUR: 'it returns false'. Refute it at one input. -/
def cacheLinksWrong : ChangeSpec := { name := "cacheLinks", fn := fun _ => fun
  | [d1, d2] => { results := [.lit (.bool false)], args := [d1, d2] }
  | _ => none }
def CacheLinksWrongFalsely : Prop := cacheLinksRow.holds Try.pinned (OpenSpec.ofChange cacheLinksWrong)

/-- 'babellaw20.CacheFull': WHATEVER THE INPUT: true; the input reads as it did. -/
def cacheFullSpec : ChangeSpec := { name := "cacheFull", fn := fun _ => fun
  | [d1, d2, d3] => { results := [.lit (.bool true)], args := [d1, d2, d3] }
  | _ => none }
def cacheFullRow : OpenClaim := { program := "ytbkonlkffajhkaa", sum := "0417697d777ee295549c2298a8fd49e870ea9768f4b53392b57d248105e97033", func := "babel/babellaw20.CacheFull", spec := "cacheFull", unfollowed := true, recurses := true, plainKeys := false, apart := false }
def CacheFullSaid : Prop := cacheFullRow.holds Try.pinned (OpenSpec.ofChange cacheFullSpec)

/-- ITS FALSE NEIGHBOUR: 'it returns false'. Refute it at one input. -/
def cacheFullWrong : ChangeSpec := { name := "cacheFull", fn := fun _ => fun
  | [d1, d2, d3] => { results := [.lit (.bool false)], args := [d1, d2, d3] }
  | _ => none }
def CacheFullWrongFalsely : Prop := cacheFullRow.holds Try.pinned (OpenSpec.ofChange cacheFullWrong)

/-- 'babellaw20.CacheAgain': WHATEVER THE INPUT: true; the input reads as it did. -/
def cacheAgainSpec : ChangeSpec := { name := "cacheAgain", fn := fun _ => fun
  | [d1, d2, d3] => { results := [.lit (.bool true)], args := [d1, d2, d3] }
  | _ => none }
def cacheAgainRow : OpenClaim := { program := "ytbkonlkffajhkaa", sum := "0417697d777ee295549c2298a8fd49e870ea9768f4b53392b57d248105e97033", func := "babel/babellaw20.CacheAgain", spec := "cacheAgain", unfollowed := true, recurses := true, plainKeys := false, apart := false }
def CacheAgainSaid : Prop := cacheAgainRow.holds Try.pinned (OpenSpec.ofChange cacheAgainSpec)

/-- ITS FALSE NEIGHBOUR: 'it returns false'. Refute it at one input. -/
def cacheAgainWrong : ChangeSpec := { name := "cacheAgain", fn := fun _ => fun
  | [d1, d2, d3] => { results := [.lit (.bool false)], args := [d1, d2, d3] }
  | _ => none }
def CacheAgainWrongFalsely : Prop := cacheAgainRow.holds Try.pinned (OpenSpec.ofChange cacheAgainWrong)

/-- 'babellaw20.CacheFinds': WHATEVER THE INPUT: true; the input reads as it did. -/
def cacheFindsSpec : ChangeSpec := { name := "cacheFinds", fn := fun _ => fun
  | [d1, d2] => { results := [.lit (.bool true)], args := [d1, d2] }
  | _ => none }
def cacheFindsRow : OpenClaim := { program := "ytbkonlkffajhkaa", sum := "0417697d777ee295549c2298a8fd49e870ea9768f4b53392b57d248105e97033", func := "babel/babellaw20.CacheFinds", spec := "cacheFinds", unfollowed := true, recurses := true, plainKeys := false, apart := false }
def CacheFindsSaid : Prop := cacheFindsRow.holds Try.pinned (OpenSpec.ofChange cacheFindsSpec)

/-- ITS FALSE NEIGHBOUR: 'it returns false'. Refute it at one input. -/
def cacheFindsWrong : ChangeSpec := { name := "cacheFinds", fn := fun _ => fun
  | [d1, d2] => { results := [.lit (.bool false)], args := [d1, d2] }
  | _ => none }
def CacheFindsWrongFalsely : Prop := cacheFindsRow.holds Try.pinned (OpenSpec.ofChange cacheFindsWrong)

/-- 'babellaw20.CacheApart': WHATEVER THE INPUT: true; the input reads as it did. -/
def cacheApartSpec : ChangeSpec := { name := "cacheApart", fn := fun _ => fun
  | [d1, d2] => { results := [.lit (.bool true)], args := [d1, d2] }
  | _ => none }
def cacheApartRow : OpenClaim := { program := "ytbkonlkffajhkaa", sum := "0417697d777ee295549c2298a8fd49e870ea9768f4b53392b57d248105e97033", func := "babel/babellaw20.CacheApart", spec := "cacheApart", unfollowed := true, recurses := true, plainKeys := false, apart := false }
def CacheApartSaid : Prop := cacheApartRow.holds Try.pinned (OpenSpec.ofChange cacheApartSpec)

/-- ITS FALSE NEIGHBOUR: 'it returns false'. Refute it at one input. -/
def cacheApartWrong : ChangeSpec := { name := "cacheApart", fn := fun _ => fun
  | [d1, d2] => { results := [.lit (.bool false)], args := [d1, d2] }
  | _ => none }
def CacheApartWrongFalsely : Prop := cacheApartRow.holds Try.pinned (OpenSpec.ofChange cacheApartWrong)

/-- 'babellaw20.CacheEnds': WHATEVER THE INPUT: true; the input reads as it did. -/
def cacheEndsSpec : ChangeSpec := { name := "cacheEnds", fn := fun _ => fun
  | [d1, d2, d3] => { results := [.lit (.bool true)], args := [d1, d2, d3] }
  | _ => none }
def cacheEndsRow : OpenClaim := { program := "ytbkonlkffajhkaa", sum := "0417697d777ee295549c2298a8fd49e870ea9768f4b53392b57d248105e97033", func := "babel/babellaw20.CacheEnds", spec := "cacheEnds", unfollowed := true, recurses := true, plainKeys := false, apart := false }
def CacheEndsSaid : Prop := cacheEndsRow.holds Try.pinned (OpenSpec.ofChange cacheEndsSpec)

/-- ITS FALSE NEIGHBOUR: 'it returns false'. Refute it at one input. -/
def cacheEndsWrong : ChangeSpec := { name := "cacheEnds", fn := fun _ => fun
  | [d1, d2, d3] => { results := [.lit (.bool false)], args := [d1, d2, d3] }
  | _ => none }
def CacheEndsWrongFalsely : Prop := cacheEndsRow.holds Try.pinned (OpenSpec.ofChange cacheEndsWrong)

/-- 'babellaw20.CacheCalls': WHATEVER THE INPUT: true; the input reads as it did. -/
def cacheCallsSpec : ChangeSpec := { name := "cacheCalls", fn := fun _ => fun
  | [d1, d2] => { results := [.lit (.bool true)], args := [d1, d2] }
  | _ => none }
def cacheCallsRow : OpenClaim := { program := "ytbkonlkffajhkaa", sum := "0417697d777ee295549c2298a8fd49e870ea9768f4b53392b57d248105e97033", func := "babel/babellaw20.CacheCalls", spec := "cacheCalls", unfollowed := true, recurses := true, plainKeys := false, apart := false }
def CacheCallsSaid : Prop := cacheCallsRow.holds Try.pinned (OpenSpec.ofChange cacheCallsSpec)

/-- ITS FALSE NEIGHBOUR: 'it returns false'. Refute it at one input. -/
def cacheCallsWrong : ChangeSpec := { name := "cacheCalls", fn := fun _ => fun
  | [d1, d2] => { results := [.lit (.bool false)], args := [d1, d2] }
  | _ => none }
def CacheCallsWrongFalsely : Prop := cacheCallsRow.holds Try.pinned (OpenSpec.ofChange cacheCallsWrong)

/-- 'babellaw20.CacheRemoves': WHATEVER THE INPUT: true; the input reads as it did. -/
def cacheRemovesSpec : ChangeSpec := { name := "cacheRemoves", fn := fun _ => fun
  | [d1, d2] => { results := [.lit (.bool true)], args := [d1, d2] }
  | _ => none }
def cacheRemovesRow : OpenClaim := { program := "ytbkonlkffajhkaa", sum := "0417697d777ee295549c2298a8fd49e870ea9768f4b53392b57d248105e97033", func := "babel/babellaw20.CacheRemoves", spec := "cacheRemoves", unfollowed := true, recurses := true, plainKeys := false, apart := false }
def CacheRemovesSaid : Prop := cacheRemovesRow.holds Try.pinned (OpenSpec.ofChange cacheRemovesSpec)

/-- ITS FALSE NEIGHBOUR: 'it returns false'. Refute it at one input. -/
def cacheRemovesWrong : ChangeSpec := { name := "cacheRemoves", fn := fun _ => fun
  | [d1, d2] => { results := [.lit (.bool false)], args := [d1, d2] }
  | _ => none }
def CacheRemovesWrongFalsely : Prop := cacheRemovesRow.holds Try.pinned (OpenSpec.ofChange cacheRemovesWrong)

/-- 'babellaw20.CachePages': WHATEVER THE INPUT: true; the input reads as it did. -/
def cachePagesSpec : ChangeSpec := { name := "cachePages", fn := fun _ => fun
  | [d1, d2] => { results := [.lit (.bool true)], args := [d1, d2] }
  | _ => none }
def cachePagesRow : OpenClaim := { program := "ytbkonlkffajhkaa", sum := "0417697d777ee295549c2298a8fd49e870ea9768f4b53392b57d248105e97033", func := "babel/babellaw20.CachePages", spec := "cachePages", unfollowed := true, recurses := true, plainKeys := false, apart := false }
def CachePagesSaid : Prop := cachePagesRow.holds Try.pinned (OpenSpec.ofChange cachePagesSpec)

/-- ITS FALSE NEIGHBOUR: 'it returns false'. Refute it at one input. -/
def cachePagesWrong : ChangeSpec := { name := "cachePages", fn := fun _ => fun
  | [d1, d2] => { results := [.lit (.bool false)], args := [d1, d2] }
  | _ => none }
def CachePagesWrongFalsely : Prop := cachePagesRow.holds Try.pinned (OpenSpec.ofChange cachePagesWrong)

/-- 'babellaw20.CacheNone': WHATEVER THE INPUT: true; the input reads as it did. -/
def cacheNoneSpec : ChangeSpec := { name := "cacheNone", fn := fun _ => fun
  | [d1, d2, d3] => { results := [.lit (.bool true)], args := [d1, d2, d3] }
  | _ => none }
def cacheNoneRow : OpenClaim := { program := "ytbkonlkffajhkaa", sum := "0417697d777ee295549c2298a8fd49e870ea9768f4b53392b57d248105e97033", func := "babel/babellaw20.CacheNone", spec := "cacheNone", unfollowed := true, recurses := true, plainKeys := false, apart := false }
def CacheNoneSaid : Prop := cacheNoneRow.holds Try.pinned (OpenSpec.ofChange cacheNoneSpec)

/-- ITS FALSE NEIGHBOUR: 'it returns false'. Refute it at one input. -/
def cacheNoneWrong : ChangeSpec := { name := "cacheNone", fn := fun _ => fun
  | [d1, d2, d3] => { results := [.lit (.bool false)], args := [d1, d2, d3] }
  | _ => none }
def CacheNoneWrongFalsely : Prop := cacheNoneRow.holds Try.pinned (OpenSpec.ofChange cacheNoneWrong)

/- THE SECOND FORM. 'bulk': how many values and letters a reading holds, each counted each time it is reached (what is shared counts as often as it is met; a slice's spare places count too). A statement '..UptoSaid' is the law's where the arguments, and the package variables that the reading takes, are together of bulk at most 1048576: NARROWER than '..Said'. Prove '..Said' where nothing that the law and all that it calls make is longer than what came in: it says more and counts as full. Else prove '..UptoSaid'. A law counts once. -/
mutual
def uptoBulk {H : Type} : DataW H → Nat
  | .lit (.string bytes) => bytes.length + 1
  | .lit _ => 1
  | .nil => 1
  | .ptr d => uptoBulk d + 1
  | .slice elems spare => uptoBulkAll elems + uptoBulkAll spare + 1
  | .agg parts => uptoBulkAll parts + 1
  | .iface _ d => uptoBulk d + 1
  | .map entries => uptoBulkEntries entries + 1
  | .held _ => 1
def uptoBulkAll {H : Type} : List (DataW H) → Nat
  | [] => 0
  | d :: r => uptoBulk d + uptoBulkAll r
def uptoBulkEntries {H : Type} : List (Lit × DataW H) → Nat
  | [] => 0
  | x :: r => uptoBulkEntry x + uptoBulkEntries r
def uptoBulkEntry {H : Type} : Lit × DataW H → Nat
  | (.string bytes, d) => bytes.length + uptoBulk d + 1
  | (_, d) => uptoBulk d + 1
 end
def uptoSmall : (H : Type) → List (DataW H) → Bool := fun _ ds => decide (uptoBulkAll ds ≤ 1048576)
def OpenSpec.upto (s : _root_.Go.ChangeSpec) : _root_.Go.OpenSpec := { _root_.Go.OpenSpec.ofChange s with cond := some uptoSmall }

/-- 'babellaw20.CacheKeeps', WHERE WHAT IT READS IS OF BULK AT MOST 1048576: true; the input reads as it did. -/
def cacheKeepsUptoRow : OpenClaim := { program := "ytbkonlkffajhkaa", sum := "0417697d777ee295549c2298a8fd49e870ea9768f4b53392b57d248105e97033", func := "babel/babellaw20.CacheKeeps", spec := "cacheKeeps", unfollowed := true, recurses := true, plainKeys := false, apart := false, narrowed := true }
def CacheKeepsUptoSaid : Prop := cacheKeepsUptoRow.holds Try.pinned (OpenSpec.upto cacheKeepsSpec)

/-- 'babellaw20.CacheSums', WHERE WHAT IT READS IS OF BULK AT MOST 1048576: true; the input reads as it did. -/
def cacheSumsUptoRow : OpenClaim := { program := "ytbkonlkffajhkaa", sum := "0417697d777ee295549c2298a8fd49e870ea9768f4b53392b57d248105e97033", func := "babel/babellaw20.CacheSums", spec := "cacheSums", unfollowed := true, recurses := true, plainKeys := false, apart := false, narrowed := true }
def CacheSumsUptoSaid : Prop := cacheSumsUptoRow.holds Try.pinned (OpenSpec.upto cacheSumsSpec)

/-- 'babellaw20.CacheLinks', WHERE WHAT IT READS IS OF BULK AT MOST 1048576: true; the input reads as it did. -/
def cacheLinksUptoRow : OpenClaim := { program := "ytbkonlkffajhkaa", sum := "0417697d777ee295549c2298a8fd49e870ea9768f4b53392b57d248105e97033", func := "babel/babellaw20.CacheLinks", spec := "cacheLinks", unfollowed := true, recurses := true, plainKeys := false, apart := false, narrowed := true }
def CacheLinksUptoSaid : Prop := cacheLinksUptoRow.holds Try.pinned (OpenSpec.upto cacheLinksSpec)

/-- 'babellaw20.CacheFull', WHERE WHAT IT READS IS OF BULK AT MOST 1048576: true; the input reads as it did. -/
def cacheFullUptoRow : OpenClaim := { program := "ytbkonlkffajhkaa", sum := "0417697d777ee295549c2298a8fd49e870ea9768f4b53392b57d248105e97033", func := "babel/babellaw20.CacheFull", spec := "cacheFull", unfollowed := true, recurses := true, plainKeys := false, apart := false, narrowed := true }
def CacheFullUptoSaid : Prop := cacheFullUptoRow.holds Try.pinned (OpenSpec.upto cacheFullSpec)

/-- 'babellaw20.CacheAgain', WHERE WHAT IT READS IS OF BULK AT MOST 1048576: true; the input reads as it did. -/
def cacheAgainUptoRow : OpenClaim := { program := "ytbkonlkffajhkaa", sum := "0417697d777ee295549c2298a8fd49e870ea9768f4b53392b57d248105e97033", func := "babel/babellaw20.CacheAgain", spec := "cacheAgain", unfollowed := true, recurses := true, plainKeys := false, apart := false, narrowed := true }
def CacheAgainUptoSaid : Prop := cacheAgainUptoRow.holds Try.pinned (OpenSpec.upto cacheAgainSpec)

/-- 'babellaw20.CacheFinds', WHERE WHAT IT READS IS OF BULK AT MOST 1048576: true; the input reads as it did. -/
def cacheFindsUptoRow : OpenClaim := { program := "ytbkonlkffajhkaa", sum := "0417697d777ee295549c2298a8fd49e870ea9768f4b53392b57d248105e97033", func := "babel/babellaw20.CacheFinds", spec := "cacheFinds", unfollowed := true, recurses := true, plainKeys := false, apart := false, narrowed := true }
def CacheFindsUptoSaid : Prop := cacheFindsUptoRow.holds Try.pinned (OpenSpec.upto cacheFindsSpec)

/-- 'babellaw20.CacheApart', WHERE WHAT IT READS IS OF BULK AT MOST 1048576: true; the input reads as it did. -/
def cacheApartUptoRow : OpenClaim := { program := "ytbkonlkffajhkaa", sum := "0417697d777ee295549c2298a8fd49e870ea9768f4b53392b57d248105e97033", func := "babel/babellaw20.CacheApart", spec := "cacheApart", unfollowed := true, recurses := true, plainKeys := false, apart := false, narrowed := true }
def CacheApartUptoSaid : Prop := cacheApartUptoRow.holds Try.pinned (OpenSpec.upto cacheApartSpec)

/-- 'babellaw20.CacheEnds', WHERE WHAT IT READS IS OF BULK AT MOST 1048576: true; the input reads as it did. -/
def cacheEndsUptoRow : OpenClaim := { program := "ytbkonlkffajhkaa", sum := "0417697d777ee295549c2298a8fd49e870ea9768f4b53392b57d248105e97033", func := "babel/babellaw20.CacheEnds", spec := "cacheEnds", unfollowed := true, recurses := true, plainKeys := false, apart := false, narrowed := true }
def CacheEndsUptoSaid : Prop := cacheEndsUptoRow.holds Try.pinned (OpenSpec.upto cacheEndsSpec)

/-- 'babellaw20.CacheCalls', WHERE WHAT IT READS IS OF BULK AT MOST 1048576: true; the input reads as it did. -/
def cacheCallsUptoRow : OpenClaim := { program := "ytbkonlkffajhkaa", sum := "0417697d777ee295549c2298a8fd49e870ea9768f4b53392b57d248105e97033", func := "babel/babellaw20.CacheCalls", spec := "cacheCalls", unfollowed := true, recurses := true, plainKeys := false, apart := false, narrowed := true }
def CacheCallsUptoSaid : Prop := cacheCallsUptoRow.holds Try.pinned (OpenSpec.upto cacheCallsSpec)

/-- 'babellaw20.CacheRemoves', WHERE WHAT IT READS IS OF BULK AT MOST 1048576: true; the input reads as it did. -/
def cacheRemovesUptoRow : OpenClaim := { program := "ytbkonlkffajhkaa", sum := "0417697d777ee295549c2298a8fd49e870ea9768f4b53392b57d248105e97033", func := "babel/babellaw20.CacheRemoves", spec := "cacheRemoves", unfollowed := true, recurses := true, plainKeys := false, apart := false, narrowed := true }
def CacheRemovesUptoSaid : Prop := cacheRemovesUptoRow.holds Try.pinned (OpenSpec.upto cacheRemovesSpec)

/-- 'babellaw20.CachePages', WHERE WHAT IT READS IS OF BULK AT MOST 1048576: true; the input reads as it did. -/
def cachePagesUptoRow : OpenClaim := { program := "ytbkonlkffajhkaa", sum := "0417697d777ee295549c2298a8fd49e870ea9768f4b53392b57d248105e97033", func := "babel/babellaw20.CachePages", spec := "cachePages", unfollowed := true, recurses := true, plainKeys := false, apart := false, narrowed := true }
def CachePagesUptoSaid : Prop := cachePagesUptoRow.holds Try.pinned (OpenSpec.upto cachePagesSpec)

/-- 'babellaw20.CacheNone', WHERE WHAT IT READS IS OF BULK AT MOST 1048576: true; the input reads as it did. -/
def cacheNoneUptoRow : OpenClaim := { program := "ytbkonlkffajhkaa", sum := "0417697d777ee295549c2298a8fd49e870ea9768f4b53392b57d248105e97033", func := "babel/babellaw20.CacheNone", spec := "cacheNone", unfollowed := true, recurses := true, plainKeys := false, apart := false, narrowed := true }
def CacheNoneUptoSaid : Prop := cacheNoneUptoRow.holds Try.pinned (OpenSpec.upto cacheNoneSpec)

end Rows
end Go.Proofs.Ytbkonlkffajhkaa
