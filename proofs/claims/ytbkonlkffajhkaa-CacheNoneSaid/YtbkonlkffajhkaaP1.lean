/-
  Blocks and links of a cache, as plain structures and as cells. No condition.
-/
import Derived.Test.YtbkonlkffajhkaaKC
import Derived.Test.YtbkonlkffajhkaaF
import Derived.Test.YtbkonlkffajhkaaS9
namespace Go.Proofs.Ytbkonlkffajhkaa
set_option linter.unusedSimpArgs false
set_option linter.unusedVariables false
open Go.RowKit

/-- A block: of the cache, and of the reference model. -/
structure En where
  pc : Int
  base : Int
  bytes : ByteArray
  st : Int
  al : Int
  pages : SV
  at_ : SV
  sites : SV
  sum : Int
  pg : List Int
structure Lk where
  f : Int
  s : Int
  t : Int
def dL : Lk := ⟨0, 0, 0⟩
def dE : En := ⟨0, 0, ByteArray.empty, 0, 0, nilS, nilS, nilS, 0, []⟩
def iz : Value := .int .i64 0
def eEnt (x : En) : List Value := [.int .u32 x.pc, .int .u32 x.base, sv x.at_, sv x.pages, .slice none 0 0, iz, iz, iz, .int .i64 x.al, iz, iz, iz, iz, iz, iz, iz, iz, iz, iz, iz, iz, iz, iz, iz, iz, iz, iz, iz, iz, iz, iz, iz, iz, .string x.bytes, sv x.sites, .int .u32 x.sum]
def eL (x : Lk) : List Value := [.int .u32 x.f, .int .i64 x.s, .int .u32 x.t]
def eR (x : En) : List Value := [.int .u32 x.pc, .int .u32 x.base, .string x.bytes, .int .i64 x.st, sv x.pages]
def veEnt (x : En) : Value := .agg (eEnt x).toArray
def veL (x : Lk) : Value := .agg (eL x).toArray
def veR (x : En) : Value := .agg (eR x).toArray

/-- A comparison that a function value makes. -/
structure CmpOk {El : Type} (nf : Nat) (caps : List Value) (A Bro : Asn) (vE : El → Value) (p : El → Prop) (d : El) (less : El → El → Bool) : Prop where
  cb : Cb Try.prog nf
  dflt : p d
  run : ∀ x y, p x → p y → Spec Try.prog nf ([vE x, vE y] ++ caps) [A] [Bro] (X := Int) (fun c => c < 0 ↔ less x y = true) (fun c => .int .i64 c) (fun _ => [A]) (fun _ => [])
def InP {El : Type} (p : El → Prop) (xs : List El) : Prop := ∀ x ∈ xs, p x
theorem InP.get {El : Type} {p : El → Prop} {d : El} {xs : List El} (h : InP p xs) {j : Nat} (hj : j < xs.length) : p (xs.getD j d) := by
  rw [List.getD_eq_getElem?_getD, List.getElem?_eq_getElem hj]
  exact h _ (List.getElem_mem hj)
theorem InP.sw {El : Type} {p : El → Prop} {d : El} {xs : List El} (h : InP p xs) {i j : Nat} (hi : i < xs.length) (hj : j < xs.length) : InP p (sw d xs i j) := sw_mem d h hi hj
theorem half_nat (i j : Nat) : ((i : Int) + j) / 2 ^ (1 : Int).toNat = (((i + j) / 2 : Nat) : Int) := by simp
end Go.Proofs.Ytbkonlkffajhkaa
