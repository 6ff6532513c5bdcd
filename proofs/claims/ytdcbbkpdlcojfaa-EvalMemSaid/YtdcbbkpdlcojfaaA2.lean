/-
  What programs of the systems language compute: plain. No condition.
-/
import Derived.Test.YtdcbbkpdlcojfaaA1
namespace Go.Proofs.Ytdcbbkpdlcojfaa
set_option linter.unusedSimpArgs false
set_option linter.unusedVariables false
open Go.RowKit

def wU (n : Int) : Int := IntKind.u32.wrap n
def tr (b : Bool) : Int := if b = true then 1 else 0
/-- Names of operators. -/
def oSub : ByteArray := ⟨#[45]⟩
def oCom : ByteArray := ⟨#[126]⟩
def oNot : ByteArray := ⟨#[33]⟩
def oAdd : ByteArray := ⟨#[43]⟩
def oMul : ByteArray := ⟨#[42]⟩
def oQuo : ByteArray := ⟨#[47]⟩
def oRem : ByteArray := ⟨#[37]⟩
def oAnd : ByteArray := ⟨#[38]⟩
def oOr : ByteArray := ⟨#[124]⟩
def oXor : ByteArray := ⟨#[94]⟩
def oShl : ByteArray := ⟨#[60, 60]⟩
def oShr : ByteArray := ⟨#[62, 62]⟩
def oLt : ByteArray := ⟨#[60]⟩
def oLe : ByteArray := ⟨#[60, 61]⟩
def oGt : ByteArray := ⟨#[62]⟩
def oGe : ByteArray := ⟨#[62, 61]⟩
def oEq : ByteArray := ⟨#[61, 61]⟩
def oNe : ByteArray := ⟨#[33, 61]⟩
/-- Unary operators (P9.1). -/
def unF (op : ByteArray) (a : Int) : Option Int :=
  if op = oSub then some (wU (-a)) else if op = oCom then some (4294967295 - a) else if op = oNot then some (tr (decide (a = 0))) else none
/-- Binary operators (P9.1). -/
def biF (op : ByteArray) (a b : Int) : Option Int :=
  if op = oAdd then some (wU (a + b)) else if op = oSub then some (wU (a - b)) else if op = oMul then some (wU (a * b)) else
  if op = oQuo then some (if b = 0 then 0 else a / b) else if op = oRem then some (if b = 0 then a else a % b) else
  if op = oAnd then some (bits .and .u32 a b) else if op = oOr then some (bits .or .u32 a b) else if op = oXor then some (bits .xor .u32 a b) else
  if op = oShl then some (wU (a * 2 ^ (b % 32).toNat)) else if op = oShr then some (a / 2 ^ (b % 32).toNat) else
  if op = oLt then some (tr (decide (a < b))) else if op = oLe then some (tr (decide (a ≤ b))) else if op = oGt then some (tr (decide (a > b))) else if op = oGe then some (tr (decide (a ≥ b))) else
  if op = oEq then some (tr (decide (a = b))) else if op = oNe then some (tr (!decide (a = b))) else none

/-- The state of an execution. -/
structure Ms where
  inp : List Int
  out : List Int
  mem : Nat → Int
  fuel : Int
inductive Re (α : Type) where
  | ok (a : α) (s : Ms)
  | err (e : Int)
abbrev Vs := List (ByteArray × Int)
def vget (vs : Vs) (x : ByteArray) : Int := match vs.find? (fun p => decide (p.1 = x)) with
  | some p => p.2
  | none => 0
def vput (vs : Vs) (x : ByteArray) (n : Int) : Vs := (x, n) :: vs.filter fun p => decide (p.1 ≠ x)
def vbind (vs : Vs) : List ByteArray → List Int → Vs
  | p :: ps, a :: as => vbind (vput vs p a) ps as
  | _, _ => vs
def ffind (fs : List Tf) (x : ByteArray) : Option Tf := fs.find? fun f => decide (f.name = x)
def mput (m : Nat → Int) (i : Nat) (v : Int) : Nat → Int := fun k => if k = i then v else m k
mutual
/-- An expression, with gas g, at a depth. -/
def evX : Nat → List Tf → Nat → Vs → Tx → Ms → Option (Re Int)
  | 0, _, _, _, _, _ => none
  | g + 1, fs, d, vs, t, s => if s.fuel ≤ 0 then some (.err 25) else
    match evK g fs d vs [] t.kids { s with fuel := s.fuel - 1 } with
    | none => none
    | some (.err e) => some (.err e)
    | some (.ok ks s1) =>
      if t.kind = 1 then some (.ok t.n s1) else if t.kind = 2 then some (.ok (vget vs t.name) s1) else
      if t.kind = 4 then some (.ok (s1.mem (ks.getD 0 0 % 256).toNat) s1) else
      if t.kind = 5 then (match s1.inp with
        | [] => some (.ok 0 s1)
        | a :: r => some (.ok a { s1 with inp := r })) else
      if t.kind = 6 then some (.ok ((unF t.name (ks.getD 0 0)).getD 0) s1) else if t.kind = 7 then some (.ok ((biF t.name (ks.getD 0 0) (ks.getD 1 0)).getD 0) s1) else
      match ffind fs t.name with
      | none => none
      | some f => evC g fs d f ks s1
/-- The parts of an expression, one after the other. -/
def evK : Nat → List Tf → Nat → Vs → List Int → List Tx → Ms → Option (Re (List Int))
  | 0, _, _, _, _, _, _ => none
  | _ + 1, _, _, _, acc, [], s => some (.ok acc s)
  | g + 1, fs, d, vs, acc, t :: r, s => match evX g fs d vs t s with
    | none => none
    | some (.err e) => some (.err e)
    | some (.ok v s1) => evK g fs d vs (acc ++ [v]) r s1
/-- A call. -/
def evC : Nat → List Tf → Nat → Tf → List Int → Ms → Option (Re Int)
  | 0, _, _, _, _, _ => none
  | g + 1, fs, d, f, as, s => if d = 12 then some (.err 26) else
    match evB g fs (d + 1) (vbind [] f.ps as) f.body s with
    | none => none
    | some (.err e) => some (.err e)
    | some (.ok (_, r) s1) => some (.ok (r.getD 0) s1)
/-- Statements: the variables behind them, and what is returned. -/
def evB : Nat → List Tf → Nat → Vs → List Ty → Ms → Option (Re (Vs × Option Int))
  | 0, _, _, _, _, _ => none
  | _ + 1, _, _, vs, [], s => some (.ok (vs, none) s)
  | g + 1, fs, d, vs, t :: r, s => match evS g fs d vs t s with
    | none => none
    | some (.err e) => some (.err e)
    | some (.ok (vs1, some x) s1) => some (.ok (vs1, some x) s1)
    | some (.ok (vs1, none) s1) => evB g fs d vs1 r s1
/-- A statement. -/
def evS : Nat → List Tf → Nat → Vs → Ty → Ms → Option (Re (Vs × Option Int))
  | 0, _, _, _, _, _ => none
  | g + 1, fs, d, vs, t, s => if s.fuel ≤ 0 then some (.err 25) else
    match t.es with
    | [] => none
    | e :: es => match evX g fs d vs e { s with fuel := s.fuel - 1 } with
      | none => none
      | some (.err e) => some (.err e)
      | some (.ok v s1) =>
        if t.kind = 1 ∨ t.kind = 2 then some (.ok (vput vs t.name v, none) s1) else
        if t.kind = 3 then (match es with
          | [] => none
          | e2 :: _ => match evX g fs d vs e2 s1 with
            | none => none
            | some (.err e) => some (.err e)
            | some (.ok w s2) => some (.ok (vs, none) { s2 with mem := mput s2.mem (v % 256).toNat w })) else
        if t.kind = 4 then evB g fs d vs (if v = 0 then t.els else t.body) s1 else
        if t.kind = 5 then evW g fs d vs e t.body v s1 else
        if t.kind = 6 then some (.ok (vs, some v) s1) else if t.kind = 7 then some (.ok (vs, none) { s1 with out := s1.out ++ [v] }) else some (.ok (vs, none) s1)
/-- A loop, with the value of its condition. -/
def evW : Nat → List Tf → Nat → Vs → Tx → List Ty → Int → Ms → Option (Re (Vs × Option Int))
  | 0, _, _, _, _, _, _, _ => none
  | g + 1, fs, d, vs, e, l, v, s => if v = 0 then some (.ok (vs, none) s) else
    match evB g fs d vs l s with
    | none => none
    | some (.err e) => some (.err e)
    | some (.ok (vs1, some x) s1) => some (.ok (vs1, some x) s1)
    | some (.ok (vs1, none) s1) => match evX g fs d vs1 e s1 with
      | none => none
      | some (.err e) => some (.err e)
      | some (.ok w s2) => evW g fs d vs1 e l w s2
end
end Go.Proofs.Ytdcbbkpdlcojfaa
