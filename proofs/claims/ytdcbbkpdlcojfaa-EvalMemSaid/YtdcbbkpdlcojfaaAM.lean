/-
  The check of a program: plain. No condition.
-/
import Derived.Test.YtdcbbkpdlcojfaaAL
namespace Go.Proofs.Ytdcbbkpdlcojfaa
set_option linter.unusedSimpArgs false
set_option linter.unusedVariables false
open Go.RowKit

/-- The first byte. -/
def byte0 (s : ByteArray) : Int := ((s.data.toList.headD 0).toNat : Int)
def allB (p : Int → Bool) (s : ByteArray) : Bool := s.data.toList.all fun b => p (b.toNat : Int)
def identB (s : ByteArray) : Bool := decide (s.size ≠ 0) && decide (s.size ≤ 12) && !memB s kwL && ltr (byte0 s) && allB (fun c => ltr c || dgt c) s
/-- A string of bytes below 128. -/
def ascB (s : ByteArray) : Prop := ∀ (i : Nat) (h : i < s.size), (s[i]'h).toNat < 128
def nmB (s : ByteArray) : Prop := ascB s ∧ s.size ≤ 1000000
def oNil : ByteArray := ⟨#[]⟩
def nMain : ByteArray := ⟨#[109, 97, 105, 110]⟩
def unL : List ByteArray := [oSub, oCom, oNot]
/-- The levels of the binary operators. -/
def lvL : List (ByteArray × Int) := [(oRem, 7), (oQuo, 7), (oMul, 7), (oSub, 6), (oAdd, 6), (oShr, 5), (oShl, 5), (oGe, 4), (oGt, 4), (oLe, 4), (oLt, 4), (oNe, 3), (oEq, 3), (oAnd, 2), (oXor, 1), (oOr, 0)]
def isBin (s : ByteArray) : Bool := (lvL.find? fun p => decide (p.1 = s)).isSome
def okX (k : Int) (nm : ByteArray) (n : Nat) : Bool :=
  if k = 1 ∨ k = 5 then decide (nm = oNil) && decide (n = 0) else if k = 2 then identB nm && decide (n = 0) else if k = 3 then identB nm else
  if k = 4 then decide (nm = oNil) && decide (n = 1) else if k = 6 then memB nm unL && decide (n = 1) else if k = 7 then isBin nm && decide (n = 2) else false
mutual
/-- Whether an expression is well-formed. -/
def rX : Tx → Bool
  | .mk k n nm _ kids => okX k nm kids.length && (decide (k = 1) || decide (n = 0)) && rXs kids
def rXs : List Tx → Bool
  | [] => true
  | t :: r => rX t && rXs r
end
def okY (k : Int) (nm : ByteArray) (ne nb nl : Nat) : Bool :=
  decide (k ≥ 1) && decide (k ≤ 8) && decide (ne = if k = 3 then 2 else 1) && (if k = 1 ∨ k = 2 then identB nm else decide (nm = oNil)) && (decide (k = 4) || decide (k = 5) || decide (nb = 0)) && (decide (k = 4) || decide (nl = 0))
mutual
/-- Whether a statement is well-formed. -/
def rY : Ty → Bool
  | .mk k nm _ es _ body _ els => okY k nm es.length body.length els.length && rXs es && rYs body && rYs els
def rYs : List Ty → Bool
  | [] => true
  | t :: r => rY t && rYs r
end
def rF (f : Tf) : Bool := f.ps.all identB && identB f.name && rYs f.body
def rP (fs : List Tf) : Bool := fs.all rF
mutual
/-- The nodes of an expression. -/
def nX : Tx → Nat
  | .mk _ _ _ _ kids => nXs kids + 1
def nXs : List Tx → Nat
  | [] => 0
  | t :: r => nX t + nXs r
end
mutual
/-- The depth of an expression. -/
def dX : Tx → Nat
  | .mk _ _ _ _ kids => dXs kids + 1
def dXs : List Tx → Nat
  | [] => 0
  | t :: r => max (dX t) (dXs r)
end
mutual
/-- The nodes of statements. -/
def nY : Ty → Nat
  | .mk _ _ _ es _ body _ els => 1 + nXs es + nYs body + nYs els
def nYs : List Ty → Nat
  | [] => 0
  | t :: r => nY t + nYs r
end
mutual
/-- The declarations in statements. -/
def vY : Ty → Nat
  | .mk k _ _ _ _ body _ els => (if k = 1 then 1 else 0) + vYs body + vYs els
def vYs : List Ty → Nat
  | [] => 0
  | t :: r => vY t + vYs r
end
mutual
/-- Whether something is nested too deeply. -/
def dpY : Nat → Ty → Bool
  | d, .mk _ _ _ es _ body _ els => decide (d > 8) || decide (dXs es > 8) || dpYs (d + 1) body || dpYs (d + 1) els
def dpYs : Nat → List Ty → Bool
  | _, [] => false
  | d, t :: r => dpY d t || dpYs d r
end
/-- The first of two errors. -/
def fst (a b : Int) : Int := if a = 0 then b else a
theorem fst_assoc (a b c : Int) : fst (fst a b) c = fst a (fst b c) := by
  unfold fst
  split
  · rfl
  · rfl
theorem fst_zero (a : Int) : fst a 0 = a := by
  unfold fst
  split
  · rename_i h; exact h.symm
  · rfl
theorem zero_fst (a : Int) : fst 0 a = a := rfl
theorem fst_eq_zero {a b : Int} : fst a b = 0 ↔ a = 0 ∧ b = 0 := by
  unfold fst
  split
  · rename_i h; simp [h]
  · rename_i h; simp [h]
/-- The place of a function, or -1. -/
def fix (fs : List Tf) (x : ByteArray) : Int := ixF (fun f => decide (f.name = x)) fs
mutual
/-- The first error in the names of an expression. -/
def eX (fs : List Tf) (ns : List ByteArray) : Tx → Int
  | .mk k _ nm _ kids => fst (if k = 2 then (if memB nm ns = true then 0 else 21) else if k = 3 then (match ffind fs nm with
      | none => 21
      | some f => if f.ps.length = kids.length then 0 else 23) else 0) (eXs fs ns kids)
def eXs (fs : List Tf) (ns : List ByteArray) : List Tx → Int
  | [] => 0
  | t :: r => fst (eX fs ns t) (eXs fs ns r)
end
mutual
/-- The names behind a statement, and the first error in it. -/
def bY (fs : List Tf) : List ByteArray → Ty → List ByteArray × Int
  | ns, .mk k nm _ es _ body _ els =>
    let n1 := if k = 1 then ns ++ [nm] else ns
    let p1 := bYs fs n1 body
    let p2 := bYs fs p1.1 els
    (p2.1, fst (if k = 2 then (if memB nm ns = true then 0 else 21) else 0) (fst (eXs fs ns es) (fst (if k = 1 then (if memB nm ns = true then 22 else 0) else 0) (fst p1.2 p2.2))))
def bYs (fs : List Tf) : List ByteArray → List Ty → List ByteArray × Int
  | ns, [] => (ns, 0)
  | ns, t :: r => let p := bY fs ns t; let q := bYs fs p.1 r; (q.1, fst p.2 q.2)
end
/-- The declaration of parameters. -/
def dcl : List ByteArray → List ByteArray → Int
  | _, [] => 0
  | ns, x :: r => fst (if memB x ns = true then 22 else 0) (dcl (ns ++ [x]) r)
/-- The first error in a function. -/
def chkF (fs : List Tf) (f : Tf) : Int :=
  fst (if f.ps.length > 4 ∨ f.ps.length + vYs f.body > 12 ∨ nYs f.body > 400 ∨ dpYs 1 f.body = true then 2 else 0) (fst (dcl [] f.ps) (bYs fs f.ps f.body).2)
def chkFs (fs : List Tf) : List Tf → Int
  | [] => 0
  | f :: r => fst (chkF fs f) (chkFs fs r)
/-- Whether each function is found under its name. -/
def once (fs : List Tf) : Bool := (List.range fs.length).all fun i => decide (fix fs (fs.getD i ⟨oNil, nilS, [], nilS, []⟩).name = (i : Int))
/-- The error of a program, 0 if there is none. -/
def chk (fs : List Tf) : Int :=
  if rP fs = false then 1 else if fs.length > 16 then 2 else if once fs = false then 22 else match ffind fs nMain with
    | none => 21
    | some f => if f.ps.length > 0 then 23 else chkFs fs fs

mutual
/-- The names are ASCII, constants are words, kinds are numbers. -/
def GX : Tx → Prop
  | .mk k n nm _ kids => oW n ∧ nmB nm ∧ kids.length ≤ 1000000 ∧ GXs kids
def GXs : List Tx → Prop
  | [] => True
  | t :: r => GX t ∧ GXs r
end
mutual
def GY : Ty → Prop
  | .mk k nm _ es _ body _ els => nmB nm ∧ (es.length ≤ 1000000 ∧ GXs es) ∧ (body.length ≤ 1000000 ∧ GYs body) ∧ (els.length ≤ 1000000 ∧ GYs els)
def GYs : List Ty → Prop
  | [] => True
  | t :: r => GY t ∧ GYs r
end
def GF (f : Tf) : Prop := nmB f.name ∧ (∀ s ∈ f.ps, nmB s) ∧ f.ps.length ≤ 1000000 ∧ f.body.length ≤ 1000000 ∧ GYs f.body ∧ f.ps.length + nYs f.body ≤ 1000000
/-- Programs that the check can go through. -/
def GP (fs : List Tf) : Prop := fs.length ≤ 1000000 ∧ ∀ f ∈ fs, GF f
theorem GXs.mem : ∀ {l : List Tx}, GXs l → ∀ t ∈ l, GX t
  | [], _, _, h => by simp at h
  | t :: r, h, u, hu => by
    rcases List.mem_cons.1 hu with rfl | hu
    · exact h.1
    · exact GXs.mem h.2 u hu
theorem GYs.mem : ∀ {l : List Ty}, GYs l → ∀ t ∈ l, GY t
  | [], _, _, h => by simp at h
  | t :: r, h, u, hu => by
    rcases List.mem_cons.1 hu with rfl | hu
    · exact h.1
    · exact GYs.mem h.2 u hu
theorem GX_kids {t : Tx} (h : GX t) : GXs t.kids := by cases t; exact h.2.2.2
theorem GX_len {t : Tx} (h : GX t) : t.kids.length ≤ 1000000 := by cases t; exact h.2.2.1
theorem GX_name {t : Tx} (h : GX t) : nmB t.name := by cases t; exact h.2.1
theorem GY_name {t : Ty} (h : GY t) : nmB t.name := by cases t; exact h.1
theorem GY_es {t : Ty} (h : GY t) : t.es.length ≤ 1000000 ∧ GXs t.es := by cases t; exact h.2.1
theorem GY_body {t : Ty} (h : GY t) : t.body.length ≤ 1000000 ∧ GYs t.body := by cases t; exact h.2.2.1
theorem GY_els {t : Ty} (h : GY t) : t.els.length ≤ 1000000 ∧ GYs t.els := by cases t; exact h.2.2.2
theorem rXs_all : ∀ l, rXs l = l.all rX
  | [] => rfl
  | t :: r => by rw [rXs, rXs_all r]; rfl
theorem rYs_all : ∀ l, rYs l = l.all rY
  | [] => rfl
  | t :: r => by rw [rYs, rYs_all r]; rfl
theorem tx_lt {t u : Tx} (h : u ∈ t.kids) : SizeOf.sizeOf u < SizeOf.sizeOf t := by
  cases t with
  | mk k n nm v kids =>
    have := List.sizeOf_lt_of_mem h
    simp only [Tx.kids] at this
    simp only [Tx.mk.sizeOf_spec]
    omega
theorem ty_lt {t u : Ty} (h : u ∈ t.body ∨ u ∈ t.els) : SizeOf.sizeOf u < SizeOf.sizeOf t := by
  cases t with
  | mk k nm ve es vb body vl els =>
    simp only [Ty.mk.sizeOf_spec]
    rcases h with h | h
    · have := List.sizeOf_lt_of_mem h
      simp only [Ty.body] at this
      omega
    · have := List.sizeOf_lt_of_mem h
      simp only [Ty.els] at this
      omega
theorem ffind_fix {fs : List Tf} {x : ByteArray} : (fix fs x < 0 ↔ ffind fs x = none) ∧ (∀ f, ffind fs x = some f → ∃ i : Nat, fix fs x = (i : Int) ∧ fs[i]? = some f) := by
  unfold fix ixF ffind
  cases h : fs.findIdx? (fun f => decide (f.name = x)) with
  | none =>
    rw [List.findIdx?_eq_none_iff] at h
    have h2 : fs.find? (fun f => decide (f.name = x)) = none := List.find?_eq_none.2 fun f hf => by rw [h f hf]; simp
    rw [h2]
    simp
  | some i =>
    rw [List.findIdx?_eq_some_iff_getElem] at h
    obtain ⟨h1, h2, h3⟩ := h
    have h4 : fs.find? (fun f => decide (f.name = x)) = some fs[i] := by
      rw [List.find?_eq_some_iff_getElem]
      refine ⟨h2, i, h1, rfl, fun j hj => ?_⟩
      have := h3 j hj
      simpa using this
    rw [h4]
    refine ⟨⟨fun h => by simp at h; omega, fun h => by simp at h⟩, fun f hf => ⟨i, rfl, ?_⟩⟩
    rw [← Option.some.inj hf]
    exact List.getElem?_eq_getElem h1
end Go.Proofs.Ytdcbbkpdlcojfaa
