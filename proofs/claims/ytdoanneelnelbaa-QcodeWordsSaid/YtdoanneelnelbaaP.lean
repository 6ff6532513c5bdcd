/-
  What the functions of chapter 3 compute, as plain definitions: forms, fields, words, targets. No condition.
-/
namespace Go.Proofs.Ytdoanneelnelbaa
set_option linter.unusedSimpArgs false
set_option linter.unusedVariables false

structure Form where
  is : Bool
  d : Bool
  a : Bool
  b : Bool
  sg : Bool
  bits : Int
  most : Int
deriving DecidableEq

def formOf (op : Int) : Form :=
  if 1 ≤ op ∧ op ≤ 12 then ⟨true, true, true, true, false, 0, 0⟩
  else if op = 17 ∨ op = 18 ∨ op = 19 then ⟨true, true, true, false, false, 18, 0⟩
  else if (16 ≤ op ∧ op ≤ 27) ∨ (32 ≤ op ∧ op ≤ 37) then ⟨true, true, true, false, true, 18, 0⟩
  else if op = 40 then ⟨true, true, false, false, true, 22, 0⟩
  else if op = 41 then ⟨true, true, false, false, false, 22, 0⟩
  else if op = 48 then ⟨true, false, false, false, false, 18, 0⟩
  else if op = 49 ∨ op = 50 ∨ op = 51 then ⟨true, false, false, false, false, 0, 0⟩
  else if op = 52 then ⟨true, false, true, false, false, 0, 0⟩
  else if op = 53 then ⟨true, true, false, false, false, 18, 3⟩
  else if op = 54 then ⟨true, false, true, false, false, 18, 4⟩
  else ⟨false, false, false, false, false, 0, 0⟩

/-- What every form is. -/
structure Form.Fine (f : Form) : Prop where
  bits : f.bits = 0 ∨ f.bits = 18 ∨ f.bits = 22
  sg : f.sg = true → f.bits ≠ 0 ∧ f.most = 0
  most : f.most = 0 ∨ f.most = 3 ∨ f.most = 4
  m0 : f.most ≠ 0 → f.bits = 18
  b : f.b = true → f.bits = 0
  a : f.a = true → f.bits ≠ 22

theorem formOf_fine (op : Int) : (formOf op).Fine := by
  unfold formOf
  repeat' split
  all_goals constructor <;> simp

def fitsR (n : Int) (u : Bool) : Bool := n == 0 || (u && (decide (0 < n) && decide (n < 16)))

def pw (bits : Int) : Int := if bits = 18 then 262144 else if bits = 22 then 4194304 else 1

def sgn (n bits : Int) : Int := if pw bits / 2 ≤ n % pw bits then (n % pw bits - pw bits) % 4294967296 else n % pw bits

def immR (f : Form) (n : Int) : Bool :=
  if f.bits = 0 then n == 0 else if f.sg then sgn n f.bits == n else if 0 < f.most then decide (n ≤ f.most) else decide (n < pw f.bits)

structure QI where
  op : Int
  d : Int
  a : Int
  b : Int
  imm : Int
deriving DecidableEq

def validF (f : Form) (i : QI) : Bool := f.is && (fitsR i.d f.d && (fitsR i.a f.a && (fitsR i.b f.b && immR f i.imm)))
def validR (i : QI) : Bool := validF (formOf i.op) i

def wordR (i : QI) : Int := i.op * 67108864 + i.d * 4194304 + i.a * 262144 + i.b * 16384 + i.imm % pw (formOf i.op).bits

theorem fitsR_iff (n : Int) (u : Bool) : fitsR n u = true ↔ n = 0 ∨ (u = true ∧ 0 < n ∧ n < 16) := by
  simp [fitsR]


theorem formOf_out (op : Int) (h : op < 0 ∨ 64 ≤ op) : formOf op = ⟨false, false, false, false, false, 0, 0⟩ := by
  unfold formOf
  repeat (first | rw [if_neg (by omega)])

def encW (i : QI) : Int := if validR i then wordR i else 0
def encE (i : QI) : Int := if validR i then 0 else 12

theorem fitsR_bd {n : Int} {u : Bool} (h : fitsR n u = true) : 0 ≤ n ∧ n < 16 := by
  rcases (fitsR_iff n u).1 h with h | h <;> omega

/-- What is known of a valid instruction. -/
structure VFacts (i : QI) (f : Form) : Prop where
  op0 : 0 ≤ i.op
  op1 : i.op < 64
  d0 : 0 ≤ i.d
  d1 : i.d < 16
  a0 : 0 ≤ i.a
  a1 : i.a < 16
  b0 : 0 ≤ i.b
  b1 : i.b < 16
  dz : f.d = false → i.d = 0
  az : f.a = false → i.a = 0
  bz : f.b = false → i.b = 0
  is : f.is = true
  imm : immR f i.imm = true

theorem validR_facts (i : QI) (h : validR i = true) : VFacts i (formOf i.op) := by
  unfold validR validF at h
  simp only [Bool.and_eq_true] at h
  obtain ⟨h1, h2, h3, h4, h5⟩ := h
  have hop : 0 ≤ i.op ∧ i.op < 64 := by
    refine Decidable.byContradiction fun hn => ?_
    rw [formOf_out i.op (by omega)] at h1
    cases h1
  have := fitsR_bd h2
  have := fitsR_bd h3
  have := fitsR_bd h4
  refine ⟨hop.1, hop.2, by omega, by omega, by omega, by omega, by omega, by omega, fun e => ?_, fun e => ?_, fun e => ?_, h1, h5⟩
  · rcases (fitsR_iff _ _).1 h2 with h | h
    · exact h
    · rw [e] at h; cases h.1
  · rcases (fitsR_iff _ _).1 h3 with h | h
    · exact h
    · rw [e] at h; cases h.1
  · rcases (fitsR_iff _ _).1 h4 with h | h
    · exact h
    · rw [e] at h; cases h.1

def decI (w : Int) : QI :=
  ⟨w / 67108864, if (formOf (w / 67108864)).d then w / 4194304 % 16 else 0, if (formOf (w / 67108864)).a then w / 262144 % 16 else 0, if (formOf (w / 67108864)).b then w / 16384 % 16 else 0,
   if (formOf (w / 67108864)).sg then sgn (w % pw (formOf (w / 67108864)).bits) (formOf (w / 67108864)).bits else w % pw (formOf (w / 67108864)).bits⟩
def decOk (w : Int) : Bool := encE (decI w) == 0 && encW (decI w) == w
def decV (w : Int) : QI := if decOk w then decI w else ⟨0, 0, 0, 0, 0⟩
def decE (w : Int) : Int := if decOk w then 0 else 12

/-- The eleven forms. -/
def forms : List Form := [⟨true, true, true, true, false, 0, 0⟩, ⟨true, true, true, false, false, 18, 0⟩, ⟨true, true, true, false, true, 18, 0⟩, ⟨true, true, false, false, true, 22, 0⟩, ⟨true, true, false, false, false, 22, 0⟩,
  ⟨true, false, false, false, false, 18, 0⟩, ⟨true, false, false, false, false, 0, 0⟩, ⟨true, false, true, false, false, 0, 0⟩, ⟨true, true, false, false, false, 18, 3⟩, ⟨true, false, true, false, false, 18, 4⟩,
  ⟨false, false, false, false, false, 0, 0⟩]

theorem formOf_mem (op : Int) : formOf op ∈ forms := by
  unfold formOf forms
  repeat' split
  all_goals simp

theorem formOf_cases (op : Int) : formOf op = ⟨true, true, true, true, false, 0, 0⟩ ∨ formOf op = ⟨true, true, true, false, false, 18, 0⟩ ∨ formOf op = ⟨true, true, true, false, true, 18, 0⟩ ∨ formOf op = ⟨true, true, false, false, true, 22, 0⟩ ∨
    formOf op = ⟨true, true, false, false, false, 22, 0⟩ ∨ formOf op = ⟨true, false, false, false, false, 18, 0⟩ ∨ formOf op = ⟨true, false, false, false, false, 0, 0⟩ ∨ formOf op = ⟨true, false, true, false, false, 0, 0⟩ ∨
    formOf op = ⟨true, true, false, false, false, 18, 3⟩ ∨ formOf op = ⟨true, false, true, false, false, 18, 4⟩ ∨ formOf op = ⟨false, false, false, false, false, 0, 0⟩ := by
  have := formOf_mem op
  simpa only [forms, List.mem_cons, List.mem_nil_iff, or_false] using this

end Go.Proofs.Ytdoanneelnelbaa
