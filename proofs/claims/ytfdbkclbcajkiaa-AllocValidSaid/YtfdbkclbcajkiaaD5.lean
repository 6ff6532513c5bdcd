/-
  Renaming two variables into one another, in plain Lean. No condition.
-/
import Derived.Test.YtfdbkclbcajkiaaD4
import Derived.Test.YtfdbkclbcajkiaaKB
namespace Go.Proofs.Ytfdbkclbcajkiaa
set_option linter.unusedSimpArgs false
set_option linter.unusedVariables false
open Go.RowKit

theorem isV_iff {v : Int} : isV v = true ↔ 0 ≤ v ∧ v < 28 ∧ v ≠ 19 := by
  simp [isV, and_assoc]
/-- The two names, one for the other. -/
def sg (x y v : Int) : Int := if v = x then y else if v = y then x else v
def sig (x y j : Nat) : Nat := if j = x then y else if j = y then x else j
theorem bumps_sg {x y : Nat} (hx : x < 19) (hy : y < 19) : ∀ (l : List Int) (u u' : Nat → Int), (∀ j, u j = u' (sig x y j)) → ∀ j, bumps (l.map (sg x y)) u j = bumps l u' (sig x y j)
  | [], u, u', h, j => h j
  | v :: l, u, u', h, j => by
    rw [List.map_cons, bumps_cons, bumps_cons]
    refine bumps_sg hx hy l _ _ (fun j => ?_) j
    have e : (isV (sg x y v) = true ∧ j = (sg x y v).toNat) ↔ (isV v = true ∧ sig x y j = v.toNat) := by
      rw [isV_iff, isV_iff]
      unfold sg sig
      repeat' split
      all_goals omega
    simp only [bump]
    by_cases hc : isV v = true ∧ sig x y j = v.toNat
    · rw [if_pos hc, if_pos (e.2 hc), h j]
    · rw [if_neg hc, if_neg (fun hh => hc (e.1 hh)), h j]
def swp (x y : Int) (b : Bool) (v : Int) : Int := if b = true ∧ v = x then y else if b = true ∧ v = y then x else v
def renO (x y : Int) (o : OpR) : OpR := ⟨o.c, swp x y (shR o.c).d o.d, swp x y (shR o.c).a o.a, swp x y (shR o.c).b o.b, o.n⟩
theorem vars_ren (x y : Int) (o : OpR) : varsR (renO x y o) = (varsR o).map (sg x y) := by
  unfold varsR renO swp sg
  cases (shR o.c).d <;> cases (shR o.c).a <;> cases (shR o.c).b <;> simp
theorem uses_ren {x y : Nat} (hx : x < 19) (hy : y < 19) (ops : List OpR) (j : Nat) : uses (ops.map (renO x y)) j = uses ops (sig x y j) := by
  unfold uses
  have e : (ops.map (renO x y)).flatMap varsR = (ops.flatMap varsR).map (sg x y) := by
    induction ops with
    | nil => rfl
    | cons o ops ih => rw [List.map_cons, List.flatMap_cons, List.flatMap_cons, List.map_append, ih, vars_ren]
  rw [e]
  exact bumps_sg hx hy _ (fun _ => 0) (fun _ => 0) (fun _ => rfl) j

/-- The first k operations are renamed. -/
def rnL (x y : Int) (ops : List OpR) (k : Nat) : List OpR := (ops.take k).map (renO x y) ++ ops.drop k
theorem rnL_len (x y : Int) (ops : List OpR) (k : Nat) : (rnL x y ops k).length = ops.length := by
  simp [rnL]
  omega
def o0 : OpR := ⟨0, 0, 0, 0, 0⟩
theorem rnL_get {x y : Int} {ops : List OpR} {k : Nat} (h : k < ops.length) : (rnL x y ops k)[k]? = some (ops.getD k o0) := by
  unfold rnL
  have hl : ((ops.take k).map (renO x y)).length = k := by simp; omega
  rw [List.getElem?_append_right (by omega), hl, Nat.sub_self, List.getElem?_drop, Nat.add_zero, getD_get o0 h]
theorem set_get {α : Type} {l : List α} {k : Nat} {e : α} (h : k < l.length) : (l.set k e)[k]? = some e := by simp [h]
theorem rnL_step {x y : Int} {ops : List OpR} {k : Nat} (h : k < ops.length) {e1 e2 e3 : OpR} (he : e3 = renO x y (ops.getD k o0)) : (((rnL x y ops k).set k e1).set k e2).set k e3 = rnL x y ops (k + 1) := by
  subst he
  rw [List.set_set, List.set_set]
  have hl : ((ops.take k).map (renO x y)).length = k := by simp; omega
  have hd : ops.drop k = ops.getD k o0 :: ops.drop (k + 1) := by
    rw [List.drop_eq_getElem_cons h, List.getD_eq_getElem?_getD, List.getElem?_eq_getElem h]
    rfl
  unfold rnL
  rw [List.set_append_right _ _ (by omega), hl, Nat.sub_self, hd, List.set_cons_zero, List.take_add_one, List.getElem?_eq_getElem h, List.map_append, List.append_assoc]
  simp [List.getD_eq_getElem?_getD, List.getElem?_eq_getElem h]
theorem rnL_zero (x y : Int) (ops : List OpR) : rnL x y ops 0 = ops := by simp [rnL]
theorem rnL_all (x y : Int) (ops : List OpR) : rnL x y ops ops.length = ops.map (renO x y) := by simp [rnL]

/-! ### The three places of an operation -/
def f3 (a b c : Int) : Nat → Int := fun i => if i = 0 then a else if i = 1 then b else c
def h3 (a b c : Bool) : Nat → Bool := fun i => if i = 0 then a else if i = 1 then b else c
def vbo (h : Nat → Bool) : Nat → Value := fun i => .bool (h i)
/-- The first t places are renamed. -/
def f2 (x y : Int) (h : Nat → Bool) (f : Nat → Int) (t : Nat) : Nat → Int := fun i => if i < t then swp x y (h i) (f i) else f i
theorem f2_at (x y : Int) (h : Nat → Bool) (f : Nat → Int) (t : Nat) : f2 x y h f t t = f t := by simp [f2]
theorem f2_step {x y : Int} {h : Nat → Bool} {f : Nat → Int} {t : Nat} {v : Int} (hv : v = swp x y (h t) (f t)) : fset (vi (f2 x y h f t)) t (.int .i64 v) = vi (f2 x y h f (t + 1)) := by
  funext i
  subst hv
  simp only [fset, vi, f2]
  by_cases e : i = t
  · subst e; simp
  · rw [if_neg e]
    by_cases e2 : i < t
    · rw [if_pos e2, if_pos (by omega)]
    · rw [if_neg e2, if_neg (by omega)]
theorem f2_same {x y : Int} {h : Nat → Bool} {f : Nat → Int} {t : Nat} (hv : f t = swp x y (h t) (f t)) : vi (f2 x y h f t) = vi (f2 x y h f (t + 1)) := by
  rw [← f2_step (v := f t) hv]
  funext i
  simp only [fset, vi, f2]
  by_cases e : i = t
  · subst e; simp
  · rw [if_neg e]

end Go.Proofs.Ytfdbkclbcajkiaa
