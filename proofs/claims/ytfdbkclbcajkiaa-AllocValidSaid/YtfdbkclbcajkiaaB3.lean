/-
  Counting variables, in plain Lean. No condition.
-/
import Derived.Test.YtfdbkclbcajkiaaB2
namespace Go.Proofs.Ytfdbkclbcajkiaa
set_option linter.unusedSimpArgs false
set_option linter.unusedVariables false
open Go.RowKit

def bumps (l : List Int) (u : Nat → Int) : Nat → Int := l.foldl (fun u v => bump v u) u
def varsR (o : OpR) : List Int := (if (shR o.c).d then [o.d] else []) ++ (if (shR o.c).a then [o.a] else []) ++ (if (shR o.c).b then [o.b] else [])
def useN (ops : List OpR) (k : Nat) : Nat → Int := bumps ((ops.take k).flatMap varsR) (fun _ => 0)
def uses (ops : List OpR) : Nat → Int := bumps (ops.flatMap varsR) (fun _ => 0)
def Bd (u : Nat → Int) (n : Nat) : Prop := ∀ i, 0 ≤ u i ∧ u i ≤ (n : Int)

theorem bumps_nil (u : Nat → Int) : bumps [] u = u := rfl
theorem bumps_cons (v : Int) (l : List Int) (u : Nat → Int) : bumps (v :: l) u = bumps l (bump v u) := rfl
theorem bumps_app (l m : List Int) (u : Nat → Int) : bumps (l ++ m) u = bumps m (bumps l u) := by simp [bumps]
theorem bumps_snoc {l : List Int} {j : Nat} (h : j < l.length) (u : Nat → Int) : bumps (l.take (j + 1)) u = bump l[j] (bumps (l.take j) u) := by
  rw [List.take_succ_eq_append_getElem h, bumps_app]; rfl
theorem useN_zero (ops : List OpR) : useN ops 0 = fun _ => 0 := by simp [useN, bumps]
theorem useN_succ {ops : List OpR} {k : Nat} (h : k < ops.length) : useN ops (k + 1) = bumps (varsR ops[k]) (useN ops k) := by
  unfold useN
  rw [List.take_succ_eq_append_getElem h, List.flatMap_append, bumps_app]
  simp
theorem useN_all {ops : List OpR} {k : Nat} (h : ops.length ≤ k) : useN ops k = uses ops := by
  unfold useN uses
  rw [List.take_of_length_le h]
theorem bump_neg {v : Int} (h : v < 0) (u : Nat → Int) : bump v u = u := bump_no (by simp [isV]; omega)
theorem tw_iff (o : OpR) : twR o = (decide (o.a = o.b) && (shR o.c).b) := by
  unfold twR shR
  by_cases h : o.a = o.b
  · simp only [h, decide_true, Bool.true_and]
    repeat' split
    all_goals simp <;> omega
  · simp [h]
theorem uses_one (o : OpR) (u : Nat → Int) : (if twR o = true then bump o.a (bumps (rdR o) (bump (wrR o) u)) else bumps (rdR o) (bump (wrR o) u)) = bumps (varsR o) u := by
  rw [tw_iff]
  have hsh := sh_ba o.c
  unfold rdR varsR wrR
  by_cases hab : o.a = o.b
  · cases hd : (shR o.c).d <;> cases ha : (shR o.c).a <;> cases hb : (shR o.c).b <;> simp [ha, hb] at hsh <;> simp [bumps, hab, bump_neg]
  · have hba : ¬ o.b = o.a := fun h => hab h.symm
    cases hd : (shR o.c).d <;> cases ha : (shR o.c).a <;> cases hb : (shR o.c).b <;> simp [ha, hb] at hsh <;> simp [bumps, hab, hba, bump_neg]
theorem bump_bd {u : Nat → Int} {n : Nat} (h : Bd u n) (v : Int) : Bd (bump v u) (n + 1) := by
  intro i
  have := h i
  unfold bump
  split <;> omega
theorem bumps_bd : ∀ {l : List Int} {u : Nat → Int} {n : Nat} (_ : Bd u n), Bd (bumps l u) (n + l.length)
  | [], u, n, h => h
  | v :: l, u, n, h => by
    have := bumps_bd (l := l) (bump_bd h v)
    rw [bumps_cons, List.length_cons]
    intro i
    have := this i
    omega
theorem Bd.mono {u : Nat → Int} {n m : Nat} (h : Bd u n) (hm : n ≤ m) : Bd u m := fun i => by have := h i; omega
theorem Bd.get {u : Nat → Int} {n : Nat} (h : Bd u n) (hn : n ≤ 1000000) : ∀ i, 0 ≤ u i ∧ u i ≤ 1000000 := fun i => by have := h i; omega
theorem vars_len (o : OpR) : (varsR o).length ≤ 3 := by unfold varsR; (repeat' split) <;> simp
theorem rd_len (o : OpR) : (rdR o).length ≤ 2 := by unfold rdR; (repeat' split) <;> simp
theorem flat_len : ∀ (ops : List OpR), (ops.flatMap varsR).length ≤ 3 * ops.length
  | [] => by simp
  | o :: l => by
    have := flat_len l
    have := vars_len o
    simp only [List.flatMap_cons, List.length_append, List.length_cons]
    omega
theorem useN_bd (ops : List OpR) (k : Nat) : Bd (useN ops k) (3 * k) := by
  have h := bumps_bd (l := (ops.take k).flatMap varsR) (u := fun _ => 0) (n := 0) (fun i => ⟨by simp, by simp⟩)
  refine h.mono ?_
  have := flat_len (ops.take k)
  have : (ops.take k).length ≤ k := List.length_take_le k ops
  omega
theorem isV_false {v : Int} (h : v < 0 ∨ 28 ≤ v ∨ v = 19) : isV v = false := by
  cases hx : isV v with
  | false => rfl
  | true => simp [isV] at hx; omega
theorem vi_one (u : Nat → Int) : ((List.range 28).map (vi u)).all (·.oneCell') = true := by simp [vi, Value.oneCell']
def uA (u : Nat → Int) : Value := .agg ((List.range 28).map (vi u)).toArray
def bumpB (has : Bool) (v : Int) (u : Nat → Int) : Nat → Int := if has = true then bump v u else u
theorem bumpB_bd {u : Nat → Int} {n : Nat} (h : Bd u n) (has : Bool) (v : Int) : Bd (bumpB has v u) (n + 1) := by
  unfold bumpB
  split
  · exact bump_bd h v
  · exact h.mono (by omega)
theorem uses_ref (o : OpR) (u : Nat → Int) : bumps (varsR o) u = bumpB (shR o.c).b o.b (bumpB (shR o.c).a o.a (bumpB (shR o.c).d o.d u)) := by
  unfold varsR bumpB
  cases (shR o.c).d <;> cases (shR o.c).a <;> cases (shR o.c).b <;> simp [bumps]

end Go.Proofs.Ytfdbkclbcajkiaa
