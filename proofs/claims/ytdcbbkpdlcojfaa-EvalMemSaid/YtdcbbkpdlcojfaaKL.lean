/-
  A drawn region whose last operation overwrites a slot that it reads. No condition.
-/
import Derived.Test.YtdcbbkpdlcojfaaKC
namespace Go.Proofs.Ytdcbbkpdlcojfaa
set_option linter.unusedSimpArgs false
set_option linter.unusedVariables false
open Go.RowKit
section
variable {P : Program} {N : Nat} {w0 : World} {M H : Nat → Prop} {E : Env} {Γ R : Ctx} {Q : Exit → Act → World → Prop}
theorem stg_last {l : List Oper} {V : Vals} {C : List Nat} (is : List Nat) {I : Vals} (c : Nat) (C' : List Nat) {d : Nat} {v : Value} {op : Op} {T : TypeId} {ps : String} {af : Array Edge} (hI0 : vpick is V = I) (hst : stOk N E V = true) (hI : PRs P N w0 M H E Γ R l V I) (hcov : covOk V is C = true)
    (hcls : clsOk l (vidx V ++ C) (some c) = true) (ho : l[c]? = some ⟨some d, op, T, ps, af, none⟩) (hd : Nat.blt d N = true) (hcV : inB (vidx V ++ C) c = false)
    (hcl : clOk l C c [] C' = true) (hall : (List.range l.length).all (fun i => inB C' i) = true) (hlt : (vidx V).all (fun i => Nat.blt i l.length) = true) (hpr : PR P N w0 M H (vpre (preds ⟨some d, op, T, ps, af, none⟩) V ++ E) Γ R op v)
    (k : At N w0 M H ((d, v) :: (venv V ++ E)) Γ R (Q .normal)) : Stg P N w0 M H E Γ R l Q V C := by
  refine stg_step is hI0 hst hI hcov (some c) hcls (fun D a w hD hS => ?_) fun k' hk' ord D a w o' hio hDk hprd hrest hS => ?_
  · have := hS.done c (hD c (List.getElem?_eq_some_iff.1 ho).1)
    rw [mem_inB this] at hcV
    cases hcV
  · injection hk' with hk'
    subst hk'
    rw [ho] at hio
    injection hio with hio
    subst hio
    have ho' : l.toArray[c]? = some ⟨some d, op, T, ps, af, none⟩ := by simpa using ho
    have hclosed : ∀ (j : Nat) (o' : Oper), l[j]? = some o' → (bif Nat.beq j c then true else D j) = true → ∀ k ∈ preds o', (bif Nat.beq k c then true else D k) = true := by
      intro j o' hoj hj q hq
      cases hb : Nat.beq j c with
      | true =>
        have := Nat.eq_of_beq_eq_true hb
        subst this
        rw [ho] at hoj
        injection hoj with hoj
        subst hoj
        simp [hprd q hq]
      | false => rw [hb] at hj; simp [hS.closed j o' hoj hj q hq]
    have hdone : ∀ i, i < l.length → (bif Nat.beq i c then true else D i) = true := fun i hi =>
      clOk_done (D := fun i => bif Nat.beq i c then true else D i) (fun i hi => by simp [hS.sure i hi]) (by simp) hclosed C' [] hcl (fun s hs => by simp at hs) i (inB_mem (List.all_eq_true.1 hall i (List.mem_range.2 hi)))
    cases hrest with
    | cons ho2 hD2 _ _ =>
      dsimp only at hD2
      rw [hdone _ (List.getElem?_eq_some_iff.1 ho2).1] at hD2
      cases hD2
    | nil h =>
      simp only [wpOps, ho']
      rw [if_pos (by simp [Region.wanted])]
      left
      have hEp : EOk N (vpre (preds ⟨some d, op, T, ps, af, none⟩) V ++ E) a := hS.base.vpre fun j d v hj hjp => hS.vals j d v hj (hprd j hjp)
      unfold Oper.wp
      rw [hpr _ _ _ a w hEp hS.ok _ _]
      have hEv : EOk N (venv V ++ E) a := hS.base.vals fun i e u hm => hS.vals i e u hm (by
        have h1 : i ∈ vidx V := vidx_mem.2 ⟨e, u, hm⟩
        have h2 : Nat.blt i l.length = true := List.all_eq_true.1 hlt i h1
        have h3 := hdone i (by simpa using h2)
        cases hb : Nat.beq i c with
        | true =>
          have := Nat.eq_of_beq_eq_true hb
          subst this
          rw [mem_inB (List.mem_append_left _ h1)] at hcV
          cases hcV
        | false => rw [hb] at h3; exact h3)
      exact k _ _ (hEv.put hd v) hS.ok
end
end Go.Proofs.Ytdcbbkpdlcojfaa
