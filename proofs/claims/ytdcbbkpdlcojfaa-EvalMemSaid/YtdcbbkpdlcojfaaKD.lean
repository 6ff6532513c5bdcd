/-
  What comes behind a deferred call: regions of a frame that has one. No condition.
-/
import Derived.Test.YtdcbbkpdlcojfaaKP
import Derived.Orders
import Derived.Recover
namespace Go.Proofs.Ytdcbbkpdlcojfaa
set_option linter.unusedSimpArgs false
set_option linter.unusedVariables false
open Go.RowKit

/-- A frame with more deferred calls. -/
def more (ds : List Deferred) (a : Act) : Act := { a with defers := a.defers ++ ds }
theorem more_put (ds : List Deferred) (a : Act) (d : Option Nat) (v : Value) : (more ds a).put d v = more ds (a.put d v) := by
  unfold more Act.put
  cases d <;> rfl
theorem upon_more (P : Program) (ds : List Deferred) (o : Oper) (a : Act) (next : Act → World → Prop) (Q : Exit → Act → World → Prop) (r : Result Next)
    (h : o.upon P a (fun a w => next (more ds a) w) (fun e a w => Q e (more ds a) w) r) : o.upon P (more ds a) next Q r := by
  unfold Oper.upon at h ⊢
  split at h
  · rw [more_put]; exact h
  · rw [more_put]; exact h
  · rename_i d w'
    rw [← more_put] at h
    exact h
  · refine h.mono ?_
    intro e w' he
    cases e with
    | returned v => dsimp only at he ⊢; rw [more_put]; exact he
    | panicked c => exact he
    | outgrown =>
      obtain ⟨a', w'', hq⟩ := he
      exact ⟨_, w'', hq⟩
  · simpa only [more_put] using h
  · exact h
  · exact h
theorem wpOps_more (P : Program) (ds : List Deferred) (ops : Array Oper) (Q : Exit → Act → World → Prop) : ∀ (l : List Nat) (a : Act) (w : World), wpOps P ops (fun e a w => Q e (more ds a) w) l a w → wpOps P ops Q l (more ds a) w
  | [], a, w, h => h
  | i :: rest, a, w, h => by
    unfold wpOps at h ⊢
    split at h
    · rename_i hn
      exact wpOps_more P ds ops Q rest a w h
    · rename_i o ho
      split at h
      · rename_i hw
        have hw' : Region.wanted o (yielded ops (more ds a).tmps) = true := hw
        rw [if_pos hw']
        rcases h with h | ⟨h1, a', w', h2⟩
        · left
          have himp : ∀ a w, wpOps P ops (fun e a w => Q e (more ds a) w) rest a w → wpOps P ops Q rest (more ds a) w := wpOps_more P ds ops Q rest
          exact upon_more P ds o a _ Q _ (Oper.wp_mono himp h)
        · right
          exact ⟨h1, _, w', h2⟩
      · rename_i hw
        have hw' : ¬ Region.wanted o (yielded ops (more ds a).tmps) = true := hw
        rw [if_neg hw', more_put]
        exact wpOps_more P ds ops Q rest _ w h
section
variable {P : Program} {N : Nat} {w0 : World} {M H : Nat → Prop} {E : Env} {Γ R : Ctx} {Q : Exit → Act → World → Prop} {ds : List Deferred}
/-- The same as At, for a frame that has deferred calls. -/
def AtD (ds : List Deferred) (N : Nat) (w0 : World) (M H : Nat → Prop) (E : Env) (Γ R : Ctx) (Rel : Act → World → Prop) : Prop :=
  At N w0 M H E Γ R fun a w => Rel (more ds a) w
theorem wpOps_of_list {l : List Oper} {a : Act} {w : World} (h : wpList P l.toArray Q l a w) : wpOps P l.toArray Q (List.range l.toArray.size) a w := by
  have := wpOps_eq_wpList (P := P) (ops := l.toArray) (Q := Q) l 0 (fun j => by simp)
  rw [List.range_eq_range', List.size_toArray, this]
  exact h
theorem r_regionD {id : Nat} {l : List Oper} (h : At N w0 M H E Γ R (wpList P l.toArray (fun e a w => Q e (more ds a) w) l)) : AtD ds N w0 M H E Γ R ((Code.region id l.toArray false).wp P Q) := fun a w hE hC =>
  wp_region (wpOps_more P ds l.toArray Q _ a w (wpOps_of_list (h a w hE hC)))
theorem r_seqD {x y : Code} (h : AtD ds N w0 M H E Γ R (x.wp P (XT (y.wp P Q) Q))) : AtD ds N w0 M H E Γ R ((Code.seq x y).wp P Q) := fun a w hE hC => by
  have := h a w hE hC
  refine wp_seq (Code.wp_mono (fun e a w hq => ?_) this)
  cases e <;> exact hq
theorem r_drawD {id : Nat} {l : List Oper} (dl : List Nat) (V : Vals) (ht : topo 0 l = true) (h : Stg P N w0 M H (edel dl E) Γ R l (fun e a w => Q e (more ds a) w) V []) : AtD ds N w0 M H E Γ R ((Code.region id l.toArray true).wp P Q) := by
  intro a w hE hC
  refine wp_region_draw fun t => wpOps_more P ds l.toArray Q _ a _ (h _ (fun _ => false) a _ (sched_ord _ l ht t) ⟨(fun i hi => by cases hi), (fun i hi => by simp at hi), (fun i o _ hi => by cases hi), hE.del dl, (fun i d v _ hi => by cases hi), hC.stay ⟨rfl, rfl, rfl, Nat.le_refl _, fun _ _ _ => rfl⟩⟩)
/-- A call of a closure is deferred. -/
theorem r_defer {ops : Array Oper} {rest : List Oper} {T : TypeId} {ps : String} {af : Array Edge} {f : Operand} {n : Nat} {cap : Array Value} (hf : ev E f = some (.func (.func n) #[] cap)) (k : AtD [{ target := .fn (.func n) cap, args := #[] }] N w0 M H E Γ R (Q .normal)) :
    At N w0 M H E Γ R (wpList P ops Q [⟨none, .defer { callee := .value f, args := #[], argTypes := #[] }, T, ps, af, none⟩]) := by
  intro a w hE hC
  unfold wpList
  rw [if_pos (by simp [Region.wanted])]
  left
  unfold Oper.wp
  have hrun : (execOp a.eval ⟨none, .defer { callee := .value f, args := #[], argTypes := #[] }, T, ps, af, none⟩).run P w = .ok (.defer { target := .fn (.func n) cap, args := #[] }) w := by
    simp [execOp, resolve, hE.ev hf, Deferred.ofValue]
  rw [hrun]
  have := k a w hE hC
  show Q .normal ({ a with defers := _ :: a.defers } : Act) w
  have hd := hE.defers
  rw [hd]
  have hm : more [{ target := Target.fn (Fn.func n) cap, args := #[] }] a = { a with defers := [{ target := Target.fn (Fn.func n) cap, args := #[] }] } := by
    unfold more
    rw [hd]
    rfl
  dsimp only at this
  rw [hm] at this
  exact this
/-- A return before anything was deferred. -/
theorem r_ret0D {fn : Func} {rv : Array ResultVar} {u : Value} {X : Type} {φ : X → Prop} {v : X → Fin} {L' R' : X → List Asn} (x : X) (hφ : φ x) (hr : fn.results = rv) (hrs : RS P N w0 M H E Γ R rv u) (hu : .ret u = v x)
    (ks : List Nat) (rs : List Nat) (hnd : ndB ks = true) (hL : cgets Γ ks = somes (L' x)) (hR : cgets R rs = somes (R' x)) : At N w0 M H E Γ R (bodyPostD P fn (RetE w0 M H φ v L' R') .ret) := fun a w hE hC => by
  show Leaves P fn a.tmps _ a.defers .returning w
  rw [hE.defers]
  exact ⟨u, hrs fn a w hr hE hC, x, hφ, by rw [← hu]; rfl, hC.toL ks hnd hL rs hR⟩
/-- A return, where one closure is deferred that turns nothing then. -/
theorem r_ret1D {fn : Func} {n : Nat} {cap : Array Value} {rv : Array ResultVar} {u : Value} {X : Type} {φ : X → Prop} {v : X → Fin} {L' R' : X → List Asn} (hcl : ∀ w, COk w0 M H Γ R w → CallsD P n cap .returning w fun e u' w' => u' = .returning ∧ e = .returned (.tuple #[]) ∧ COk w0 M H Γ R w') (hcb : Cb P n)
    (x : X) (hφ : φ x) (hr : fn.results = rv) (hrs : RS P N w0 M H E Γ R rv u) (hu : .ret u = v x)
    (ks : List Nat) (rs : List Nat) (hnd : ndB ks = true) (hL : cgets Γ ks = somes (L' x)) (hR : cgets R rs = somes (R' x)) : AtD [{ target := .fn (.func n) cap, args := #[] }] N w0 M H E Γ R (bodyPostD P fn (RetE w0 M H φ v L' R') .ret) := fun a w hE hC => by
  show Leaves P fn (more _ a).tmps _ (more _ a).defers .returning w
  unfold more
  rw [hE.defers]
  refine ⟨by simp, .func n, cap, n, cap, rfl, ?_, ?_⟩
  · simp [invoke, run_callFunc hcb]
  · have h := hcl w hC
    intro c cs hc
    obtain ⟨e, u', w', fr, ⟨h1, h2, h3⟩, h4, h5, h6⟩ := h c cs hc
    refine ⟨e, u', w', fr, ?_, h4, h5, h6⟩
    subst h1 h2
    exact ⟨u, hrs fn a w' hr hE h3, x, hφ, by rw [← hu]; rfl, h3.toL ks hnd hL rs hR⟩
/-- A panic, where one closure is deferred that recovers it. -/
theorem r_out1D {fn : Func} {n : Nat} {cap : Array Value} {pv : Value} {rv : Array ResultVar} {u : Value} {X : Type} {φ : X → Prop} {v : X → Fin} {L' R' : X → List Asn} {Γ' : Ctx}
    (hcl : ∀ w, COk w0 M H Γ R w → CallsD P n cap (.panicking [{ v := pv, recovered := false }]) w fun e u' w' => u' = .panicking [{ v := pv, recovered := true }] ∧ e = .returned (.tuple #[]) ∧ COk w0 M H Γ' R w') (hcb : Cb P n)
    (x : X) (hφ : φ x) (hr : fn.results = rv) (hrs : RS P N w0 M H E Γ' R rv u) (hu : .ret u = v x)
    (ks : List Nat) (rs : List Nat) (hnd : ndB ks = true) (hL : cgets Γ' ks = somes (L' x)) (hR : cgets R rs = somes (R' x)) : AtD [{ target := .fn (.func n) cap, args := #[] }] N w0 M H E Γ R (bodyPostD P fn (RetE w0 M H φ v L' R') (.panic [{ v := pv, recovered := false }])) := fun a w hE hC => by
  show Leaves P fn (more _ a).tmps _ (more _ a).defers (.panicking _) w
  unfold more
  rw [hE.defers]
  refine ⟨by simp, .func n, cap, n, cap, rfl, ?_, ?_⟩
  · simp [invoke, run_callFunc hcb]
  · have h := hcl w hC
    intro c cs hc
    obtain ⟨e, u', w', fr, ⟨h1, h2, h3⟩, h4, h5, h6⟩ := h c cs hc
    refine ⟨e, u', w', fr, ?_, h4, h5, h6⟩
    subst h1 h2
    exact ⟨u, hrs fn a w' hr hE h3, x, hφ, by rw [← hu]; rfl, h3.toL ks hnd hL rs hR⟩
end
end Go.Proofs.Ytdcbbkpdlcojfaa
