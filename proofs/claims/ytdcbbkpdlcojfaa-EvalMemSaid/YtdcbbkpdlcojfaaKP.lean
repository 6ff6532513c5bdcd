/-
  Contracts of functions that may panic; calls of them; deferred calls. No condition.
-/
import Derived.Test.YtdcbbkpdlcojfaaKC
import Derived.Recover
namespace Go.Proofs.Ytdcbbkpdlcojfaa
set_option linter.unusedSimpArgs false
set_option linter.unusedVariables false
open Go.RowKit

/-- How a call ends: it returns, or panics with a value that nobody has recovered. -/
inductive Fin where
  | ret (v : Value)
  | pan (v : Value)
def Fin.ending : Fin → Ending
  | .ret v => .returned v
  | .pan v => .panicked [{ v := v, recovered := false }]
def RetE (w0 : World) (M H : Nat → Prop) {X : Type} (φ : X → Prop) (v : X → Fin) (L R : X → List Asn) : Ending → World → Prop :=
  fun e w' => ∃ x, φ x ∧ e = (v x).ending ∧ LOk w0 M H (L x) (R x) w'
/-- A contract: what function n gives, when it owns L and reads R0; it may panic. -/
def SpecE (P : Program) (n : Nat) (vs : List Value) (L R0 : List Asn) {X : Type} (φ : X → Prop) (v : X → Fin) (L' R' : X → List Asn) : Prop :=
  ∀ w M H, LOk w M H L R0 w → Calls P n vs.toArray w (RetE w M H φ v L' R')

section
variable {P : Program} {N : Nat} {w0 : World} {M H : Nat → Prop} {E : Env} {Γ R : Ctx} {Q : Exit → Act → World → Prop}
variable {ops : Array Oper} {rest : List Oper} {T : TypeId} {ps : String} {af : Array Edge} {d : Nat} {op : Op}

theorem Spec.toE {n : Nat} {vs : List Value} {L R0 : List Asn} {X : Type} {φ : X → Prop} {v : X → Value} {L' R' : X → List Asn} (h : Spec P n vs L R0 φ v L' R') : SpecE P n vs L R0 φ (fun x => .ret (v x)) L' R' := fun w M H hL => (h w M H hL).mono (by
  rintro e w' ⟨x, h1, h2, h3⟩
  exact ⟨x, h1, h2, h3⟩)
theorem SpecE.toSpec {n : Nat} {vs : List Value} {L R0 : List Asn} {X : Type} {φ : X → Prop} {v : X → Fin} {L' R' : X → List Asn} (u : X → Value) (h : SpecE P n vs L R0 φ v L' R') (hu : ∀ x, φ x → v x = .ret (u x)) : Spec P n vs L R0 φ u L' R' := fun w M H hL => (h w M H hL).mono (by
  rintro e w' ⟨x, h1, h2, h3⟩
  refine ⟨x, h1, ?_, h3⟩
  rw [h2, hu x h1]
  rfl)
theorem SpecE.mono {n : Nat} {vs : List Value} {L R0 : List Asn} {X Y : Type} {φ : X → Prop} {v : X → Fin} {L' R' : X → List Asn} {ψ : Y → Prop} {u : Y → Fin} {K' S' : Y → List Asn} (h : SpecE P n vs L R0 φ v L' R')
    (hy : ∀ x, φ x → ∃ y, ψ y ∧ v x = u y ∧ L' x = K' y ∧ R' x = S' y) : SpecE P n vs L R0 ψ u K' S' := fun w M H hL => (h w M H hL).mono (by
  rintro e w' ⟨x, h1, h2, h3⟩
  obtain ⟨y, g1, g2, g3, g4⟩ := hy x h1
  exact ⟨y, g1, by rw [h2, g2], by rw [← g3, ← g4]; exact h3⟩)
theorem calls_useE {n : Nat} {vs : List Value} {L R0 : List Asn} {X : Type} {φ : X → Prop} {v : X → Fin} {L' R' : X → List Asn} (hs : SpecE P n vs L R0 φ v L' R') {w : World} (hC : COk w0 M H Γ R w)
    (ks : List Nat) (hnd : ndB ks = true) (hL : cgets Γ ks = somes L) (rs : List (Bool × Nat)) (hR : lgets Γ R rs = somes R0) (hl : lentOk ks rs = true) (ns : List Nat) (hns : ndB ns = true) (hnl : ∀ x, φ x → ns.length = (L' x).length) (rns : List Nat) (hrl : ∀ x, φ x → noneLent rs = true → rns.length = (R' x).length) :
    Calls P n vs.toArray w fun e w' => ∃ x, φ x ∧ e = (v x).ending ∧ COk w0 M H (cputs ns (L' x) (ckill ks Γ)) (bif noneLent rs then cputs rns (R' x) R else R) w' := by
  have hR0 : ∀ (i : Nat) A, R0[i]? = some A → (∃ k, cget R k = some A) ∨ ∃ k, k ∉ ks ∧ cget Γ k = some A := by
    intro i A hi
    obtain ⟨⟨b, k⟩, hp, hq⟩ := lgets_get Γ R rs R0 i A hR hi
    cases b with
    | true => exact .inr ⟨k, lentOk_mem hl k hp, hq⟩
    | false => exact .inl ⟨k, hq⟩
  obtain ⟨M', H', hin, hout⟩ := hC.step ks (ndB_nd hnd) hL hR0
  refine (hs w M' H' hin).mono ?_
  rintro e w' ⟨x, h1, rfl, h2⟩
  refine ⟨x, h1, rfl, ?_⟩
  cases hno : noneLent rs with
  | false =>
    have hdrop : LOk w M' H' (L' x) [] w' := by
      obtain ⟨F, hF⟩ := h2
      exact ⟨F, hF.touch, hF.has, hF.lt, hF.mine, hF.apart, fun i A hi => by simp at hi⟩
    exact (hout (L' x) [] ns [] w' (ndB_nd hns) (hnl x h1) rfl hdrop).1
  | true =>
    refine (hout (L' x) (R' x) ns rns w' (ndB_nd hns) (hnl x h1) (hrl x h1 hno) h2).2 fun i A hi => ?_
    obtain ⟨⟨b, k⟩, hp, hq⟩ := lgets_get Γ R rs R0 i A hR hi
    cases b with
    | true => exact absurd hp (noneLent_mem hno k)
    | false => exact ⟨k, hq⟩
/-- What follows a call: on with its value, or out with its panic. -/
def Aft (N : Nat) (w0 : World) (M H : Nat → Prop) (E : Env) (Γ R : Ctx) (d : Nat) (next : Act → World → Prop) (Q : Exit → Act → World → Prop) : Fin → Prop
  | .ret v => At N w0 M H ((d, v) :: E) Γ R next
  | .pan v => At N w0 M H E Γ R (Q (.panic [{ v := v, recovered := false }]))
/-- A CALL of a function that may panic. -/
theorem r_callE {n : Nat} {f : Operand} {xs : List Operand} {cap us vs : List Value} {at_ : Array TypeId} {L R0 : List Asn} {X : Type} {φ : X → Prop} {v : X → Fin} {L' R' : X → List Asn} (hs : SpecE P n vs L R0 φ v L' R') (hcb : Cb P n)
    (ks : List Nat) (rs : List (Bool × Nat)) (ns rns : List Nat) (hf : ev E f = some (.func (.func n) #[] cap.toArray)) (hx : evs E xs = some us) (hu : us ++ cap = vs)
    (hnd : ndB ks = true) (hL : cgets Γ ks = somes L) (hR : lgets Γ R rs = somes R0) (hl : lentOk ks rs = true) (hns : ndB ns = true) (hnl : ∀ x, φ x → ns.length = (L' x).length) (hrl : ∀ x, φ x → noneLent rs = true → rns.length = (R' x).length)
    (hd : Nat.blt d N = true) (k : ∀ x, φ x → Aft N w0 M H E (cputs ns (L' x) (ckill ks Γ)) (bif noneLent rs then cputs rns (R' x) R else R) d (wpList P ops Q rest) Q (v x)) :
    At N w0 M H E Γ R (wpList P ops Q (⟨some d, .call { callee := .value f, args := xs.toArray, argTypes := at_ }, T, ps, af, none⟩ :: rest)) := by
  intro a w hE hC
  unfold wpList
  rw [if_pos (by simp [Region.wanted])]
  left
  unfold Oper.wp
  have hev := hE.evs hx
  have hrun : (execOp a.eval ⟨some d, .call { callee := .value f, args := xs.toArray, argTypes := at_ }, T, ps, af, none⟩).run P w = .ok (.enter n vs.toArray) w := by
    subst hu
    simp [execOp, resolve, hE.ev hf, Deferred.ofValue, invoke, hev, run_callFunc hcb]
  rw [hrun]
  refine (calls_useE hs hC ks hnd hL rs hR hl ns hns hnl rns hrl).mono ?_
  rintro e w' ⟨x, h1, rfl, h2⟩
  have hk := k x h1
  revert hk
  cases v x with
  | ret u => exact fun hk => hk _ _ (hE.put hd _) h2
  | pan u => exact fun hk => hk _ _ hE h2
/-- The same, without a result. -/
def Aft0 (N : Nat) (w0 : World) (M H : Nat → Prop) (E : Env) (Γ R : Ctx) (next : Act → World → Prop) (Q : Exit → Act → World → Prop) : Fin → Prop
  | .ret _ => At N w0 M H E Γ R next
  | .pan v => At N w0 M H E Γ R (Q (.panic [{ v := v, recovered := false }]))
theorem r_callE0 {n : Nat} {f : Operand} {xs : List Operand} {cap us vs : List Value} {at_ : Array TypeId} {L R0 : List Asn} {X : Type} {φ : X → Prop} {v : X → Fin} {L' R' : X → List Asn} (hs : SpecE P n vs L R0 φ v L' R') (hcb : Cb P n)
    (ks : List Nat) (rs : List (Bool × Nat)) (ns rns : List Nat) (hf : ev E f = some (.func (.func n) #[] cap.toArray)) (hx : evs E xs = some us) (hu : us ++ cap = vs)
    (hnd : ndB ks = true) (hL : cgets Γ ks = somes L) (hR : lgets Γ R rs = somes R0) (hl : lentOk ks rs = true) (hns : ndB ns = true) (hnl : ∀ x, φ x → ns.length = (L' x).length) (hrl : ∀ x, φ x → noneLent rs = true → rns.length = (R' x).length)
    (k : ∀ x, φ x → Aft0 N w0 M H E (cputs ns (L' x) (ckill ks Γ)) (bif noneLent rs then cputs rns (R' x) R else R) (wpList P ops Q rest) Q (v x)) :
    At N w0 M H E Γ R (wpList P ops Q (⟨none, .call { callee := .value f, args := xs.toArray, argTypes := at_ }, T, ps, af, none⟩ :: rest)) := by
  intro a w hE hC
  unfold wpList
  rw [if_pos (by simp [Region.wanted])]
  left
  unfold Oper.wp
  have hev := hE.evs hx
  have hrun : (execOp a.eval ⟨none, .call { callee := .value f, args := xs.toArray, argTypes := at_ }, T, ps, af, none⟩).run P w = .ok (.enter n vs.toArray) w := by
    subst hu
    simp [execOp, resolve, hE.ev hf, Deferred.ofValue, invoke, hev, run_callFunc hcb]
  rw [hrun]
  refine (calls_useE hs hC ks hnd hL rs hR hl ns hns hnl rns hrl).mono ?_
  rintro e w' ⟨x, h1, rfl, h2⟩
  have hk := k x h1
  revert hk
  cases v x with
  | ret u => exact fun hk => hk _ _ hE h2
  | pan u => exact fun hk => hk _ _ hE h2

/-- An operation that changes what is there, or leaves by Q. -/
def MSX (P : Program) (N : Nat) (w0 : World) (M H : Nat → Prop) (E : Env) (Γ R : Ctx) (Q : Exit → Act → World → Prop) (o : Oper) {X : Type} (φ : X → Prop) (v : X → Value) (Γ' R' : X → Ctx) : Prop :=
  ∀ a w, EOk N E a → COk w0 M H Γ R w → ∀ (next : Act → World → Prop), (∀ x w', φ x → COk w0 M H (Γ' x) (R' x) w' → next (a.put o.dst (v x)) w') → o.wp P a w next Q
def Fin.val : Fin → Value
  | .ret v => v
  | .pan v => v
def Fin.isRet : Fin → Prop
  | .ret _ => True
  | .pan _ => False
theorem msx_callE {o_dst : Option Nat} {n : Nat} {f : Operand} {xs : List Operand} {cap us vs : List Value} {at_ : Array TypeId} {L R0 : List Asn} {X : Type} {φ : X → Prop} {v : X → Fin} {L' R' : X → List Asn} (hs : SpecE P n vs L R0 φ v L' R') (hcb : Cb P n)
    (ks : List Nat) (rs : List (Bool × Nat)) (ns rns : List Nat) (hf : ev E f = some (.func (.func n) #[] cap.toArray)) (hx : evs E xs = some us) (hu : us ++ cap = vs)
    (hnd : ndB ks = true) (hL : cgets Γ ks = somes L) (hR : lgets Γ R rs = somes R0) (hl : lentOk ks rs = true) (hns : ndB ns = true) (hnl : ∀ x, φ x → ns.length = (L' x).length) (hrl : ∀ x, φ x → noneLent rs = true → rns.length = (R' x).length)
    (hp : ∀ x pv, φ x → v x = .pan pv → At N w0 M H E (cputs ns (L' x) (ckill ks Γ)) (bif noneLent rs then cputs rns (R' x) R else R) (Q (.panic [{ v := pv, recovered := false }]))) :
    MSX P N w0 M H E Γ R Q ⟨o_dst, .call { callee := .value f, args := xs.toArray, argTypes := at_ }, T, ps, af, none⟩ (fun x => φ x ∧ (v x).isRet) (fun x => (v x).val) (fun x => cputs ns (L' x) (ckill ks Γ)) (fun x => bif noneLent rs then cputs rns (R' x) R else R) := by
  intro a w hE hC next hn
  unfold Oper.wp
  have hev := hE.evs hx
  have hrun : (execOp a.eval ⟨o_dst, .call { callee := .value f, args := xs.toArray, argTypes := at_ }, T, ps, af, none⟩).run P w = .ok (.enter n vs.toArray) w := by
    subst hu
    simp [execOp, resolve, hE.ev hf, Deferred.ofValue, invoke, hev, run_callFunc hcb]
  rw [hrun]
  refine (calls_useE hs hC ks hnd hL rs hR hl ns hns hnl rns hrl).mono ?_
  rintro e w' ⟨x, h1, rfl, h2⟩
  cases hv : v x with
  | ret u =>
    have := hn x w' ⟨h1, by rw [hv]; trivial⟩ h2
    dsimp only at this
    rw [hv] at this
    exact this
  | pan u => exact hp x u h1 hv _ _ hE h2
theorem aft_ret {next : Act → World → Prop} {v : Value} (h : At N w0 M H ((d, v) :: E) Γ R next) : Aft N w0 M H E Γ R d next Q (.ret v) := h
theorem aft_pan {next : Act → World → Prop} {v : Value} (h : At N w0 M H E Γ R (Q (.panic [{ v := v, recovered := false }]))) : Aft N w0 M H E Γ R d next Q (.pan v) := h
theorem aft0_ret {next : Act → World → Prop} {v : Value} (h : At N w0 M H E Γ R next) : Aft0 N w0 M H E Γ R next Q (.ret v) := h
theorem aft0_pan {next : Act → World → Prop} {v : Value} (h : At N w0 M H E Γ R (Q (.panic [{ v := v, recovered := false }]))) : Aft0 N w0 M H E Γ R next Q (.pan v) := h
/-- A stage that ends with the operation c, which may panic. -/
theorem stg_memX {l : List Oper} {V : Vals} {C : List Nat} (is : List Nat) {I : Vals} (c : Nat) (C' Jx : List Nat) {X : Type} {φ : X → Prop} {v : X → Value} {Γ' R' : X → Ctx} {d : Nat} {o : Oper} (J' : X → Vals) (hI0 : vpick is V = I) (hst : stOk N E V = true) (hI : PRs P N w0 M H E Γ R l V I) (hcov : covOk V is C = true)
    (hcls : clsOk l (vidx V ++ C) (some c) = true) (ho : l[c]? = some o) (hdst : o.dst = some d) (hgd : o.guard = none) (hd : Nat.blt d N = true) (hdE : eget E d = none) (hdV : inB (vslots V) d = false) (hcV : inB (vidx V ++ C) c = false)
    (hcl : clOk l C c [] C' = true) (hCC0 : C.all (inB C') = true) (hJ : ∀ x, φ x → vidx (J' x) = Jx) (hJx : Jx.all (fun j => !(inB (vidx V ++ C) j) && !(Nat.beq j c)) = true) (hms : MSX P N w0 M H (vpre (preds o) V ++ E) Γ R Q o φ v Γ' R')
    (k : ∀ x, φ x → Stg P N w0 M H E (Γ' x) (R' x) l Q (J' x ++ (c, d, v x) :: V) C') : Stg P N w0 M H E Γ R l Q V C := by
  have hCC : ∀ j ∈ C, j ∈ C' := fun j hj => inB_mem (List.all_eq_true.1 hCC0 j hj)
  refine stg_step is hI0 hst hI hcov (some c) hcls (fun D a w hD hS => ?_) fun k' hk' ord D a w o' hio hDk hpr hrest hS => ?_
  · have := hS.done c (hD c (List.getElem?_eq_some_iff.1 ho).1)
    rw [mem_inB this] at hcV
    cases hcV
  · injection hk' with hk'
    subst hk'
    rw [ho] at hio
    injection hio with hio
    subst hio
    have ho' : l.toArray[c]? = some o := by simpa using ho
    simp only [wpOps, ho']
    rw [if_pos (by simp [Region.wanted, hgd])]
    left
    have hEp : EOk N (vpre (preds o) V ++ E) a := hS.base.vpre fun j d v hj hjp => hS.vals j d v hj (hpr j hjp)
    have hlt : d < a.tmps.size := Nat.lt_of_lt_of_le (by simpa using hd) hS.base.size
    refine hms a w hEp hS.ok _ fun x w' hφ hC' => ?_
    rw [hdst]
    have hclosed : ∀ (j : Nat) (o' : Oper), l[j]? = some o' → (bif Nat.beq j c then true else D j) = true → ∀ k ∈ preds o', (bif Nat.beq k c then true else D k) = true := by
      intro j o' hoj hj q hq
      cases hb : Nat.beq j c with
      | true =>
        have := Nat.eq_of_beq_eq_true hb
        subst this
        rw [ho] at hoj
        injection hoj with hoj
        subst hoj
        simp [hpr q hq]
      | false => rw [hb] at hj; simp [hS.closed j o' hoj hj q hq]
    refine k x hφ ord _ _ w' hrest ⟨fun j hj => ?_, clOk_done (fun i hi => by simp [hS.sure i hi]) (by simp) hclosed C' [] hcl (fun s hs => by simp at hs), hclosed, ⟨hS.base.defers, by simpa [Act.put] using hS.base.size, fun t u ht => ?_⟩, fun j e u hj hjD => ?_, hC'⟩
    · rw [vidx_app]
      show j ∈ vidx (J' x) ++ (c :: vidx V) ++ C'
      cases hb : Nat.beq j c with
      | true => rw [Nat.eq_of_beq_eq_true hb]; simp
      | false =>
        rw [hb] at hj
        rcases List.mem_append.1 (hS.done j hj) with h | h
        · simp [h]
        · have := hCC j h
          simp [this]
    · simp only [Act.put, Array.getElem?_setIfInBounds]
      have hne : d ≠ t := fun e => by subst e; rw [hdE] at ht; cases ht
      rw [if_neg hne]
      exact hS.base.slot t u ht
    · simp only [Act.put, Array.getElem?_setIfInBounds]
      rcases List.mem_append.1 hj with hj | hj
      · exfalso
        have hjx : j ∈ Jx := by rw [← hJ x hφ]; exact vidx_mem.2 ⟨e, u, hj⟩
        have h6 := List.all_eq_true.1 hJx j hjx
        simp only [Bool.and_eq_true, Bool.not_eq_true'] at h6
        rw [h6.2] at hjD
        have := mem_inB (hS.done j hjD)
        rw [this] at h6
        simp at h6
      · rcases List.mem_cons.1 hj with e' | e'
        · cases e'
          simp [hlt]
        · have hne : d ≠ e := fun h => by
            subst h
            rw [mem_inB (vslots_mem e')] at hdV
            cases hdV
          rw [if_neg hne]
          cases hb : Nat.beq j c with
          | true =>
            have := Nat.eq_of_beq_eq_true hb
            subst this
            rw [mem_inB (List.mem_append_left _ (vidx_mem.2 ⟨e, u, e'⟩))] at hcV
            cases hcV
          | false => rw [hb] at hjD; exact hS.vals j e u e' hjD

/-! ### Entering and leaving -/
theorem r_retE {fn : Func} {rv : Array ResultVar} {u : Value} {X : Type} {φ : X → Prop} {v : X → Fin} {L' R' : X → List Asn} (x : X) (hφ : φ x) (hr : fn.results = rv) (hrs : RS P N w0 M H E Γ R rv u) (hu : .ret u = v x)
    (ks : List Nat) (rs : List Nat) (hnd : ndB ks = true) (hL : cgets Γ ks = somes (L' x)) (hR : cgets R rs = somes (R' x)) : At N w0 M H E Γ R (bodyPost P fn (RetE w0 M H φ v L' R') .ret) := fun a w hE hC =>
  ⟨hE.defers, u, hrs fn a w hr hE hC, x, hφ, by rw [← hu]; rfl, hC.toL ks hnd hL rs hR⟩
theorem r_endE {fn : Func} {rv : Array ResultVar} {u : Value} {X : Type} {φ : X → Prop} {v : X → Fin} {L' R' : X → List Asn} (x : X) (hφ : φ x) (hr : fn.results = rv) (hrs : RS P N w0 M H E Γ R rv u) (hu : .ret u = v x)
    (ks : List Nat) (rs : List Nat) (hnd : ndB ks = true) (hL : cgets Γ ks = somes (L' x)) (hR : cgets R rs = somes (R' x)) : At N w0 M H E Γ R (bodyPost P fn (RetE w0 M H φ v L' R') .normal) := fun a w hE hC =>
  ⟨hE.defers, u, hrs fn a w hr hE hC, x, hφ, by rw [← hu]; rfl, hC.toL ks hnd hL rs hR⟩
/-- A panic that leaves a function without deferred calls. -/
theorem r_out {fn : Func} {pv : Value} {X : Type} {φ : X → Prop} {v : X → Fin} {L' R' : X → List Asn} (x : X) (hφ : φ x) (hu : .pan pv = v x)
    (ks : List Nat) (rs : List Nat) (hnd : ndB ks = true) (hL : cgets Γ ks = somes (L' x)) (hR : cgets R rs = somes (R' x)) : At N w0 M H E Γ R (bodyPost P fn (RetE w0 M H φ v L' R') (.panic [{ v := pv, recovered := false }])) := fun a w hE hC =>
  ⟨hE.defers, x, hφ, by rw [← hu]; rfl, hC.toL ks hnd hL rs hR⟩
theorem r_enterE {n : Nat} {fn : Func} {c : Code} {vs : List Value} {L R0 : List Asn} {X : Type} {φ : X → Prop} {v : X → Fin} {L' R' : X → List Asn} (hf : P.funcs[n]? = some fn) (hb : fn.body = some c) (hN : fn.ntmps = N) (hv : Nat.ble vs.length N = true)
    (h : ∀ w0 M H, At N w0 M H (aenv 0 vs) (cenv 0 L) (cenv 0 R0) (c.wp P (bodyPost P fn (RetE w0 M H φ v L' R')))) : SpecE P n vs L R0 φ v L' R' := by
  -- the proof of r_enter, for this end
  intro w M H hL
  have key : ∀ (K : Ending → World → Prop), At N w M H (aenv 0 vs) (cenv 0 L) (cenv 0 R0) (c.wp P (bodyPost P fn K)) → Calls P n vs.toArray w K := fun K hK => by
    refine calls_of_wp hf hb (hK _ _ ⟨rfl, ?_, fun t u ht => ?_⟩ ?_)
    · simp only [Array.size_append, Array.size_replicate]
      omega
    · obtain ⟨h1, h2⟩ := aenv_get ht
      simp only [Nat.sub_zero] at h2
      rw [Array.getElem?_append_left (by have := (List.getElem?_eq_some_iff.1 h2).1; simpa using this)]
      simpa using h2
    · obtain ⟨F, hF⟩ := hL
      refine ⟨F, hF.touch, fun k A hk => hF.has k A ?_, hF.lt, hF.mine, hF.apart, fun k A hk => hF.ro k A ?_⟩
      · simpa using (cenv_get hk).2
      · simpa using (cenv_get hk).2
  exact key _ (h w M H)
end
end Go.Proofs.Ytdcbbkpdlcojfaa
