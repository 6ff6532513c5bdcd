/-
  Calls that leave what may be read as it was. No condition.
-/
import Derived.Test.YtdcbbkpdlcojfaaKE
import Derived.Test.YtdcbbkpdlcojfaaKP
namespace Go.Proofs.Ytdcbbkpdlcojfaa
set_option linter.unusedSimpArgs false
set_option linter.unusedVariables false
open Go.RowKit
section
variable {P : Program} {N : Nat} {w0 : World} {M H : Nat → Prop} {E : Env} {Γ R : Ctx} {Q : Exit → Act → World → Prop}
variable {ops : Array Oper} {rest : List Oper} {T : TypeId} {ps : String} {af : Array Edge} {d : Nat}
theorem no_rns {b : Bool} {A : List Asn} {R : Ctx} : (bif b then cputs [] A R else R) = R := by cases b <;> rfl
theorem r_callN {n : Nat} {f : Operand} {xs : List Operand} {cap us vs : List Value} {at_ : Array TypeId} {L R0 : List Asn} {X : Type} {φ : X → Prop} {v : X → Value} {L' R' : X → List Asn} (hs : Spec P n vs L R0 φ v L' R') (hcb : Cb P n)
    (ks : List Nat) (rs : List (Bool × Nat)) (ns : List Nat) (hf : ev E f = some (.func (.func n) #[] cap.toArray)) (hx : evs E xs = some us) (hu : us ++ cap = vs)
    (hnd : ndB ks = true) (hL : cgets Γ ks = somes L) (hR : lgets Γ R rs = somes R0) (hl : lentOk ks rs = true) (hns : ndB ns = true) (hnl : ∀ x, φ x → ns.length = (L' x).length) (hrl : ∀ x, φ x → noneLent rs = true → 0 = (R' x).length)
    (hd : Nat.blt d N = true) (k : ∀ x, φ x → At N w0 M H ((d, v x) :: E) (cputs ns (L' x) (ckill ks Γ)) R (wpList P ops Q rest)) :
    At N w0 M H E Γ R (wpList P ops Q (⟨some d, .call { callee := .value f, args := xs.toArray, argTypes := at_ }, T, ps, af, none⟩ :: rest)) :=
  r_call hs hcb ks rs ns [] hf hx hu hnd hL hR hl hns hnl hrl hd fun x hx => by rw [no_rns]; exact k x hx
theorem r_call0N {n : Nat} {f : Operand} {xs : List Operand} {cap us vs : List Value} {at_ : Array TypeId} {L R0 : List Asn} {X : Type} {φ : X → Prop} {v : X → Value} {L' R' : X → List Asn} (hs : Spec P n vs L R0 φ v L' R') (hcb : Cb P n)
    (ks : List Nat) (rs : List (Bool × Nat)) (ns : List Nat) (hf : ev E f = some (.func (.func n) #[] cap.toArray)) (hx : evs E xs = some us) (hu : us ++ cap = vs)
    (hnd : ndB ks = true) (hL : cgets Γ ks = somes L) (hR : lgets Γ R rs = somes R0) (hl : lentOk ks rs = true) (hns : ndB ns = true) (hnl : ∀ x, φ x → ns.length = (L' x).length) (hrl : ∀ x, φ x → noneLent rs = true → 0 = (R' x).length)
    (k : ∀ x, φ x → At N w0 M H E (cputs ns (L' x) (ckill ks Γ)) R (wpList P ops Q rest)) :
    At N w0 M H E Γ R (wpList P ops Q (⟨none, .call { callee := .value f, args := xs.toArray, argTypes := at_ }, T, ps, af, none⟩ :: rest)) :=
  r_call0 hs hcb ks rs ns [] hf hx hu hnd hL hR hl hns hnl hrl fun x hx => by rw [no_rns]; exact k x hx
theorem r_callEN {n : Nat} {f : Operand} {xs : List Operand} {cap us vs : List Value} {at_ : Array TypeId} {L R0 : List Asn} {X : Type} {φ : X → Prop} {v : X → Fin} {L' R' : X → List Asn} (hs : SpecE P n vs L R0 φ v L' R') (hcb : Cb P n)
    (ks : List Nat) (rs : List (Bool × Nat)) (ns : List Nat) (hf : ev E f = some (.func (.func n) #[] cap.toArray)) (hx : evs E xs = some us) (hu : us ++ cap = vs)
    (hnd : ndB ks = true) (hL : cgets Γ ks = somes L) (hR : lgets Γ R rs = somes R0) (hl : lentOk ks rs = true) (hns : ndB ns = true) (hnl : ∀ x, φ x → ns.length = (L' x).length) (hrl : ∀ x, φ x → noneLent rs = true → 0 = (R' x).length)
    (hd : Nat.blt d N = true) (k : ∀ x, φ x → Aft N w0 M H E (cputs ns (L' x) (ckill ks Γ)) R d (wpList P ops Q rest) Q (v x)) :
    At N w0 M H E Γ R (wpList P ops Q (⟨some d, .call { callee := .value f, args := xs.toArray, argTypes := at_ }, T, ps, af, none⟩ :: rest)) :=
  r_callE hs hcb ks rs ns [] hf hx hu hnd hL hR hl hns hnl hrl hd fun x hx => by rw [no_rns]; exact k x hx
theorem r_callE0N {n : Nat} {f : Operand} {xs : List Operand} {cap us vs : List Value} {at_ : Array TypeId} {L R0 : List Asn} {X : Type} {φ : X → Prop} {v : X → Fin} {L' R' : X → List Asn} (hs : SpecE P n vs L R0 φ v L' R') (hcb : Cb P n)
    (ks : List Nat) (rs : List (Bool × Nat)) (ns : List Nat) (hf : ev E f = some (.func (.func n) #[] cap.toArray)) (hx : evs E xs = some us) (hu : us ++ cap = vs)
    (hnd : ndB ks = true) (hL : cgets Γ ks = somes L) (hR : lgets Γ R rs = somes R0) (hl : lentOk ks rs = true) (hns : ndB ns = true) (hnl : ∀ x, φ x → ns.length = (L' x).length) (hrl : ∀ x, φ x → noneLent rs = true → 0 = (R' x).length)
    (k : ∀ x, φ x → Aft0 N w0 M H E (cputs ns (L' x) (ckill ks Γ)) R (wpList P ops Q rest) Q (v x)) :
    At N w0 M H E Γ R (wpList P ops Q (⟨none, .call { callee := .value f, args := xs.toArray, argTypes := at_ }, T, ps, af, none⟩ :: rest)) :=
  r_callE0 hs hcb ks rs ns [] hf hx hu hnd hL hR hl hns hnl hrl fun x hx => by rw [no_rns]; exact k x hx
theorem ms_callN {dst : Option Nat} {n : Nat} {f : Operand} {xs : List Operand} {cap us vs : List Value} {at_ : Array TypeId} {L R0 : List Asn} {X : Type} {φ : X → Prop} {v : X → Value} {L' R' : X → List Asn} (hs : Spec P n vs L R0 φ v L' R') (hcb : Cb P n)
    (ks : List Nat) (rs : List (Bool × Nat)) (ns : List Nat) (hf : ev E f = some (.func (.func n) #[] cap.toArray)) (hx : evs E xs = some us) (hu : us ++ cap = vs)
    (hnd : ndB ks = true) (hL : cgets Γ ks = somes L) (hR : lgets Γ R rs = somes R0) (hl : lentOk ks rs = true) (hns : ndB ns = true) (hnl : ∀ x, φ x → ns.length = (L' x).length) (hrl : ∀ x, φ x → noneLent rs = true → 0 = (R' x).length) :
    MS P N w0 M H E Γ R ⟨dst, .call { callee := .value f, args := xs.toArray, argTypes := at_ }, T, ps, af, none⟩ φ v (fun x => cputs ns (L' x) (ckill ks Γ)) (fun _ => R) := by
  have h := ms_call (dst := dst) (T := T) (ps := ps) (af := af) (at_ := at_) (w0 := w0) (M := M) (H := H) (N := N) hs hcb ks rs ns [] hf hx hu hnd hL hR hl hns hnl hrl
  intro a w hE hC next Q hn
  refine h a w hE hC next Q fun x w' h1 h2 => hn x w' h1 ?_
  dsimp only at h2 ⊢
  rw [no_rns] at h2
  exact h2
end
end Go.Proofs.Ytdcbbkpdlcojfaa
