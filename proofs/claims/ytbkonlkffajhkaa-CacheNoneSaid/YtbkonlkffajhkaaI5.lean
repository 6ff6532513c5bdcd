/-
  Comparing lists that are owned; finding a block that is there. No condition.
-/
import Derived.Test.YtbkonlkffajhkaaI4
namespace Go.Proofs.Ytbkonlkffajhkaa
set_option linter.unusedSimpArgs false
set_option linter.unusedVariables false
open Go.RowKit

theorem Spec.roMap {P : Program} {n : Nat} {vs : List Value} {L R0 R1 : List Asn} {X : Type} {φ : X → Prop} {v : X → Value} {L' R' : X → List Asn} (h : Spec P n vs L R0 φ v L' R') (hR : ∀ (i : Nat) A, R0[i]? = some A → ∃ B, R1[i]? = some B ∧ ∀ w G, B.pred w G → A.pred w G) : Spec P n vs L R1 φ v L' R' := fun w M H ⟨F, hF⟩ =>
  h w M H ⟨F, hF.touch, hF.has, hF.lt, hF.mine, hF.apart, fun k A hk => by
    obtain ⟨B, hB, hBA⟩ := hR k A hk
    obtain ⟨G, g1, g2⟩ := hF.ro k B hB
    exact ⟨G, hBA w G g1, g2⟩⟩
theorem samesO_spec (v u : SV) (l S : List En) (hl : ∀ x ∈ l, SameOk x ∧ x ∈ S) (hlen : l.length ≤ 1000) :
    Spec Try.prog 25 [sv v, sv u] [] [own 54 36 eEnt (sv v) l, own 36 5 eR (sv u) l, pgP S] (X := Unit) (fun _ => True) (fun _ => .bool true) (fun _ => []) (fun _ => []) :=
  (sames_spec v u l S hl hlen).roMap fun i A hi => by
    match i, hi with
    | 0, hi => exact ⟨_, rfl, by simp at hi; subst hi; exact own_to_sl⟩
    | 1, hi => exact ⟨_, rfl, by simp at hi; subst hi; exact own_to_sl⟩
    | 2, hi => exact ⟨_, rfl, by simp at hi; subst hi; exact fun _ _ h => h⟩
    | i + 3, hi => simp at hi
theorem chainsO_spec (v u : SV) (l : List Lk) (hlen : l.length ≤ 1000) :
    Spec Try.prog 27 [sv v, sv u] [] [own 64 3 eL (sv v) l, own 100 3 eL (sv u) l] (X := Unit) (fun _ => True) (fun _ => .bool true) (fun _ => []) (fun _ => []) :=
  (chains_spec v u l hlen).roMap fun i A hi => by
    match i, hi with
    | 0, hi => exact ⟨_, rfl, by simp at hi; subst hi; exact own_to_sl⟩
    | 1, hi => exact ⟨_, rfl, by simp at hi; subst hi; exact own_to_sl⟩
    | i + 2, hi => simp at hi
theorem CInv.same {PS : List Int} {base size cur : Int} {L S : List En} {K : List Lk} (h : CInv PS base size cur L K) (hS : ∀ e ∈ L, e ∈ S) : ∀ x ∈ L, SameOk x ∧ x ∈ S := fun x hx => ⟨(h.ent x hx).2.2.2.1, hS x hx⟩
theorem CInv.findpc {PS : List Int} {base size cur : Int} {L : List En} {K : List Lk} (h : CInv PS base size cur L K) {x : En} (hx : x ∈ L) : L.find? (fun a => decide (a.pc = x.pc)) = some x := by
  cases hf : L.find? (fun a => decide (a.pc = x.pc)) with
  | none =>
    have := List.find?_eq_none.1 hf x hx
    simp at this
  | some y =>
    have h1 := List.mem_of_find?_eq_some hf
    have h2 := List.find?_some hf
    simp at h2
    rw [pc_inj h.pcs h1 hx h2]


end Go.Proofs.Ytbkonlkffajhkaa
