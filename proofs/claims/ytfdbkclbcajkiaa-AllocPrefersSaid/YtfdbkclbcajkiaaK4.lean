/-
  The rules of the logic for calls and returns, make, and parts of slices. No condition.
-/
import Derived.Test.YtfdbkclbcajkiaaK3
namespace Go.Proofs.Ytfdbkclbcajkiaa
set_option linter.unusedSimpArgs false
set_option linter.unusedVariables false
open Go.RowKit

/-- Function n can be called. -/
def Cb (P : Program) (n : Nat) : Prop := ∃ fn, P.funcs[n]? = some fn ∧ (fn.name == "runtime.NumGoroutine") = false ∧ fn.body.isNone = false
/-- A contract: what function n gives, when it owns L and reads R0. -/
def Spec (P : Program) (n : Nat) (vs : List Value) (L R0 : List Asn) {X : Type} (φ : X → Prop) (v : X → Value) (L' R' : X → List Asn) : Prop :=
  ∀ w M H, LOk w M H L R0 w → Calls P n vs.toArray w (Ret w M H φ v L' R')

def lgets (Γ R : Ctx) : List (Bool × Nat) → List (Option Asn)
  | [] => []
  | (true, k) :: r => cget Γ k :: lgets Γ R r
  | (false, k) :: r => cget R k :: lgets Γ R r
theorem lgets_get : ∀ (Γ R : Ctx) (ks : List (Bool × Nat)) (L : List Asn) (i : Nat) (A : Asn), lgets Γ R ks = somes L → L[i]? = some A → ∃ p, p ∈ ks ∧ (match p with | (true, k) => cget Γ k = some A | (false, k) => cget R k = some A)
  | Γ, R, [], [], i, A, _, h => by simp at h
  | Γ, R, (true, k) :: ks, B :: L, i, A, h, hi => by
    simp only [lgets, somes, List.cons.injEq] at h
    cases i with
    | zero => simp at hi; subst hi; exact ⟨(true, k), by simp, h.1⟩
    | succ i => obtain ⟨p, hp, hq⟩ := lgets_get Γ R ks L i A h.2 (by simpa using hi); exact ⟨p, by simp [hp], hq⟩
  | Γ, R, (false, k) :: ks, B :: L, i, A, h, hi => by
    simp only [lgets, somes, List.cons.injEq] at h
    cases i with
    | zero => simp at hi; subst hi; exact ⟨(false, k), by simp, h.1⟩
    | succ i => obtain ⟨p, hp, hq⟩ := lgets_get Γ R ks L i A h.2 (by simpa using hi); exact ⟨p, by simp [hp], hq⟩
  | Γ, R, [], _ :: _, _, _, h, _ => by simp [lgets, somes] at h
  | Γ, R, (true, _) :: _, [], _, _, h, _ => by simp [lgets, somes] at h
  | Γ, R, (false, _) :: _, [], _, _, h, _ => by simp [lgets, somes] at h
/-- The lent names are not among the taken ones. -/
def lentOk (ks : List Nat) : List (Bool × Nat) → Bool
  | [] => true
  | (true, k) :: r => !(ks.any (Nat.beq k)) && lentOk ks r
  | (false, _) :: r => lentOk ks r
def noneLent : List (Bool × Nat) → Bool
  | [] => true
  | (true, _) :: _ => false
  | (false, _) :: r => noneLent r
theorem lentOk_mem {ks : List Nat} : ∀ {rs : List (Bool × Nat)}, lentOk ks rs = true → ∀ k, (true, k) ∈ rs → k ∉ ks
  | [], _, k, h => by simp at h
  | (true, j) :: rs, h, k, hk => by
    simp only [lentOk, Bool.and_eq_true] at h
    rcases List.mem_cons.1 hk with e | e
    · injection e with _ e
      subst e
      intro hm
      have : ks.any (Nat.beq k) = true := List.any_eq_true.2 ⟨k, hm, by simp⟩
      simp [this] at h
    · exact lentOk_mem h.2 k e
  | (false, j) :: rs, h, k, hk => by
    simp only [lentOk] at h
    rcases List.mem_cons.1 hk with e | e
    · injection e with e _; cases e
    · exact lentOk_mem h k e
theorem noneLent_mem : ∀ {rs : List (Bool × Nat)}, noneLent rs = true → ∀ k, (true, k) ∉ rs
  | [], _, k => by simp
  | (true, j) :: rs, h, k => by simp [noneLent] at h
  | (false, j) :: rs, h, k => by
    simp only [noneLent] at h
    simp [noneLent_mem h k]
def ndB : List Nat → Bool
  | [] => true
  | k :: ks => !(ks.any (Nat.beq k)) && ndB ks
theorem ndB_nd : ∀ {ks : List Nat}, ndB ks = true → ks.Nodup
  | [], _ => by simp
  | k :: ks, h => by
    simp only [ndB, Bool.and_eq_true] at h
    refine List.nodup_cons.2 ⟨fun hm => ?_, ndB_nd h.2⟩
    have : ks.any (Nat.beq k) = true := List.any_eq_true.2 ⟨k, hm, by simp⟩
    simp [this] at h
theorem nd_ndB : ∀ {ks : List Nat}, ks.Nodup → ndB ks = true
  | [], _ => rfl
  | k :: ks, h => by
    have h' := List.nodup_cons.1 h
    have hx : ks.any (Nat.beq k) = false := by
      cases hb : ks.any (Nat.beq k) with
      | false => rfl
      | true =>
        obtain ⟨x, hx, he⟩ := List.any_eq_true.1 hb
        exact absurd (Nat.eq_of_beq_eq_true he ▸ hx) h'.1
    rw [ndB, nd_ndB h'.2, hx]
    rfl

section
variable {P : Program} {N : Nat} {w0 : World} {M H : Nat → Prop} {E : Env} {Γ R : Ctx} {Q : Exit → Act → World → Prop}
variable {ops : Array Oper} {rest : List Oper} {T : TypeId} {ps : String} {af : Array Edge} {d : Nat} {op : Op}

theorem calls_use {n : Nat} {vs : List Value} {L R0 : List Asn} {X : Type} {φ : X → Prop} {v : X → Value} {L' R' : X → List Asn} (hs : Spec P n vs L R0 φ v L' R') {w : World} (hC : COk w0 M H Γ R w)
    (ks : List Nat) (hnd : ndB ks = true) (hL : cgets Γ ks = somes L) (rs : List (Bool × Nat)) (hR : lgets Γ R rs = somes R0) (hl : lentOk ks rs = true) (ns : List Nat) (hns : ndB ns = true) (hnl : ∀ x, φ x → ns.length = (L' x).length) (rns : List Nat) (hrl : ∀ x, φ x → noneLent rs = true → rns.length = (R' x).length) :
    Calls P n vs.toArray w fun e w' => ∃ x, φ x ∧ e = .returned (v x) ∧ COk w0 M H (cputs ns (L' x) (ckill ks Γ)) (bif noneLent rs then cputs rns (R' x) R else R) w' := by
  have hR0 : ∀ (i : Nat) A, R0[i]? = some A → (∃ k, cget R k = some A) ∨ ∃ k, k ∉ ks ∧ cget Γ k = some A := by
    intro i A hi
    obtain ⟨⟨b, k⟩, hp, hq⟩ := lgets_get Γ R rs R0 i A hR hi
    cases b with
    | true => exact .inr ⟨k, lentOk_mem hl k hp, hq⟩
    | false => exact .inl ⟨k, hq⟩
  obtain ⟨M', H', hin, hout⟩ := hC.step ks (ndB_nd hnd) hL hR0
  refine (hs w M' H' hin).mono ?_
  rintro e w' ⟨x, h1, rfl, h2⟩
  refine ⟨x, h1, rfl, ?_⟩
  cases hno : noneLent rs with
  | false =>
    have hdrop : LOk w M' H' (L' x) [] w' := by
      obtain ⟨F, hF⟩ := h2
      exact ⟨F, hF.touch, hF.has, hF.lt, hF.mine, hF.apart, fun i A hi => by simp at hi⟩
    exact (hout (L' x) [] ns [] w' (ndB_nd hns) (hnl x h1) rfl hdrop).1
  | true =>
    refine (hout (L' x) (R' x) ns rns w' (ndB_nd hns) (hnl x h1) (hrl x h1 hno) h2).2 fun i A hi => ?_
    obtain ⟨⟨b, k⟩, hp, hq⟩ := lgets_get Γ R rs R0 i A hR hi
    cases b with
    | true => exact absurd hp (noneLent_mem hno k)
    | false => exact ⟨k, hq⟩

theorem run_callFunc {n : Nat} (h : Cb P n) (args : Array Value) (w : World) : (callFunc n args).run P w = .ok (.enter n args) w := by
  obtain ⟨fn, h1, h2, h3⟩ := h
  have h3' : ¬ fn.body = none := by intro e; rw [e] at h3; simp at h3
  simp at h2
  simp [callFunc, h1, h2, h3']

/-- A CALL of function n (by its name, or by a function value with what it captured). -/
theorem r_call {n : Nat} {f : Operand} {xs : List Operand} {cap us vs : List Value} {at_ : Array TypeId} {L R0 : List Asn} {X : Type} {φ : X → Prop} {v : X → Value} {L' R' : X → List Asn} (hs : Spec P n vs L R0 φ v L' R') (hcb : Cb P n)
    (ks : List Nat) (rs : List (Bool × Nat)) (ns rns : List Nat) (hf : ev E f = some (.func (.func n) #[] cap.toArray)) (hx : evs E xs = some us) (hu : us ++ cap = vs)
    (hnd : ndB ks = true) (hL : cgets Γ ks = somes L) (hR : lgets Γ R rs = somes R0) (hl : lentOk ks rs = true) (hns : ndB ns = true) (hnl : ∀ x, φ x → ns.length = (L' x).length) (hrl : ∀ x, φ x → noneLent rs = true → rns.length = (R' x).length)
    (hd : Nat.blt d N = true) (k : ∀ x, φ x → At N w0 M H ((d, v x) :: E) (cputs ns (L' x) (ckill ks Γ)) (bif noneLent rs then cputs rns (R' x) R else R) (wpList P ops Q rest)) :
    At N w0 M H E Γ R (wpList P ops Q (⟨some d, .call { callee := .value f, args := xs.toArray, argTypes := at_ }, T, ps, af, none⟩ :: rest)) := by
  intro a w hE hC
  unfold wpList
  rw [if_pos (by simp [Region.wanted])]
  left
  unfold Oper.wp
  have hev := hE.evs hx
  have hrun : (execOp a.eval ⟨some d, .call { callee := .value f, args := xs.toArray, argTypes := at_ }, T, ps, af, none⟩).run P w = .ok (.enter n vs.toArray) w := by
    subst hu
    simp [execOp, resolve, hE.ev hf, Deferred.ofValue, invoke, hev, run_callFunc hcb]
  rw [hrun]
  refine (calls_use hs hC ks hnd hL rs hR hl ns hns hnl rns hrl).mono ?_
  rintro e w' ⟨x, h1, rfl, h2⟩
  exact k x h1 _ _ (hE.put hd _) h2
theorem r_call0 {n : Nat} {f : Operand} {xs : List Operand} {cap us vs : List Value} {at_ : Array TypeId} {L R0 : List Asn} {X : Type} {φ : X → Prop} {v : X → Value} {L' R' : X → List Asn} (hs : Spec P n vs L R0 φ v L' R') (hcb : Cb P n)
    (ks : List Nat) (rs : List (Bool × Nat)) (ns rns : List Nat) (hf : ev E f = some (.func (.func n) #[] cap.toArray)) (hx : evs E xs = some us) (hu : us ++ cap = vs)
    (hnd : ndB ks = true) (hL : cgets Γ ks = somes L) (hR : lgets Γ R rs = somes R0) (hl : lentOk ks rs = true) (hns : ndB ns = true) (hnl : ∀ x, φ x → ns.length = (L' x).length) (hrl : ∀ x, φ x → noneLent rs = true → rns.length = (R' x).length)
    (k : ∀ x, φ x → At N w0 M H E (cputs ns (L' x) (ckill ks Γ)) (bif noneLent rs then cputs rns (R' x) R else R) (wpList P ops Q rest)) :
    At N w0 M H E Γ R (wpList P ops Q (⟨none, .call { callee := .value f, args := xs.toArray, argTypes := at_ }, T, ps, af, none⟩ :: rest)) := by
  intro a w hE hC
  unfold wpList
  rw [if_pos (by simp [Region.wanted])]
  left
  unfold Oper.wp
  have hev := hE.evs hx
  have hrun : (execOp a.eval ⟨none, .call { callee := .value f, args := xs.toArray, argTypes := at_ }, T, ps, af, none⟩).run P w = .ok (.enter n vs.toArray) w := by
    subst hu
    simp [execOp, resolve, hE.ev hf, Deferred.ofValue, invoke, hev, run_callFunc hcb]
  rw [hrun]
  refine (calls_use hs hC ks hnd hL rs hR hl ns hns hnl rns hrl).mono ?_
  rintro e w' ⟨x, h1, rfl, h2⟩
  exact k x h1 _ _ hE h2

/-! ### Entering a function -/
def aenv : Nat → List Value → Env
  | _, [] => []
  | i, v :: vs => (i, v) :: aenv (i + 1) vs
def cenv : Nat → List Asn → Ctx
  | _, [] => []
  | i, A :: L => (i, A) :: cenv (i + 1) L
theorem aenv_get : ∀ {vs : List Value} {i t : Nat} {v : Value}, eget (aenv i vs) t = some v → i ≤ t ∧ vs[t - i]? = some v
  | [], _, _, _, h => by cases h
  | u :: vs, i, t, v, h => by
    simp only [aenv, eget] at h
    cases hb : Nat.beq i t with
    | true =>
      rw [hb] at h
      have := Nat.eq_of_beq_eq_true hb
      subst this
      simp at h
      simp [h]
    | false =>
      rw [hb] at h
      obtain ⟨h1, h2⟩ := aenv_get (vs := vs) h
      refine ⟨by omega, ?_⟩
      rw [show t - i = (t - (i + 1)) + 1 by omega]
      simpa using h2
theorem cenv_get : ∀ {L : List Asn} {i t : Nat} {A : Asn}, cget (cenv i L) t = some A → i ≤ t ∧ L[t - i]? = some A
  | [], _, _, _, h => by cases h
  | u :: vs, i, t, v, h => by
    simp only [cenv, cget] at h
    cases hb : Nat.beq i t with
    | true =>
      rw [hb] at h
      have := Nat.eq_of_beq_eq_true hb
      subst this
      simp at h
      simp [h]
    | false =>
      rw [hb] at h
      obtain ⟨h1, h2⟩ := cenv_get (L := vs) h
      refine ⟨by omega, ?_⟩
      rw [show t - i = (t - (i + 1)) + 1 by omega]
      simpa using h2
theorem r_enter {n : Nat} {fn : Func} {c : Code} {vs : List Value} {L R0 : List Asn} {X : Type} {φ : X → Prop} {v : X → Value} {L' R' : X → List Asn} (hf : P.funcs[n]? = some fn) (hb : fn.body = some c) (hN : fn.ntmps = N) (hv : Nat.ble vs.length N = true)
    (h : ∀ w0 M H, At N w0 M H (aenv 0 vs) (cenv 0 L) (cenv 0 R0) (c.wp P (bodyPost P fn (Ret w0 M H φ v L' R')))) : Spec P n vs L R0 φ v L' R' := by
  intro w M H hL
  refine calls_of_wp hf hb (h w M H _ _ ⟨rfl, ?_, fun t u ht => ?_⟩ ?_)
  · simp only [Array.size_append, Array.size_replicate]
    omega
  · obtain ⟨h1, h2⟩ := aenv_get ht
    simp only [Nat.sub_zero] at h2
    rw [Array.getElem?_append_left (by have := (List.getElem?_eq_some_iff.1 h2).1; simpa using this)]
    simpa using h2
  · obtain ⟨F, hF⟩ := hL
    refine ⟨F, hF.touch, fun k A hk => hF.has k A ?_, hF.lt, hF.mine, hF.apart, fun k A hk => hF.ro k A ?_⟩
    · simpa using (cenv_get hk).2
    · simpa using (cenv_get hk).2

/-! ### Returning -/
def rvSem (tmps : Array Value) : ResultVar → Sem Value
  | .tmp t => pure (tmps.getD t undef)
  | .cell x t => do loadVar t (← asAddr (tmps.getD x undef))
theorem results_rv (fn : Func) (tmps : Array Value) : results fn tmps = (do
    let vs ← fn.results.mapM (rvSem tmps)
    pure (if h : vs.size = 1 then vs[0] else .tuple vs)) := by
  have : (fun r => match r with
    | ResultVar.tmp t => (pure (tmps.getD t undef) : Sem Value)
    | ResultVar.cell x t => do loadVar t (← asAddr (tmps.getD x undef))) = rvSem tmps := by
    funext r
    cases r <;> rfl
  rw [← this]
  rfl
def RV (P : Program) (N : Nat) (w0 : World) (M H : Nat → Prop) (E : Env) (Γ R : Ctx) (r : ResultVar) (u : Value) : Prop :=
  ∀ a w, EOk N E a → COk w0 M H Γ R w → (rvSem a.tmps r).run P w = .ok u w
theorem rv_tmp {t : Nat} {u : Value} (h : eget E t = some u) : RV P N w0 M H E Γ R (.tmp t) u := fun a w hE hC => by simp [rvSem, hE.slot t u h]
theorem rv_cell1 {x : Nat} {S : TypeId} {D : TypeDesc} {z : Value} {s bb b o : Nat} {u : Value} (ht : TI P S D z s bb) (hag : aggD D = false) (hx : eget E x = some (.pointer (some ⟨b, o, none⟩))) (hg : Gives w0 M H Γ R b o [u]) : RV P N w0 M H E Γ R (.cell x S) u := fun a w hE hC => by
  have := hg w hC 0 u rfl
  simp only [Nat.add_zero] at this
  simp [rvSem, hE.slot x _ hx, asAddr, loadVar, ht.isAgg, hag, this]
theorem rv_cellA {x : Nat} {S : TypeId} {D : TypeDesc} {z : Value} {s bb b o : Nat} {us : List Value} (ht : TI P S D z s bb) (hag : aggD D = true) (hx : eget E x = some (.pointer (some ⟨b, o, none⟩))) (hn : us.length = s) (hg : Gives w0 M H Γ R b o us) :
    RV P N w0 M H E Γ R (.cell x S) (.agg us.toArray) := fun a w hE hC => by
  have := hg.cells (P := P) hC
  rw [hn] at this
  simp [rvSem, hE.slot x _ hx, asAddr, loadVar, ht.isAgg, hag, ht.sizeOf, this]
def RS (P : Program) (N : Nat) (w0 : World) (M H : Nat → Prop) (E : Env) (Γ R : Ctx) (rs : Array ResultVar) (u : Value) : Prop :=
  ∀ (fn : Func) a w, fn.results = rs → EOk N E a → COk w0 M H Γ R w → (results fn a.tmps).run P w = .ok u w
theorem rs0 : RS P N w0 M H E Γ R #[] (.tuple #[]) := fun fn a w hr _ _ => results_none hr _ _ _
theorem rs1 {r1 : ResultVar} {u1 : Value} (h1 : RV P N w0 M H E Γ R r1 u1) : RS P N w0 M H E Γ R #[r1] u1 := fun fn a w hr hE hC => by
  have e1 := h1 a w hE hC
  simp [results_rv, hr, e1]
theorem rs2 {r1 r2 : ResultVar} {u1 u2 : Value} (h1 : RV P N w0 M H E Γ R r1 u1) (h2 : RV P N w0 M H E Γ R r2 u2) : RS P N w0 M H E Γ R #[r1, r2] (.tuple #[u1, u2]) := fun fn a w hr hE hC => by
  have e1 := h1 a w hE hC
  have e2 := h2 a w hE hC
  simp [results_rv, hr, e1, e2]
theorem rs3 {r1 r2 r3 : ResultVar} {u1 u2 u3 : Value} (h1 : RV P N w0 M H E Γ R r1 u1) (h2 : RV P N w0 M H E Γ R r2 u2) (h3 : RV P N w0 M H E Γ R r3 u3) : RS P N w0 M H E Γ R #[r1, r2, r3] (.tuple #[u1, u2, u3]) := fun fn a w hr hE hC => by
  have e1 := h1 a w hE hC
  have e2 := h2 a w hE hC
  have e3 := h3 a w hE hC
  simp [results_rv, hr, e1, e2, e3]
theorem rs4 {r1 r2 r3 r4 : ResultVar} {u1 u2 u3 u4 : Value} (h1 : RV P N w0 M H E Γ R r1 u1) (h2 : RV P N w0 M H E Γ R r2 u2) (h3 : RV P N w0 M H E Γ R r3 u3) (h4 : RV P N w0 M H E Γ R r4 u4) : RS P N w0 M H E Γ R #[r1, r2, r3, r4] (.tuple #[u1, u2, u3, u4]) := fun fn a w hr hE hC => by
  have e1 := h1 a w hE hC
  have e2 := h2 a w hE hC
  have e3 := h3 a w hE hC
  have e4 := h4 a w hE hC
  simp [results_rv, hr, e1, e2, e3, e4]

theorem COk.toL {w : World} (h : COk w0 M H Γ R w) (ks : List Nat) (hnd : ndB ks = true) {L : List Asn} (hL : cgets Γ ks = somes L) (rs : List Nat) {R' : List Asn} (hR : cgets R rs = somes R') : LOk w0 M H L R' w := by
  obtain ⟨F, hF⟩ := h
  refine ⟨fun i b => ∃ k, ks[i]? = some k ∧ F k b, hF.touch, ?_, ?_, ?_, ?_, ?_⟩
  · intro i A hi
    obtain ⟨k, hk, hA⟩ := somes_get Γ ks L i A hL hi
    have : (fun b => ∃ k, ks[i]? = some k ∧ F k b) = F k := by
      funext b
      simp [hk]
    show A.pred w _
    rw [this]
    exact hF.has k A hA
  · rintro i b ⟨k, _, hb⟩; exact hF.lt k b hb
  · rintro i b ⟨k, hk, hb⟩ hlt; exact hF.mine k b hb hlt
  · rintro i j b ⟨k, hk, hb⟩ ⟨k', hk', hb'⟩
    have := hF.apart k k' b hb hb'
    subst this
    exact nd_inj (ndB_nd hnd) hk hk'
  · intro i A hi
    obtain ⟨k, hk, hA⟩ := somes_get R rs R' i A hR hi
    obtain ⟨G, h1, h2⟩ := hF.ro k A hA
    refine ⟨G, h1, fun b hb => ⟨(h2 b hb).1, ?_, (h2 b hb).2.2⟩⟩
    rintro j ⟨k', _, hb'⟩
    exact (h2 b hb).2.1 k' hb'

/-- THE END: for some x, the results and what is handed over. -/
theorem r_ret {fn : Func} {rv : Array ResultVar} {u : Value} {X : Type} {φ : X → Prop} {v : X → Value} {L' R' : X → List Asn} (x : X) (hφ : φ x) (hr : fn.results = rv) (hrs : RS P N w0 M H E Γ R rv u) (hu : u = v x)
    (ks : List Nat) (rs : List Nat) (hnd : ndB ks = true) (hL : cgets Γ ks = somes (L' x)) (hR : cgets R rs = somes (R' x)) : At N w0 M H E Γ R (bodyPost P fn (Ret w0 M H φ v L' R') .ret) := fun a w hE hC =>
  ⟨hE.defers, u, hrs fn a w hr hE hC, x, hφ, by rw [hu], hC.toL ks hnd hL rs hR⟩
theorem r_end {fn : Func} {rv : Array ResultVar} {u : Value} {X : Type} {φ : X → Prop} {v : X → Value} {L' R' : X → List Asn} (x : X) (hφ : φ x) (hr : fn.results = rv) (hrs : RS P N w0 M H E Γ R rv u) (hu : u = v x)
    (ks : List Nat) (rs : List Nat) (hnd : ndB ks = true) (hL : cgets Γ ks = somes (L' x)) (hR : cgets R rs = somes (R' x)) : At N w0 M H E Γ R (bodyPost P fn (Ret w0 M H φ v L' R') .normal) := fun a w hE hC =>
  ⟨hE.defers, u, hrs fn a w hr hE hC, x, hφ, by rw [hu], hC.toL ks hnd hL rs hR⟩

/-! ### Contracts, between one another -/
theorem Spec.to_calls {n : Nat} {vs : List Value} {X : Type} {φ : X → Prop} {v : X → Value} {L' R' : X → List Asn} (h : Spec P n vs [] [] φ v L' R') (w : World) : Calls P n vs.toArray w fun e w' => ∃ x, φ x ∧ e = .returned (v x) ∧ Below w.heap.size w w' := by
  refine (h w (fun _ => False) (fun _ => False) ⟨fun _ _ => False, Touch.refl _ _, fun i A hi => by simp at hi, fun _ _ h => h.elim, fun _ _ h => h.elim, fun _ _ _ h => h.elim, fun i A hi => by simp at hi⟩).mono ?_
  rintro e w' ⟨x, h1, h2, F, hF⟩
  exact ⟨x, h1, h2, hF.touch.below⟩
theorem Spec.mono {n : Nat} {vs : List Value} {L R0 : List Asn} {X Y : Type} {φ : X → Prop} {v : X → Value} {L' R' : X → List Asn} {ψ : Y → Prop} {u : Y → Value} {K' S' : Y → List Asn} (h : Spec P n vs L R0 φ v L' R')
    (hy : ∀ x, φ x → ∃ y, ψ y ∧ v x = u y ∧ L' x = K' y ∧ R' x = S' y) : Spec P n vs L R0 ψ u K' S' := fun w M H hL => (h w M H hL).mono (by
  rintro e w' ⟨x, h1, h2, h3⟩
  obtain ⟨y, g1, g2, g3, g4⟩ := hy x h1
  exact ⟨y, g1, by rw [h2, g2], by rw [← g3, ← g4]; exact h3⟩)

end
end Go.Proofs.Ytfdbkclbcajkiaa
