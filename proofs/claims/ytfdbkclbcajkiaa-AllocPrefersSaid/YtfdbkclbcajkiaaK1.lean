/-
  The rules of the logic for code, and for operations that only compute. No condition.
-/
import Derived.Test.YtfdbkclbcajkiaaK0
namespace Go.Proofs.Ytfdbkclbcajkiaa
set_option linter.unusedSimpArgs false
set_option linter.unusedVariables false
open Go.RowKit

section
variable {P : Program} {N : Nat} {w0 : World} {M H : Nat → Prop} {E : Env} {Γ R : Ctx} {Q : Exit → Act → World → Prop}

/-! ### Code -/
def XT (next : Act → World → Prop) (Q : Exit → Act → World → Prop) : Exit → Act → World → Prop
  | .normal => next
  | .exit j => Q (.exit j)
  | .goto j => Q (.goto j)
  | .ret => Q .ret
  | .panic c => Q (.panic c)
  | .outgrown => Q .outgrown
def XB (id : Nat) (Q : Exit → Act → World → Prop) : Exit → Act → World → Prop
  | .normal => Q .normal
  | .exit j => bif Nat.beq j id then Q .normal else Q (.exit j)
  | .goto j => Q (.goto j)
  | .ret => Q .ret
  | .panic c => Q (.panic c)
  | .outgrown => Q .outgrown

theorem r_seq {x y : Code} (h : At N w0 M H E Γ R (x.wp P (XT (y.wp P Q) Q))) : At N w0 M H E Γ R ((Code.seq x y).wp P Q) := fun a w hE hC =>
  wp_seq (wp_mono (h a w hE hC) fun e a w q => by cases e <;> exact q)
theorem r_block {id : Nat} {c : Code} (h : At N w0 M H E Γ R (c.wp P (XB id Q))) : At N w0 M H E Γ R ((Code.block id c).wp P Q) := fun a w hE hC =>
  wp_block (wp_mono (h a w hE hC) fun e a w q => by
    cases e with
    | exit j =>
      simp only [XB] at q
      simp only [Exit.inBlock]
      cases hb : Nat.beq j id with
      | true => rw [hb] at q; rw [if_pos (Nat.eq_of_beq_eq_true hb)]; exact q
      | false => rw [hb] at q; rw [if_neg (fun e => by subst e; simp at hb)]; exact q
    | _ => exact q)
theorem r_skip (h : At N w0 M H E Γ R (Q .normal)) : At N w0 M H E Γ R (Code.skip.wp P Q) := fun a w hE hC => wp_skip (h a w hE hC)
theorem r_exit {id : Nat} (h : At N w0 M H E Γ R (Q (.exit id))) : At N w0 M H E Γ R ((Code.exit id).wp P Q) := fun a w hE hC => wp_exit (h a w hE hC)
theorem r_cret (h : At N w0 M H E Γ R (Q .ret)) : At N w0 M H E Γ R (Code.ret.wp P Q) := fun a w hE hC => wp_ret (h a w hE hC)
theorem r_cond {c : Operand} {x y : Code} {t : Bool} (hc : ev E c = some (.bool t)) (ht : t = true → At N w0 M H E Γ R (x.wp P Q)) (hf : t = false → At N w0 M H E Γ R (y.wp P Q)) :
    At N w0 M H E Γ R ((Code.cond c x y).wp P Q) := fun a w hE hC =>
  wp_cond_split (hE.ev hc) (fun h => ht h a w hE hC) (fun h => hf h a w hE hC)
theorem r_region {id : Nat} {l : List Oper} (h : At N w0 M H E Γ R (wpList P l.toArray Q l)) : At N w0 M H E Γ R ((Code.region id l.toArray false).wp P Q) := fun a w hE hC =>
  wp_region_lit (h a w hE hC)
theorem r_nil {ops : Array Oper} (h : At N w0 M H E Γ R (Q .normal)) : At N w0 M H E Γ R (wpList P ops Q []) := h

/-- What is known may be less. -/
theorem At.weak {E' : Env} {Γ' R' : Ctx} {Rel : Act → World → Prop} (h : At N w0 M H E' Γ' R' Rel) (hE : ∀ a, EOk N E a → EOk N E' a) (hC : ∀ w, COk w0 M H Γ R w → COk w0 M H Γ' R' w) :
    At N w0 M H E Γ R Rel := fun a w h1 h2 => h a w (hE a h1) (hC w h2)

def egets (E : Env) : Env → List (Option Value)
  | [] => []
  | (k, _) :: r => eget E k :: egets E r
def evals : Env → List (Option Value)
  | [] => []
  | (_, v) :: r => some v :: evals r
theorem EOk.sub {a : Act} (h : EOk N E a) : ∀ {E' : Env}, egets E E' = evals E' → EOk N E' a
  | [], _ => ⟨h.defers, h.size, fun t v hv => by cases hv⟩
  | (k, u) :: r, he => by
    simp only [egets, evals, List.cons.injEq] at he
    have ih := EOk.sub h (E' := r) he.2
    refine ⟨h.defers, h.size, fun t v hv => ?_⟩
    simp only [eget] at hv
    cases hb : Nat.beq k t with
    | true =>
      rw [hb] at hv
      simp at hv
      subst hv
      rw [← Nat.eq_of_beq_eq_true hb]
      exact h.slot k u he.1
    | false => rw [hb] at hv; exact ih.slot t v hv

theorem COk.congr {w : World} {Γ' R' : Ctx} (h : COk w0 M H Γ R w) (h1 : ∀ k A, cget Γ' k = some A → cget Γ k = some A) (h2 : ∀ k A, cget R' k = some A → cget R k = some A) : COk w0 M H Γ' R' w := by
  obtain ⟨F, hF⟩ := h
  exact ⟨F, hF.touch, fun k A hk => hF.has k A (h1 k A hk), hF.lt, hF.mine, hF.apart, fun k A hk => hF.ro k A (h2 k A hk)⟩

def csame (Γ : Ctx) : Ctx → List (Option Asn)
  | [] => []
  | (k, _) :: r => cget Γ k :: csame Γ r
def casns : Ctx → List (Option Asn)
  | [] => []
  | (_, A) :: r => some A :: casns r
theorem csub {Γ : Ctx} : ∀ {Γ' : Ctx}, csame Γ Γ' = casns Γ' → ∀ k A, cget Γ' k = some A → cget Γ k = some A
  | [], _, _, _, h => by cases h
  | (j, B) :: r, he, k, A, h => by
    simp only [csame, casns, List.cons.injEq] at he
    simp only [cget] at h
    cases hb : Nat.beq j k with
    | true =>
      rw [hb] at h
      simp at h
      subst h
      rw [← Nat.eq_of_beq_eq_true hb]
      exact he.1
    | false => rw [hb] at h; exact csub he.2 k A h

/-- A new account of what is known, by looking each part up. -/
theorem r_norm (E' : Env) (Γ' R' : Ctx) {Rel : Act → World → Prop} (hE : egets E E' = evals E') (hΓ : csame Γ Γ' = casns Γ') (hR : csame R R' = casns R') (h : At N w0 M H E' Γ' R' Rel) : At N w0 M H E Γ R Rel :=
  h.weak (fun _ h => h.sub hE) (fun _ h => h.congr (csub hΓ) (csub hR))

/-- Where ways meet, or a round ends: the account of some x. -/
def Here (N : Nat) (w0 : World) (M H : Nat → Prop) {X : Type} (I : X → Prop) (Ei : X → Env) (Γi Ri : X → Ctx) : Act → World → Prop :=
  fun a w => ∃ x, I x ∧ EOk N (Ei x) a ∧ COk w0 M H (Γi x) (Ri x) w
theorem r_here {X : Type} {I : X → Prop} {Ei : X → Env} {Γi Ri : X → Ctx} (x : X) (hI : I x) (hE : egets E (Ei x) = evals (Ei x)) (hΓ : csame Γ (Γi x) = casns (Γi x)) (hR : csame R (Ri x) = casns (Ri x)) :
    At N w0 M H E Γ R (Here N w0 M H I Ei Γi Ri) := fun a w h1 h2 => ⟨x, hI, h1.sub hE, h2.congr (csub hΓ) (csub hR)⟩
theorem r_cut {X : Type} (I : X → Prop) (Ei : X → Env) (Γi Ri : X → Ctx) {c : Code} {Q' : Exit → Act → World → Prop} {K : Act → World → Prop} (hQ : ∀ e, (e = .normal → False) → ∀ a w, Q' e a w → Q e a w) (hn : ∀ a w, K a w → Q .normal a w)
    (h : At N w0 M H E Γ R (c.wp P (XT (Here N w0 M H I Ei Γi Ri) Q'))) (k : ∀ x, I x → At N w0 M H (Ei x) (Γi x) (Ri x) K) : At N w0 M H E Γ R (c.wp P Q) := fun a w hE hC =>
  wp_mono (h a w hE hC) fun e a w q => by
    cases e with
    | normal => obtain ⟨x, h1, h2, h3⟩ := q; exact hn _ _ (k x h1 a w h2 h3)
    | _ => exact hQ _ (by simp) _ _ q
/-- A cut behind the first part of a sequence. -/
theorem r_seq_cut {X : Type} (I : X → Prop) (Ei : X → Env) (Γi Ri : X → Ctx) {x y : Code} (h : At N w0 M H E Γ R (x.wp P (XT (Here N w0 M H I Ei Γi Ri) Q))) (k : ∀ x, I x → At N w0 M H (Ei x) (Γi x) (Ri x) (y.wp P Q)) :
    At N w0 M H E Γ R ((Code.seq x y).wp P Q) := fun a w hE hC =>
  wp_seq (wp_mono (h a w hE hC) fun e a w q => by
    cases e with
    | normal => obtain ⟨z, h1, h2, h3⟩ := q; exact k z h1 a w h2 h3
    | _ => exact q)

/-- A LOOP: I, Ei, Γi, Ri tell of a round's head for some x; μ goes down. -/
theorem r_loop {X : Type} (I : X → Prop) (Ei : X → Env) (Γi Ri : X → Ctx) (μ : X → Nat) {c : Code} (x0 : X) (hI : I x0) (hE : egets E (Ei x0) = evals (Ei x0)) (hΓ : csame Γ (Γi x0) = casns (Γi x0)) (hR : csame R (Ri x0) = casns (Ri x0))
    (round : ∀ x, I x → At N w0 M H (Ei x) (Γi x) (Ri x) (c.wp P (XT (Here N w0 M H (fun y => I y ∧ μ y < μ x) Ei Γi Ri) Q))) : At N w0 M H E Γ R ((Code.loop c).wp P Q) := by
  classical
  intro a w h1 h2
  let I' : Act → World → Prop := fun a w => ∃ x, I x ∧ EOk N (Ei x) a ∧ COk w0 M H (Γi x) (Ri x) w
  let Y : Act → World → Nat → Prop := fun a w n => ∃ x, I x ∧ EOk N (Ei x) a ∧ COk w0 M H (Γi x) (Ri x) w ∧ μ x = n
  have least : ∀ n a w, Y a w n → ∃ m, Y a w m ∧ ∀ j, Y a w j → m ≤ j := by
    intro n
    induction n using Nat.strongRecOn with
    | _ n ih =>
      intro a w hn
      by_cases hx : ∃ j, j < n ∧ Y a w j
      · obtain ⟨j, hj, hy⟩ := hx
        exact ih j hj a w hy
      · exact ⟨n, hn, fun j hj => by
          rcases Nat.lt_or_ge j n with h | h
          · exact absurd ⟨j, h, hj⟩ hx
          · exact h⟩
  let ν : Act → World → Nat := fun a w => if h : ∃ m, Y a w m ∧ ∀ j, Y a w j → m ≤ j then Classical.choose h else 0
  have hν : ∀ a w n, Y a w n → Y a w (ν a w) ∧ ν a w ≤ n := by
    intro a w n hn
    have hex := least n a w hn
    have hs := Classical.choose_spec hex
    have e : ν a w = Classical.choose hex := by simp only [ν]; rw [dif_pos hex]
    rw [e]
    exact ⟨hs.1, hs.2 n hn⟩
  refine wp_loop I' ν ⟨x0, hI, h1.sub hE, h2.congr (csub hΓ) (csub hR)⟩ fun a w hx => ?_
  obtain ⟨x, e1, e2, e3⟩ := hx
  obtain ⟨⟨y, f1, f2, f3, f4⟩, _⟩ := hν a w (μ x) ⟨x, e1, e2, e3, rfl⟩
  refine wp_mono (round y f1 a w f2 f3) fun e a' w' q => ?_
  cases e with
  | normal =>
    obtain ⟨z, ⟨g1, g4⟩, g2, g3⟩ := q
    exact ⟨⟨z, g1, g2, g3⟩, Nat.lt_of_le_of_lt (hν a' w' (μ z) ⟨z, g1, g2, g3, rfl⟩).2 (f4 ▸ g4)⟩
  | _ => exact q

/-! ### Guards -/
def gslot (ops : List Oper) (i : Nat) : Option Nat := (ops[i]?).bind (·.dst)
theorem EOk.yield {a : Act} (h : EOk N E a) {l : List Oper} {i t : Nat} {b : Bool} (hi : gslot l i = some t) (ht : eget E t = some (.bool b)) : yielded l.toArray a.tmps i = some b := by
  unfold yielded
  have : (l.toArray[i]?).bind (·.dst) = some t := by simpa [gslot] using hi
  rw [this]
  simp [h.slot t _ ht]
theorem r_guard {l : List Oper} {rest : List Oper} {dst : Option Tmp} {op : Op} {T : TypeId} {ps : String} {af : Array Edge} {i t : Nat} {c b : Bool} (hi : gslot l i = some t) (ht : eget E t = some (.bool b))
    (hy : b = c → At N w0 M H E Γ R (wpList P l.toArray Q (⟨dst, op, T, ps, af, none⟩ :: rest)))
    (hn : b = !c → At N w0 M H (match dst with | some d => (d, undef) :: E | none => E) Γ R (wpList P l.toArray Q rest)) (hd : (match dst with | some d => Nat.blt d N | none => true) = true) :
    At N w0 M H E Γ R (wpList P l.toArray Q (⟨dst, op, T, ps, af, some (i, c)⟩ :: rest)) := by
  intro a w hE hC
  have hyd := hE.yield hi ht
  unfold wpList
  by_cases hbc : b = c
  · have := hy hbc a w hE hC
    unfold wpList at this
    rw [if_pos (by simp [Region.wanted])] at this
    rw [if_pos (by simp [Region.wanted, hyd, hbc])]
    exact this
  · rw [if_neg (by simp [Region.wanted, hyd, hbc])]
    have hb : b = !c := by cases b <;> cases c <;> simp_all
    cases dst with
    | none => exact hn hb _ _ hE hC
    | some d => exact hn hb _ _ (hE.put hd undef) hC

/-! ### Operations in general -/
variable {ops : Array Oper} {rest : List Oper} {T : TypeId} {ps : String} {af : Array Edge} {d : Nat} {op : Op}

theorem r_gen {X : Type} (φ : X → Prop) (v : X → Value) (Γ' R' : X → Ctx) (hd : Nat.blt d N = true)
    (hrun : ∀ a w, EOk N E a → COk w0 M H Γ R w → ∃ x w', φ x ∧ (execOp a.eval ⟨some d, op, T, ps, af, none⟩).run P w = .ok (.value (v x)) w' ∧ COk w0 M H (Γ' x) (R' x) w')
    (k : ∀ x, φ x → At N w0 M H ((d, v x) :: E) (Γ' x) (R' x) (wpList P ops Q rest)) : At N w0 M H E Γ R (wpList P ops Q (⟨some d, op, T, ps, af, none⟩ :: rest)) := by
  intro a w hE hC
  obtain ⟨x, w', h1, h2, h3⟩ := hrun a w hE hC
  unfold wpList
  rw [if_pos (by simp [Region.wanted])]
  left
  unfold Oper.wp
  rw [h2]
  exact k x h1 _ _ (hE.put hd _) h3

theorem r_pure {v : Value} (hd : Nat.blt d N = true) (hrun : ∀ a w, EOk N E a → (execOp a.eval ⟨some d, op, T, ps, af, none⟩).run P w = .ok (.value v) w)
    (k : At N w0 M H ((d, v) :: E) Γ R (wpList P ops Q rest)) : At N w0 M H E Γ R (wpList P ops Q (⟨some d, op, T, ps, af, none⟩ :: rest)) :=
  r_gen (X := Unit) (fun _ => True) (fun _ => v) (fun _ => Γ) (fun _ => R) hd (fun a w hE hC => ⟨(), w, trivial, hrun a w hE, hC⟩) fun _ _ => k

theorem r_move {x : Operand} {v : Value} (hx : ev E x = some v) (hd : Nat.blt d N = true) (k : At N w0 M H ((d, v) :: E) Γ R (wpList P ops Q rest)) :
    At N w0 M H E Γ R (wpList P ops Q (⟨some d, .move x, T, ps, af, none⟩ :: rest)) := r_pure hd (fun a w hE => by simp [execOp, hE.ev hx]) k
theorem r_assign {x : Operand} {v : Value} (hx : ev E x = some v) (hd : Nat.blt d N = true) (k : At N w0 M H ((d, v) :: E) Γ R (wpList P ops Q rest)) :
    At N w0 M H E Γ R (wpList P ops Q (⟨some d, .assign x, T, ps, af, none⟩ :: rest)) := r_pure hd (fun a w hE => by simp [execOp, hE.ev hx]) k
theorem r_pick {c x y : Operand} {b : Bool} {u v z : Value} (hc : ev E c = some (.bool b)) (hx : ev E x = some u) (hy : ev E y = some v) (hz : (bif b then u else v) = z) (hd : Nat.blt d N = true)
    (k : At N w0 M H ((d, z) :: E) Γ R (wpList P ops Q rest)) : At N w0 M H E Γ R (wpList P ops Q (⟨some d, .pick c x y, T, ps, af, none⟩ :: rest)) :=
  r_pure hd (fun a w hE => by
    subst hz
    simp only [execOp, hE.ev hc, hE.ev hx, hE.ev hy, asBool]
    cases b <;> rfl) k

def BinRun (P : Program) (op : BinOp) (T : TypeId) (u v z : Value) : Prop := ∀ (x y : Operand) (w : World), ((do eqGuard op T x y u v; binOp op T u v : Sem Value)).run P w = .ok z w
theorem r_bin {o : BinOp} {S S' : TypeId} {x y : Operand} {u v z : Value} (hx : ev E x = some u) (hy : ev E y = some v) (hb : BinRun P o S u v z) (hd : Nat.blt d N = true)
    (k : At N w0 M H ((d, z) :: E) Γ R (wpList P ops Q rest)) : At N w0 M H E Γ R (wpList P ops Q (⟨some d, .binOp o S x y S', T, ps, af, none⟩ :: rest)) :=
  r_pure hd (fun a w hE => by
    have := hb x y w
    simp only [execOp, hE.ev hx, hE.ev hy, Sem.run_bind] at this ⊢
    rw [this]; rfl) k

theorem eqg_int (o : BinOp) (S : TypeId) (x y : Operand) (k : IntKind) (n : Int) (v : Value) : eqGuard o S x y (.int k n) v = pure () := by cases o <;> rfl
theorem eqg_bool (o : BinOp) (S : TypeId) (x y : Operand) (b : Bool) (v : Value) : eqGuard o S x y (.bool b) v = pure () := by cases o <;> rfl
theorem eqg_string (o : BinOp) (S : TypeId) (x y : Operand) (b : ByteArray) (v : Value) : eqGuard o S x y (.string b) v = pure () := by cases o <;> rfl
theorem b_add {S : TypeId} {k : IntKind} {a b c : Int} (h : k.wrap (a + b) = c) : BinRun P .add S (.int k a) (.int k b) (.int k c) := fun x y w => by rw [eqg_int]; simp [binOp, Op.intArith, h]
theorem b_sub {S : TypeId} {k : IntKind} {a b c : Int} (h : k.wrap (a - b) = c) : BinRun P .sub S (.int k a) (.int k b) (.int k c) := fun x y w => by rw [eqg_int]; simp [binOp, Op.intArith, h]
theorem b_mul {S : TypeId} {k : IntKind} {a b c : Int} (h : k.wrap (a * b) = c) : BinRun P .mul S (.int k a) (.int k b) (.int k c) := fun x y w => by rw [eqg_int]; simp [binOp, Op.intArith, h]
theorem b_quo {S : TypeId} {k : IntKind} {a b c : Int} (h0 : b ≠ 0) (h : k.wrap (a.tdiv b) = c) : BinRun P .quo S (.int k a) (.int k b) (.int k c) := fun x y w => by rw [eqg_int]; simp [binOp, Op.intDiv, h0, h]
theorem b_rem {S : TypeId} {k : IntKind} {a b c : Int} (h0 : b ≠ 0) (h : a.tmod b = c) : BinRun P .rem S (.int k a) (.int k b) (.int k c) := fun x y w => by rw [eqg_int]; simp [binOp, Op.intDiv, h0, h]
theorem b_and {S : TypeId} {k : IntKind} {a b c : Int} (h : bits .and k a b = c) : BinRun P .and S (.int k a) (.int k b) (.int k c) := fun x y w => by rw [eqg_int]; simp [binOp, intBits_and, h]
theorem b_or {S : TypeId} {k : IntKind} {a b c : Int} (h : bits .or k a b = c) : BinRun P .or S (.int k a) (.int k b) (.int k c) := fun x y w => by rw [eqg_int]; simp [binOp, intBits_or, h]
theorem b_xor {S : TypeId} {k : IntKind} {a b c : Int} (h : bits .xor k a b = c) : BinRun P .xor S (.int k a) (.int k b) (.int k c) := fun x y w => by rw [eqg_int]; simp [binOp, intBits_xor, h]
theorem b_shr {S : TypeId} {k yk : IntKind} {a b c : Int} (h0 : 0 ≤ b) (h1 : b ≤ k.bits) (h : a / 2 ^ b.toNat = c) : BinRun P .shr S (.int k a) (.int yk b) (.int k c) := fun x y w => by
  rw [eqg_int]; simp [binOp, shift_shr k yk a b h0 h1, h]
theorem b_shl {S : TypeId} {k yk : IntKind} {a b c : Int} (h0 : 0 ≤ b) (h1 : b ≤ k.bits) (h : k.wrap (a * 2 ^ b.toNat) = c) : BinRun P .shl S (.int k a) (.int yk b) (.int k c) := fun x y w => by
  rw [eqg_int]; simp [binOp, shift_shl k yk a b h0 h1, h]
theorem b_lt {S : TypeId} {k : IntKind} {a b : Int} : BinRun P .lss S (.int k a) (.int k b) (.bool (decide (a < b))) := fun x y w => by rw [eqg_int]; simp [binOp, Op.intCmp]
theorem b_le {S : TypeId} {k : IntKind} {a b : Int} : BinRun P .leq S (.int k a) (.int k b) (.bool (decide (a ≤ b))) := fun x y w => by rw [eqg_int]; simp [binOp, Op.intCmp]
theorem b_gt {S : TypeId} {k : IntKind} {a b : Int} : BinRun P .gtr S (.int k a) (.int k b) (.bool (decide (a > b))) := fun x y w => by rw [eqg_int]; simp [binOp, Op.intCmp]
theorem b_ge {S : TypeId} {k : IntKind} {a b : Int} : BinRun P .geq S (.int k a) (.int k b) (.bool (decide (a ≥ b))) := fun x y w => by rw [eqg_int]; simp [binOp, Op.intCmp]
theorem b_eq {S : TypeId} {k : IntKind} {a b : Int} : BinRun P .eql S (.int k a) (.int k b) (.bool (decide (a = b))) := fun x y w => by
  rw [eqg_int]; simp [binOp, Op.intCmp]; exact (Bool.beq_eq_decide_eq a b)
theorem b_ne {S : TypeId} {k : IntKind} {a b : Int} : BinRun P .neq S (.int k a) (.int k b) (.bool (!decide (a = b))) := fun x y w => by
  rw [eqg_int]; simp [binOp, Op.intCmp]; simp [bne, Bool.beq_eq_decide_eq a b]

theorem r_not {S : TypeId} {x : Operand} {b : Bool} (hx : ev E x = some (.bool b)) (hd : Nat.blt d N = true) (k : At N w0 M H ((d, .bool (!b)) :: E) Γ R (wpList P ops Q rest)) :
    At N w0 M H E Γ R (wpList P ops Q (⟨some d, .unOp .not S x, T, ps, af, none⟩ :: rest)) := r_pure hd (fun a w hE => by simp [execOp, hE.ev hx, Op.unary]) k
theorem r_neg {S : TypeId} {x : Operand} {k : IntKind} {n c : Int} (hx : ev E x = some (.int k n)) (hc : k.wrap (-n) = c) (hd : Nat.blt d N = true) (kk : At N w0 M H ((d, .int k c) :: E) Γ R (wpList P ops Q rest)) :
    At N w0 M H E Γ R (wpList P ops Q (⟨some d, .unOp .neg S x, T, ps, af, none⟩ :: rest)) := r_pure hd (fun a w hE => by simp [execOp, hE.ev hx, Op.unary, Op.intArith, hc]) kk
theorem r_conv {S D : TypeId} {x : Operand} {k k' : IntKind} {n c : Int} {D' : TypeDesc} (hS : P.underlying S = some D') (hD : P.underlying D = some (.int k')) (hx : ev E x = some (.int k n)) (hc : k'.wrap n = c) (hd : Nat.blt d N = true)
    (kk : At N w0 M H ((d, .int k' c) :: E) Γ R (wpList P ops Q rest)) : At N w0 M H E Γ R (wpList P ops Q (⟨some d, .convert S D x, T, ps, af, none⟩ :: rest)) :=
  r_pure hd (fun a w hE => by simp [execOp, hE.ev hx, convert, run_underlying hS, run_underlying hD, Conv.intToInt, hc]) kk
def evs (E : Env) : List Operand → Option (List Value)
  | [] => some []
  | x :: r => match ev E x, evs E r with
    | some v, some vs => some (v :: vs)
    | _, _ => none
theorem EOk.evs {a : Act} (h : EOk N E a) : ∀ {xs : List Operand} {vs : List Value}, Ytfdbkclbcajkiaa.evs E xs = some vs → xs.map a.eval = vs
  | [], vs, e => by simp [Ytfdbkclbcajkiaa.evs] at e; simp [e]
  | x :: r, vs, e => by
    simp only [Ytfdbkclbcajkiaa.evs] at e
    cases hx : Ytfdbkclbcajkiaa.ev E x with
    | none => simp [hx] at e
    | some v =>
      cases hr : Ytfdbkclbcajkiaa.evs E r with
      | none => simp [hx, hr] at e
      | some us =>
        simp [hx, hr] at e
        subst e
        simp [h.ev hx, EOk.evs h hr]
theorem r_makeFunc {fn : Fn} {first cap : List Operand} {fs cs : List Value} (hf : evs E first = some fs) (hc : evs E cap = some cs) (hd : Nat.blt d N = true)
    (k : At N w0 M H ((d, .func fn fs.toArray cs.toArray) :: E) Γ R (wpList P ops Q rest)) : At N w0 M H E Γ R (wpList P ops Q (⟨some d, .makeFunc fn first.toArray cap.toArray, T, ps, af, none⟩ :: rest)) :=
  r_pure hd (fun a w hE => by simp [execOp, Instr.makeFunc, hE.evs hf, hE.evs hc]) k
theorem r_extract {x : Operand} {i : Nat} {vs : List Value} {v : Value} (hx : ev E x = some (.tuple vs.toArray)) (hv : vs[i]? = some v) (hd : Nat.blt d N = true) (k : At N w0 M H ((d, v) :: E) Γ R (wpList P ops Q rest)) :
    At N w0 M H E Γ R (wpList P ops Q (⟨some d, .extract x i, T, ps, af, none⟩ :: rest)) := r_pure hd (fun a w hE => by simp [execOp, hE.ev hx, Instr.extract, hv]) k
theorem r_nilCheck {x : Operand} {A : Addr} (hx : ev E x = some (.pointer (some A))) (hd : Nat.blt d N = true) (k : At N w0 M H ((d, .pointer (some A)) :: E) Γ R (wpList P ops Q rest)) :
    At N w0 M H E Γ R (wpList P ops Q (⟨some d, .nilCheck x, T, ps, af, none⟩ :: rest)) := r_pure hd (fun a w hE => by simp [execOp, hE.ev hx]) k

end
end Go.Proofs.Ytfdbkclbcajkiaa
