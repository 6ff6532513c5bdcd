/-
  Operations that change nothing, as facts of their own: for use under a guard too. No condition.
-/
import Derived.Test.YtfdbkclbcajkiaaK4
namespace Go.Proofs.Ytfdbkclbcajkiaa
set_option linter.unusedSimpArgs false
set_option linter.unusedVariables false
open Go.RowKit

section
variable {P : Program} {N : Nat} {w0 : World} {M H : Nat → Prop} {E : Env} {Γ R : Ctx} {Q : Exit → Act → World → Prop}
variable {ops : Array Oper} {rest : List Oper} {T : TypeId} {ps : String} {af : Array Edge} {d : Nat} {op : Op}

/-- The operation gives v and changes nothing. -/
def PR (P : Program) (N : Nat) (w0 : World) (M H : Nat → Prop) (E : Env) (Γ R : Ctx) (op : Op) (v : Value) : Prop :=
  ∀ T ps af a w, EOk N E a → COk w0 M H Γ R w → ∀ d g, (execOp a.eval ⟨d, op, T, ps, af, g⟩).run P w = .ok (.value v) w
theorem r_p {v : Value} (h : PR P N w0 M H E Γ R op v) (hd : Nat.blt d N = true) (k : At N w0 M H ((d, v) :: E) Γ R (wpList P ops Q rest)) : At N w0 M H E Γ R (wpList P ops Q (⟨some d, op, T, ps, af, none⟩ :: rest)) :=
  r_gen (X := Unit) (fun _ => True) (fun _ => v) (fun _ => Γ) (fun _ => R) hd (fun a w hE hC => ⟨(), w, trivial, h _ _ _ a w hE hC _ _, hC⟩) fun _ _ => k

def gb : Bool → Bool → Bool
  | true, b => b
  | false, b => !b
def gv (g : Bool) (v : Value) : Value := bif g then v else undef
def GS (E : Env) (g : Bool) : Env → Prop
  | [] => True
  | (t, u) :: r => eget E t = some (gv g u) ∧ GS E g r
theorem EOk.gs {a : Act} {g : Bool} (h : EOk N E a) (hg : g = true) : ∀ {Eg : Env}, GS E g Eg → EOk N (Eg ++ E) a
  | [], _ => h
  | (t, u) :: r, hs => by
    have ih := EOk.gs h hg hs.2
    refine ⟨h.defers, h.size, fun s v hv => ?_⟩
    simp only [List.cons_append, eget] at hv
    cases hb : Nat.beq t s with
    | true =>
      rw [hb] at hv
      simp at hv
      subst hv
      rw [← Nat.eq_of_beq_eq_true hb]
      have := h.slot t _ hs.1
      rw [hg] at this
      exact this
    | false => rw [hb] at hv; exact ih.slot s v hv
/-- An operation under a guard that may or may not hold: the slot holds its value, or nothing. -/
theorem r_gp {l : List Oper} {rest : List Oper} {i t : Nat} {c b : Bool} {v : Value} (Eg : Env) (hi : gslot l i = some t) (ht : eget E t = some (.bool b)) (hgs : GS E (gb c b) Eg) (h : gb c b = true → PR P N w0 M H (Eg ++ E) Γ R op v) (hd : Nat.blt d N = true)
    (k : At N w0 M H ((d, gv (gb c b) v) :: E) Γ R (wpList P l.toArray Q rest)) : At N w0 M H E Γ R (wpList P l.toArray Q (⟨some d, op, T, ps, af, some (i, c)⟩ :: rest)) := by
  intro a w hE hC
  have hyd := hE.yield hi ht
  unfold wpList
  cases hg : gb c b with
  | true =>
    have hbc : b = c := by cases b <;> cases c <;> simp_all [gb]
    rw [if_pos (by simp [Region.wanted, hyd, hbc])]
    left
    unfold Oper.wp
    rw [h hg _ _ _ a w (hE.gs hg hgs) hC _ _]
    rw [hg] at k
    exact k _ _ (hE.put hd v) hC
  | false =>
    have hbc : b ≠ c := by cases b <;> cases c <;> simp_all [gb]
    rw [if_neg (by simp [Region.wanted, hyd, hbc])]
    rw [hg] at k
    exact k _ _ (hE.put hd undef) hC
theorem pick_and {b c : Bool} : (bif b then gv (gb true b) (.bool c) else .bool false) = .bool (b && c) := by cases b <;> rfl
theorem pick_or {b c : Bool} : (bif b then .bool true else gv (gb false b) (.bool c)) = .bool (b || c) := by cases b <;> rfl

theorem p_move {x : Operand} {v : Value} (hx : ev E x = some v) : PR P N w0 M H E Γ R (.move x) v := fun _ _ _ a w hE _ _ _ => by simp [execOp, hE.ev hx]
theorem p_assign {x : Operand} {v : Value} (hx : ev E x = some v) : PR P N w0 M H E Γ R (.assign x) v := fun _ _ _ a w hE _ _ _ => by simp [execOp, hE.ev hx]
theorem p_pick {c x y : Operand} {b : Bool} {u v z : Value} (hc : ev E c = some (.bool b)) (hx : ev E x = some u) (hy : ev E y = some v) (hz : (bif b then u else v) = z) : PR P N w0 M H E Γ R (.pick c x y) z := fun _ _ _ a w hE _ _ _ => by
  subst hz
  simp only [execOp, hE.ev hc, hE.ev hx, hE.ev hy, asBool]
  cases b <;> rfl
theorem p_bin {o : BinOp} {S S' : TypeId} {x y : Operand} {u v z : Value} (hx : ev E x = some u) (hy : ev E y = some v) (hb : BinRun P o S u v z) : PR P N w0 M H E Γ R (.binOp o S x y S') z := fun _ _ _ a w hE _ _ _ => by
  have := hb x y w
  simp only [execOp, hE.ev hx, hE.ev hy, Sem.run_bind] at this ⊢
  rw [this]; rfl
theorem p_not {S : TypeId} {x : Operand} {b : Bool} (hx : ev E x = some (.bool b)) : PR P N w0 M H E Γ R (.unOp .not S x) (.bool (!b)) := fun _ _ _ a w hE _ _ _ => by simp [execOp, hE.ev hx, Op.unary]
theorem p_neg {S : TypeId} {x : Operand} {k : IntKind} {n c : Int} (hx : ev E x = some (.int k n)) (hc : k.wrap (-n) = c) : PR P N w0 M H E Γ R (.unOp .neg S x) (.int k c) := fun _ _ _ a w hE _ _ _ => by simp [execOp, hE.ev hx, Op.unary, Op.intArith, hc]
theorem p_conv {S D : TypeId} {x : Operand} {k k' : IntKind} {n c : Int} {D' : TypeDesc} (hS : P.underlying S = some D') (hD : P.underlying D = some (.int k')) (hx : ev E x = some (.int k n)) (hc : k'.wrap n = c) : PR P N w0 M H E Γ R (.convert S D x) (.int k' c) :=
  fun _ _ _ a w hE _ _ _ => by simp [execOp, hE.ev hx, convert, run_underlying hS, run_underlying hD, Conv.intToInt, hc]
theorem p_field0 {S : TypeId} {i off : Nat} {x : Operand} {b : Nat} (hf : FO P S i off) (hx : ev E x = some (.pointer (some ⟨b, 0, none⟩))) : PR P N w0 M H E Γ R (.fieldAddr S x i) (.pointer (some ⟨b, off, none⟩)) := fun _ _ _ a w hE _ _ _ => by simp [execOp, hE.ev hx, hf.run]
theorem p_field {S : TypeId} {i off : Nat} {x : Operand} {b o : Nat} (hf : FO P S i off) (hx : ev E x = some (.pointer (some ⟨b, o, none⟩))) : PR P N w0 M H E Γ R (.fieldAddr S x i) (.pointer (some ⟨b, o + off, none⟩)) := fun _ _ _ a w hE _ _ _ => by simp [execOp, hE.ev hx, hf.run]
theorem p_idx_arr {S U : TypeId} {D : TypeDesc} {z : Value} {s bb n b o j : Nat} {x y : Operand} {k : IntKind} {i : Int} (hS : P.underlying S = some (.array n U)) (hU : TI P U D z s bb) (hx : ev E x = some (.pointer (some ⟨b, o, none⟩))) (hy : ev E y = some (.int k i)) (hi : i = (j : Int)) (hj : j < n) :
    PR P N w0 M H E Γ R (.indexAddr S x y) (.pointer (some ⟨b, o + j * s, none⟩)) :=
  fun _ _ _ a w hE _ _ _ => by subst hi; simp [execOp, hE.ev hx, hE.ev hy, Instr.indexAt, asIntOf, run_underlying hS, Instr.sureAddr, hU.sizeOf, add_lit', hj]
theorem p_idx_arr1 {S U : TypeId} {D : TypeDesc} {z : Value} {bb n b j : Nat} {x y : Operand} {k : IntKind} {i : Int} (hS : P.underlying S = some (.array n U)) (hU : TI P U D z 1 bb) (hx : ev E x = some (.pointer (some ⟨b, 0, none⟩))) (hy : ev E y = some (.int k i)) (hi : i = (j : Int)) (hj : j < n) :
    PR P N w0 M H E Γ R (.indexAddr S x y) (.pointer (some ⟨b, j, none⟩)) :=
  fun _ _ _ a w hE _ _ _ => by subst hi; simp [execOp, hE.ev hx, hE.ev hy, Instr.indexAt, asIntOf, run_underlying hS, Instr.sureAddr, hU.sizeOf, add_lit', hj]
theorem p_idx_sl {α : Type} {S U : TypeId} {D : TypeDesc} {z : Value} {s bb j : Nat} {x y : Operand} {k : IntKind} {i : Int} {enc : α → List Value} {v : Value} {l : List α} (hS : P.underlying S = some (.slice U)) (hU : TI P U D z s bb) (hx : ev E x = some v) (hy : ev E y = some (.int k i)) (hs : HasSl Γ R s enc v l) (hi : i = (j : Int)) (hj : j < l.length) :
    PR P N w0 M H E Γ R (.indexAddr S x y) (.pointer (some ⟨sblk v, soff v + j * s, none⟩)) := fun _ _ _ a w hE hC _ _ => by
  obtain ⟨G, c, h1, h2, h3⟩ := hs.ok hC
  rcases h3 with ⟨rfl, _⟩ | ⟨b, o, rfl, _, _⟩
  · simp at hj
  · subst hi
    simp [execOp, hE.ev hx, hE.ev hy, Instr.indexAt, asIntOf, run_underlying hS, hU.sizeOf, add_lit', hj, sblk, soff]
theorem p_load1 {S : TypeId} {D : TypeDesc} {z : Value} {s bb : Nat} {x : Operand} {b o : Nat} {u : Value} (ht : TI P S D z s bb) (hag : aggD D = false) (hx : ev E x = some (.pointer (some ⟨b, o, none⟩))) (hg : Gives w0 M H Γ R b o [u]) : PR P N w0 M H E Γ R (.load S x) u :=
  fun _ _ _ a w hE hC _ _ => by
    have := hg w hC 0 u rfl
    simp only [Nat.add_zero] at this
    simp [execOp, hE.ev hx, Instr.loadAt, Instr.sureAddr, loadVar, ht.isAgg, hag, this]
theorem p_loadA {S : TypeId} {D : TypeDesc} {z : Value} {s bb : Nat} {x : Operand} {b o : Nat} {us : List Value} (ht : TI P S D z s bb) (hag : aggD D = true) (hx : ev E x = some (.pointer (some ⟨b, o, none⟩))) (hn : us.length = s) (hg : Gives w0 M H Γ R b o us) : PR P N w0 M H E Γ R (.load S x) (.agg us.toArray) :=
  fun _ _ _ a w hE hC _ _ => by
    have := hg.cells (P := P) hC
    rw [hn] at this
    simp [execOp, hE.ev hx, Instr.loadAt, Instr.sureAddr, loadVar, ht.isAgg, hag, ht.sizeOf, this]
theorem p_len_sl {α : Type} {S U : TypeId} {s : Nat} {x : Operand} {enc : α → List Value} {v : Value} {l : List α} (hS : P.underlying S = some (.slice U)) (hx : ev E x = some v) (hs : HasSl Γ R s enc v l) : PR P N w0 M H E Γ R (.call { callee := .builtin .len, args := #[x], argTypes := #[S] }) (.int .i64 (l.length : Int)) :=
  fun _ _ _ a w hE hC _ _ => by
    obtain ⟨G, c, h1, h2, h3⟩ := hs.ok hC
    rcases h3 with ⟨rfl, _, rfl⟩ | ⟨b, o, rfl, _, _⟩
    · simp [execOp, resolve, invoke, builtin, hE.ev hx, Builtin.len_, run_underlying hS, goInt]
    · simp [execOp, resolve, invoke, builtin, hE.ev hx, Builtin.len_, run_underlying hS, goInt]
theorem p_len_str {S : TypeId} {x : Operand} {s : ByteArray} (hS : P.underlying S = some .string) (hx : ev E x = some (.string s)) : PR P N w0 M H E Γ R (.call { callee := .builtin .len, args := #[x], argTypes := #[S] }) (.int .i64 (s.size : Int)) :=
  fun _ _ _ a w hE _ _ _ => by simp [execOp, resolve, invoke, builtin, hE.ev hx, Builtin.len_, run_underlying hS, goInt]
theorem p_min {x y : Operand} {k : IntKind} {m n c : Int} {at_ : Array TypeId} (hx : ev E x = some (.int k m)) (hy : ev E y = some (.int k n)) (hc : min m n = c) : PR P N w0 M H E Γ R (.call { callee := .builtin .min, args := #[x, y], argTypes := at_ }) (.int k c) :=
  fun _ _ _ a w hE _ _ _ => by
    have : (if n < m then n else m) = c := by rw [← hc]; split <;> omega
    simp [execOp, resolve, invoke, builtin, hE.ev hx, hE.ev hy, Builtin.min_, Builtin.min2, this]
theorem p_max {x y : Operand} {k : IntKind} {m n c : Int} {at_ : Array TypeId} (hx : ev E x = some (.int k m)) (hy : ev E y = some (.int k n)) (hc : max m n = c) : PR P N w0 M H E Γ R (.call { callee := .builtin .max, args := #[x, y], argTypes := at_ }) (.int k c) :=
  fun _ _ _ a w hE _ _ _ => by
    have : (if n > m then n else m) = c := by rw [← hc]; split <;> omega
    simp [execOp, resolve, invoke, builtin, hE.ev hx, hE.ev hy, Builtin.max_, Builtin.max2, this]
theorem p_vfield {S U : TypeId} {D : TypeDesc} {z : Value} {i off s bb : Nat} {x : Operand} {cs : Array Value} {u : Value} (hf : FT P S i off U) (ht : TI P U D z s bb) (hx : ev E x = some (.agg cs)) (hu : (bif aggD D then some (.agg (cs.extract off (off + s))) else cs[off]?) = some u) : PR P N w0 M H E Γ R (.field S x i) u :=
  fun _ _ _ a w hE _ _ _ => by
    obtain ⟨fields, f, h1, h2, h3, h4⟩ := hf
    subst h4
    cases hag : aggD D with
    | true => rw [hag] at hu; simp at hu; simp [execOp, hE.ev hx, Instr.field, run_underlying h1, h2, asAgg, h3, run_partA ht hag rfl, hu]
    | false => rw [hag] at hu; simp at hu; simp [execOp, hE.ev hx, Instr.field, run_underlying h1, h2, asAgg, h3, run_part1 ht hag hu]
theorem p_vindex {S U : TypeId} {D : TypeDesc} {z : Value} {n s bb j : Nat} {x y : Operand} {k : IntKind} {i : Int} {cs : Array Value} {u : Value} (hS : P.underlying S = some (.array n U)) (ht : TI P U D z s bb) (hx : ev E x = some (.agg cs)) (hy : ev E y = some (.int k i)) (hi : i = (j : Int)) (hj : j < n)
    (hu : (bif aggD D then some (.agg (cs.extract (j * s) (j * s + s))) else cs[j * s]?) = some u) : PR P N w0 M H E Γ R (.index S x y) u :=
  fun _ _ _ a w hE _ _ _ => by
    subst hi
    cases hag : aggD D with
    | true => rw [hag] at hu; simp at hu; simp [execOp, hE.ev hx, hE.ev hy, Instr.index, asIntOf, run_underlying hS, hj, ht.sizeOf, run_partA ht hag rfl, hu]
    | false => rw [hag] at hu; simp at hu; simp [execOp, hE.ev hx, hE.ev hy, Instr.index, asIntOf, run_underlying hS, hj, ht.sizeOf, run_part1 ht hag hu]
theorem p_makeFunc {fn : Fn} {first cap : List Operand} {fs cs : List Value} (hf : evs E first = some fs) (hc : evs E cap = some cs) : PR P N w0 M H E Γ R (.makeFunc fn first.toArray cap.toArray) (.func fn fs.toArray cs.toArray) :=
  fun _ _ _ a w hE _ _ _ => by simp [execOp, Instr.makeFunc, hE.evs hf, hE.evs hc]
theorem p_extract {x : Operand} {i : Nat} {vs : List Value} {v : Value} (hx : ev E x = some (.tuple vs.toArray)) (hv : vs[i]? = some v) : PR P N w0 M H E Γ R (.extract x i) v := fun _ _ _ a w hE _ _ _ => by simp [execOp, hE.ev hx, Instr.extract, hv]
theorem p_nilCheck {x : Operand} {A : Addr} (hx : ev E x = some (.pointer (some A))) : PR P N w0 M H E Γ R (.nilCheck x) (.pointer (some A)) := fun _ _ _ a w hE _ _ _ => by simp [execOp, hE.ev hx]
theorem p_build {S : TypeId} {D : TypeDesc} {z : Value} {s bb : Nat} {places : List (Nat × Nat)} {parts : List (Nat × Operand)} {vs : List (Nat × Value)} {cs : Array Value} (ht : TI P S D z s bb) (hp : PL P S places) (hv : evps E parts = some vs) (hf : Instr.fill (fun i => places[i]?) z.cells vs = some cs) :
    PR P N w0 M H E Γ R (.build S parts.toArray) (.agg cs) := fun _ _ _ a w hE _ _ _ => by
  obtain ⟨fields, h1, h2⟩ := hp
  obtain ⟨i, h3, h4, _, _⟩ := ht.info
  have hb : P.built S vs = some cs := by
    simp only [Program.built, h3, h1, h4, h2]
    simpa using hf
  have := run_build (P := P) w S vs.toArray cs (by simpa using hb)
  have hev := hE.evps hv
  simp [execOp, hev, this]
theorem p_buildA {S U : TypeId} {D DU : TypeDesc} {z zu : Value} {n s bb su bu : Nat} {parts : List (Nat × Operand)} {vs : List (Nat × Value)} {cs : Array Value} (ht : TI P S (.array n U) z s bb) (hU : TI P U DU zu su bu) (hv : evps E parts = some vs) (hf : Instr.fill (fun i => some (i * su, su)) z.cells vs = some cs) :
    PR P N w0 M H E Γ R (.build S parts.toArray) (.agg cs) := fun _ _ _ a w hE _ _ _ => by
  obtain ⟨i, h3, h4, _, _⟩ := ht.info
  obtain ⟨iu, h5, h6, h7, _⟩ := hU.info
  have hb : P.built S vs = some cs := by
    simp only [Program.built, h3, ht.und, h4, h5, h7]
    exact hf
  have := run_build (P := P) w S vs.toArray cs (by simpa using hb)
  have hev := hE.evps hv
  simp [execOp, hev, this]
end
end Go.Proofs.Ytfdbkclbcajkiaa
