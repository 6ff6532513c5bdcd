/-
  Small facts for the printed walks: wraps of integers in range, remainders, encoders of elements, whole blocks, guards within guards. No condition.
-/
import Derived.Test.YtfdbkclbcajkiaaK5
namespace Go.Proofs.Ytfdbkclbcajkiaa
set_option linter.unusedSimpArgs false
set_option linter.unusedVariables false
open Go.RowKit

theorem w_i64 {n : Int} (h1 : -9223372036854775808 ≤ n) (h2 : n ≤ 9223372036854775807) : IntKind.i64.wrap n = n := by rw [IntKind.wrap_i64]; omega
theorem w_u32 {n : Int} (h1 : 0 ≤ n) (h2 : n < 4294967296) : IntKind.u32.wrap n = n := by simp [IntKind.wrap, IntKind.signed, IntKind.bits]; omega
theorem w_u8 {n : Int} (h1 : 0 ≤ n) (h2 : n < 256) : IntKind.u8.wrap n = n := by simp [IntKind.wrap, IntKind.signed, IntKind.bits]; omega
theorem w_u16 {n : Int} (h1 : 0 ≤ n) (h2 : n < 65536) : IntKind.u16.wrap n = n := by simp [IntKind.wrap, IntKind.signed, IntKind.bits]; omega
theorem w_u64 {n : Int} (h1 : 0 ≤ n) (h2 : n < 18446744073709551616) : IntKind.u64.wrap n = n := by simp [IntKind.wrap, IntKind.signed, IntKind.bits]; omega
theorem w_i32 {n : Int} (h1 : -2147483648 ≤ n) (h2 : n < 2147483648) : IntKind.i32.wrap n = n := by simp [IntKind.wrap, IntKind.signed, IntKind.bits]; omega
theorem tmod_pos {a b : Int} (h : 0 ≤ a) : a.tmod b = a % b := Int.tmod_eq_emod_of_nonneg h
def eI : Int → List Value := fun n => [.int .i64 n]
def eW : Int → List Value := fun n => [.int .u32 n]
def eS : ByteArray → List Value := fun s => [.string s]
def eB : Bool → List Value := fun s => [.bool s]

section
variable {P : Program} {N : Nat} {w0 : World} {M H : Nat → Prop} {E : Env} {Γ R : Ctx} {Q : Exit → Act → World → Prop}
variable {ops : Array Oper} {rest : List Oper} {T : TypeId} {ps : String} {af : Array Edge} {d : Nat} {op : Op}

theorem g_all {k b : Nat} {S : TypeId} {c : List Value} (hk : cget Γ k = some (row b S c)) : Gives w0 M H Γ R b 0 c := g_row hk (by simp)
theorem r_boxA {S : TypeId} {x : Operand} {c : List Value} (hx : ev E x = some (.agg c.toArray)) (hd : Nat.blt d N = true)
    (k : ∀ b, At N w0 M H ((d, .pointer (some ⟨b, 0, none⟩)) :: E) ((d, row b S c) :: Γ) R (wpList P ops Q rest)) : At N w0 M H E Γ R (wpList P ops Q (⟨some d, .box S x, T, ps, af, none⟩ :: rest)) :=
  r_box hx (by simp [Value.cells]) hd k
theorem r_box1 {S : TypeId} {x : Operand} {u : Value} (hx : ev E x = some u) (h1 : u.oneCell' = true) (hd : Nat.blt d N = true)
    (k : ∀ b, At N w0 M H ((d, .pointer (some ⟨b, 0, none⟩)) :: E) ((d, row b S [u]) :: Γ) R (wpList P ops Q rest)) : At N w0 M H E Γ R (wpList P ops Q (⟨some d, .box S x, T, ps, af, none⟩ :: rest)) :=
  r_box hx (by cases u <;> first | rfl | simp [Value.oneCell'] at h1) hd k
theorem r_alloc_arr {S : TypeId} {D : TypeDesc} {z u : Value} {s bb n : Nat} (ht : TI P S D z s bb) (hc : z.cells.toList = List.replicate n u) (hd : Nat.blt d N = true)
    (k : ∀ b, At N w0 M H ((d, .pointer (some ⟨b, 0, none⟩)) :: E) ((d, arr b S n (fun _ => u)) :: Γ) R (wpList P ops Q rest)) : At N w0 M H E Γ R (wpList P ops Q (⟨some d, .alloc S, T, ps, af, none⟩ :: rest)) :=
  r_alloc ht hc hd fun b => by
    have hn : (List.replicate n u).length = n := by simp
    exact (k b).weak (fun _ h => h) fun w hC => (hC.upd (A := row b S (List.replicate n u)) (A' := arr b S n (fun _ => u)) (k := d) (by simp [cget]) fun G hG hlt =>
      ⟨G, row_arr hn (fun i hi => by simp [hi]) hG, fun b hb => ⟨hlt b hb, fun _ => hb⟩, Touch.refl _ _⟩).congr (fun j A h => by
        simp only [cget] at h ⊢
        cases hb : Nat.beq d j with
        | true => rw [hb] at h; simpa using h
        | false => rw [hb] at h; simpa using h) (fun _ _ h => h)
theorem r_box_arr {S : TypeId} {x : Operand} {n : Nat} {f : Nat → Value} (hx : ev E x = some (.agg ((List.range n).map f).toArray)) (hd : Nat.blt d N = true)
    (k : ∀ b, At N w0 M H ((d, .pointer (some ⟨b, 0, none⟩)) :: E) ((d, arr b S n f) :: Γ) R (wpList P ops Q rest)) : At N w0 M H E Γ R (wpList P ops Q (⟨some d, .box S x, T, ps, af, none⟩ :: rest)) :=
  r_boxA hx hd fun b => by
    have hn : ((List.range n).map f).length = n := by simp
    exact (k b).weak (fun _ h => h) fun w hC => (hC.upd (A := row b S ((List.range n).map f)) (A' := arr b S n f) (k := d) (by simp [cget]) fun G hG hlt =>
      ⟨G, row_arr hn (fun i hi => by simp [hi]) hG, fun b hb => ⟨hlt b hb, fun _ => hb⟩, Touch.refl _ _⟩).congr (fun j A h => by
        simp only [cget] at h ⊢
        cases hb : Nat.beq d j with
        | true => rw [hb] at h; simpa using h
        | false => rw [hb] at h; simpa using h) (fun _ _ h => h)
/-- A whole block of aggregate type is written. -/
theorem r_store_all {S S' : TypeId} {D : TypeDesc} {z : Value} {s bb : Nat} {x y : Operand} {b : Nat} {k : Nat} {c us : List Value} (ht : TI P S D z s bb) (hx : ev E x = some (.pointer (some ⟨b, 0, none⟩))) (hy : ev E y = some (.agg us.toArray))
    (hs : us.length = s) (h1 : us.all (·.oneCell') = true) (hk : cget Γ k = some (row b S' c)) (hc : c.length = s)
    (kk : At N w0 M H E ((k, row b S' us) :: Γ) R (wpList P ops Q rest)) : At N w0 M H E Γ R (wpList P ops Q (⟨none, .store S x y, T, ps, af, none⟩ :: rest)) :=
  r_store_row (us := us) ht hx hy (by simp [Value.cells]) hs h1 hk (by rw [hs, hc]; simp) (by rw [hs, ← hc]; simp) kk
theorem arr_putAll {b n : Nat} {S : TypeId} {f g : Nat → Value} : ∀ (w : World) (G : Nat → Prop), (arr b S n f).pred w G →
    ∃ cur S', w.heap[b]? = some (.cells cur S' (0, 0)) ∧ G b ∧ 0 + ((List.range n).map g).length ≤ cur.size ∧ (arr b S n g).pred (w.setRow b (cur.toList.take 0 ++ (List.range n).map g ++ cur.toList.drop (0 + ((List.range n).map g).length)).toArray) G := by
  rintro w G ⟨h1, c, h2, h3, h4⟩
  refine ⟨c, S, h2, (h1 b).2 rfl, by simp; omega, h1, _, setRow_heap w b _ _ S (0, 0) h2, by simp; omega, fun i hi => ?_⟩
  simp [List.getElem?_append, hi]
theorem r_store_arrAll {S S' : TypeId} {D : TypeDesc} {z : Value} {s bb n : Nat} {x y : Operand} {b : Nat} {k : Nat} {f g : Nat → Value} (ht : TI P S D z s bb) (hx : ev E x = some (.pointer (some ⟨b, 0, none⟩))) (hy : ev E y = some (.agg ((List.range n).map g).toArray))
    (hs : n = s) (h1 : ((List.range n).map g).all (·.oneCell') = true) (hk : cget Γ k = some (arr b S' n f))
    (kk : At N w0 M H E ((k, arr b S' n g) :: Γ) R (wpList P ops Q rest)) : At N w0 M H E Γ R (wpList P ops Q (⟨none, .store S x y, T, ps, af, none⟩ :: rest)) :=
  r_store_gen (us := (List.range n).map g) ht hx hy (by simp [Value.cells]) (by simpa using hs) h1 hk arr_putAll kk

/-- A guard within a guard. -/
theorem r_gp2 {l : List Oper} {rest : List Oper} {i t : Nat} {c b g : Bool} {v : Value} (Eg E2 : Env) (hi : gslot l i = some t) (ht : eget E t = some (gv g (.bool b))) (hgs : GS E (g && gb c b) Eg) (hgs2 : GS E g E2) (h : g = true → gb c b = true → PR P N w0 M H (E2 ++ (Eg ++ E)) Γ R op v) (hd : Nat.blt d N = true)
    (k : At N w0 M H ((d, gv (g && gb c b) v) :: E) Γ R (wpList P l.toArray Q rest)) : At N w0 M H E Γ R (wpList P l.toArray Q (⟨some d, op, T, ps, af, some (i, c)⟩ :: rest)) := by
  intro a w hE hC
  have hyd : yielded l.toArray a.tmps i = bif g then some b else none := by
    unfold yielded
    have : (l.toArray[i]?).bind (·.dst) = some t := by simpa [gslot] using hi
    rw [this]
    cases g <;> simp [hE.slot t _ ht, gv, undef]
  unfold wpList
  cases hg : (g && gb c b) with
  | true =>
    have hg1 : g = true ∧ gb c b = true := by simpa using hg
    obtain ⟨hg1, hg2⟩ := hg1
    have hbc : b = c := by cases b <;> cases c <;> simp_all [gb]
    rw [if_pos (by simp [Region.wanted, hyd, hg1, hbc])]
    left
    unfold Oper.wp
    have hE' := hE.gs hg hgs
    have hgs2' : GS (Eg ++ E) g E2 → EOk N (E2 ++ (Eg ++ E)) a := fun h2 => hE'.gs hg1 h2
    have : EOk N (E2 ++ (Eg ++ E)) a := by
      have h2 := hE.gs hg1 hgs2
      refine ⟨hE.defers, hE.size, fun s v hv => ?_⟩
      have key : ∀ (A B : Env) (s : Nat) (v : Value), eget (A ++ B) s = some v → eget A s = some v ∨ eget B s = some v := by
        intro A
        induction A with
        | nil => intro B s v h; exact .inr h
        | cons p A ih =>
          intro B s v h
          obtain ⟨j, u⟩ := p
          simp only [List.cons_append, eget] at h ⊢
          cases hb : Nat.beq j s with
          | true => rw [hb] at h; exact .inl (by simpa using h)
          | false => rw [hb] at h; simpa using ih B s v h
      rcases key _ _ s v hv with h3 | h3
      · have : ∀ (A B : Env) (s : Nat) (v : Value), eget A s = some v → eget (A ++ B) s = some v := by
          intro A
          induction A with
          | nil => intro B s v h; cases h
          | cons p A ih =>
            intro B s v h
            obtain ⟨j, u⟩ := p
            simp only [List.cons_append, eget] at h ⊢
            cases hb : Nat.beq j s with
            | true => rw [hb] at h; simpa using h
            | false => rw [hb] at h; simpa using ih B s v h
        exact h2.slot s v (this _ _ s v h3)
      · exact hE'.slot s v h3
    rw [h hg1 hg2 _ _ _ a w this hC _ _]
    rw [hg] at k
    exact k _ _ (hE.put hd v) hC
  | false =>
    have : Region.wanted (⟨some d, op, T, ps, af, some (i, c)⟩ : Oper) (yielded l.toArray a.tmps) = false := by
      cases g <;> cases b <;> cases c <;> simp_all [gb, Region.wanted]
    rw [if_neg (by rw [this]; simp)]
    rw [hg] at k
    exact k _ _ (hE.put hd undef) hC
theorem pick_and2 {b c g : Bool} (hg : g = true) : (bif b then gv (g && gb true b) (.bool c) else .bool false) = .bool (b && c) := by subst hg; cases b <;> rfl
theorem pick_or2 {b c g : Bool} (hg : g = true) : (bif b then .bool true else gv (g && gb false b) (.bool c)) = .bool (b || c) := by subst hg; cases b <;> rfl

theorem own_eq {α : Type} {T s : Nat} {enc : α → List Value} {v : Value} {l l' : List α} (h : l = l') : own T s enc v l = own T s enc v l' := by rw [h]
theorem sl_eq {α : Type} {s : Nat} {enc : α → List Value} {v : Value} {l l' : List α} (h : l = l') : sl s enc v l = sl s enc v l' := by rw [h]
theorem arr_eq {b T n : Nat} {f g : Nat → Value} (h : f = g) : arr b T n f = arr b T n g := by rw [h]
theorem one_eq {A B : Asn} (h : A = B) : [some A] = somes [B] := by rw [h]; rfl

theorem g_el' {α : Type} {s : Nat} {enc : α → List Value} {v : Value} {l : List α} (h : HasSl Γ R s enc v l) (he : ∀ x, (enc x).length = s) {i : Nat} {x : α} (hx : l[i]? = some x) {us : List Value} (hu : enc x = us) : Gives w0 M H Γ R (sblk v) (soff v + i * s) us := hu ▸ g_el h he hx
theorem all_one {n : Nat} {f : Nat → Value} (h : ∀ i, (f i).oneCell' = true) : ((List.range n).map f).all (·.oneCell') = true := by simp [h]

/-- A contract out of a plain one. -/
theorem Spec.of_calls {n : Nat} {vs : List Value} {v : Value} (h : ∀ w, Calls P n vs.toArray w fun e w' => e = .returned v ∧ Below w.heap.size w w') : Spec P n vs [] [] (X := Unit) (fun _ => True) (fun _ => v) (fun _ => []) (fun _ => []) := fun w M H hL =>
  (h w).mono fun e w' ⟨h1, h2⟩ => ⟨(), trivial, h1, fun _ _ => False, Touch.of_below h2, fun i A hi => by simp at hi, fun _ _ h => h.elim, fun _ _ h => h.elim, fun _ _ _ h => h.elim, fun i A hi => by simp at hi⟩
end
end Go.Proofs.Ytfdbkclbcajkiaa
