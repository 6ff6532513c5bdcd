/-
  Regions that draw their order: every order that the edges allow, in stages between the operations that change memory. No condition.
-/
import Derived.Test.YtfdbkclbcajkiaaK6
namespace Go.Proofs.Ytfdbkclbcajkiaa
set_option linter.unusedSimpArgs false
set_option linter.unusedVariables false
open Go.RowKit

/-! ### Orders -/
def preds (o : Oper) : List Nat := (o.after.toList.filter (Region.binds .any)).map (·.on)
/-- The operations can be done in the order l, when those of D are done. -/
inductive Ord (ops : List Oper) : (Nat → Bool) → List Nat → Prop
  | nil {D : Nat → Bool} (h : ∀ i, i < ops.length → D i = true) : Ord ops D []
  | cons {D : Nat → Bool} {i : Nat} {o : Oper} {l : List Nat} (ho : ops[i]? = some o) (hD : D i = false) (hp : ∀ j ∈ preds o, D j = true) (h : Ord ops (fun j => bif Nat.beq j i then true else D j) l) : Ord ops D (i :: l)

/-- Each operation comes behind those that it must follow. -/
def topo : Nat → List Oper → Bool
  | _, [] => true
  | i, o :: l => o.after.toList.all (fun e => Nat.blt e.on i) && topo (i + 1) l
theorem topo_get : ∀ {l : List Oper} {k i : Nat} {o : Oper}, topo k l = true → l[i]? = some o → ∀ e ∈ o.after.toList, e.on < k + i
  | [], _, _, _, _, h => by simp at h
  | x :: l, k, i, o, ht, h => by
    simp only [topo, Bool.and_eq_true] at ht
    cases i with
    | zero =>
      simp at h
      subst h
      intro e he
      simpa using List.all_eq_true.1 ht.1 e he
    | succ i =>
      intro e he
      have := topo_get ht.2 (by simpa using h) e he
      omega

/-- In the mode m each operation's rank is above that of those that it must follow. -/
def Rk (m : Region.Mode) (rk : Nat → Nat) (l : List Oper) : Prop := ∀ (i : Nat) (o : Oper), l[i]? = some o → ∀ e ∈ o.after.toList, e.on < l.length ∧ (Region.binds m e = true → rk e.on < rk i)
theorem topo_rk {l : List Oper} (m : Region.Mode) (h : topo 0 l = true) : Rk m (fun i => i) l := fun i o ho e he => by
  have h1 := topo_get (k := 0) h ho e he
  have h2 := (List.getElem?_eq_some_iff.1 ho).1
  exact ⟨by omega, fun _ => by dsimp only; omega⟩
def topoM (m : Region.Mode) (rk : List Nat) (l : List Oper) : Bool :=
  (List.range l.length).all fun i => match l[i]? with
    | some o => o.after.toList.all fun e => Nat.blt e.on l.length && (!Region.binds m e || Nat.blt (rk.getD e.on 0) (rk.getD i 0))
    | none => true
theorem topoM_rk {m : Region.Mode} {rk : List Nat} {l : List Oper} (h : topoM m rk l = true) : Rk m (fun i => rk.getD i 0) l := fun i o ho e he => by
  have hi := (List.getElem?_eq_some_iff.1 ho).1
  have h1 := List.all_eq_true.1 h i (by simpa using hi)
  rw [ho] at h1
  have h2 := List.all_eq_true.1 h1 e he
  simp only [Bool.and_eq_true, Bool.or_eq_true] at h2
  refine ⟨by simpa using h2.1, fun hb => ?_⟩
  rcases h2.2 with h3 | h3
  · rw [hb] at h3; cases h3
  · simpa using h3

theorem ready_of_least {m : Region.Mode} {rk : Nat → Nat} {ops : Array Oper} {listed : Array Bool} (hs : listed.size = ops.size) (ht : Rk m rk ops.toList) (hx : ∃ i, i < ops.size ∧ listed.getD i true = false) :
    ∃ i, i < ops.size ∧ listed.getD i true = false ∧ ((ops[i]?).map (·.after.all fun e => !Region.binds m e || listed.getD e.on false)).getD false = true := by
  have key : ∀ n i, rk i ≤ n → i < ops.size → listed.getD i true = false → ∃ j, j < ops.size ∧ listed.getD j true = false ∧ ∀ k, k < ops.size → rk k < rk j → listed.getD k true = true := by
    intro n
    induction n with
    | zero =>
      intro i hi h1 h2
      exact ⟨i, h1, h2, fun k _ hk => by omega⟩
    | succ n ih =>
      intro i hi h1 h2
      by_cases hk : ∃ k, k < ops.size ∧ rk k < rk i ∧ listed.getD k true = false
      · obtain ⟨k, hk0, hk1, hk2⟩ := hk
        exact ih k (by omega) hk0 hk2
      · refine ⟨i, h1, h2, fun k hk0 hk' => ?_⟩
        cases hb : listed.getD k true with
        | true => rfl
        | false => exact absurd ⟨k, hk0, hk', hb⟩ hk
  obtain ⟨i, h1, h2⟩ := hx
  obtain ⟨j, h3, h4, h5⟩ := key (rk i) i (Nat.le_refl _) h1 h2
  refine ⟨j, h3, h4, ?_⟩
  rw [Array.getElem?_eq_getElem h3]
  simp only [Option.map_some, Option.getD_some]
  rw [Array.all_eq_true_iff_forall_mem]
  intro e he
  obtain ⟨h6, h7⟩ := ht j ops[j] (by simp [h3]) e (by simpa using he)
  cases hb : Region.binds m e with
  | false => rfl
  | true =>
    have h8 := h5 e.on (by simpa using h6) (h7 hb)
    have h9 : e.on < listed.size := by rw [hs]; simpa using h6
    simp [Array.getD, h9] at h8 ⊢
    exact h8

theorem Ord.congr {ops : List Oper} : ∀ {l : List Nat} {D D' : Nat → Bool} (_ : ∀ i, i < ops.length → D i = D' i) (_ : ∀ (i : Nat) (o : Oper), ops[i]? = some o → ∀ j ∈ preds o, j < ops.length) (_ : Ord ops D l), Ord ops D' l
  | [], D, D', he, _, h => by
    cases h with
    | nil h => exact .nil fun i hi => by rw [← he i hi]; exact h i hi
  | i :: l, D, D', he, hp, h => by
    cases h with
    | cons ho hD hpr hl =>
      have hi : i < ops.length := (List.getElem?_eq_some_iff.1 ho).1
      refine .cons ho (by rw [← he i hi]; exact hD) (fun j hj => by rw [← he j (hp i _ ho j hj)]; exact hpr j hj) (Ord.congr (fun j hj => ?_) hp hl)
      simp [he j hj]

def unl (listed : Array Bool) : Nat := (listed.toList.filter (! ·)).length
theorem unl_set {listed : Array Bool} {i : Nat} (hi : i < listed.size) (h : listed.getD i true = false) : unl (listed.setIfInBounds i true) + 1 = unl listed := by
  have key : ∀ (l : List Bool) (i : Nat), l[i]? = some false → ((l.set i true).filter (! ·)).length + 1 = (l.filter (! ·)).length := by
    intro l
    induction l with
    | nil => intro i h; simp at h
    | cons b l ih =>
      intro i h
      cases i with
      | zero => simp at h; subst h; simp
      | succ i =>
        have := ih i (by simpa using h)
        simp only [List.set_cons_succ]
        cases b <;> simp [List.filter_cons] at this ⊢ <;> omega
  unfold unl
  have h' : listed.toList[i]? = some false := by
    simp [Array.getD, hi] at h
    simp [hi, h]
  simpa using key listed.toList i h'

theorem lin_ord (m : Region.Mode) (rk : Nat → Nat) (ops : Array Oper) (ht : Rk m rk ops.toList) : ∀ (fuel t : Nat) (listed : Array Bool) (acc : List Nat), listed.size = ops.size → unl listed = fuel →
    ∃ rest, Region.linearise.go m ops fuel t listed acc = acc.reverse ++ rest ∧ Ord ops.toList (fun i => listed.getD i false) rest
  | 0, t, listed, acc, hs, hu => by
    refine ⟨[], by simp [Region.linearise.go], .nil fun i hi => ?_⟩
    have hi' : i < listed.size := by rw [hs]; simpa using hi
    have : ∀ b ∈ listed.toList, b = true := by
      intro b hb
      have h0 : listed.toList.filter (! ·) = [] := List.eq_nil_of_length_eq_zero hu
      have := List.filter_eq_nil_iff.1 h0 b hb
      simpa using this
    simp [Array.getD, hi']
    exact this _ (by simp)
  | fuel + 1, t, listed, acc, hs, hu => by
    have hx : ∃ i, i < ops.size ∧ listed.getD i true = false := by
      have hne : listed.toList.filter (! ·) ≠ [] := fun e => by unfold unl at hu; rw [e] at hu; simp at hu
      obtain ⟨b, hb⟩ := List.exists_mem_of_ne_nil _ hne
      obtain ⟨hb1, hb2⟩ := List.mem_filter.1 hb
      have : b = false := by simpa using hb2
      subst this
      obtain ⟨i, hi, he⟩ := List.getElem_of_mem hb1
      have hi' : i < listed.size := by simpa using hi
      refine ⟨i, by omega, ?_⟩
      simp [Array.getD, hi']
      simpa using he
    obtain ⟨j, h1, h2, h3⟩ := ready_of_least hs ht hx
    rw [Region.linearise.go]
    generalize hrs : ((List.range ops.size).filter fun i => !listed.getD i true && ((ops[i]?).map (·.after.all fun e => !Region.binds m e || listed.getD e.on false)).getD false) = rs
    have hj : j ∈ rs := by rw [← hrs]; exact List.mem_filter.2 ⟨by simpa using h1, by simp only [h2, h3]; rfl⟩
    have hpos : 0 < rs.length := List.length_pos_of_mem hj
    have hlt : t % rs.length < rs.length := Nat.mod_lt _ hpos
    simp only [List.getElem?_eq_getElem hlt]
    have hmem : rs[t % rs.length] ∈ rs := List.getElem_mem hlt
    generalize rs[t % rs.length] = i at hmem
    rw [← hrs] at hmem
    obtain ⟨hi1, hi2⟩ := List.mem_filter.1 hmem
    have hi : i < ops.size := by simpa using hi1
    have hi' : i < listed.size := by omega
    simp only [Bool.and_eq_true, Bool.not_eq_true'] at hi2
    obtain ⟨rest, hr1, hr2⟩ := lin_ord m rk ops ht fuel (t / rs.length) (listed.setIfInBounds i true) (i :: acc) (by simpa using hs) (by have := unl_set hi' hi2.1; omega)
    refine ⟨i :: rest, by rw [hr1]; simp, .cons (o := ops[i]) (by simp [hi]) ?_ ?_ ?_⟩
    · have := hi2.1
      simp [Array.getD, hi'] at this ⊢
      exact this
    · intro k hk
      obtain ⟨e, he, rfl⟩ := List.mem_map.1 hk
      obtain ⟨he1, he2⟩ := List.mem_filter.1 he
      have h4 := hi2.2
      rw [Array.getElem?_eq_getElem hi] at h4
      simp only [Option.map_some, Option.getD_some] at h4
      have h5 := Array.all_eq_true_iff_forall_mem.1 h4 e (by simpa using he1)
      have hb : Region.binds m e = true := by
        unfold Region.binds at he2 ⊢
        cases hg : e.ground <;> simp [hg] at he2 ⊢ <;> simp_all
      simpa [hb] using h5
    · refine Ord.congr (fun k hk => ?_) (fun i o ho k hk => ?_) hr2
      · have hk' : k < listed.size := by rw [hs]; simpa using hk
        simp only [Array.getD, Array.size_setIfInBounds, hk', dite_true]
        cases hb : Nat.beq k i with
        | true => have := Nat.eq_of_beq_eq_true hb; subst this; simp
        | false =>
          have hne : i ≠ k := fun e => by subst e; simp at hb
          have h9 : (listed.setIfInBounds i true)[k]? = listed[k]? := by rw [Array.getElem?_setIfInBounds, if_neg hne]
          have h10 : k < (listed.setIfInBounds i true).size := by simpa using hk'
          rw [Array.getElem?_eq_getElem h10, Array.getElem?_eq_getElem hk'] at h9
          simpa using h9
      · obtain ⟨e, he, rfl⟩ := List.mem_map.1 hk
        exact (ht i o ho e (List.mem_filter.1 he).1).1

theorem lin_all {m : Region.Mode} {rk : Nat → Nat} {l : List Oper} (ht : Rk m rk l) (t : Nat) : Ord l (fun _ => false) (Region.linearise m l.toArray t) := by
  obtain ⟨rest, h1, h2⟩ := lin_ord m rk l.toArray (by simpa using ht) l.toArray.size t (Array.replicate l.toArray.size false) [] (by simp) (by
    have : ∀ n, ((List.replicate n false).filter (! ·)).length = n := by
      intro n
      induction n with
      | zero => rfl
      | succ n ih => simp
    simp [unl])
  unfold Region.linearise
  rw [h1]
  simp only [List.reverse_nil, List.nil_append]
  refine Ord.congr (fun i hi => ?_) (fun i o ho k hk => ?_) h2
  · have hi' : i < l.toArray.size := by simpa using hi
    simp [Array.getD]
  · obtain ⟨e, he, rfl⟩ := List.mem_map.1 hk
    have := (ht i o (by simpa using ho) e (List.mem_filter.1 he).1).1
    simpa using this
theorem sched_ord (mixed : Bool) (l : List Oper) (ht : topo 0 l = true) (t : Nat) : Ord l (fun _ => false) (Region.schedule mixed l.toArray t) := by
  unfold Region.schedule
  split
  · exact lin_all (topo_rk _ ht) _
  · exact lin_all (topo_rk _ ht) _
theorem sched_ordM (mixed : Bool) (l : List Oper) (rt rg : List Nat) (h1 : topoM .any rt l = true) (h2 : topoM .text rt l = true) (h3 : topoM .gc rg l = true) (t : Nat) : Ord l (fun _ => false) (Region.schedule mixed l.toArray t) := by
  unfold Region.schedule
  split
  · exact lin_all (topoM_rk h1) _
  · split
    · exact lin_all (topoM_rk h2) _
    · exact lin_all (topoM_rk h3) _

/-! ### Stages -/
section
variable {P : Program} {N : Nat} {w0 : World} {M H : Nat → Prop} {E : Env} {Γ R : Ctx} {Q : Exit → Act → World → Prop}

def edel (ds : List Nat) : Env → Env
  | [] => []
  | (t, v) :: r => bif ds.any (Nat.beq t) then edel ds r else (t, v) :: edel ds r
theorem edel_get {ds : List Nat} : ∀ {E : Env} {t : Nat} {v : Value}, eget (edel ds E) t = some v → eget E t = some v ∧ t ∉ ds
  | [], t, v, h => by cases h
  | (s, u) :: r, t, v, h => by
    simp only [edel] at h
    cases ha : ds.any (Nat.beq s) with
    | true =>
      rw [ha] at h
      obtain ⟨h1, h2⟩ := edel_get (E := r) h
      refine ⟨?_, h2⟩
      simp only [eget]
      cases hb : Nat.beq s t with
      | true =>
        have := Nat.eq_of_beq_eq_true hb
        subst this
        obtain ⟨x, hx, hxe⟩ := List.any_eq_true.1 ha
        exact absurd (Nat.eq_of_beq_eq_true hxe ▸ hx) h2
      | false => simpa using h1
    | false =>
      rw [ha] at h
      simp only [cond_false, eget] at h ⊢
      cases hb : Nat.beq s t with
      | true =>
        rw [hb] at h
        have := Nat.eq_of_beq_eq_true hb
        subst this
        refine ⟨by simpa using h, fun hm => ?_⟩
        have : ds.any (Nat.beq s) = true := List.any_eq_true.2 ⟨s, hm, by simp⟩
        rw [this] at ha
        cases ha
      | false => rw [hb] at h; simpa using edel_get (E := r) h
theorem EOk.del {a : Act} (h : EOk N E a) (ds : List Nat) : EOk N (edel ds E) a := ⟨h.defers, h.size, fun t v hv => h.slot t v (edel_get hv).1⟩

/-- Values of operations: by the operation's place, with its slot. -/
abbrev Vals := List (Nat × Nat × Value)
def vslots : Vals → List Nat
  | [] => []
  | (_, d, _) :: r => d :: vslots r
def vidx : Vals → List Nat
  | [] => []
  | (i, _, _) :: r => i :: vidx r
def venv : Vals → Env
  | [] => []
  | (_, d, v) :: r => (d, v) :: venv r
def vpre (js : List Nat) : Vals → Env
  | [] => []
  | (i, d, v) :: r => bif js.any (Nat.beq i) then (d, v) :: vpre js r else vpre js r
theorem EOk.vals {a : Act} : ∀ {V : Vals} (_ : EOk N E a) (_ : ∀ i d v, (i, d, v) ∈ V → a.tmps[d]? = some v), EOk N (venv V ++ E) a
  | [], h, _ => h
  | (i, d, v) :: r, h, hv => by
    have ih := EOk.vals (V := r) h fun i d v hm => hv i d v (by simp [hm])
    refine ⟨h.defers, h.size, fun t u ht => ?_⟩
    simp only [venv, List.cons_append, eget] at ht
    cases hb : Nat.beq d t with
    | true =>
      rw [hb] at ht
      simp at ht
      subst ht
      rw [← Nat.eq_of_beq_eq_true hb]
      exact hv i d v (by simp)
    | false => rw [hb] at ht; exact ih.slot t u ht
theorem EOk.vpre {a : Act} {js : List Nat} : ∀ {V : Vals} (_ : EOk N E a) (_ : ∀ i d v, (i, d, v) ∈ V → i ∈ js → a.tmps[d]? = some v), EOk N (Ytfdbkclbcajkiaa.vpre js V ++ E) a
  | [], h, _ => h
  | (i, d, v) :: r, h, hv => by
    have ih := EOk.vpre (V := r) h fun i d v hm => hv i d v (by simp [hm])
    simp only [Ytfdbkclbcajkiaa.vpre]
    cases ha : js.any (Nat.beq i) with
    | false => exact ih
    | true =>
      obtain ⟨x, hx, hxe⟩ := List.any_eq_true.1 ha
      have hij : i ∈ js := Nat.eq_of_beq_eq_true hxe ▸ hx
      refine ⟨h.defers, h.size, fun t u ht => ?_⟩
      simp only [cond_true, List.cons_append, eget] at ht
      cases hb : Nat.beq d t with
      | true =>
        rw [hb] at ht
        simp at ht
        subst ht
        rw [← Nat.eq_of_beq_eq_true hb]
        exact hv i d v (by simp) hij
      | false => rw [hb] at ht; exact ih.slot t u ht

/-- The operation at place i of the list gives v in slot d and changes nothing, once those before it are done. -/
def PRi (P : Program) (N : Nat) (w0 : World) (M H : Nat → Prop) (E : Env) (Γ R : Ctx) (l : List Oper) (V : Vals) (i d : Nat) (v : Value) : Prop :=
  ∃ o, l[i]? = some o ∧ o.dst = some d ∧ ∀ a w, EOk N (vpre (preds o) V ++ E) a → COk w0 M H Γ R w → (Region.wanted o (yielded l.toArray a.tmps) = true ∧ (execOp a.eval o).run P w = .ok (.value v) w) ∨ (Region.wanted o (yielded l.toArray a.tmps) = false ∧ v = undef)
def PRs (P : Program) (N : Nat) (w0 : World) (M H : Nat → Prop) (E : Env) (Γ R : Ctx) (l : List Oper) (V : Vals) : List (Nat × Nat × Value) → Prop
  | [] => True
  | (i, d, v) :: r => PRi P N w0 M H E Γ R l V i d v ∧ PRs P N w0 M H E Γ R l V r
theorem PRs.get {l : List Oper} {V : Vals} : ∀ {I : Vals}, PRs P N w0 M H E Γ R l V I → ∀ i d v, (i, d, v) ∈ I → PRi P N w0 M H E Γ R l V i d v
  | [], _, i, d, v, h => by simp at h
  | (i', d', v') :: I, hp, i, d, v, h => by
    rcases List.mem_cons.1 h with e | e
    · cases e; exact hp.1
    · exact hp.2.get i d v e

/-- A changing operation: for some x, it gives v x, and the assertions become Γ' x, R' x. -/
def MS (P : Program) (N : Nat) (w0 : World) (M H : Nat → Prop) (E : Env) (Γ R : Ctx) (o : Oper) {X : Type} (φ : X → Prop) (v : X → Value) (Γ' R' : X → Ctx) : Prop :=
  ∀ a w, EOk N E a → COk w0 M H Γ R w → ∀ (next : Act → World → Prop) (Q : Exit → Act → World → Prop), (∀ x w', φ x → COk w0 M H (Γ' x) (R' x) w' → next (a.put o.dst (v x)) w') → o.wp P a w next Q
theorem ms_gen {o : Oper} {X : Type} {φ : X → Prop} {v : X → Value} {Γ' R' : X → Ctx} (hrun : ∀ a w, EOk N E a → COk w0 M H Γ R w → ∃ x w', φ x ∧ (execOp a.eval o).run P w = .ok (.value (v x)) w' ∧ COk w0 M H (Γ' x) (R' x) w') : MS P N w0 M H E Γ R o φ v Γ' R' := by
  intro a w hE hC next Q hn
  obtain ⟨x, w', h1, h2, h3⟩ := hrun a w hE hC
  unfold Oper.wp
  rw [h2]
  exact hn x w' h1 h3
theorem r_ms {X : Type} {φ : X → Prop} {v : X → Value} {Γ' R' : X → Ctx} {ops : Array Oper} {rest : List Oper} {T : TypeId} {ps : String} {af : Array Edge} {d : Nat} {op : Op} (h : MS P N w0 M H E Γ R ⟨some d, op, T, ps, af, none⟩ φ v Γ' R') (hd : Nat.blt d N = true)
    (k : ∀ x, φ x → At N w0 M H ((d, v x) :: E) (Γ' x) (R' x) (wpList P ops Q rest)) : At N w0 M H E Γ R (wpList P ops Q (⟨some d, op, T, ps, af, none⟩ :: rest)) := by
  intro a w hE hC
  unfold wpList
  rw [if_pos (by simp [Region.wanted])]
  left
  exact h a w hE hC _ _ fun x w' h1 h2 => k x h1 _ _ (hE.put hd _) h2

/-- What is known in the middle of a drawn region, in a stage: the operations that are done have their values; those of C are done. -/
structure StI (N : Nat) (w0 : World) (M H : Nat → Prop) (E : Env) (Γ R : Ctx) (l : List Oper) (V : Vals) (C : List Nat) (D : Nat → Bool) (a : Act) (w : World) : Prop where
  done : ∀ i, D i = true → i ∈ vidx V ++ C
  sure : ∀ i ∈ C, D i = true
  closed : ∀ (i : Nat) (o : Oper), l[i]? = some o → D i = true → ∀ j ∈ preds o, D j = true
  base : EOk N E a
  vals : ∀ i d v, (i, d, v) ∈ V → D i = true → a.tmps[d]? = some v
  ok : COk w0 M H Γ R w
/-- Whatever order is drawn from here. -/
def Stg (P : Program) (N : Nat) (w0 : World) (M H : Nat → Prop) (E : Env) (Γ R : Ctx) (l : List Oper) (Q : Exit → Act → World → Prop) (V : Vals) (C : List Nat) : Prop :=
  ∀ ord D a w, Ord l D ord → StI N w0 M H E Γ R l V C D a w → wpOps P l.toArray Q ord a w

theorem vidx_mem : ∀ {V : Vals} {i : Nat}, i ∈ vidx V ↔ ∃ d v, (i, d, v) ∈ V
  | [], i => by simp [vidx]
  | (j, d, v) :: r, i => by
    simp only [vidx, List.mem_cons, vidx_mem (V := r)]
    constructor
    · rintro (rfl | ⟨d', v', h⟩)
      · exact ⟨d, v, .inl rfl⟩
      · exact ⟨d', v', .inr h⟩
    · rintro ⟨d', v', h | h⟩
      · cases h; exact .inl rfl
      · exact .inr ⟨d', v', h⟩
theorem vslots_mem : ∀ {V : Vals} {i d : Nat} {v : Value}, (i, d, v) ∈ V → d ∈ vslots V
  | [], _, _, _, h => by simp at h
  | (j, d', v') :: r, i, d, v, h => by
    rcases List.mem_cons.1 h with e | e
    · cases e; simp [vslots]
    · simp [vslots, vslots_mem e]
/-- Two entries with one slot are one. -/
theorem vslots_inj : ∀ {V : Vals}, (vslots V).Nodup → ∀ {i j d : Nat} {v u : Value}, (i, d, v) ∈ V → (j, d, u) ∈ V → i = j ∧ v = u
  | [], _, _, _, _, _, _, h, _ => by simp at h
  | (k, e, x) :: r, hn, i, j, d, v, u, h1, h2 => by
    have hn' := List.nodup_cons.1 (show (e :: vslots r).Nodup from hn)
    rcases List.mem_cons.1 h1 with e1 | e1 <;> rcases List.mem_cons.1 h2 with e2 | e2
    · cases e1; cases e2; exact ⟨rfl, rfl⟩
    · cases e1; exact absurd (vslots_mem e2) hn'.1
    · cases e2; exact absurd (vslots_mem e1) hn'.1
    · exact vslots_inj hn'.2 e1 e2

theorem vidx_inj : ∀ {V : Vals}, (vidx V).Nodup → ∀ {i d e : Nat} {v u : Value}, (i, d, v) ∈ V → (i, e, u) ∈ V → d = e ∧ v = u
  | [], _, _, _, _, _, _, h, _ => by simp at h
  | (k, f, x) :: r, hn, i, d, e, v, u, h1, h2 => by
    have hn' := List.nodup_cons.1 (show (k :: vidx r).Nodup from hn)
    rcases List.mem_cons.1 h1 with e1 | e1 <;> rcases List.mem_cons.1 h2 with e2 | e2
    · cases e1; cases e2; exact ⟨rfl, rfl⟩
    · cases e1; exact absurd (vidx_mem.2 ⟨_, _, e2⟩) hn'.1
    · cases e2; exact absurd (vidx_mem.2 ⟨_, _, e1⟩) hn'.1
    · exact vidx_inj hn'.2 e1 e2

/-- One step of a pure operation. -/
theorem stg_pure {l : List Oper} {V : Vals} (hsl : (vslots V).Nodup) (hix : (vidx V).Nodup) (hE0 : ∀ d ∈ vslots V, ∀ v, eget E d ≠ some v) (hN : ∀ d ∈ vslots V, d < N) {i d : Nat} {v : Value} (hm : (i, d, v) ∈ V) (hp : PRi P N w0 M H E Γ R l V i d v)
    {ord : List Nat} {D : Nat → Bool} {a : Act} {w : World} {o : Oper} (ho : l[i]? = some o) (hpr : ∀ j ∈ preds o, D j = true) {C : List Nat} (hS : StI N w0 M H E Γ R l V C D a w)
    (ih : ∀ a, StI N w0 M H E Γ R l V C (fun j => bif Nat.beq j i then true else D j) a w → wpOps P l.toArray Q ord a w) : wpOps P l.toArray Q (i :: ord) a w := by
  obtain ⟨o', h1, h2, h3⟩ := hp
  rw [ho] at h1
  injection h1 with h1
  subst h1
  have hEp : EOk N (vpre (preds o) V ++ E) a := hS.base.vpre fun j d v hj hjp => hS.vals j d v hj (hpr j hjp)
  have hlt : d < a.tmps.size := Nat.lt_of_lt_of_le (hN d (vslots_mem hm)) hS.base.size
  have hnext : StI N w0 M H E Γ R l V C (fun j => bif Nat.beq j i then true else D j) (a.put (some d) v) w := by
    refine ⟨fun j hj => ?_, fun j hj => by simp [hS.sure j hj], fun j o' ho' hj k hk => ?_, ⟨hS.base.defers, by simpa [Act.put] using hS.base.size, fun t u ht => ?_⟩, fun j e u hj hjD => ?_, hS.ok⟩
    · cases hb : Nat.beq j i with
      | true => rw [Nat.eq_of_beq_eq_true hb]; exact List.mem_append_left _ (vidx_mem.2 ⟨d, v, hm⟩)
      | false => rw [hb] at hj; exact hS.done j hj
    · cases hb : Nat.beq j i with
      | true =>
        have := Nat.eq_of_beq_eq_true hb
        subst this
        rw [ho] at ho'
        injection ho' with ho'
        subst ho'
        simp [hpr k hk]
      | false => rw [hb] at hj; simp [hS.closed j o' ho' hj k hk]
    · simp only [Act.put, Array.getElem?_setIfInBounds]
      have hne : d ≠ t := fun e => hE0 d (vslots_mem hm) u (e ▸ ht)
      rw [if_neg hne]
      exact hS.base.slot t u ht
    · simp only [Act.put, Array.getElem?_setIfInBounds]
      by_cases hde : d = e
      · subst hde
        obtain ⟨_, rfl⟩ := vslots_inj hsl hm hj
        simp [hlt]
      · rw [if_neg hde]
        cases hb : Nat.beq j i with
        | true =>
          have := Nat.eq_of_beq_eq_true hb
          subst this
          exact absurd (vidx_inj hix hm hj).1 hde
        | false => rw [hb] at hjD; exact hS.vals j e u hj hjD
  have ho' : l.toArray[i]? = some o := by simpa using ho
  simp only [wpOps, ho']
  rcases h3 a w hEp hS.ok with ⟨hw, hr⟩ | ⟨hw, rfl⟩
  · rw [if_pos hw]
    left
    unfold Oper.wp
    rw [hr]
    show wpOps P l.toArray Q ord (a.put o.dst v) w
    rw [h2]
    exact ih _ hnext
  · rw [if_neg (by rw [hw]; simp), h2]
    exact ih _ hnext

/-- Conditions on a stage that a look decides. -/
def stOk (N : Nat) (E : Env) (V : Vals) : Bool := ndB (vslots V) && ndB (vidx V) && (vslots V).all (fun d => Nat.blt d N && (match eget E d with | none => true | some _ => false))
/-- Each operation of l that is not among the places I, nor c, and not yet done for sure, must follow one that cannot be done yet. -/
def clsOk (l : List Oper) (I : List Nat) (c : Option Nat) : Bool :=
  (List.range l.length).all fun i => I.any (Nat.beq i) || (match c with | some k => Nat.beq i k | none => false) || (match l[i]? with | some o => (preds o).any (fun j => !(I.any (Nat.beq j))) | none => true)

def vpick (is : List Nat) : Vals → Vals
  | [] => []
  | (i, d, v) :: r => bif is.any (Nat.beq i) then (i, d, v) :: vpick is r else vpick is r
theorem vpick_mem {is : List Nat} : ∀ {V : Vals} {p : Nat × Nat × Value}, p ∈ vpick is V → p ∈ V
  | [], p, h => by simp [vpick] at h
  | (i, d, v) :: r, p, h => by
    simp only [vpick] at h
    cases ha : is.any (Nat.beq i) with
    | true =>
      rw [ha] at h
      rcases List.mem_cons.1 h with e | e
      · simp [e]
      · simp [vpick_mem e]
    | false => rw [ha] at h; simp [vpick_mem h]
theorem vpick_get {is : List Nat} : ∀ {V : Vals} {i : Nat}, i ∈ vidx V → i ∈ is → ∃ d v, (i, d, v) ∈ vpick is V
  | [], i, h, _ => by simp [vidx] at h
  | (j, d, v) :: r, i, h, hi => by
    simp only [vpick]
    rcases List.mem_cons.1 (show i ∈ j :: vidx r from h) with e | e
    · subst e
      have : is.any (Nat.beq i) = true := List.any_eq_true.2 ⟨i, hi, by simp⟩
      rw [this]
      exact ⟨d, v, by simp⟩
    · obtain ⟨d', v', h'⟩ := vpick_get (V := r) e hi
      cases is.any (Nat.beq j) with
      | true => exact ⟨d', v', by simp [h']⟩
      | false => exact ⟨d', v', h'⟩
def inB (l : List Nat) (k : Nat) : Bool := l.any (Nat.beq k)
theorem inB_mem {l : List Nat} {k : Nat} (h : inB l k = true) : k ∈ l := by
  obtain ⟨x, hx, he⟩ := List.any_eq_true.1 h
  exact Nat.eq_of_beq_eq_true he ▸ hx
theorem mem_inB {l : List Nat} {k : Nat} (h : k ∈ l) : inB l k = true := List.any_eq_true.2 ⟨k, h, by simp⟩
/-- All values are of pure operations that may come now, or of operations that are surely done. -/
def covOk (V : Vals) (is C : List Nat) : Bool := (vidx V).all fun i => inB is i || inB C i
/-- Of what is surely done behind c: what was, c, and all that they follow. -/
def clOk (l : List Oper) (C : List Nat) (c : Nat) : List Nat → List Nat → Bool
  | _, [] => true
  | seen, k :: ks => (inB C k || Nat.beq k c || seen.any (fun s => match l[s]? with | some o => inB (preds o) k | none => false)) && clOk l C c (k :: seen) ks

theorem stOk_slots {V : Vals} (h : stOk N E V = true) : (vslots V).Nodup ∧ (vidx V).Nodup ∧ (∀ d ∈ vslots V, ∀ v, eget E d ≠ some v) ∧ ∀ d ∈ vslots V, d < N := by
  simp only [stOk, Bool.and_eq_true] at h
  refine ⟨ndB_nd h.1.1, ndB_nd h.1.2, fun d hd v hv => ?_, fun d hd => ?_⟩
  · have := List.all_eq_true.1 h.2 d hd
    rw [hv] at this
    simp at this
  · have := List.all_eq_true.1 h.2 d hd
    simp only [Bool.and_eq_true] at this
    simpa using this.1

theorem stg_step {l : List Oper} {V : Vals} {C : List Nat} (is : List Nat) {I : Vals} (hI0 : vpick is V = I) (hst : stOk N E V = true) (hI : PRs P N w0 M H E Γ R l V I) (hcov : covOk V is C = true) (c : Option Nat)
    (hcls : clsOk l (vidx V ++ C) c = true) (hfin : ∀ D a w, (∀ i, i < l.length → D i = true) → StI N w0 M H E Γ R l V C D a w → Q .normal a w)
    (hmem : ∀ k, c = some k → ∀ ord D a w o, l[k]? = some o → D k = false → (∀ j ∈ preds o, D j = true) → Ord l (fun j => bif Nat.beq j k then true else D j) ord → StI N w0 M H E Γ R l V C D a w → wpOps P l.toArray Q (k :: ord) a w) :
    Stg P N w0 M H E Γ R l Q V C := by
  obtain ⟨h1, h2, h3, h4⟩ := stOk_slots hst
  intro ord
  induction ord with
  | nil =>
    intro D a w ho hS
    cases ho with
    | nil h => exact hfin D a w h hS
  | cons i ord ih =>
    intro D a w ho hS
    cases ho with
    | cons hio hD hpr hrest =>
      have hi : i < l.length := (List.getElem?_eq_some_iff.1 hio).1
      have hc := List.all_eq_true.1 hcls i (by simpa using hi)
      simp only [hio, Bool.or_eq_true] at hc
      rcases hc with (hc | hc) | hc
      · have hiV : i ∈ vidx V := by
          rcases List.mem_append.1 (inB_mem hc : i ∈ vidx V ++ C) with h | h
          · exact h
          · have := hS.sure i h
            rw [hD] at this
            cases this
        have hcv := List.all_eq_true.1 hcov i hiV
        simp only [Bool.or_eq_true] at hcv
        rcases hcv with hcv | hcv
        · obtain ⟨d, v, hm⟩ := vpick_get hiV (inB_mem hcv)
          exact stg_pure h1 h2 h3 h4 (vpick_mem hm) ((hI0 ▸ hI : PRs P N w0 M H E Γ R l V (vpick is V)).get i d v hm) hio hpr hS fun a' hS' => ih _ a' w hrest hS'
        · have := hS.sure i (inB_mem hcv)
          rw [hD] at this
          cases this
      · cases c with
        | none => simp at hc
        | some k =>
          have : i = k := Nat.eq_of_beq_eq_true hc
          subst this
          exact hmem i rfl ord D a w _ hio hD hpr hrest hS
      · obtain ⟨j, hj, hjn⟩ := List.any_eq_true.1 hc
        have hjV := mem_inB (hS.done j (hpr j hj))
        rw [inB] at hjV
        rw [hjV] at hjn
        simp at hjn

/-- The last stage. -/
theorem stg_end {l : List Oper} {V : Vals} {C : List Nat} (is : List Nat) {I : Vals} (hI0 : vpick is V = I) (hst : stOk N E V = true) (hI : PRs P N w0 M H E Γ R l V I) (hcov : covOk V is C = true) (hcls : clsOk l (vidx V ++ C) none = true)
    (hall : (vidx V).all (fun i => Nat.blt i l.length) = true) (k : At N w0 M H (venv V ++ E) Γ R (Q .normal)) : Stg P N w0 M H E Γ R l Q V C :=
  stg_step is hI0 hst hI hcov none hcls (fun D a w hD hS => k a w (hS.base.vals fun i d v hm => hS.vals i d v hm (hD i (by
    have := List.all_eq_true.1 hall i (vidx_mem.2 ⟨d, v, hm⟩)
    simpa using this))) hS.ok) (fun k hk => by cases hk)

theorem clOk_done {l : List Oper} {C : List Nat} {c : Nat} {D : Nat → Bool} (hC : ∀ i ∈ C, D i = true) (hc : D c = true) (hcl : ∀ (i : Nat) (o : Oper), l[i]? = some o → D i = true → ∀ j ∈ preds o, D j = true) :
    ∀ (ks seen : List Nat), clOk l C c seen ks = true → (∀ s ∈ seen, D s = true) → ∀ k ∈ ks, D k = true
  | [], _, _, _, k, h => by simp at h
  | k' :: ks, seen, h, hs, k, hk => by
    simp only [clOk, Bool.and_eq_true, Bool.or_eq_true] at h
    have hk' : D k' = true := by
      rcases h.1 with (h1 | h1) | h1
      · exact hC _ (inB_mem h1)
      · rw [Nat.eq_of_beq_eq_true h1]; exact hc
      · obtain ⟨s, hs1, hs2⟩ := List.any_eq_true.1 h1
        cases ho : l[s]? with
        | none => rw [ho] at hs2; cases hs2
        | some o => rw [ho] at hs2; exact hcl s o ho (hs s hs1) k' (inB_mem hs2)
    rcases List.mem_cons.1 hk with e | e
    · rw [e]; exact hk'
    · exact clOk_done hC hc hcl ks (k' :: seen) h.2 (fun s hs' => by rcases List.mem_cons.1 hs' with e | e; exact e ▸ hk'; exact hs s e) k e
theorem vidx_app : ∀ (U V : Vals), vidx (U ++ V) = vidx U ++ vidx V
  | [], V => rfl
  | (i, d, v) :: U, V => by simp [vidx, vidx_app U V]

/-- A stage that ends with the changing operation c. -/
theorem stg_mem {l : List Oper} {V : Vals} {C : List Nat} (is : List Nat) {I : Vals} (c : Nat) (C' Jx : List Nat) {X : Type} {φ : X → Prop} {v : X → Value} {Γ' R' : X → Ctx} {d : Nat} {o : Oper} (J' : X → Vals) (hI0 : vpick is V = I) (hst : stOk N E V = true) (hI : PRs P N w0 M H E Γ R l V I) (hcov : covOk V is C = true)
    (hcls : clsOk l (vidx V ++ C) (some c) = true) (ho : l[c]? = some o) (hdst : o.dst = some d) (hgd : o.guard = none) (hd : Nat.blt d N = true) (hdE : eget E d = none) (hdV : inB (vslots V) d = false) (hcV : inB (vidx V ++ C) c = false)
    (hcl : clOk l C c [] C' = true) (hCC0 : C.all (inB C') = true) (hJ : ∀ x, φ x → vidx (J' x) = Jx) (hJx : Jx.all (fun j => !(inB (vidx V ++ C) j) && !(Nat.beq j c)) = true) (hms : MS P N w0 M H (vpre (preds o) V ++ E) Γ R o φ v Γ' R')
    (k : ∀ x, φ x → Stg P N w0 M H E (Γ' x) (R' x) l Q (J' x ++ (c, d, v x) :: V) C') : Stg P N w0 M H E Γ R l Q V C := by
  have hCC : ∀ j ∈ C, j ∈ C' := fun j hj => inB_mem (List.all_eq_true.1 hCC0 j hj)
  refine stg_step is hI0 hst hI hcov (some c) hcls (fun D a w hD hS => ?_) fun k' hk' ord D a w o' hio hDk hpr hrest hS => ?_
  · have := hS.done c (hD c (List.getElem?_eq_some_iff.1 ho).1)
    rw [mem_inB this] at hcV
    cases hcV
  · injection hk' with hk'
    subst hk'
    rw [ho] at hio
    injection hio with hio
    subst hio
    have ho' : l.toArray[c]? = some o := by simpa using ho
    simp only [wpOps, ho']
    rw [if_pos (by simp [Region.wanted, hgd])]
    left
    have hEp : EOk N (vpre (preds o) V ++ E) a := hS.base.vpre fun j d v hj hjp => hS.vals j d v hj (hpr j hjp)
    have hlt : d < a.tmps.size := Nat.lt_of_lt_of_le (by simpa using hd) hS.base.size
    refine hms a w hEp hS.ok _ _ fun x w' hφ hC' => ?_
    rw [hdst]
    have hclosed : ∀ (j : Nat) (o' : Oper), l[j]? = some o' → (bif Nat.beq j c then true else D j) = true → ∀ k ∈ preds o', (bif Nat.beq k c then true else D k) = true := by
      intro j o' hoj hj q hq
      cases hb : Nat.beq j c with
      | true =>
        have := Nat.eq_of_beq_eq_true hb
        subst this
        rw [ho] at hoj
        injection hoj with hoj
        subst hoj
        simp [hpr q hq]
      | false => rw [hb] at hj; simp [hS.closed j o' hoj hj q hq]
    refine k x hφ ord _ _ w' hrest ⟨fun j hj => ?_, clOk_done (fun i hi => by simp [hS.sure i hi]) (by simp) hclosed C' [] hcl (fun s hs => by simp at hs), hclosed, ⟨hS.base.defers, by simpa [Act.put] using hS.base.size, fun t u ht => ?_⟩, fun j e u hj hjD => ?_, hC'⟩
    · rw [vidx_app]
      show j ∈ vidx (J' x) ++ (c :: vidx V) ++ C'
      cases hb : Nat.beq j c with
      | true => rw [Nat.eq_of_beq_eq_true hb]; simp
      | false =>
        rw [hb] at hj
        rcases List.mem_append.1 (hS.done j hj) with h | h
        · simp [h]
        · have := hCC j h
          simp [this]
    · simp only [Act.put, Array.getElem?_setIfInBounds]
      have hne : d ≠ t := fun e => by subst e; rw [hdE] at ht; cases ht
      rw [if_neg hne]
      exact hS.base.slot t u ht
    · simp only [Act.put, Array.getElem?_setIfInBounds]
      rcases List.mem_append.1 hj with hj | hj
      · exfalso
        have hjx : j ∈ Jx := by rw [← hJ x hφ]; exact vidx_mem.2 ⟨e, u, hj⟩
        have h6 := List.all_eq_true.1 hJx j hjx
        simp only [Bool.and_eq_true, Bool.not_eq_true'] at h6
        rw [h6.2] at hjD
        have := mem_inB (hS.done j hjD)
        rw [this] at h6
        simp at h6
      · rcases List.mem_cons.1 hj with e' | e'
        · cases e'
          simp [hlt]
        · have hne : d ≠ e := fun h => by
            subst h
            rw [mem_inB (vslots_mem e')] at hdV
            cases hdV
          rw [if_neg hne]
          cases hb : Nat.beq j c with
          | true =>
            have := Nat.eq_of_beq_eq_true hb
            subst this
            rw [mem_inB (List.mem_append_left _ (vidx_mem.2 ⟨e, u, e'⟩))] at hcV
            cases hcV
          | false => rw [hb] at hjD; exact hS.vals j e u e' hjD

/-- A stage that ends with the changing operation c, which gives no value. -/
theorem stg_mem0 {l : List Oper} {V : Vals} {C : List Nat} (is : List Nat) {I : Vals} (c : Nat) (C' Jx : List Nat) {X : Type} {φ : X → Prop} {v : X → Value} {Γ' R' : X → Ctx} {o : Oper} (J' : X → Vals) (hI0 : vpick is V = I) (hst : stOk N E V = true) (hI : PRs P N w0 M H E Γ R l V I) (hcov : covOk V is C = true)
    (hcls : clsOk l (vidx V ++ C) (some c) = true) (ho : l[c]? = some o) (hdst : o.dst = none) (hgd : o.guard = none) (hcC' : inB C' c = true) (hcV : inB (vidx V ++ C) c = false)
    (hcl : clOk l C c [] C' = true) (hCC0 : C.all (inB C') = true) (hJ : ∀ x, φ x → vidx (J' x) = Jx) (hJx : Jx.all (fun j => !(inB (vidx V ++ C) j) && !(Nat.beq j c)) = true) (hms : MS P N w0 M H (vpre (preds o) V ++ E) Γ R o φ v Γ' R')
    (k : ∀ x, φ x → Stg P N w0 M H E (Γ' x) (R' x) l Q (J' x ++ V) C') : Stg P N w0 M H E Γ R l Q V C := by
  have hCC : ∀ j ∈ C, j ∈ C' := fun j hj => inB_mem (List.all_eq_true.1 hCC0 j hj)
  refine stg_step is hI0 hst hI hcov (some c) hcls (fun D a w hD hS => ?_) fun k' hk' ord D a w o' hio hDk hpr hrest hS => ?_
  · have := hS.done c (hD c (List.getElem?_eq_some_iff.1 ho).1)
    rw [mem_inB this] at hcV
    cases hcV
  · injection hk' with hk'
    subst hk'
    rw [ho] at hio
    injection hio with hio
    subst hio
    have ho' : l.toArray[c]? = some o := by simpa using ho
    simp only [wpOps, ho']
    rw [if_pos (by simp [Region.wanted, hgd])]
    left
    have hEp : EOk N (vpre (preds o) V ++ E) a := hS.base.vpre fun j d v hj hjp => hS.vals j d v hj (hpr j hjp)
    refine hms a w hEp hS.ok _ _ fun x w' hφ hC' => ?_
    rw [hdst]
    have hclosed : ∀ (j : Nat) (o' : Oper), l[j]? = some o' → (bif Nat.beq j c then true else D j) = true → ∀ k ∈ preds o', (bif Nat.beq k c then true else D k) = true := by
      intro j o' hoj hj q hq
      cases hb : Nat.beq j c with
      | true =>
        have := Nat.eq_of_beq_eq_true hb
        subst this
        rw [ho] at hoj
        injection hoj with hoj
        subst hoj
        simp [hpr q hq]
      | false => rw [hb] at hj; simp [hS.closed j o' hoj hj q hq]
    refine k x hφ ord _ _ w' hrest ⟨fun j hj => ?_, clOk_done (fun i hi => by simp [hS.sure i hi]) (by simp) hclosed C' [] hcl (fun s hs => by simp at hs), hclosed, hS.base, fun j e u hj hjD => ?_, hC'⟩
    · rw [vidx_app]
      cases hb : Nat.beq j c with
      | true => rw [Nat.eq_of_beq_eq_true hb]; simp [inB_mem hcC']
      | false =>
        rw [hb] at hj
        rcases List.mem_append.1 (hS.done j hj) with h | h
        · simp [h]
        · have := hCC j h
          simp [this]
    · rcases List.mem_append.1 hj with hj | hj
      · exfalso
        have hjx : j ∈ Jx := by rw [← hJ x hφ]; exact vidx_mem.2 ⟨e, u, hj⟩
        have h6 := List.all_eq_true.1 hJx j hjx
        simp only [Bool.and_eq_true, Bool.not_eq_true'] at h6
        rw [h6.2] at hjD
        have := mem_inB (hS.done j hjD)
        rw [this] at h6
        simp at h6
      · cases hb : Nat.beq j c with
        | true =>
          have := Nat.eq_of_beq_eq_true hb
          subst this
          rw [mem_inB (List.mem_append_left _ (vidx_mem.2 ⟨e, u, hj⟩))] at hcV
          cases hcV
        | false => rw [hb] at hjD; exact hS.vals j e u hj hjD

/-- A region that draws its order: V: the values of the pure operations that may come first. ds: the slots that the region writes. -/
theorem r_draw {id : Nat} {l : List Oper} (ds : List Nat) (V : Vals) (ht : topo 0 l = true) (h : Stg P N w0 M H (edel ds E) Γ R l Q V []) : At N w0 M H E Γ R ((Code.region id l.toArray true).wp P Q) := by
  intro a w hE hC
  refine wp_region_draw fun t => h _ (fun _ => false) a _ (sched_ord _ l ht t) ⟨(fun i hi => by cases hi), (fun i hi => by simp at hi), (fun i o _ hi => by cases hi), hE.del ds, (fun i d v _ hi => by cases hi), hC.stay ⟨rfl, rfl, rfl, Nat.le_refl _, fun _ _ _ => rfl⟩⟩

/-- The same, where stores may come late. -/
theorem r_drawM {id : Nat} {l : List Oper} (rt rg : List Nat) (ds : List Nat) (V : Vals) (h1 : topoM .any rt l = true) (h2 : topoM .text rt l = true) (h3 : topoM .gc rg l = true) (h : Stg P N w0 M H (edel ds E) Γ R l Q V []) : At N w0 M H E Γ R ((Code.region id l.toArray true).wp P Q) := by
  intro a w hE hC
  refine wp_region_draw fun t => h _ (fun _ => false) a _ (sched_ordM _ l rt rg h1 h2 h3 t) ⟨(fun i hi => by cases hi), (fun i hi => by simp at hi), (fun i o _ hi => by cases hi), hE.del ds, (fun i d v _ hi => by cases hi), hC.stay ⟨rfl, rfl, rfl, Nat.le_refl _, fun _ _ _ => rfl⟩⟩
theorem prs_nil {l : List Oper} {V : Vals} : PRs P N w0 M H E Γ R l V [] := trivial
theorem prs_cons {l : List Oper} {V I : Vals} {i d : Nat} {v : Value} (h : PRi P N w0 M H E Γ R l V i d v) (t : PRs P N w0 M H E Γ R l V I) : PRs P N w0 M H E Γ R l V ((i, d, v) :: I) := ⟨h, t⟩
theorem pri {l : List Oper} {V : Vals} {i d : Nat} {v : Value} {op : Op} {T : TypeId} {ps : String} {af : Array Edge} (ho : l[i]? = some ⟨some d, op, T, ps, af, none⟩) (h : PR P N w0 M H (vpre (preds ⟨some d, op, T, ps, af, none⟩) V ++ E) Γ R op v) : PRi P N w0 M H E Γ R l V i d v :=
  ⟨_, ho, rfl, fun a w hE hC => .inl ⟨by simp [Region.wanted], h T ps af a w hE hC _ _⟩⟩

end
end Go.Proofs.Ytfdbkclbcajkiaa
