/-
  The logic's rules for regions that draw their order, guards, appends, sub-slices, element stores and comparisons. No condition.
-/
import Derived.Test.YtdcbbkpdlcojfaaKA
import Derived.ChangeKeysEq
import Derived.Lib.SliceRun
namespace Go.Proofs.Ytdcbbkpdlcojfaa
set_option linter.unusedSimpArgs false
set_option linter.unusedVariables false
open Go.RowKit

/-! ### Orders -/
def preds (o : Oper) : List Nat := (o.after.toList.filter (Region.binds .any)).map (·.on)
/-- The operations can be done in the order l, when those of D are done. -/
inductive Ord (ops : List Oper) : (Nat → Bool) → List Nat → Prop
  | nil {D : Nat → Bool} (h : ∀ i, i < ops.length → D i = true) : Ord ops D []
  | cons {D : Nat → Bool} {i : Nat} {o : Oper} {l : List Nat} (ho : ops[i]? = some o) (hD : D i = false) (hp : ∀ j ∈ preds o, D j = true) (h : Ord ops (fun j => bif Nat.beq j i then true else D j) l) : Ord ops D (i :: l)

/-- Each operation comes behind those that it must follow. -/
def topo : Nat → List Oper → Bool
  | _, [] => true
  | i, o :: l => o.after.toList.all (fun e => Nat.blt e.on i) && topo (i + 1) l
theorem topo_get : ∀ {l : List Oper} {k i : Nat} {o : Oper}, topo k l = true → l[i]? = some o → ∀ e ∈ o.after.toList, e.on < k + i
  | [], _, _, _, _, h => by simp at h
  | x :: l, k, i, o, ht, h => by
    simp only [topo, Bool.and_eq_true] at ht
    cases i with
    | zero =>
      simp at h
      subst h
      intro e he
      simpa using List.all_eq_true.1 ht.1 e he
    | succ i =>
      intro e he
      have := topo_get ht.2 (by simpa using h) e he
      omega

/-- In the mode m each operation's rank is above that of those that it must follow. -/
def Rk (m : Region.Mode) (rk : Nat → Nat) (l : List Oper) : Prop := ∀ (i : Nat) (o : Oper), l[i]? = some o → ∀ e ∈ o.after.toList, e.on < l.length ∧ (Region.binds m e = true → rk e.on < rk i)
theorem topo_rk {l : List Oper} (m : Region.Mode) (h : topo 0 l = true) : Rk m (fun i => i) l := fun i o ho e he => by
  have h1 := topo_get (k := 0) h ho e he
  have h2 := (List.getElem?_eq_some_iff.1 ho).1
  exact ⟨by omega, fun _ => by dsimp only; omega⟩
def topoM (m : Region.Mode) (rk : List Nat) (l : List Oper) : Bool :=
  (List.range l.length).all fun i => match l[i]? with
    | some o => o.after.toList.all fun e => Nat.blt e.on l.length && (!Region.binds m e || Nat.blt (rk.getD e.on 0) (rk.getD i 0))
    | none => true
theorem topoM_rk {m : Region.Mode} {rk : List Nat} {l : List Oper} (h : topoM m rk l = true) : Rk m (fun i => rk.getD i 0) l := fun i o ho e he => by
  have hi := (List.getElem?_eq_some_iff.1 ho).1
  have h1 := List.all_eq_true.1 h i (by simpa using hi)
  rw [ho] at h1
  have h2 := List.all_eq_true.1 h1 e he
  simp only [Bool.and_eq_true, Bool.or_eq_true] at h2
  refine ⟨by simpa using h2.1, fun hb => ?_⟩
  rcases h2.2 with h3 | h3
  · rw [hb] at h3; cases h3
  · simpa using h3

theorem ready_of_least {m : Region.Mode} {rk : Nat → Nat} {ops : Array Oper} {listed : Array Bool} (hs : listed.size = ops.size) (ht : Rk m rk ops.toList) (hx : ∃ i, i < ops.size ∧ listed.getD i true = false) :
    ∃ i, i < ops.size ∧ listed.getD i true = false ∧ ((ops[i]?).map (·.after.all fun e => !Region.binds m e || listed.getD e.on false)).getD false = true := by
  have key : ∀ n i, rk i ≤ n → i < ops.size → listed.getD i true = false → ∃ j, j < ops.size ∧ listed.getD j true = false ∧ ∀ k, k < ops.size → rk k < rk j → listed.getD k true = true := by
    intro n
    induction n with
    | zero =>
      intro i hi h1 h2
      exact ⟨i, h1, h2, fun k _ hk => by omega⟩
    | succ n ih =>
      intro i hi h1 h2
      by_cases hk : ∃ k, k < ops.size ∧ rk k < rk i ∧ listed.getD k true = false
      · obtain ⟨k, hk0, hk1, hk2⟩ := hk
        exact ih k (by omega) hk0 hk2
      · refine ⟨i, h1, h2, fun k hk0 hk' => ?_⟩
        cases hb : listed.getD k true with
        | true => rfl
        | false => exact absurd ⟨k, hk0, hk', hb⟩ hk
  obtain ⟨i, h1, h2⟩ := hx
  obtain ⟨j, h3, h4, h5⟩ := key (rk i) i (Nat.le_refl _) h1 h2
  refine ⟨j, h3, h4, ?_⟩
  rw [Array.getElem?_eq_getElem h3]
  simp only [Option.map_some, Option.getD_some]
  rw [Array.all_eq_true_iff_forall_mem]
  intro e he
  obtain ⟨h6, h7⟩ := ht j ops[j] (by simp [h3]) e (by simpa using he)
  cases hb : Region.binds m e with
  | false => rfl
  | true =>
    have h8 := h5 e.on (by simpa using h6) (h7 hb)
    have h9 : e.on < listed.size := by rw [hs]; simpa using h6
    simp [Array.getD, h9] at h8 ⊢
    exact h8

theorem Ord.congr {ops : List Oper} : ∀ {l : List Nat} {D D' : Nat → Bool} (_ : ∀ i, i < ops.length → D i = D' i) (_ : ∀ (i : Nat) (o : Oper), ops[i]? = some o → ∀ j ∈ preds o, j < ops.length) (_ : Ord ops D l), Ord ops D' l
  | [], D, D', he, _, h => by
    cases h with
    | nil h => exact .nil fun i hi => by rw [← he i hi]; exact h i hi
  | i :: l, D, D', he, hp, h => by
    cases h with
    | cons ho hD hpr hl =>
      have hi : i < ops.length := (List.getElem?_eq_some_iff.1 ho).1
      refine .cons ho (by rw [← he i hi]; exact hD) (fun j hj => by rw [← he j (hp i _ ho j hj)]; exact hpr j hj) (Ord.congr (fun j hj => ?_) hp hl)
      simp [he j hj]

def unl (listed : Array Bool) : Nat := (listed.toList.filter (! ·)).length
theorem unl_set {listed : Array Bool} {i : Nat} (hi : i < listed.size) (h : listed.getD i true = false) : unl (listed.setIfInBounds i true) + 1 = unl listed := by
  have key : ∀ (l : List Bool) (i : Nat), l[i]? = some false → ((l.set i true).filter (! ·)).length + 1 = (l.filter (! ·)).length := by
    intro l
    induction l with
    | nil => intro i h; simp at h
    | cons b l ih =>
      intro i h
      cases i with
      | zero => simp at h; subst h; simp
      | succ i =>
        have := ih i (by simpa using h)
        simp only [List.set_cons_succ]
        cases b <;> simp [List.filter_cons] at this ⊢ <;> omega
  unfold unl
  have h' : listed.toList[i]? = some false := by
    simp [Array.getD, hi] at h
    simp [hi, h]
  simpa using key listed.toList i h'

theorem lin_ord (m : Region.Mode) (rk : Nat → Nat) (ops : Array Oper) (ht : Rk m rk ops.toList) : ∀ (fuel t : Nat) (listed : Array Bool) (acc : List Nat), listed.size = ops.size → unl listed = fuel →
    ∃ rest, Region.linearise.go m ops fuel t listed acc = acc.reverse ++ rest ∧ Ord ops.toList (fun i => listed.getD i false) rest
  | 0, t, listed, acc, hs, hu => by
    refine ⟨[], by simp [Region.linearise.go], .nil fun i hi => ?_⟩
    have hi' : i < listed.size := by rw [hs]; simpa using hi
    have : ∀ b ∈ listed.toList, b = true := by
      intro b hb
      have h0 : listed.toList.filter (! ·) = [] := List.eq_nil_of_length_eq_zero hu
      have := List.filter_eq_nil_iff.1 h0 b hb
      simpa using this
    simp [Array.getD, hi']
    exact this _ (by simp)
  | fuel + 1, t, listed, acc, hs, hu => by
    have hx : ∃ i, i < ops.size ∧ listed.getD i true = false := by
      have hne : listed.toList.filter (! ·) ≠ [] := fun e => by unfold unl at hu; rw [e] at hu; simp at hu
      obtain ⟨b, hb⟩ := List.exists_mem_of_ne_nil _ hne
      obtain ⟨hb1, hb2⟩ := List.mem_filter.1 hb
      have : b = false := by simpa using hb2
      subst this
      obtain ⟨i, hi, he⟩ := List.getElem_of_mem hb1
      have hi' : i < listed.size := by simpa using hi
      refine ⟨i, by omega, ?_⟩
      simp [Array.getD, hi']
      simpa using he
    obtain ⟨j, h1, h2, h3⟩ := ready_of_least hs ht hx
    rw [Region.linearise.go]
    generalize hrs : ((List.range ops.size).filter fun i => !listed.getD i true && ((ops[i]?).map (·.after.all fun e => !Region.binds m e || listed.getD e.on false)).getD false) = rs
    have hj : j ∈ rs := by rw [← hrs]; exact List.mem_filter.2 ⟨by simpa using h1, by simp only [h2, h3]; rfl⟩
    have hpos : 0 < rs.length := List.length_pos_of_mem hj
    have hlt : t % rs.length < rs.length := Nat.mod_lt _ hpos
    simp only [List.getElem?_eq_getElem hlt]
    have hmem : rs[t % rs.length] ∈ rs := List.getElem_mem hlt
    generalize rs[t % rs.length] = i at hmem
    rw [← hrs] at hmem
    obtain ⟨hi1, hi2⟩ := List.mem_filter.1 hmem
    have hi : i < ops.size := by simpa using hi1
    have hi' : i < listed.size := by omega
    simp only [Bool.and_eq_true, Bool.not_eq_true'] at hi2
    obtain ⟨rest, hr1, hr2⟩ := lin_ord m rk ops ht fuel (t / rs.length) (listed.setIfInBounds i true) (i :: acc) (by simpa using hs) (by have := unl_set hi' hi2.1; omega)
    refine ⟨i :: rest, by rw [hr1]; simp, .cons (o := ops[i]) (by simp [hi]) ?_ ?_ ?_⟩
    · have := hi2.1
      simp [Array.getD, hi'] at this ⊢
      exact this
    · intro k hk
      obtain ⟨e, he, rfl⟩ := List.mem_map.1 hk
      obtain ⟨he1, he2⟩ := List.mem_filter.1 he
      have h4 := hi2.2
      rw [Array.getElem?_eq_getElem hi] at h4
      simp only [Option.map_some, Option.getD_some] at h4
      have h5 := Array.all_eq_true_iff_forall_mem.1 h4 e (by simpa using he1)
      have hb : Region.binds m e = true := by
        unfold Region.binds at he2 ⊢
        cases hg : e.ground <;> simp [hg] at he2 ⊢ <;> simp_all
      simpa [hb] using h5
    · refine Ord.congr (fun k hk => ?_) (fun i o ho k hk => ?_) hr2
      · have hk' : k < listed.size := by rw [hs]; simpa using hk
        simp only [Array.getD, Array.size_setIfInBounds, hk', dite_true]
        cases hb : Nat.beq k i with
        | true => have := Nat.eq_of_beq_eq_true hb; subst this; simp
        | false =>
          have hne : i ≠ k := fun e => by subst e; simp at hb
          have h9 : (listed.setIfInBounds i true)[k]? = listed[k]? := by rw [Array.getElem?_setIfInBounds, if_neg hne]
          have h10 : k < (listed.setIfInBounds i true).size := by simpa using hk'
          rw [Array.getElem?_eq_getElem h10, Array.getElem?_eq_getElem hk'] at h9
          simpa using h9
      · obtain ⟨e, he, rfl⟩ := List.mem_map.1 hk
        exact (ht i o ho e (List.mem_filter.1 he).1).1

theorem lin_all {m : Region.Mode} {rk : Nat → Nat} {l : List Oper} (ht : Rk m rk l) (t : Nat) : Ord l (fun _ => false) (Region.linearise m l.toArray t) := by
  obtain ⟨rest, h1, h2⟩ := lin_ord m rk l.toArray (by simpa using ht) l.toArray.size t (Array.replicate l.toArray.size false) [] (by simp) (by
    have : ∀ n, ((List.replicate n false).filter (! ·)).length = n := by
      intro n
      induction n with
      | zero => rfl
      | succ n ih => simp
    simp [unl])
  unfold Region.linearise
  rw [h1]
  simp only [List.reverse_nil, List.nil_append]
  refine Ord.congr (fun i hi => ?_) (fun i o ho k hk => ?_) h2
  · have hi' : i < l.toArray.size := by simpa using hi
    simp [Array.getD]
  · obtain ⟨e, he, rfl⟩ := List.mem_map.1 hk
    have := (ht i o (by simpa using ho) e (List.mem_filter.1 he).1).1
    simpa using this
theorem sched_ord (mixed : Bool) (l : List Oper) (ht : topo 0 l = true) (t : Nat) : Ord l (fun _ => false) (Region.schedule mixed l.toArray t) := by
  unfold Region.schedule
  split
  · exact lin_all (topo_rk _ ht) _
  · exact lin_all (topo_rk _ ht) _
theorem sched_ordM (mixed : Bool) (l : List Oper) (rt rg : List Nat) (h1 : topoM .any rt l = true) (h2 : topoM .text rt l = true) (h3 : topoM .gc rg l = true) (t : Nat) : Ord l (fun _ => false) (Region.schedule mixed l.toArray t) := by
  unfold Region.schedule
  split
  · exact lin_all (topoM_rk h1) _
  · split
    · exact lin_all (topoM_rk h2) _
    · exact lin_all (topoM_rk h3) _

/-! ### Stages -/
section
variable {P : Program} {N : Nat} {w0 : World} {M H : Nat → Prop} {E : Env} {Γ R : Ctx} {Q : Exit → Act → World → Prop}

def edel (ds : List Nat) : Env → Env
  | [] => []
  | (t, v) :: r => bif ds.any (Nat.beq t) then edel ds r else (t, v) :: edel ds r
theorem edel_get {ds : List Nat} : ∀ {E : Env} {t : Nat} {v : Value}, eget (edel ds E) t = some v → eget E t = some v ∧ t ∉ ds
  | [], t, v, h => by cases h
  | (s, u) :: r, t, v, h => by
    simp only [edel] at h
    cases ha : ds.any (Nat.beq s) with
    | true =>
      rw [ha] at h
      obtain ⟨h1, h2⟩ := edel_get (E := r) h
      refine ⟨?_, h2⟩
      simp only [eget]
      cases hb : Nat.beq s t with
      | true =>
        have := Nat.eq_of_beq_eq_true hb
        subst this
        obtain ⟨x, hx, hxe⟩ := List.any_eq_true.1 ha
        exact absurd (Nat.eq_of_beq_eq_true hxe ▸ hx) h2
      | false => simpa using h1
    | false =>
      rw [ha] at h
      simp only [cond_false, eget] at h ⊢
      cases hb : Nat.beq s t with
      | true =>
        rw [hb] at h
        have := Nat.eq_of_beq_eq_true hb
        subst this
        refine ⟨by simpa using h, fun hm => ?_⟩
        have : ds.any (Nat.beq s) = true := List.any_eq_true.2 ⟨s, hm, by simp⟩
        rw [this] at ha
        cases ha
      | false => rw [hb] at h; simpa using edel_get (E := r) h
theorem EOk.del {a : Act} (h : EOk N E a) (ds : List Nat) : EOk N (edel ds E) a := ⟨h.defers, h.size, fun t v hv => h.slot t v (edel_get hv).1⟩

/-- Values of operations: by the operation's place, with its slot. -/
abbrev Vals := List (Nat × Nat × Value)
def vslots : Vals → List Nat
  | [] => []
  | (_, d, _) :: r => d :: vslots r
def vidx : Vals → List Nat
  | [] => []
  | (i, _, _) :: r => i :: vidx r
def venv : Vals → Env
  | [] => []
  | (_, d, v) :: r => (d, v) :: venv r
def vpre (js : List Nat) : Vals → Env
  | [] => []
  | (i, d, v) :: r => bif js.any (Nat.beq i) then (d, v) :: vpre js r else vpre js r
theorem EOk.vals {a : Act} : ∀ {V : Vals} (_ : EOk N E a) (_ : ∀ i d v, (i, d, v) ∈ V → a.tmps[d]? = some v), EOk N (venv V ++ E) a
  | [], h, _ => h
  | (i, d, v) :: r, h, hv => by
    have ih := EOk.vals (V := r) h fun i d v hm => hv i d v (by simp [hm])
    refine ⟨h.defers, h.size, fun t u ht => ?_⟩
    simp only [venv, List.cons_append, eget] at ht
    cases hb : Nat.beq d t with
    | true =>
      rw [hb] at ht
      simp at ht
      subst ht
      rw [← Nat.eq_of_beq_eq_true hb]
      exact hv i d v (by simp)
    | false => rw [hb] at ht; exact ih.slot t u ht
theorem EOk.vpre {a : Act} {js : List Nat} : ∀ {V : Vals} (_ : EOk N E a) (_ : ∀ i d v, (i, d, v) ∈ V → i ∈ js → a.tmps[d]? = some v), EOk N (Ytdcbbkpdlcojfaa.vpre js V ++ E) a
  | [], h, _ => h
  | (i, d, v) :: r, h, hv => by
    have ih := EOk.vpre (V := r) h fun i d v hm => hv i d v (by simp [hm])
    simp only [Ytdcbbkpdlcojfaa.vpre]
    cases ha : js.any (Nat.beq i) with
    | false => exact ih
    | true =>
      obtain ⟨x, hx, hxe⟩ := List.any_eq_true.1 ha
      have hij : i ∈ js := Nat.eq_of_beq_eq_true hxe ▸ hx
      refine ⟨h.defers, h.size, fun t u ht => ?_⟩
      simp only [cond_true, List.cons_append, eget] at ht
      cases hb : Nat.beq d t with
      | true =>
        rw [hb] at ht
        simp at ht
        subst ht
        rw [← Nat.eq_of_beq_eq_true hb]
        exact hv i d v (by simp) hij
      | false => rw [hb] at ht; exact ih.slot t u ht

/-- The operation at place i of the list gives v in slot d and changes nothing, once those before it are done. -/
def PRi (P : Program) (N : Nat) (w0 : World) (M H : Nat → Prop) (E : Env) (Γ R : Ctx) (l : List Oper) (V : Vals) (i d : Nat) (v : Value) : Prop :=
  ∃ o, l[i]? = some o ∧ o.dst = some d ∧ ∀ a w, EOk N (vpre (preds o) V ++ E) a → COk w0 M H Γ R w → (Region.wanted o (yielded l.toArray a.tmps) = true ∧ (execOp a.eval o).run P w = .ok (.value v) w) ∨ (Region.wanted o (yielded l.toArray a.tmps) = false ∧ v = undef)
def PRs (P : Program) (N : Nat) (w0 : World) (M H : Nat → Prop) (E : Env) (Γ R : Ctx) (l : List Oper) (V : Vals) : List (Nat × Nat × Value) → Prop
  | [] => True
  | (i, d, v) :: r => PRi P N w0 M H E Γ R l V i d v ∧ PRs P N w0 M H E Γ R l V r
theorem PRs.get {l : List Oper} {V : Vals} : ∀ {I : Vals}, PRs P N w0 M H E Γ R l V I → ∀ i d v, (i, d, v) ∈ I → PRi P N w0 M H E Γ R l V i d v
  | [], _, i, d, v, h => by simp at h
  | (i', d', v') :: I, hp, i, d, v, h => by
    rcases List.mem_cons.1 h with e | e
    · cases e; exact hp.1
    · exact hp.2.get i d v e

/-- A changing operation: for some x, it gives v x, and the assertions become Γ' x, R' x. -/
def MS (P : Program) (N : Nat) (w0 : World) (M H : Nat → Prop) (E : Env) (Γ R : Ctx) (o : Oper) {X : Type} (φ : X → Prop) (v : X → Value) (Γ' R' : X → Ctx) : Prop :=
  ∀ a w, EOk N E a → COk w0 M H Γ R w → ∀ (next : Act → World → Prop) (Q : Exit → Act → World → Prop), (∀ x w', φ x → COk w0 M H (Γ' x) (R' x) w' → next (a.put o.dst (v x)) w') → o.wp P a w next Q
theorem ms_gen {o : Oper} {X : Type} {φ : X → Prop} {v : X → Value} {Γ' R' : X → Ctx} (hrun : ∀ a w, EOk N E a → COk w0 M H Γ R w → ∃ x w', φ x ∧ (execOp a.eval o).run P w = .ok (.value (v x)) w' ∧ COk w0 M H (Γ' x) (R' x) w') : MS P N w0 M H E Γ R o φ v Γ' R' := by
  intro a w hE hC next Q hn
  obtain ⟨x, w', h1, h2, h3⟩ := hrun a w hE hC
  unfold Oper.wp
  rw [h2]
  exact hn x w' h1 h3
theorem r_ms {X : Type} {φ : X → Prop} {v : X → Value} {Γ' R' : X → Ctx} {ops : Array Oper} {rest : List Oper} {T : TypeId} {ps : String} {af : Array Edge} {d : Nat} {op : Op} (h : MS P N w0 M H E Γ R ⟨some d, op, T, ps, af, none⟩ φ v Γ' R') (hd : Nat.blt d N = true)
    (k : ∀ x, φ x → At N w0 M H ((d, v x) :: E) (Γ' x) (R' x) (wpList P ops Q rest)) : At N w0 M H E Γ R (wpList P ops Q (⟨some d, op, T, ps, af, none⟩ :: rest)) := by
  intro a w hE hC
  unfold wpList
  rw [if_pos (by simp [Region.wanted])]
  left
  exact h a w hE hC _ _ fun x w' h1 h2 => k x h1 _ _ (hE.put hd _) h2

/-- What is known in the middle of a drawn region, in a stage: the operations that are done have their values; those of C are done. -/
structure StI (N : Nat) (w0 : World) (M H : Nat → Prop) (E : Env) (Γ R : Ctx) (l : List Oper) (V : Vals) (C : List Nat) (D : Nat → Bool) (a : Act) (w : World) : Prop where
  done : ∀ i, D i = true → i ∈ vidx V ++ C
  sure : ∀ i ∈ C, D i = true
  closed : ∀ (i : Nat) (o : Oper), l[i]? = some o → D i = true → ∀ j ∈ preds o, D j = true
  base : EOk N E a
  vals : ∀ i d v, (i, d, v) ∈ V → D i = true → a.tmps[d]? = some v
  ok : COk w0 M H Γ R w
/-- Whatever order is drawn from here. -/
def Stg (P : Program) (N : Nat) (w0 : World) (M H : Nat → Prop) (E : Env) (Γ R : Ctx) (l : List Oper) (Q : Exit → Act → World → Prop) (V : Vals) (C : List Nat) : Prop :=
  ∀ ord D a w, Ord l D ord → StI N w0 M H E Γ R l V C D a w → wpOps P l.toArray Q ord a w

theorem vidx_mem : ∀ {V : Vals} {i : Nat}, i ∈ vidx V ↔ ∃ d v, (i, d, v) ∈ V
  | [], i => by simp [vidx]
  | (j, d, v) :: r, i => by
    simp only [vidx, List.mem_cons, vidx_mem (V := r)]
    constructor
    · rintro (rfl | ⟨d', v', h⟩)
      · exact ⟨d, v, .inl rfl⟩
      · exact ⟨d', v', .inr h⟩
    · rintro ⟨d', v', h | h⟩
      · cases h; exact .inl rfl
      · exact .inr ⟨d', v', h⟩
theorem vslots_mem : ∀ {V : Vals} {i d : Nat} {v : Value}, (i, d, v) ∈ V → d ∈ vslots V
  | [], _, _, _, h => by simp at h
  | (j, d', v') :: r, i, d, v, h => by
    rcases List.mem_cons.1 h with e | e
    · cases e; simp [vslots]
    · simp [vslots, vslots_mem e]
/-- Two entries with one slot are one. -/
theorem vslots_inj : ∀ {V : Vals}, (vslots V).Nodup → ∀ {i j d : Nat} {v u : Value}, (i, d, v) ∈ V → (j, d, u) ∈ V → i = j ∧ v = u
  | [], _, _, _, _, _, _, h, _ => by simp at h
  | (k, e, x) :: r, hn, i, j, d, v, u, h1, h2 => by
    have hn' := List.nodup_cons.1 (show (e :: vslots r).Nodup from hn)
    rcases List.mem_cons.1 h1 with e1 | e1 <;> rcases List.mem_cons.1 h2 with e2 | e2
    · cases e1; cases e2; exact ⟨rfl, rfl⟩
    · cases e1; exact absurd (vslots_mem e2) hn'.1
    · cases e2; exact absurd (vslots_mem e1) hn'.1
    · exact vslots_inj hn'.2 e1 e2

theorem vidx_inj : ∀ {V : Vals}, (vidx V).Nodup → ∀ {i d e : Nat} {v u : Value}, (i, d, v) ∈ V → (i, e, u) ∈ V → d = e ∧ v = u
  | [], _, _, _, _, _, _, h, _ => by simp at h
  | (k, f, x) :: r, hn, i, d, e, v, u, h1, h2 => by
    have hn' := List.nodup_cons.1 (show (k :: vidx r).Nodup from hn)
    rcases List.mem_cons.1 h1 with e1 | e1 <;> rcases List.mem_cons.1 h2 with e2 | e2
    · cases e1; cases e2; exact ⟨rfl, rfl⟩
    · cases e1; exact absurd (vidx_mem.2 ⟨_, _, e2⟩) hn'.1
    · cases e2; exact absurd (vidx_mem.2 ⟨_, _, e1⟩) hn'.1
    · exact vidx_inj hn'.2 e1 e2

/-- One step of a pure operation. -/
theorem stg_pure {l : List Oper} {V : Vals} (hsl : (vslots V).Nodup) (hix : (vidx V).Nodup) (hE0 : ∀ d ∈ vslots V, ∀ v, eget E d ≠ some v) (hN : ∀ d ∈ vslots V, d < N) {i d : Nat} {v : Value} (hm : (i, d, v) ∈ V) (hp : PRi P N w0 M H E Γ R l V i d v)
    {ord : List Nat} {D : Nat → Bool} {a : Act} {w : World} {o : Oper} (ho : l[i]? = some o) (hpr : ∀ j ∈ preds o, D j = true) {C : List Nat} (hS : StI N w0 M H E Γ R l V C D a w)
    (ih : ∀ a, StI N w0 M H E Γ R l V C (fun j => bif Nat.beq j i then true else D j) a w → wpOps P l.toArray Q ord a w) : wpOps P l.toArray Q (i :: ord) a w := by
  obtain ⟨o', h1, h2, h3⟩ := hp
  rw [ho] at h1
  injection h1 with h1
  subst h1
  have hEp : EOk N (vpre (preds o) V ++ E) a := hS.base.vpre fun j d v hj hjp => hS.vals j d v hj (hpr j hjp)
  have hlt : d < a.tmps.size := Nat.lt_of_lt_of_le (hN d (vslots_mem hm)) hS.base.size
  have hnext : StI N w0 M H E Γ R l V C (fun j => bif Nat.beq j i then true else D j) (a.put (some d) v) w := by
    refine ⟨fun j hj => ?_, fun j hj => by simp [hS.sure j hj], fun j o' ho' hj k hk => ?_, ⟨hS.base.defers, by simpa [Act.put] using hS.base.size, fun t u ht => ?_⟩, fun j e u hj hjD => ?_, hS.ok⟩
    · cases hb : Nat.beq j i with
      | true => rw [Nat.eq_of_beq_eq_true hb]; exact List.mem_append_left _ (vidx_mem.2 ⟨d, v, hm⟩)
      | false => rw [hb] at hj; exact hS.done j hj
    · cases hb : Nat.beq j i with
      | true =>
        have := Nat.eq_of_beq_eq_true hb
        subst this
        rw [ho] at ho'
        injection ho' with ho'
        subst ho'
        simp [hpr k hk]
      | false => rw [hb] at hj; simp [hS.closed j o' ho' hj k hk]
    · simp only [Act.put, Array.getElem?_setIfInBounds]
      have hne : d ≠ t := fun e => hE0 d (vslots_mem hm) u (e ▸ ht)
      rw [if_neg hne]
      exact hS.base.slot t u ht
    · simp only [Act.put, Array.getElem?_setIfInBounds]
      by_cases hde : d = e
      · subst hde
        obtain ⟨_, rfl⟩ := vslots_inj hsl hm hj
        simp [hlt]
      · rw [if_neg hde]
        cases hb : Nat.beq j i with
        | true =>
          have := Nat.eq_of_beq_eq_true hb
          subst this
          exact absurd (vidx_inj hix hm hj).1 hde
        | false => rw [hb] at hjD; exact hS.vals j e u hj hjD
  have ho' : l.toArray[i]? = some o := by simpa using ho
  simp only [wpOps, ho']
  rcases h3 a w hEp hS.ok with ⟨hw, hr⟩ | ⟨hw, rfl⟩
  · rw [if_pos hw]
    left
    unfold Oper.wp
    rw [hr]
    show wpOps P l.toArray Q ord (a.put o.dst v) w
    rw [h2]
    exact ih _ hnext
  · rw [if_neg (by rw [hw]; simp), h2]
    exact ih _ hnext

/-- Conditions on a stage that a look decides. -/
def stOk (N : Nat) (E : Env) (V : Vals) : Bool := ndB (vslots V) && ndB (vidx V) && (vslots V).all (fun d => Nat.blt d N && (match eget E d with | none => true | some _ => false))
/-- Each operation of l that is not among the places I, nor c, and not yet done for sure, must follow one that cannot be done yet. -/
def clsOk (l : List Oper) (I : List Nat) (c : Option Nat) : Bool :=
  (List.range l.length).all fun i => I.any (Nat.beq i) || (match c with | some k => Nat.beq i k | none => false) || (match l[i]? with | some o => (preds o).any (fun j => !(I.any (Nat.beq j))) | none => true)

def vpick (is : List Nat) : Vals → Vals
  | [] => []
  | (i, d, v) :: r => bif is.any (Nat.beq i) then (i, d, v) :: vpick is r else vpick is r
theorem vpick_mem {is : List Nat} : ∀ {V : Vals} {p : Nat × Nat × Value}, p ∈ vpick is V → p ∈ V
  | [], p, h => by simp [vpick] at h
  | (i, d, v) :: r, p, h => by
    simp only [vpick] at h
    cases ha : is.any (Nat.beq i) with
    | true =>
      rw [ha] at h
      rcases List.mem_cons.1 h with e | e
      · simp [e]
      · simp [vpick_mem e]
    | false => rw [ha] at h; simp [vpick_mem h]
theorem vpick_get {is : List Nat} : ∀ {V : Vals} {i : Nat}, i ∈ vidx V → i ∈ is → ∃ d v, (i, d, v) ∈ vpick is V
  | [], i, h, _ => by simp [vidx] at h
  | (j, d, v) :: r, i, h, hi => by
    simp only [vpick]
    rcases List.mem_cons.1 (show i ∈ j :: vidx r from h) with e | e
    · subst e
      have : is.any (Nat.beq i) = true := List.any_eq_true.2 ⟨i, hi, by simp⟩
      rw [this]
      exact ⟨d, v, by simp⟩
    · obtain ⟨d', v', h'⟩ := vpick_get (V := r) e hi
      cases is.any (Nat.beq j) with
      | true => exact ⟨d', v', by simp [h']⟩
      | false => exact ⟨d', v', h'⟩
def inB (l : List Nat) (k : Nat) : Bool := l.any (Nat.beq k)
theorem inB_mem {l : List Nat} {k : Nat} (h : inB l k = true) : k ∈ l := by
  obtain ⟨x, hx, he⟩ := List.any_eq_true.1 h
  exact Nat.eq_of_beq_eq_true he ▸ hx
theorem mem_inB {l : List Nat} {k : Nat} (h : k ∈ l) : inB l k = true := List.any_eq_true.2 ⟨k, h, by simp⟩
/-- All values are of pure operations that may come now, or of operations that are surely done. -/
def covOk (V : Vals) (is C : List Nat) : Bool := (vidx V).all fun i => inB is i || inB C i
/-- Of what is surely done behind c: what was, c, and all that they follow. -/
def clOk (l : List Oper) (C : List Nat) (c : Nat) : List Nat → List Nat → Bool
  | _, [] => true
  | seen, k :: ks => (inB C k || Nat.beq k c || seen.any (fun s => match l[s]? with | some o => inB (preds o) k | none => false)) && clOk l C c (k :: seen) ks

theorem stOk_slots {V : Vals} (h : stOk N E V = true) : (vslots V).Nodup ∧ (vidx V).Nodup ∧ (∀ d ∈ vslots V, ∀ v, eget E d ≠ some v) ∧ ∀ d ∈ vslots V, d < N := by
  simp only [stOk, Bool.and_eq_true] at h
  refine ⟨ndB_nd h.1.1, ndB_nd h.1.2, fun d hd v hv => ?_, fun d hd => ?_⟩
  · have := List.all_eq_true.1 h.2 d hd
    rw [hv] at this
    simp at this
  · have := List.all_eq_true.1 h.2 d hd
    simp only [Bool.and_eq_true] at this
    simpa using this.1

theorem stg_step {l : List Oper} {V : Vals} {C : List Nat} (is : List Nat) {I : Vals} (hI0 : vpick is V = I) (hst : stOk N E V = true) (hI : PRs P N w0 M H E Γ R l V I) (hcov : covOk V is C = true) (c : Option Nat)
    (hcls : clsOk l (vidx V ++ C) c = true) (hfin : ∀ D a w, (∀ i, i < l.length → D i = true) → StI N w0 M H E Γ R l V C D a w → Q .normal a w)
    (hmem : ∀ k, c = some k → ∀ ord D a w o, l[k]? = some o → D k = false → (∀ j ∈ preds o, D j = true) → Ord l (fun j => bif Nat.beq j k then true else D j) ord → StI N w0 M H E Γ R l V C D a w → wpOps P l.toArray Q (k :: ord) a w) :
    Stg P N w0 M H E Γ R l Q V C := by
  obtain ⟨h1, h2, h3, h4⟩ := stOk_slots hst
  intro ord
  induction ord with
  | nil =>
    intro D a w ho hS
    cases ho with
    | nil h => exact hfin D a w h hS
  | cons i ord ih =>
    intro D a w ho hS
    cases ho with
    | cons hio hD hpr hrest =>
      have hi : i < l.length := (List.getElem?_eq_some_iff.1 hio).1
      have hc := List.all_eq_true.1 hcls i (by simpa using hi)
      simp only [hio, Bool.or_eq_true] at hc
      rcases hc with (hc | hc) | hc
      · have hiV : i ∈ vidx V := by
          rcases List.mem_append.1 (inB_mem hc : i ∈ vidx V ++ C) with h | h
          · exact h
          · have := hS.sure i h
            rw [hD] at this
            cases this
        have hcv := List.all_eq_true.1 hcov i hiV
        simp only [Bool.or_eq_true] at hcv
        rcases hcv with hcv | hcv
        · obtain ⟨d, v, hm⟩ := vpick_get hiV (inB_mem hcv)
          exact stg_pure h1 h2 h3 h4 (vpick_mem hm) ((hI0 ▸ hI : PRs P N w0 M H E Γ R l V (vpick is V)).get i d v hm) hio hpr hS fun a' hS' => ih _ a' w hrest hS'
        · have := hS.sure i (inB_mem hcv)
          rw [hD] at this
          cases this
      · cases c with
        | none => simp at hc
        | some k =>
          have : i = k := Nat.eq_of_beq_eq_true hc
          subst this
          exact hmem i rfl ord D a w _ hio hD hpr hrest hS
      · obtain ⟨j, hj, hjn⟩ := List.any_eq_true.1 hc
        have hjV := mem_inB (hS.done j (hpr j hj))
        rw [inB] at hjV
        rw [hjV] at hjn
        simp at hjn

/-- The last stage. -/
theorem stg_end {l : List Oper} {V : Vals} {C : List Nat} (is : List Nat) {I : Vals} (hI0 : vpick is V = I) (hst : stOk N E V = true) (hI : PRs P N w0 M H E Γ R l V I) (hcov : covOk V is C = true) (hcls : clsOk l (vidx V ++ C) none = true)
    (hall : (vidx V).all (fun i => Nat.blt i l.length) = true) (k : At N w0 M H (venv V ++ E) Γ R (Q .normal)) : Stg P N w0 M H E Γ R l Q V C :=
  stg_step is hI0 hst hI hcov none hcls (fun D a w hD hS => k a w (hS.base.vals fun i d v hm => hS.vals i d v hm (hD i (by
    have := List.all_eq_true.1 hall i (vidx_mem.2 ⟨d, v, hm⟩)
    simpa using this))) hS.ok) (fun k hk => by cases hk)

theorem clOk_done {l : List Oper} {C : List Nat} {c : Nat} {D : Nat → Bool} (hC : ∀ i ∈ C, D i = true) (hc : D c = true) (hcl : ∀ (i : Nat) (o : Oper), l[i]? = some o → D i = true → ∀ j ∈ preds o, D j = true) :
    ∀ (ks seen : List Nat), clOk l C c seen ks = true → (∀ s ∈ seen, D s = true) → ∀ k ∈ ks, D k = true
  | [], _, _, _, k, h => by simp at h
  | k' :: ks, seen, h, hs, k, hk => by
    simp only [clOk, Bool.and_eq_true, Bool.or_eq_true] at h
    have hk' : D k' = true := by
      rcases h.1 with (h1 | h1) | h1
      · exact hC _ (inB_mem h1)
      · rw [Nat.eq_of_beq_eq_true h1]; exact hc
      · obtain ⟨s, hs1, hs2⟩ := List.any_eq_true.1 h1
        cases ho : l[s]? with
        | none => rw [ho] at hs2; cases hs2
        | some o => rw [ho] at hs2; exact hcl s o ho (hs s hs1) k' (inB_mem hs2)
    rcases List.mem_cons.1 hk with e | e
    · rw [e]; exact hk'
    · exact clOk_done hC hc hcl ks (k' :: seen) h.2 (fun s hs' => by rcases List.mem_cons.1 hs' with e | e; exact e ▸ hk'; exact hs s e) k e
theorem vidx_app : ∀ (U V : Vals), vidx (U ++ V) = vidx U ++ vidx V
  | [], V => rfl
  | (i, d, v) :: U, V => by simp [vidx, vidx_app U V]

/-- A stage that ends with the changing operation c. -/
theorem stg_mem {l : List Oper} {V : Vals} {C : List Nat} (is : List Nat) {I : Vals} (c : Nat) (C' Jx : List Nat) {X : Type} {φ : X → Prop} {v : X → Value} {Γ' R' : X → Ctx} {d : Nat} {o : Oper} (J' : X → Vals) (hI0 : vpick is V = I) (hst : stOk N E V = true) (hI : PRs P N w0 M H E Γ R l V I) (hcov : covOk V is C = true)
    (hcls : clsOk l (vidx V ++ C) (some c) = true) (ho : l[c]? = some o) (hdst : o.dst = some d) (hgd : o.guard = none) (hd : Nat.blt d N = true) (hdE : eget E d = none) (hdV : inB (vslots V) d = false) (hcV : inB (vidx V ++ C) c = false)
    (hcl : clOk l C c [] C' = true) (hCC0 : C.all (inB C') = true) (hJ : ∀ x, φ x → vidx (J' x) = Jx) (hJx : Jx.all (fun j => !(inB (vidx V ++ C) j) && !(Nat.beq j c)) = true) (hms : MS P N w0 M H (vpre (preds o) V ++ E) Γ R o φ v Γ' R')
    (k : ∀ x, φ x → Stg P N w0 M H E (Γ' x) (R' x) l Q (J' x ++ (c, d, v x) :: V) C') : Stg P N w0 M H E Γ R l Q V C := by
  have hCC : ∀ j ∈ C, j ∈ C' := fun j hj => inB_mem (List.all_eq_true.1 hCC0 j hj)
  refine stg_step is hI0 hst hI hcov (some c) hcls (fun D a w hD hS => ?_) fun k' hk' ord D a w o' hio hDk hpr hrest hS => ?_
  · have := hS.done c (hD c (List.getElem?_eq_some_iff.1 ho).1)
    rw [mem_inB this] at hcV
    cases hcV
  · injection hk' with hk'
    subst hk'
    rw [ho] at hio
    injection hio with hio
    subst hio
    have ho' : l.toArray[c]? = some o := by simpa using ho
    simp only [wpOps, ho']
    rw [if_pos (by simp [Region.wanted, hgd])]
    left
    have hEp : EOk N (vpre (preds o) V ++ E) a := hS.base.vpre fun j d v hj hjp => hS.vals j d v hj (hpr j hjp)
    have hlt : d < a.tmps.size := Nat.lt_of_lt_of_le (by simpa using hd) hS.base.size
    refine hms a w hEp hS.ok _ _ fun x w' hφ hC' => ?_
    rw [hdst]
    have hclosed : ∀ (j : Nat) (o' : Oper), l[j]? = some o' → (bif Nat.beq j c then true else D j) = true → ∀ k ∈ preds o', (bif Nat.beq k c then true else D k) = true := by
      intro j o' hoj hj q hq
      cases hb : Nat.beq j c with
      | true =>
        have := Nat.eq_of_beq_eq_true hb
        subst this
        rw [ho] at hoj
        injection hoj with hoj
        subst hoj
        simp [hpr q hq]
      | false => rw [hb] at hj; simp [hS.closed j o' hoj hj q hq]
    refine k x hφ ord _ _ w' hrest ⟨fun j hj => ?_, clOk_done (fun i hi => by simp [hS.sure i hi]) (by simp) hclosed C' [] hcl (fun s hs => by simp at hs), hclosed, ⟨hS.base.defers, by simpa [Act.put] using hS.base.size, fun t u ht => ?_⟩, fun j e u hj hjD => ?_, hC'⟩
    · rw [vidx_app]
      show j ∈ vidx (J' x) ++ (c :: vidx V) ++ C'
      cases hb : Nat.beq j c with
      | true => rw [Nat.eq_of_beq_eq_true hb]; simp
      | false =>
        rw [hb] at hj
        rcases List.mem_append.1 (hS.done j hj) with h | h
        · simp [h]
        · have := hCC j h
          simp [this]
    · simp only [Act.put, Array.getElem?_setIfInBounds]
      have hne : d ≠ t := fun e => by subst e; rw [hdE] at ht; cases ht
      rw [if_neg hne]
      exact hS.base.slot t u ht
    · simp only [Act.put, Array.getElem?_setIfInBounds]
      rcases List.mem_append.1 hj with hj | hj
      · exfalso
        have hjx : j ∈ Jx := by rw [← hJ x hφ]; exact vidx_mem.2 ⟨e, u, hj⟩
        have h6 := List.all_eq_true.1 hJx j hjx
        simp only [Bool.and_eq_true, Bool.not_eq_true'] at h6
        rw [h6.2] at hjD
        have := mem_inB (hS.done j hjD)
        rw [this] at h6
        simp at h6
      · rcases List.mem_cons.1 hj with e' | e'
        · cases e'
          simp [hlt]
        · have hne : d ≠ e := fun h => by
            subst h
            rw [mem_inB (vslots_mem e')] at hdV
            cases hdV
          rw [if_neg hne]
          cases hb : Nat.beq j c with
          | true =>
            have := Nat.eq_of_beq_eq_true hb
            subst this
            rw [mem_inB (List.mem_append_left _ (vidx_mem.2 ⟨e, u, e'⟩))] at hcV
            cases hcV
          | false => rw [hb] at hjD; exact hS.vals j e u e' hjD

/-- A stage that ends with the changing operation c, which gives no value. -/
theorem stg_mem0 {l : List Oper} {V : Vals} {C : List Nat} (is : List Nat) {I : Vals} (c : Nat) (C' Jx : List Nat) {X : Type} {φ : X → Prop} {v : X → Value} {Γ' R' : X → Ctx} {o : Oper} (J' : X → Vals) (hI0 : vpick is V = I) (hst : stOk N E V = true) (hI : PRs P N w0 M H E Γ R l V I) (hcov : covOk V is C = true)
    (hcls : clsOk l (vidx V ++ C) (some c) = true) (ho : l[c]? = some o) (hdst : o.dst = none) (hgd : o.guard = none) (hcC' : inB C' c = true) (hcV : inB (vidx V ++ C) c = false)
    (hcl : clOk l C c [] C' = true) (hCC0 : C.all (inB C') = true) (hJ : ∀ x, φ x → vidx (J' x) = Jx) (hJx : Jx.all (fun j => !(inB (vidx V ++ C) j) && !(Nat.beq j c)) = true) (hms : MS P N w0 M H (vpre (preds o) V ++ E) Γ R o φ v Γ' R')
    (k : ∀ x, φ x → Stg P N w0 M H E (Γ' x) (R' x) l Q (J' x ++ V) C') : Stg P N w0 M H E Γ R l Q V C := by
  have hCC : ∀ j ∈ C, j ∈ C' := fun j hj => inB_mem (List.all_eq_true.1 hCC0 j hj)
  refine stg_step is hI0 hst hI hcov (some c) hcls (fun D a w hD hS => ?_) fun k' hk' ord D a w o' hio hDk hpr hrest hS => ?_
  · have := hS.done c (hD c (List.getElem?_eq_some_iff.1 ho).1)
    rw [mem_inB this] at hcV
    cases hcV
  · injection hk' with hk'
    subst hk'
    rw [ho] at hio
    injection hio with hio
    subst hio
    have ho' : l.toArray[c]? = some o := by simpa using ho
    simp only [wpOps, ho']
    rw [if_pos (by simp [Region.wanted, hgd])]
    left
    have hEp : EOk N (vpre (preds o) V ++ E) a := hS.base.vpre fun j d v hj hjp => hS.vals j d v hj (hpr j hjp)
    refine hms a w hEp hS.ok _ _ fun x w' hφ hC' => ?_
    rw [hdst]
    have hclosed : ∀ (j : Nat) (o' : Oper), l[j]? = some o' → (bif Nat.beq j c then true else D j) = true → ∀ k ∈ preds o', (bif Nat.beq k c then true else D k) = true := by
      intro j o' hoj hj q hq
      cases hb : Nat.beq j c with
      | true =>
        have := Nat.eq_of_beq_eq_true hb
        subst this
        rw [ho] at hoj
        injection hoj with hoj
        subst hoj
        simp [hpr q hq]
      | false => rw [hb] at hj; simp [hS.closed j o' hoj hj q hq]
    refine k x hφ ord _ _ w' hrest ⟨fun j hj => ?_, clOk_done (fun i hi => by simp [hS.sure i hi]) (by simp) hclosed C' [] hcl (fun s hs => by simp at hs), hclosed, hS.base, fun j e u hj hjD => ?_, hC'⟩
    · rw [vidx_app]
      cases hb : Nat.beq j c with
      | true => rw [Nat.eq_of_beq_eq_true hb]; simp [inB_mem hcC']
      | false =>
        rw [hb] at hj
        rcases List.mem_append.1 (hS.done j hj) with h | h
        · simp [h]
        · have := hCC j h
          simp [this]
    · rcases List.mem_append.1 hj with hj | hj
      · exfalso
        have hjx : j ∈ Jx := by rw [← hJ x hφ]; exact vidx_mem.2 ⟨e, u, hj⟩
        have h6 := List.all_eq_true.1 hJx j hjx
        simp only [Bool.and_eq_true, Bool.not_eq_true'] at h6
        rw [h6.2] at hjD
        have := mem_inB (hS.done j hjD)
        rw [this] at h6
        simp at h6
      · cases hb : Nat.beq j c with
        | true =>
          have := Nat.eq_of_beq_eq_true hb
          subst this
          rw [mem_inB (List.mem_append_left _ (vidx_mem.2 ⟨e, u, hj⟩))] at hcV
          cases hcV
        | false => rw [hb] at hjD; exact hS.vals j e u hj hjD

/-- A region that draws its order: V: the values of the pure operations that may come first. ds: the slots that the region writes. -/
theorem r_draw {id : Nat} {l : List Oper} (ds : List Nat) (V : Vals) (ht : topo 0 l = true) (h : Stg P N w0 M H (edel ds E) Γ R l Q V []) : At N w0 M H E Γ R ((Code.region id l.toArray true).wp P Q) := by
  intro a w hE hC
  refine wp_region_draw fun t => h _ (fun _ => false) a _ (sched_ord _ l ht t) ⟨(fun i hi => by cases hi), (fun i hi => by simp at hi), (fun i o _ hi => by cases hi), hE.del ds, (fun i d v _ hi => by cases hi), hC.stay ⟨rfl, rfl, rfl, Nat.le_refl _, fun _ _ _ => rfl⟩⟩

/-- The same, where stores may come late. -/
theorem r_drawM {id : Nat} {l : List Oper} (rt rg : List Nat) (ds : List Nat) (V : Vals) (h1 : topoM .any rt l = true) (h2 : topoM .text rt l = true) (h3 : topoM .gc rg l = true) (h : Stg P N w0 M H (edel ds E) Γ R l Q V []) : At N w0 M H E Γ R ((Code.region id l.toArray true).wp P Q) := by
  intro a w hE hC
  refine wp_region_draw fun t => h _ (fun _ => false) a _ (sched_ordM _ l rt rg h1 h2 h3 t) ⟨(fun i hi => by cases hi), (fun i hi => by simp at hi), (fun i o _ hi => by cases hi), hE.del ds, (fun i d v _ hi => by cases hi), hC.stay ⟨rfl, rfl, rfl, Nat.le_refl _, fun _ _ _ => rfl⟩⟩
theorem prs_nil {l : List Oper} {V : Vals} : PRs P N w0 M H E Γ R l V [] := trivial
theorem prs_cons {l : List Oper} {V I : Vals} {i d : Nat} {v : Value} (h : PRi P N w0 M H E Γ R l V i d v) (t : PRs P N w0 M H E Γ R l V I) : PRs P N w0 M H E Γ R l V ((i, d, v) :: I) := ⟨h, t⟩
theorem pri {l : List Oper} {V : Vals} {i d : Nat} {v : Value} {op : Op} {T : TypeId} {ps : String} {af : Array Edge} (ho : l[i]? = some ⟨some d, op, T, ps, af, none⟩) (h : PR P N w0 M H (vpre (preds ⟨some d, op, T, ps, af, none⟩) V ++ E) Γ R op v) : PRi P N w0 M H E Γ R l V i d v :=
  ⟨_, ho, rfl, fun a w hE hC => .inl ⟨by simp [Region.wanted], h T ps af a w hE hC _ _⟩⟩

end
end Go.Proofs.Ytdcbbkpdlcojfaa
namespace Go.Proofs.Ytdcbbkpdlcojfaa
set_option linter.unusedSimpArgs false
set_option linter.unusedVariables false
open Go.RowKit

section
variable {P : Program} {N : Nat} {w0 : World} {M H : Nat → Prop} {E : Env} {Γ R : Ctx} {Q : Exit → Act → World → Prop}
variable {ops : Array Oper} {rest : List Oper} {T : TypeId} {ps : String} {af : Array Edge} {d : Nat} {op : Op}

theorem ms_alloc {S : TypeId} {D : TypeDesc} {z : Value} {s bb : Nat} {c : List Value} (ht : TI P S D z s bb) (hc : z.cells.toList = c)
    : MS P N w0 M H E Γ R ⟨some d, .alloc S, T, ps, af, none⟩ (X := Nat) (fun _ => True) (fun b => .pointer (some ⟨b, 0, none⟩)) (fun b => (d, row b S c) :: Γ) (fun _ => R) := ms_gen (fun a w hE hC => ⟨w.heap.size, w.alloc (.cells c.toArray S), trivial, by
    subst hc
    simp [execOp, Instr.alloc, ht.zero, newVar, newRow], hC.alloc⟩)

theorem ms_box {S : TypeId} {x : Operand} {v : Value} {c : List Value} (hx : ev E x = some v) (hc : v.cells.toList = c)
    : MS P N w0 M H E Γ R ⟨some d, .box S x, T, ps, af, none⟩ (X := Nat) (fun _ => True) (fun b => .pointer (some ⟨b, 0, none⟩)) (fun b => (d, row b S c) :: Γ) (fun _ => R) := ms_gen (fun a w hE hC => ⟨w.heap.size, w.alloc (.cells c.toArray S), trivial, by
    subst hc
    simp [execOp, hE.ev hx, Instr.box, newVar, newRow], hC.alloc⟩)

theorem ms_bslice1 {α : Type} {S U : TypeId} {D : TypeDesc} {z : Value} {s bb : Nat} (enc : α → List Value) (e : α) {x : Operand} {v : Value} (hS : P.underlying S = some (.slice U)) (hU : TI P U D z s bb) (hs : z.cells.size = s) (hs0 : 0 < s) (hsb : s ≤ 1000000) (hx : ev E x = some v) (hv : v.cells.toList = enc e) (he : (enc e).length = s)
    : MS P N w0 M H E Γ R ⟨some d, .buildSlice S 1 #[(0, x)], T, ps, af, none⟩ (X := SV) (fun _ => True) (fun v' => sv v') (fun v' => (d, own U s enc (sv v') [e]) :: Γ) (fun _ => R) := ms_gen (fun a w hE hC => ⟨⟨some ⟨w.heap.size, 0, none⟩, 1, 1⟩, w.alloc (.cells v.cells U), trivial, by
    have hvs : v.cells.size = s := by rw [← he, ← hv]; simp
    have h0 : ¬ s = 0 := by omega
    have hzz : ((Array.range (1 * s)).map (z.cells[· % z.cells.size]!)).size = s := by simp
    have hf := fill_one (s := s) (v := v) hvs hzz
    simp only [Nat.one_mul] at hf
    have hb : ¬ 16777216 < s := by omega
    simp [execOp, hE.ev hx, Instr.buildSlice, run_underlying hS, hU.sizeOf, hU.zero, newRow, h0, hb, hf, sv], by
    have hvs : v.cells.size = s := by rw [← he, ← hv]; simp
    refine hC.new (Touch.alloc _ _ _) ⟨_, own_new (S := U) (s := s) (enc := enc) (l := [e]) (cap := 1) (by simpa using he) (by simpa using hvs) (by simp) (by simp [maxLen]) (by simp [hv]; rw [← he]; exact List.take_of_length_le (Nat.le_refl _)), fun b hb => by subst hb; simp⟩⟩)

theorem ms_bslice0 {α : Type} {S U : TypeId} {D : TypeDesc} {z : Value} {s bb : Nat} (enc : α → List Value) (hS : P.underlying S = some (.slice U)) (hU : TI P U D z s bb)
    : MS P N w0 M H E Γ R ⟨some d, .buildSlice S 0 #[], T, ps, af, none⟩ (X := SV) (fun _ => True) (fun v' => sv v') (fun v' => (d, own U s enc (sv v') []) :: Γ) (fun _ => R) := ms_gen (fun a w hE hC => ⟨⟨some ⟨w.heap.size, 0, none⟩, 0, 0⟩, w.alloc (.cells #[] U), trivial, by
    simp [execOp, Instr.buildSlice, run_underlying hS, hU.sizeOf, newRow, Instr.fill, Array.range_zero', sv],
    hC.new (Touch.alloc _ _ _) ⟨_, own_new (S := U) (s := s) (enc := enc) (l := []) (cap := 0) (by simp) (by simp) (by simp) (by simp) (by simp), fun b hb => by subst hb; simp⟩⟩)

theorem ms_append {α : Type} {S U : TypeId} {D : TypeDesc} {z : Value} {s bb : Nat} {enc : α → List Value} {x y : Operand} {v v2 : Value} {l l2 : List α} (k : Nat) (hS : P.underlying S = some (.slice U)) (hU : TI P U D z s bb) (hzs : z.cells.size = s) (hs0 : 0 < s) (he : ∀ x, (enc x).length = s) (h1 : ∀ x, (enc x).all (·.oneCell') = true)
    (hx : ev E x = some v) (hy : ev E y = some v2) (hk : cget Γ k = some (own U s enc v l)) (h2 : HasSl Γ R s enc v2 l2) (hm : (l.length + l2.length) * bb ≤ 140737488355328) (hm' : l.length + l2.length ≤ maxLen)
    : MS P N w0 M H E Γ R ⟨some d, .call { callee := .builtin .append, args := #[x, y], argTypes := #[S, S] }, T, ps, af, none⟩ (X := SV) (fun _ => True) (fun v' => sv v') (fun v' => (k, own U s enc (sv v') (l ++ l2)) :: Γ) (fun _ => R) := by
  refine ms_gen fun a w hE hC => ?_
  obtain ⟨G0, hp0, hlt0⟩ := hC.reads (.inl hk)
  obtain ⟨G2, c, h3, h4, h5⟩ := h2.ok hC
  obtain ⟨i, i1, i2, i3, i4⟩ := hU.info
  have hfl : ∀ l' : List α, (l'.flatMap enc).length = l'.length * s := flatMap_len he
  rcases h5 with ⟨rfl, _, rfl⟩ | ⟨b2, o2, rfl, _, hc2⟩
  · obtain ⟨xv, rfl⟩ := ownsRow_sv hp0.2
    refine ⟨xv, w, trivial, ?_, ?_⟩
    · have hr := run_append_owned_none (P := P) w 0 S T U i s hS i1 (sv xv) l.length _ hp0.2
      simp [execOp, resolve, invoke, builtin, hE.ev hx, hE.ev hy, hr]
    · simp only [List.append_nil]
      exact hC.upd hk fun G hG hGlt => ⟨G, hG, fun b hb => ⟨hGlt b hb, fun _ => hb⟩, Touch.refl _ _⟩
  · obtain ⟨v', w', hr, ho, hg, hn⟩ := run_append_own (P := P) w 0 S T U i z s bb hS i1 i2 i3 i4 hzs hs0 v l.length _ hp0.2 ⟨b2, o2, none⟩ l2.length c (l2.flatMap enc) (hfl l2)
      (fun j u hj => by rw [add_lit']; exact hc2 j u hj) (fun u hu => by obtain ⟨x, _, hxu⟩ := List.mem_flatMap.1 hu; simpa using List.all_eq_true.1 (h1 x) u hxu) hm' hm (Nat.zero_le _)
    obtain ⟨xv, rfl⟩ := ownsRow_sv ho
    refine ⟨xv, w', trivial, ?_, ?_⟩
    · simp [execOp, resolve, invoke, builtin, hE.ev hx, hE.ev hy, hr]
    · refine hC.upd hk fun G hG hGlt => ⟨fun b => (sv xv).ownBlock = some b, ⟨fun x => Iff.rfl, ?_⟩, fun b hb => ⟨(ho.lt b hb).2, fun hlt => ?_⟩, ⟨hg.os, hg.tape, hg.output, hg.size, fun i hi hne => hg.block i hi (fun e => hne ((hG.1 i).2 e.symm))⟩⟩
      · rw [List.length_append, List.flatMap_append]; exact ho
      · rcases hp0.2.2 with ⟨rfl, hl0⟩ | ⟨g, cap, cur, rfl, hbg, hgg, hnc, hcm, hcs, htake⟩
        · exfalso
          have hl : l = [] := List.eq_nil_of_length_eq_zero hl0
          subst hl
          by_cases hz : l2.length = 0
          · have hl2 : l2 = [] := List.eq_nil_of_length_eq_zero hz
            subst hl2
            have := (hn.2 ⟨rfl, rfl⟩)
            rw [this] at hb
            simp [Value.ownBlock] at hb
          · have hr2 := run_append_nil (P := P) w S T U i z hS i1 i2 ⟨b2, o2, none⟩ l2.length c (l2.flatMap enc) (by rw [hfl, i3]) (fun j u hj => by rw [add_lit']; exact hc2 j u hj) (by simpa using Nat.pos_of_ne_zero hz) (by simp only [maxLen] at hm'; simp at hm'; omega) (by rw [i4]; simp at hm; omega)
            rw [hr2] at hr
            injection hr with hr3 hr4
            replace hb : (sv xv).ownBlock = some b := hb
            rw [← hr3] at hb
            simp [Value.ownBlock] at hb
            omega
        · by_cases hroom : l.length + l2.length ≤ cap
          · have hfit : l.length * i.size + (l2.flatMap enc).length ≤ cur.size := by rw [hfl, hcs, i3, ← Nat.add_mul]; exact Nat.mul_le_mul_right _ hroom
            have hr2 := run_append_room (P := P) w S T U i hS i1 g l.length cap cur hgg ⟨b2, o2, none⟩ l2.length c (l2.flatMap enc) (by rw [hfl, i3]) (fun j u hj => by rw [add_lit']; exact hc2 j u hj) (fun u hu => by obtain ⟨x, _, hxu⟩ := List.mem_flatMap.1 hu; simpa using List.all_eq_true.1 (h1 x) u hxu) hroom hfit
            rw [hr2] at hr
            injection hr with hr3 hr4
            replace hb : (sv xv).ownBlock = some b := hb
            rw [← hr3] at hb
            simp [Value.ownBlock] at hb
            subst hb
            exact (hG.1 g).2 rfl
          · exfalso
            have holds := hp0.2.cells (g := g) rfl
            have hr2 := run_append_grow (P := P) w S T U i z hS i1 i2 ⟨g, 0, none⟩ l.length cap (l.flatMap enc) (by rw [hfl, i3]) holds ⟨b2, o2, none⟩ l2.length c (l2.flatMap enc) (by rw [hfl, i3]) (fun j u hj => by rw [add_lit']; exact hc2 j u hj) (by omega) (by simp only [maxLen] at hm'; omega) (growslice_fits (by omega) (by rw [i4]; exact hm))
            rw [hr2] at hr
            injection hr with hr3 hr4
            replace hb : (sv xv).ownBlock = some b := hb
            rw [← hr3] at hb
            simp [Value.ownBlock] at hb
            omega

theorem ms_store_gen {S : TypeId} {D : TypeDesc} {z : Value} {s bb : Nat} {x y : Operand} {b o : Nat} {v : Value} {A A' : Asn} {k : Nat} {us : List Value} (ht : TI P S D z s bb) (hx : ev E x = some (.pointer (some ⟨b, o, none⟩))) (hy : ev E y = some v)
    (hus : v.cells.toList = us) (hs : us.length = s) (h1 : us.all (·.oneCell') = true) (hk : cget Γ k = some A)
    (hA : ∀ w G, A.pred w G → ∃ cur S', w.heap[b]? = some (.cells cur S' (0, 0)) ∧ G b ∧ o + us.length ≤ cur.size ∧ A'.pred (w.setRow b (cur.toList.take o ++ us ++ cur.toList.drop (o + us.length)).toArray) G)
    : MS P N w0 M H E Γ R ⟨none, .store S x y, T, ps, af, none⟩ (X := Unit) (fun _ => True) (fun _ => undef) (fun _ => (k, A') :: Γ) (fun _ => R) := by
  intro a w hE hC next Q hnext
  obtain ⟨G0, hp, hlt⟩ := hC.reads (.inl hk)
  obtain ⟨cur, S', hb, _, hfit, _⟩ := hA w G0 hp
  have hst := run_storeCells_at P b o S' us 0 cur w hb (by simpa using hfit) (fun v hv => by simpa using List.all_eq_true.1 h1 v hv)
  simp only [Nat.add_zero] at hst
  have hC' : COk w0 M H ((k, A') :: Γ) R (w.setRow b (cur.toList.take o ++ us ++ cur.toList.drop (o + us.length)).toArray) :=
    hC.upd hk fun G hG hGlt => by
      obtain ⟨cur', S'', hb', hGb, hfit', hA'⟩ := hA w G hG
      rw [hb] at hb'
      injection hb' with hb'
      injection hb' with e1 e2
      subst e1
      exact ⟨G, hA', fun x hx => ⟨by simpa using hGlt x hx, fun _ => hx⟩, ⟨rfl, rfl, rfl, by simp, fun i _ hi => setRow_other w b i _ (fun e => hi (e ▸ hGb))⟩⟩
  unfold Oper.wp
  have hrun : (execOp a.eval ⟨none, .store S x y, T, ps, af, none⟩).run P w = .ok .skip (w.setRow b (cur.toList.take o ++ us ++ cur.toList.drop (o + us.length)).toArray) := by
    have hsz : v.cells.size = s := by rw [← hs, ← hus]; simp
    simp [execOp, hE.ev hx, hE.ev hy, Instr.storeAt, Instr.sureAddr, storeVar, ht.sizeOf, hsz, hus, hst]
  rw [hrun]
  exact hnext () _ trivial hC'

theorem ms_store_row {S S' : TypeId} {D : TypeDesc} {z : Value} {s bb : Nat} {x y : Operand} {b o : Nat} {v : Value} {k : Nat} {c c' us : List Value} (ht : TI P S D z s bb) (hx : ev E x = some (.pointer (some ⟨b, o, none⟩))) (hy : ev E y = some v)
    (hus : v.cells.toList = us) (hs : us.length = s) (h1 : us.all (·.oneCell') = true) (hk : cget Γ k = some (row b S' c)) (hfit : Nat.ble (o + us.length) c.length = true) (hc : c.take o ++ us ++ c.drop (o + us.length) = c')
    : MS P N w0 M H E Γ R ⟨none, .store S x y, T, ps, af, none⟩ (X := Unit) (fun _ => True) (fun _ => undef) (fun _ => ((k, row b S' c') :: Γ)) (fun _ => R) :=
  ms_store_gen ht hx hy hus hs h1 hk (row_put hc (by simpa using hfit))

theorem ms_store_arr {S S' : TypeId} {D : TypeDesc} {z : Value} {s bb : Nat} {x y : Operand} {b o n : Nat} {v : Value} {k : Nat} {f : Nat → Value} (ht : TI P S D z s bb) (hx : ev E x = some (.pointer (some ⟨b, o, none⟩))) (hy : ev E y = some v)
    (h1 : v.oneCell' = true) (hs : s = 1) (hk : cget Γ k = some (arr b S' n f)) (ho : o < n)
    : MS P N w0 M H E Γ R ⟨none, .store S x y, T, ps, af, none⟩ (X := Unit) (fun _ => True) (fun _ => undef) (fun _ => ((k, arr b S' n (fset f o v)) :: Γ)) (fun _ => R) :=
  ms_store_gen (us := [v]) ht hx hy (by cases v <;> first | rfl | simp [Value.oneCell'] at h1) (by simp [hs]) (by simp [h1]) hk (arr_put ho)

theorem ms_store_own {α : Type} {S S' : TypeId} {D : TypeDesc} {z : Value} {s n bb : Nat} {x y : Operand} {u v : Value} {k i o : Nat} {enc : α → List Value} {l : List α} {e e' : α} {us : List Value} (ht : TI P S D z n bb) (hx : ev E x = some (.pointer (some ⟨sblk v, soff v + i * s + o, none⟩))) (hy : ev E y = some u)
    (hus : u.cells.toList = us) (hs : us.length = n) (h1 : us.all (·.oneCell') = true) (hk : cget Γ k = some (own S' s enc v l)) (he : ∀ x, (enc x).length = s) (hi : l[i]? = some e) (ho : o + us.length ≤ s) (hx' : (enc e).take o ++ us ++ (enc e).drop (o + us.length) = enc e')
    : MS P N w0 M H E Γ R ⟨none, .store S x y, T, ps, af, none⟩ (X := Unit) (fun _ => True) (fun _ => undef) (fun _ => ((k, own S' s enc v (l.set i e')) :: Γ)) (fun _ => R) :=
  ms_store_gen ht hx hy hus hs h1 hk (own_put he hi ho hx')

theorem ms_store_all {S S' : TypeId} {D : TypeDesc} {z : Value} {s bb : Nat} {x y : Operand} {b : Nat} {k : Nat} {c us : List Value} (ht : TI P S D z s bb) (hx : ev E x = some (.pointer (some ⟨b, 0, none⟩))) (hy : ev E y = some (.agg us.toArray))
    (hs : us.length = s) (h1 : us.all (·.oneCell') = true) (hk : cget Γ k = some (row b S' c)) (hc : c.length = s)
    : MS P N w0 M H E Γ R ⟨none, .store S x y, T, ps, af, none⟩ (X := Unit) (fun _ => True) (fun _ => undef) (fun _ => ((k, row b S' us) :: Γ)) (fun _ => R) :=
  ms_store_row (us := us) ht hx hy (by simp [Value.cells]) hs h1 hk (by rw [hs, hc]; simp) (by rw [hs, ← hc]; simp)

theorem ms_call {dst : Option Nat} {n : Nat} {f : Operand} {xs : List Operand} {cap us vs : List Value} {at_ : Array TypeId} {L R0 : List Asn} {X : Type} {φ : X → Prop} {v : X → Value} {L' R' : X → List Asn} (hs : Spec P n vs L R0 φ v L' R') (hcb : Cb P n)
    (ks : List Nat) (rs : List (Bool × Nat)) (ns rns : List Nat) (hf : ev E f = some (.func (.func n) #[] cap.toArray)) (hx : evs E xs = some us) (hu : us ++ cap = vs)
    (hnd : ndB ks = true) (hL : cgets Γ ks = somes L) (hR : lgets Γ R rs = somes R0) (hl : lentOk ks rs = true) (hns : ndB ns = true) (hnl : ∀ x, φ x → ns.length = (L' x).length) (hrl : ∀ x, φ x → noneLent rs = true → rns.length = (R' x).length) :
    MS P N w0 M H E Γ R ⟨dst, .call { callee := .value f, args := xs.toArray, argTypes := at_ }, T, ps, af, none⟩ φ v (fun x => cputs ns (L' x) (ckill ks Γ)) (fun x => bif noneLent rs then cputs rns (R' x) R else R) := by
  intro a w hE hC next Q hnext
  unfold Oper.wp
  have hev := hE.evs hx
  have hrun : (execOp a.eval ⟨dst, .call { callee := .value f, args := xs.toArray, argTypes := at_ }, T, ps, af, none⟩).run P w = .ok (.enter n vs.toArray) w := by
    subst hu
    simp [execOp, resolve, hE.ev hf, Deferred.ofValue, invoke, hev, run_callFunc hcb]
  rw [hrun]
  refine (calls_use hs hC ks hnd hL rs hR hl ns hns hnl rns hrl).mono ?_
  rintro e w' ⟨x, h1, rfl, h2⟩
  exact hnext x w' h1 h2

end
end Go.Proofs.Ytdcbbkpdlcojfaa
namespace Go.Proofs.Ytdcbbkpdlcojfaa
set_option linter.unusedSimpArgs false
set_option linter.unusedVariables false
open Go.RowKit

def ivs : Nat → List Value → List (Nat × Value)
  | _, [] => []
  | k, v :: vs => (k, v) :: ivs (k + 1) vs
theorem foldl_put (o : Nat) : ∀ (l : List Value) (k : Nat) (cs : Array Value), o + k + l.length ≤ cs.size → (l.zipIdx k).foldl (fun cs (p : Value × Nat) => cs.setIfInBounds (o + p.2) p.1) cs = (cs.toList.take (o + k) ++ l ++ cs.toList.drop (o + k + l.length)).toArray
  | [], k, cs, hk => by simp
  | u :: l, k, cs, hk => by
    simp only [List.zipIdx_cons, List.foldl_cons]
    rw [foldl_put o l (k + 1) (cs.setIfInBounds (o + k) u) (by simp at hk ⊢; omega)]
    congr 1
    have hlt : o + k < cs.toList.length := by rw [Array.length_toList]; simp at hk; omega
    apply List.ext_getElem?
    intro j
    simp only [Array.toList_setIfInBounds, List.getElem?_append, List.getElem?_take, List.getElem?_drop, List.getElem?_set, List.length_append, List.length_take, List.length_set, List.length_cons, Array.length_toList]
    have hlt' : o + k < cs.size := by simpa using hlt
    have e1 : min (o + (k + 1)) cs.size = o + k + 1 := by omega
    have e2 : min (o + k) cs.size = o + k := by omega
    simp only [e1, e2]
    by_cases h1 : j < o + k
    · simp [h1, show j < o + k + 1 by omega, show j < o + (k + 1) by omega, show ¬ o + k = j by omega, show j < o + k + (l.length + 1) by omega, show j < o + k + 1 + l.length by omega]
    · by_cases h2 : j = o + k
      · subst h2
        simp [hlt', show o + k < o + (k + 1) by omega, show o + k < o + k + 1 + l.length by omega]
      · simp only [show ¬ j < o + k + 1 by omega, h1, if_false]
        by_cases h3 : j < o + k + 1 + l.length
        · simp only [h3, show j < o + k + (l.length + 1) by omega, if_true]
          rw [show j - (o + k) = (j - (o + k + 1)) + 1 by omega]
          simp
        · simp only [h3, show ¬ j < o + k + (l.length + 1) by omega, if_false]
          rw [if_neg (by omega)]
          congr 1
          omega
theorem fill_all {s : Nat} : ∀ (vs : List Value) (k : Nat) (cs : Array Value), (∀ v ∈ vs, v.cells.size = s) → k * s + vs.length * s = cs.size →
    Instr.fill (fun i => some (i * s, s)) cs (ivs k vs) = some (cs.toList.take (k * s) ++ vs.flatMap (·.cells.toList)).toArray
  | [], k, cs, _, hk => by
    simp at hk
    simp only [ivs, Instr.fill, List.flatMap_nil, List.append_nil, hk]
    rw [List.take_of_length_le (by simp)]
  | v :: vs, k, cs, hv, hk => by
    have hs : v.cells.size = s := hv v (by simp)
    have hk2 : (k + 1) * s + vs.length * s = cs.size := by rw [List.length_cons] at hk; rw [← hk, Nat.add_mul, Nat.add_mul]; omega
    have hle : k * s + s ≤ cs.size := by rw [Nat.add_mul] at hk2; omega
    simp only [ivs, Instr.fill]
    rw [if_neg (by simp [hs]; omega)]
    have hf := foldl_put (k * s) v.cells.toList 0 cs (by simp [hs]; omega)
    simp only [Nat.add_zero, Array.length_toList, hs] at hf
    rw [← Array.foldl_toList, Array.toList_zipIdx]
    have e : (fun cs (x : Value × Nat) => match x with | (c, j) => cs.setIfInBounds (k * s + j) c) = (fun (cs : Array Value) (p : Value × Nat) => cs.setIfInBounds (k * s + p.2) p.1) := rfl
    rw [hf]
    have hsz : (cs.toList.take (k * s) ++ v.cells.toList ++ cs.toList.drop (k * s + s)).toArray.size = cs.size := by
      simp [hs]
      omega
    rw [fill_all vs (k + 1) _ (fun u hu => hv u (by simp [hu])) (by rw [hsz]; exact hk2)]
    simp only [List.flatMap_cons]
    congr 2
    rw [← List.append_assoc]
    congr 1
    rw [show (k + 1) * s = k * s + s by rw [Nat.add_mul]; omega]
    have h1 : (cs.toList.take (k * s)).length = k * s := by rw [List.length_take]; simp; omega
    have h2 : (cs.toList.take (k * s) ++ v.cells.toList).length = k * s + s := by rw [List.length_append, h1]; simp [hs]
    rw [List.take_append_of_le_length (by rw [h2]; exact Nat.le_refl _), List.take_of_length_le (by rw [h2]; exact Nat.le_refl _)]

theorem own_to_sl {α : Type} {T : TypeId} {s : Nat} {enc : α → List Value} {v : Value} {l : List α} : ∀ (w : World) (G : Nat → Prop), (own T s enc v l).pred w G → (sl s enc v l).pred w G := fun _ _ h => own_sl h

section
variable {P : Program} {N : Nat} {w0 : World} {M H : Nat → Prop} {E : Env} {Γ R : Ctx} {Q : Exit → Act → World → Prop}
variable {ops : Array Oper} {rest : List Oper} {T : TypeId} {ps : String} {af : Array Edge} {d : Nat} {op : Op}

/-- A slice of n elements, written out in order. -/
theorem ms_bslice {α : Type} {S U n : Nat} {D : TypeDesc} {z : Value} {s bb : Nat} (enc : α → List Value) (es : List α) {parts : List (Nat × Operand)} {pvs : List (Nat × Value)} (hS : P.underlying S = some (.slice U)) (hU : TI P U D z s bb) (hs : z.cells.size = s) (hs0 : 0 < s) (he : ∀ x, (enc x).length = s) (hn : es.length = n) (hn0 : 0 < n) (hsb : n * s ≤ 1000000)
    (hx : evps E parts = some pvs) (hi : ivs 0 (pvs.map (·.2)) = pvs) (hv : (pvs.map (·.2)).map (·.cells.toList) = es.map enc) : MS P N w0 M H E Γ R ⟨some d, .buildSlice S n parts.toArray, T, ps, af, none⟩ (X := SV) (fun _ => True) (fun v' => sv v') (fun v' => (d, own U s enc (sv v') es) :: Γ) (fun _ => R) := by
  obtain ⟨vs, hvs0⟩ : ∃ vs, pvs.map (·.2) = vs := ⟨_, rfl⟩
  rw [hvs0] at hi hv
  subst hi
  clear hvs0
  have hlen : vs.length = n := by rw [← hn]; have := congrArg List.length hv; simpa using this
  have hvs : ∀ v ∈ vs, v.cells.size = s := by
    intro v hm
    have : v.cells.toList ∈ es.map enc := by rw [← hv]; exact List.mem_map.2 ⟨v, hm, rfl⟩
    obtain ⟨x, _, hx⟩ := List.mem_map.1 this
    have h1 := congrArg List.length hx
    rw [he] at h1
    simpa using h1.symm
  have hfm : vs.flatMap (·.cells.toList) = es.flatMap enc := by
    rw [List.flatMap_def, List.flatMap_def, hv]
  refine ms_gen fun a w hE hC => ⟨⟨some ⟨w.heap.size, 0, none⟩, n, n⟩, w.alloc (.cells (vs.flatMap (·.cells.toList)).toArray U), trivial, ?_, ?_⟩
  · have hev := hE.evps hx
    have hfill := fill_all (s := s) vs 0 ((Array.range (n * s)).map (z.cells[· % z.cells.size]!)) hvs (by simp [hlen])
    simp only [Nat.zero_mul, List.take_zero, List.nil_append] at hfill
    have hns : ¬ n * s = 0 := by
      have := Nat.mul_pos hn0 hs0
      omega
    have hb : ¬ 16777216 < n * s := by omega
    have hns1 : ¬ (n = 0 ∨ s = 0) := by omega
    simp [execOp, Instr.buildSlice, run_underlying hS, hU.sizeOf, hU.zero, newRow, hb, hev, hfill, hns1, sv]
    intro h0
    exact absurd h0 hns
  · subst hn
    refine hC.new (Touch.alloc _ _ _) ⟨_, own_new (S := U) (s := s) (enc := enc) (l := es) (cap := es.length) (flatMap_len he es) (by rw [hfm]; simp [flatMap_len he]) (Nat.le_refl _) (by unfold maxLen; have : es.length * 1 ≤ es.length * s := Nat.mul_le_mul_left _ hs0; omega) (by rw [hfm]; exact List.take_of_length_le (by simp [flatMap_len he])), fun b hb => by subst hb; simp⟩
theorem r_bslice {α : Type} {S U n : Nat} {D : TypeDesc} {z : Value} {s bb : Nat} (enc : α → List Value) (es : List α) {parts : List (Nat × Operand)} {pvs : List (Nat × Value)} (hS : P.underlying S = some (.slice U)) (hU : TI P U D z s bb) (hs : z.cells.size = s) (hs0 : 0 < s) (he : ∀ x, (enc x).length = s) (hn : es.length = n) (hn0 : 0 < n) (hsb : n * s ≤ 1000000)
    (hx : evps E parts = some pvs) (hi : ivs 0 (pvs.map (·.2)) = pvs) (hv : (pvs.map (·.2)).map (·.cells.toList) = es.map enc) (hd : Nat.blt d N = true) (k : ∀ v' : SV, At N w0 M H ((d, sv v') :: E) ((d, own U s enc (sv v') es) :: Γ) R (wpList P ops Q rest)) : At N w0 M H E Γ R (wpList P ops Q (⟨some d, .buildSlice S n parts.toArray, T, ps, af, none⟩ :: rest)) :=
  r_ms (ms_bslice enc es hS hU hs hs0 he hn hn0 hsb hx hi hv) hd fun v' _ => k v'

theorem r_split {Rel : Act → World → Prop} {t : Nat} {b : Bool} (ht : eget E t = some (.bool b)) (h1 : b = true → At N w0 M H ((t, .bool true) :: E) Γ R Rel) (h2 : b = false → At N w0 M H ((t, .bool false) :: E) Γ R Rel) : At N w0 M H E Γ R Rel := by
  have key : ∀ c, b = c → At N w0 M H ((t, .bool c) :: E) Γ R Rel → At N w0 M H E Γ R Rel := by
    rintro c rfl h
    refine h.weak (fun a hE => ⟨hE.defers, hE.size, fun s v hv => ?_⟩) fun _ h => h
    simp only [eget] at hv
    cases hb : Nat.beq t s with
    | true =>
      rw [hb] at hv
      rw [← Nat.eq_of_beq_eq_true hb]
      simp at hv
      subst hv
      exact hE.slot t _ ht
    | false => rw [hb] at hv; exact hE.slot s v hv
  cases hb : b with
  | true => exact key true hb (h1 hb)
  | false => exact key false hb (h2 hb)
theorem r_gyes {l : List Oper} {dst : Option Tmp} {i t : Nat} {c : Bool} (hi : gslot l i = some t) (ht : eget E t = some (.bool c)) (h : At N w0 M H E Γ R (wpList P l.toArray Q (⟨dst, op, T, ps, af, none⟩ :: rest))) :
    At N w0 M H E Γ R (wpList P l.toArray Q (⟨dst, op, T, ps, af, some (i, c)⟩ :: rest)) := by
  intro a w hE hC
  have hyd := hE.yield hi ht
  have := h a w hE hC
  unfold wpList at this ⊢
  rw [if_pos (by simp [Region.wanted])] at this
  rw [if_pos (by simp [Region.wanted, hyd])]
  exact this
theorem r_gno {l : List Oper} {i t : Nat} {c b : Bool} (hi : gslot l i = some t) (ht : eget E t = some (.bool b)) (hb : b = !c) (hd : Nat.blt d N = true) (h : At N w0 M H ((d, undef) :: E) Γ R (wpList P l.toArray Q rest)) :
    At N w0 M H E Γ R (wpList P l.toArray Q (⟨some d, op, T, ps, af, some (i, c)⟩ :: rest)) := by
  intro a w hE hC
  have hyd := hE.yield hi ht
  subst hb
  unfold wpList
  rw [if_neg (by simp [Region.wanted, hyd])]
  exact h _ _ (hE.put hd undef) hC
theorem r_gno0 {l : List Oper} {i t : Nat} {c b : Bool} (hi : gslot l i = some t) (ht : eget E t = some (.bool b)) (hb : b = !c) (h : At N w0 M H E Γ R (wpList P l.toArray Q rest)) :
    At N w0 M H E Γ R (wpList P l.toArray Q (⟨none, op, T, ps, af, some (i, c)⟩ :: rest)) := by
  intro a w hE hC
  have hyd := hE.yield hi ht
  subst hb
  unfold wpList
  rw [if_neg (by simp [Region.wanted, hyd])]
  exact h _ _ hE hC
end
end Go.Proofs.Ytdcbbkpdlcojfaa
namespace Go.Proofs.Ytdcbbkpdlcojfaa
set_option linter.unusedSimpArgs false
set_option linter.unusedVariables false
open Go.RowKit

section
variable {P : Program} {N : Nat} {w0 : World} {M H : Nat → Prop} {E : Env} {Γ R : Ctx} {Q : Exit → Act → World → Prop}
variable {ops : Array Oper} {rest : List Oper} {T : TypeId} {ps : String} {af : Array Edge} {d : Nat} {op : Op}

theorem getD_get {α : Type} {xs : List α} {j : Nat} (d : α) (h : j < xs.length) : xs[j]? = some (xs.getD j d) := by
  rw [List.getD_eq_getElem?_getD, List.getElem?_eq_getElem h]; rfl
theorem ms_store_el {α : Type} {S S' : TypeId} {D : TypeDesc} {z : Value} {s bb : Nat} {x y : Operand} {u v : Value} {k i : Nat} {enc : α → List Value} {l : List α} {e e' : α} (ht : TI P S D z s bb) (hx : ev E x = some (.pointer (some ⟨sblk v, soff v + i * s, none⟩))) (hy : ev E y = some u)
    (hk : cget Γ k = some (own S' s enc v l)) (he : ∀ x, (enc x).length = s) (hi : l[i]? = some e) (hus : u.cells.toList = enc e') (h1 : (enc e').all (·.oneCell') = true)
    : MS P N w0 M H E Γ R ⟨none, .store S x y, T, ps, af, none⟩ (X := Unit) (fun _ => True) (fun _ => undef) (fun _ => (k, own S' s enc v (l.set i e')) :: Γ) (fun _ => R) :=
  ms_store_own (o := 0) (us := enc e') ht hx hy hus (he e') h1 hk he hi (by rw [he]; omega) (by
    have h1 := he e
    have h2 := he e'
    simp [h2, ← h1])
theorem r_ms0 {X : Type} {φ : X → Prop} {v : X → Value} {Γ' R' : X → Ctx} {ops : Array Oper} {rest : List Oper} {T : TypeId} {ps : String} {af : Array Edge} {op : Op} (h : MS P N w0 M H E Γ R ⟨none, op, T, ps, af, none⟩ φ v Γ' R')
    (k : ∀ x, φ x → At N w0 M H E (Γ' x) (R' x) (wpList P ops Q rest)) : At N w0 M H E Γ R (wpList P ops Q (⟨none, op, T, ps, af, none⟩ :: rest)) := by
  intro a w hE hC
  unfold wpList
  rw [if_pos (by simp [Region.wanted])]
  left
  exact h a w hE hC _ _ fun x w' h1 h2 => k x h1 _ _ hE h2
theorem r_store_el {α : Type} {S S' : TypeId} {D : TypeDesc} {z : Value} {s bb : Nat} {x y : Operand} {u v : Value} {k i : Nat} {enc : α → List Value} {l : List α} {e e' : α} (ht : TI P S D z s bb) (hx : ev E x = some (.pointer (some ⟨sblk v, soff v + i * s, none⟩))) (hy : ev E y = some u)
    (hk : cget Γ k = some (own S' s enc v l)) (he : ∀ x, (enc x).length = s) (hi : l[i]? = some e) (hus : u.cells.toList = enc e') (h1 : (enc e').all (·.oneCell') = true)
    (kk : At N w0 M H E ((k, own S' s enc v (l.set i e')) :: Γ) R (wpList P ops Q rest)) : At N w0 M H E Γ R (wpList P ops Q (⟨none, .store S x y, T, ps, af, none⟩ :: rest)) :=
  r_ms0 (ms_store_el ht hx hy hk he hi hus h1) fun _ _ => kk

theorem pick_t {b : Bool} {u v : Value} (hb : b = true) : (bif b then u else v) = u := by rw [hb]; rfl
theorem pick_f {b : Bool} {u v : Value} (hb : b = false) : (bif b then u else v) = v := by rw [hb]; rfl
theorem prig_y {l : List Oper} {V : Vals} {i d gi t : Nat} {c b : Bool} {v : Value} {op : Op} {T : TypeId} {ps : String} {af : Array Edge} (ho : l[i]? = some ⟨some d, op, T, ps, af, some (gi, c)⟩) (hi : gslot l gi = some t) (ht : eget (vpre (preds ⟨some d, op, T, ps, af, some (gi, c)⟩) V ++ E) t = some (.bool b)) (hb : b = c)
    (h : PR P N w0 M H (vpre (preds ⟨some d, op, T, ps, af, some (gi, c)⟩) V ++ E) Γ R op v) : PRi P N w0 M H E Γ R l V i d v :=
  ⟨_, ho, rfl, fun a w hE hC => .inl ⟨by simp [Region.wanted, hE.yield hi ht, hb], h T ps af a w hE hC _ _⟩⟩
theorem prig_n {l : List Oper} {V : Vals} {i d gi t : Nat} {c b : Bool} {op : Op} {T : TypeId} {ps : String} {af : Array Edge} (ho : l[i]? = some ⟨some d, op, T, ps, af, some (gi, c)⟩) (hi : gslot l gi = some t) (ht : eget (vpre (preds ⟨some d, op, T, ps, af, some (gi, c)⟩) V ++ E) t = some (.bool b)) (hb : b = !c) :
    PRi P N w0 M H E Γ R l V i d undef :=
  ⟨_, ho, rfl, fun a w hE hC => .inr ⟨by subst hb; cases c <;> simp [Region.wanted, hE.yield hi ht], rfl⟩⟩

/-- A changing operation under a guard that holds. -/
theorem stg_memg {l : List Oper} {V : Vals} {C : List Nat} (is : List Nat) {I : Vals} (c : Nat) (C' Jx : List Nat) {X : Type} {φ : X → Prop} {v : X → Value} {Γ' R' : X → Ctx} {d gi t : Nat} {cc b : Bool} {op : Op} {T : TypeId} {ps : String} {af : Array Edge} (J' : X → Vals) (hI0 : vpick is V = I) (hst : stOk N E V = true) (hI : PRs P N w0 M H E Γ R l V I) (hcov : covOk V is C = true)
    (hcls : clsOk l (vidx V ++ C) (some c) = true) (ho : l[c]? = some ⟨some d, op, T, ps, af, some (gi, cc)⟩) (hgi : gslot l gi = some t) (hgt : eget (vpre (preds ⟨some d, op, T, ps, af, some (gi, cc)⟩) V ++ E) t = some (.bool b)) (hb : b = cc) (hd : Nat.blt d N = true) (hdE : eget E d = none) (hdV : inB (vslots V) d = false) (hcV : inB (vidx V ++ C) c = false)
    (hcl : clOk l C c [] C' = true) (hCC0 : C.all (inB C') = true) (hJ : ∀ x, φ x → vidx (J' x) = Jx) (hJx : Jx.all (fun j => !(inB (vidx V ++ C) j) && !(Nat.beq j c)) = true) (hms : MS P N w0 M H (vpre (preds ⟨some d, op, T, ps, af, some (gi, cc)⟩) V ++ E) Γ R ⟨some d, op, T, ps, af, none⟩ φ v Γ' R')
    (k : ∀ x, φ x → Stg P N w0 M H E (Γ' x) (R' x) l Q (J' x ++ (c, d, v x) :: V) C') : Stg P N w0 M H E Γ R l Q V C := by
  have hCC : ∀ j ∈ C, j ∈ C' := fun j hj => inB_mem (List.all_eq_true.1 hCC0 j hj)
  refine stg_step is hI0 hst hI hcov (some c) hcls (fun D a w hD hS => ?_) fun k' hk' ord D a w o' hio hDk hpr hrest hS => ?_
  · have := hS.done c (hD c (List.getElem?_eq_some_iff.1 ho).1)
    rw [mem_inB this] at hcV
    cases hcV
  · injection hk' with hk'
    subst hk'
    rw [ho] at hio
    injection hio with hio
    subst hio
    have ho' : l.toArray[c]? = some ⟨some d, op, T, ps, af, some (gi, cc)⟩ := by simpa using ho
    simp only [wpOps, ho']
    have hEp : EOk N (vpre (preds ⟨some d, op, T, ps, af, some (gi, cc)⟩) V ++ E) a := hS.base.vpre fun j d v hj hjp => hS.vals j d v hj (hpr j hjp)
    rw [if_pos (by simp [Region.wanted, hEp.yield hgi hgt, hb])]
    left
    have hlt : d < a.tmps.size := Nat.lt_of_lt_of_le (by simpa using hd) hS.base.size
    refine hms a w hEp hS.ok _ _ fun x w' hφ hC' => ?_
    show wpOps P l.toArray Q ord (a.put (some d) (v x)) w'
    have hclosed : ∀ (j : Nat) (o' : Oper), l[j]? = some o' → (bif Nat.beq j c then true else D j) = true → ∀ k ∈ preds o', (bif Nat.beq k c then true else D k) = true := by
      intro j o' hoj hj q hq
      cases hb : Nat.beq j c with
      | true =>
        have := Nat.eq_of_beq_eq_true hb
        subst this
        rw [ho] at hoj
        injection hoj with hoj
        subst hoj
        simp [hpr q hq]
      | false => rw [hb] at hj; simp [hS.closed j o' hoj hj q hq]
    refine k x hφ ord _ _ w' hrest ⟨fun j hj => ?_, clOk_done (fun i hi => by simp [hS.sure i hi]) (by simp) hclosed C' [] hcl (fun s hs => by simp at hs), hclosed, ⟨hS.base.defers, by simpa [Act.put] using hS.base.size, fun t u ht => ?_⟩, fun j e u hj hjD => ?_, hC'⟩
    · rw [vidx_app]
      show j ∈ vidx (J' x) ++ (c :: vidx V) ++ C'
      cases hb : Nat.beq j c with
      | true => rw [Nat.eq_of_beq_eq_true hb]; simp
      | false =>
        rw [hb] at hj
        rcases List.mem_append.1 (hS.done j hj) with h | h
        · simp [h]
        · have := hCC j h
          simp [this]
    · simp only [Act.put, Array.getElem?_setIfInBounds]
      have hne : d ≠ t := fun e => by subst e; rw [hdE] at ht; cases ht
      rw [if_neg hne]
      exact hS.base.slot t u ht
    · simp only [Act.put, Array.getElem?_setIfInBounds]
      rcases List.mem_append.1 hj with hj | hj
      · exfalso
        have hjx : j ∈ Jx := by rw [← hJ x hφ]; exact vidx_mem.2 ⟨e, u, hj⟩
        have h6 := List.all_eq_true.1 hJx j hjx
        simp only [Bool.and_eq_true, Bool.not_eq_true'] at h6
        rw [h6.2] at hjD
        have := mem_inB (hS.done j hjD)
        rw [this] at h6
        simp at h6
      · rcases List.mem_cons.1 hj with e' | e'
        · cases e'
          simp [hlt]
        · have hne : d ≠ e := fun h => by
            subst h
            rw [mem_inB (vslots_mem e')] at hdV
            cases hdV
          rw [if_neg hne]
          cases hb : Nat.beq j c with
          | true =>
            have := Nat.eq_of_beq_eq_true hb
            subst this
            rw [mem_inB (List.mem_append_left _ (vidx_mem.2 ⟨e, u, e'⟩))] at hcV
            cases hcV
          | false => rw [hb] at hjD; exact hS.vals j e u e' hjD
end
end Go.Proofs.Ytdcbbkpdlcojfaa
namespace Go.Proofs.Ytdcbbkpdlcojfaa
set_option linter.unusedSimpArgs false
set_option linter.unusedVariables false
open Go.RowKit

section
variable {P : Program} {N : Nat} {w0 : World} {M H : Nat → Prop} {E : Env} {Γ R : Ctx} {Q : Exit → Act → World → Prop}
variable {ops : Array Oper} {rest : List Oper} {T : TypeId} {ps : String} {af : Array Edge} {d : Nat} {op : Op}

theorem ms_make0 {α : Type} {S U : TypeId} {D : TypeDesc} {z : Value} {s bb c : Nat} (enc : α → List Value) {x y : Operand} {k k' : IntKind} {i : Int} (hS : P.underlying S = some (.slice U)) (hU : TI P U D z s bb) (hx : ev E x = some (.int k 0)) (hy : ev E y = some (.int k' i)) (hi : i = (c : Int)) (hc : bb * c ≤ 281474976710656) (hc2 : c ≤ maxLen) :
    MS P N w0 M H E Γ R ⟨some d, .makeSlice S x y, T, ps, af, none⟩ (X := SV) (fun _ => True) (fun v' => sv v') (fun v' => (d, own U s enc (sv v') []) :: Γ) (fun _ => R) := by
  subst hi
  refine ms_gen fun a w hE hC => ?_
  obtain ⟨i, i1, i2, i3, i4⟩ := hU.info
  obtain ⟨w', hr, ho, hg⟩ := run_make_own (P := P) w 0 S U i z s hS i1 i2 i3 k k' c (by rw [i4]; exact hc) hc2 (Nat.zero_le _)
  refine ⟨⟨some ⟨w.heap.size, 0, none⟩, 0, c⟩, w', trivial, by simp [execOp, hE.ev hx, hE.ev hy, hr, sv], ?_⟩
  refine hC.new ⟨hg.os, hg.tape, hg.output, hg.size, fun k hk _ => hg.block k hk (by simp)⟩ ⟨fun b => b = w.heap.size, ⟨fun x => by simp [sv, Value.ownBlock, eq_comm], ho⟩, fun b hb => ?_⟩
  subst hb
  exact ⟨(ho.lt _ rfl).2, Nat.le_refl _⟩
theorem r_make0 {α : Type} {S U : TypeId} {D : TypeDesc} {z : Value} {s bb c : Nat} (enc : α → List Value) {x y : Operand} {k k' : IntKind} {i : Int} (hS : P.underlying S = some (.slice U)) (hU : TI P U D z s bb) (hx : ev E x = some (.int k 0)) (hy : ev E y = some (.int k' i)) (hi : i = (c : Int)) (hc : bb * c ≤ 281474976710656) (hc2 : c ≤ maxLen) (hd : Nat.blt d N = true)
    (kk : ∀ v' : SV, At N w0 M H ((d, sv v') :: E) ((d, own U s enc (sv v') []) :: Γ) R (wpList P ops Q rest)) : At N w0 M H E Γ R (wpList P ops Q (⟨some d, .makeSlice S x y, T, ps, af, none⟩ :: rest)) :=
  r_ms (ms_make0 enc hS hU hx hy hi hc hc2) hd fun v' _ => kk v'

theorem map_congr28 {n : Nat} {f g : Nat → Value} (h : ∀ i, i < n → f i = g i) : (List.range n).map f = (List.range n).map g := List.map_congr_left fun i hi => h i (by simpa using hi)
theorem arr_fg {b T n : Nat} {f g : Nat → Value} (h : ∀ i, i < n → f i = g i) : ∀ (w : World) (G : Nat → Prop), (arr b T n f).pred w G → (arr b T n g).pred w G := fun w G hh => ⟨hh.1, hh.2.congr h⟩

/-- The first j elements of a slice, for reading. -/
theorem ms_slice_hi {α : Type} {S U : TypeId} {D : TypeDesc} {z : Value} {s bb j : Nat} {enc : α → List Value} {x y : Operand} {k : IntKind} {i : Int} {v : Value} {l : List α} (r m : Nat) (hS : P.underlying S = some (.slice U)) (hU : TI P U D z s bb) (he : ∀ x, (enc x).length = s) (hx : ev E x = some v) (hy : ev E y = some (.int k i)) (hi : i = (j : Int)) (hj : j ≤ l.length) (hr : cget R r = some (sl s enc v l)) :
    MS P N w0 M H E Γ R ⟨some d, .slice S x none (some y) none, T, ps, af, none⟩ (X := SV) (fun _ => True) (fun v' => sv v') (fun _ => Γ) (fun v' => (m, sl s enc (sv v') (l.take j)) :: R) := by
  subst hi
  refine ms_gen fun a w hE hC => ?_
  obtain ⟨G, ⟨c, h1, h2, h3⟩, _⟩ := hC.reads (.inr hr)
  rcases h3 with ⟨rfl, _, rfl⟩ | ⟨b, o, rfl, hb, hc⟩
  · have hj0 : j = 0 := by simpa using hj
    subst hj0
    refine ⟨nilS, w, trivial, ?_, ?_⟩
    · simp [execOp, hE.ev hx, hE.ev hy, Instr.sliceAt, Instr.slice, run_underlying hS, Instr.sliceBounds, Instr.sliceBound, asIntOf, hU.sizeOf, sv, nilS]
    · simpa [sv, nilS] using hC.nil (r := m) (s := s) (enc := enc)
  · refine ⟨⟨some ⟨b, o, none⟩, j, c⟩, w, trivial, ?_, ?_⟩
    · have hjc : (j : Int) ≤ c := by omega
      simp [execOp, hE.ev hx, hE.ev hy, Instr.sliceAt, Instr.slice, run_underlying hS, Instr.sliceBounds, Instr.sliceBound, asIntOf, hU.sizeOf, sv, hjc, add_lit']
      intro h
      omega
    · refine hC.more (k := r) hr fun G hG hlt => ?_
      obtain ⟨c', h1', h2', h3'⟩ := hG
      rcases h3' with ⟨_, _, hv⟩ | ⟨b', o', hv, hb', hc'⟩
      · simp at hv
      · simp only [Value.slice.injEq, Option.some.injEq, Addr.mk.injEq, and_true, true_and] at hv
        obtain ⟨⟨rfl, rfl⟩, rfl⟩ := hv
        refine ⟨G, ⟨c, by rw [List.length_take]; omega, h2, .inr ⟨b, o, by simp [sv, Nat.min_eq_left hj], hb', fun q u hq => hc' q u ?_⟩⟩, fun b hb => hb⟩
        have hp : ∀ (l : List α) (j q : Nat) (u : Value), ((l.take j).flatMap enc)[q]? = some u → (l.flatMap enc)[q]? = some u := by
          intro l j q u hq
          have : l.flatMap enc = (l.take j).flatMap enc ++ (l.drop j).flatMap enc := by rw [← List.flatMap_append, List.take_append_drop]
          rw [this, List.getElem?_append_left (List.getElem?_eq_some_iff.1 hq).1]
          exact hq
        exact hp l j q u hq
theorem r_slice_hi {α : Type} {S U : TypeId} {D : TypeDesc} {z : Value} {s bb j : Nat} {enc : α → List Value} {x y : Operand} {k : IntKind} {i : Int} {v : Value} {l : List α} (r m : Nat) (hS : P.underlying S = some (.slice U)) (hU : TI P U D z s bb) (he : ∀ x, (enc x).length = s) (hx : ev E x = some v) (hy : ev E y = some (.int k i)) (hi : i = (j : Int)) (hj : j ≤ l.length) (hr : cget R r = some (sl s enc v l)) (hd : Nat.blt d N = true)
    (kk : ∀ v' : SV, At N w0 M H ((d, sv v') :: E) Γ ((m, sl s enc (sv v') (l.take j)) :: R) (wpList P ops Q rest)) : At N w0 M H E Γ R (wpList P ops Q (⟨some d, .slice S x none (some y) none, T, ps, af, none⟩ :: rest)) :=
  r_ms (ms_slice_hi r m hS hU he hx hy hi hj hr) hd fun v' _ => kk v'
end
end Go.Proofs.Ytdcbbkpdlcojfaa
namespace Go.Proofs.Ytdcbbkpdlcojfaa
set_option linter.unusedSimpArgs false
set_option linter.unusedVariables false
open Go.RowKit

theorem TI.cellsOf {P : Program} {T : TypeId} {D : TypeDesc} {z : Value} {s b : Nat} (h : TI P T D z s b) : P.cellsOf T = s := by
  obtain ⟨i, h1, h2, h3, h4⟩ := h.info
  simp [Program.cellsOf, h1, h3]
theorem eqItems_int {P : Program} {U : TypeId} {k : IntKind} {z : Value} {bb d : Nat} (hU : TI P U (.int k) z 1 bb) {f g : Nat → Int} {xs ys : Array Value} (w : World) : ∀ (js : List Nat), (∀ j ∈ js, xs[j]? = some (.int k (f j)) ∧ ys[j]? = some (.int k (g j))) →
    (Op.eqItems (d + 1) U 1 xs ys js).run P w = .ok (js.all fun j => decide (f j = g j)) w
  | [], _ => by simp [Op.eqItems]
  | j :: js, h => by
    have h1 := (h j (by simp)).1
    have h2 := (h j (by simp)).2
    have e1 := run_part1 (o := j) (cs := xs) hU rfl h1 w
    have e2 := run_part1 (o := j) (cs := ys) hU rfl h2 w
    have e3 := run_equalIn_int (P := P) w d U k k (f j) (g j) hU.und
    have ih := eqItems_int hU (d := d) w js fun i hi => h i (by simp [hi])
    simp only [Op.eqItems, Sem.run_bind, Nat.mul_one, e1, e2, e3, Result.andThen_ok, List.all_cons]
    by_cases he : f j = g j
    · simp [he, ih]
    · simp [he]
theorem b_eqA {P : Program} {S U : TypeId} {k : IntKind} {z : Value} {n bb : Nat} {f g : Nat → Int} (hS : P.underlying S = some (.array n U)) (hU : TI P U (.int k) z 1 bb) (hq : P.eqGuardType P.depth S = false) :
    BinRun P .eql S (.agg ((List.range n).map fun i => .int k (f i)).toArray) (.agg ((List.range n).map fun i => .int k (g i)).toArray) (.bool ((List.range n).all fun j => decide (f j = g j))) := fun x y w => by
  obtain ⟨i, h1, h2, h3, h4⟩ := hU.info
  simp only [Sem.run_bind, run_eqGuard_agg w .eql S x y _ _ hq, Result.andThen_ok, run_eql_struct]
  rw [run_equalIn_array w 9999 _ _ hS h1, hU.cellsOf, eqItems_int (d := 9998) (f := f) (g := g) hU w]
  · simp
  · intro j hj
    have hj' : j < n := by simpa using hj
    simp [hj']

section
variable {P : Program} {N : Nat} {w0 : World} {M H : Nat → Prop} {E : Env} {Γ R : Ctx}
/-- In a drawn region, an operation under a guard that may or may not hold. -/
theorem prig_s {l : List Oper} {V : Vals} {i d gi t : Nat} {c b : Bool} {v : Value} {op : Op} {T : TypeId} {ps : String} {af : Array Edge} (Eg : Env) (ho : l[i]? = some ⟨some d, op, T, ps, af, some (gi, c)⟩) (hi : gslot l gi = some t) (ht : eget (vpre (preds ⟨some d, op, T, ps, af, some (gi, c)⟩) V ++ E) t = some (.bool b))
    (hgs : GS (vpre (preds ⟨some d, op, T, ps, af, some (gi, c)⟩) V ++ E) (gb c b) Eg) (h : gb c b = true → PR P N w0 M H (Eg ++ (vpre (preds ⟨some d, op, T, ps, af, some (gi, c)⟩) V ++ E)) Γ R op v) : PRi P N w0 M H E Γ R l V i d (gv (gb c b) v) :=
  ⟨_, ho, rfl, fun a w hE hC => by
    have hyd := hE.yield hi ht
    cases hg : gb c b with
    | true =>
      have hbc : b = c := by cases b <;> cases c <;> simp_all [gb]
      exact .inl ⟨by simp [Region.wanted, hyd, hbc], h hg _ _ _ a w (hE.gs hg hgs) hC _ _⟩
    | false =>
      have hbc : b ≠ c := by cases b <;> cases c <;> simp_all [gb]
      exact .inr ⟨by simp [Region.wanted, hyd, hbc], rfl⟩⟩
theorem eget_app {A B : Env} {s : Nat} {v : Value} : eget (A ++ B) s = some v → eget A s = some v ∨ eget B s = some v := by
  induction A with
  | nil => intro h; exact .inr h
  | cons p A ih =>
    intro h
    obtain ⟨j, u⟩ := p
    simp only [List.cons_append, eget] at h ⊢
    cases hb : Nat.beq j s with
    | true => rw [hb] at h; exact .inl (by simpa using h)
    | false => rw [hb] at h; simpa using ih h
theorem eget_left {A B : Env} {s : Nat} {v : Value} : eget A s = some v → eget (A ++ B) s = some v := by
  induction A with
  | nil => intro h; cases h
  | cons p A ih =>
    intro h
    obtain ⟨j, u⟩ := p
    simp only [List.cons_append, eget] at h ⊢
    cases hb : Nat.beq j s with
    | true => rw [hb] at h; simpa using h
    | false => rw [hb] at h; simpa using ih h
theorem prig_s2 {l : List Oper} {V : Vals} {i d gi t : Nat} {c b g : Bool} {v : Value} {op : Op} {T : TypeId} {ps : String} {af : Array Edge} (Eg E2 : Env) (ho : l[i]? = some ⟨some d, op, T, ps, af, some (gi, c)⟩) (hi : gslot l gi = some t) (ht : eget (vpre (preds ⟨some d, op, T, ps, af, some (gi, c)⟩) V ++ E) t = some (gv g (.bool b)))
    (hgs : GS (vpre (preds ⟨some d, op, T, ps, af, some (gi, c)⟩) V ++ E) (g && gb c b) Eg) (hgs2 : GS (vpre (preds ⟨some d, op, T, ps, af, some (gi, c)⟩) V ++ E) g E2) (h : g = true → gb c b = true → PR P N w0 M H (E2 ++ (Eg ++ (vpre (preds ⟨some d, op, T, ps, af, some (gi, c)⟩) V ++ E))) Γ R op v) :
    PRi P N w0 M H E Γ R l V i d (gv (g && gb c b) v) :=
  ⟨_, ho, rfl, fun a w hE hC => by
    have hyd : yielded l.toArray a.tmps gi = bif g then some b else none := by
      unfold yielded
      have : (l.toArray[gi]?).bind (·.dst) = some t := by simpa [gslot] using hi
      rw [this]
      cases g <;> simp [hE.slot t _ ht, gv, undef]
    cases hg : (g && gb c b) with
    | true =>
      have hg1 : g = true ∧ gb c b = true := by simpa using hg
      have hbc : b = c := by have := hg1.2; cases b <;> cases c <;> simp_all [gb]
      have h1 := hE.gs hg hgs
      have h2 := hE.gs hg1.1 hgs2
      refine .inl ⟨by simp [Region.wanted, hyd, hg1.1, hbc], h hg1.1 hg1.2 _ _ _ a w ⟨hE.defers, hE.size, fun s v hv => ?_⟩ hC _ _⟩
      rcases eget_app hv with h3 | h3
      · exact h2.slot s v (eget_left h3)
      · exact h1.slot s v h3
    | false =>
      refine .inr ⟨?_, rfl⟩
      cases g <;> cases b <;> cases c <;> simp_all [gb, Region.wanted]⟩
end

end Go.Proofs.Ytdcbbkpdlcojfaa
namespace Go.Proofs.Ytdcbbkpdlcojfaa
set_option linter.unusedSimpArgs false
set_option linter.unusedVariables false
open Go.RowKit

section
variable {P : Program} {N : Nat} {w0 : World} {M H : Nat → Prop} {E : Env} {Γ R : Ctx}
variable {d : Nat} {ops : Array Oper} {rest : List Oper} {Q : Exit → Act → World → Prop} {T : TypeId} {ps : String} {af : Array Edge}

theorem flatK_len {α : Type} {enc : α → List Value} {s : Nat} (he : ∀ x, (enc x).length = s) : ∀ l : List α, (l.flatMap enc).length = l.length * s
  | [] => by simp
  | a :: l => by simp [flatK_len he l, he a, Nat.succ_mul, Nat.add_comm]
theorem flat_drop {α : Type} {enc : α → List Value} {s : Nat} (he : ∀ x, (enc x).length = s) {l : List α} {j q : Nat} {u : Value} (hj : j ≤ l.length) (h : ((l.drop j).flatMap enc)[q]? = some u) : (l.flatMap enc)[j * s + q]? = some u := by
  have e : l.flatMap enc = (l.take j).flatMap enc ++ (l.drop j).flatMap enc := by rw [← List.flatMap_append, List.take_append_drop]
  have hl : ((l.take j).flatMap enc).length = j * s := by rw [flatK_len he, List.length_take, Nat.min_eq_left hj]
  rw [e, List.getElem?_append_right (by omega), hl, show j * s + q - j * s = q by omega]
  exact h
/-- The elements from the j-th on, for reading. -/
theorem ms_slice_lo {α : Type} {S U : TypeId} {D : TypeDesc} {z : Value} {s bb j : Nat} {enc : α → List Value} {x y : Operand} {k : IntKind} {i : Int} {v : Value} {l : List α} (r m : Nat) (hS : P.underlying S = some (.slice U)) (hU : TI P U D z s bb) (he : ∀ x, (enc x).length = s) (hx : ev E x = some v) (hy : ev E y = some (.int k i)) (hi : i = (j : Int)) (hj : j ≤ l.length) (hr : cget R r = some (sl s enc v l)) :
    MS P N w0 M H E Γ R ⟨some d, .slice S x (some y) none none, T, ps, af, none⟩ (X := SV) (fun _ => True) (fun v' => sv v') (fun _ => Γ) (fun v' => (m, sl s enc (sv v') (l.drop j)) :: R) := by
  subst hi
  refine ms_gen fun a w hE hC => ?_
  obtain ⟨G, ⟨c, h1, h2, h3⟩, _⟩ := hC.reads (.inr hr)
  rcases h3 with ⟨rfl, _, rfl⟩ | ⟨b, o, rfl, hb, hc⟩
  · have hj0 : j = 0 := by simpa using hj
    subst hj0
    refine ⟨nilS, w, trivial, ?_, ?_⟩
    · simp [execOp, hE.ev hx, hE.ev hy, Instr.sliceAt, Instr.slice, run_underlying hS, Instr.sliceBounds, Instr.sliceBound, asIntOf, hU.sizeOf, sv, nilS]
    · simpa [sv, nilS] using hC.nil (r := m) (s := s) (enc := enc)
  · refine ⟨⟨some ⟨b, if c = j then o else o + j * s, none⟩, l.length - j, c - j⟩, w, trivial, ?_, ?_⟩
    · have hjc : (j : Int) ≤ l.length := by omega
      by_cases hcj : c = j
      · simp [execOp, hE.ev hx, hE.ev hy, Instr.sliceAt, Instr.slice, run_underlying hS, Instr.sliceBounds, Instr.sliceBound, asIntOf, hU.sizeOf, sv, hjc, add_lit', hcj]
        exact fun h => absurd h (by omega)
      · simp [execOp, hE.ev hx, hE.ev hy, Instr.sliceAt, Instr.slice, run_underlying hS, Instr.sliceBounds, Instr.sliceBound, asIntOf, hU.sizeOf, sv, hjc, add_lit', hcj]
        exact fun h => absurd h (by omega)
    · refine hC.more (k := r) hr fun G hG hlt => ?_
      obtain ⟨c', h1', h2', h3'⟩ := hG
      rcases h3' with ⟨_, _, hv⟩ | ⟨b', o', hv, hb', hc'⟩
      · simp at hv
      · simp only [Value.slice.injEq, Option.some.injEq, Addr.mk.injEq, and_true, true_and] at hv
        obtain ⟨⟨rfl, rfl⟩, rfl⟩ := hv
        refine ⟨G, ⟨c - j, by rw [List.length_drop]; omega, by omega, .inr ⟨b, if c = j then o else o + j * s, by simp [sv], hb', fun q u hq => ?_⟩⟩, fun b hb => hb⟩
        by_cases hcj : c = j
        · have : l.drop j = [] := List.drop_eq_nil_of_le (by omega)
          rw [this] at hq
          simp at hq
        · rw [if_neg hcj, Nat.add_assoc]
          exact hc' _ u (flat_drop he hj hq)
theorem r_slice_lo {α : Type} {S U : TypeId} {D : TypeDesc} {z : Value} {s bb j : Nat} {enc : α → List Value} {x y : Operand} {k : IntKind} {i : Int} {v : Value} {l : List α} (r m : Nat) (hS : P.underlying S = some (.slice U)) (hU : TI P U D z s bb) (he : ∀ x, (enc x).length = s) (hx : ev E x = some v) (hy : ev E y = some (.int k i)) (hi : i = (j : Int)) (hj : j ≤ l.length) (hr : cget R r = some (sl s enc v l)) (hd : Nat.blt d N = true)
    (kk : ∀ v' : SV, At N w0 M H ((d, sv v') :: E) Γ ((m, sl s enc (sv v') (l.drop j)) :: R) (wpList P ops Q rest)) : At N w0 M H E Γ R (wpList P ops Q (⟨some d, .slice S x (some y) none none, T, ps, af, none⟩ :: rest)) :=
  r_ms (ms_slice_lo r m hS hU he hx hy hi hj hr) hd fun v' _ => kk v'
/-- A new array of equal elements. -/
theorem ms_alloc_arr {S : TypeId} {D : TypeDesc} {z u : Value} {s bb n : Nat} (ht : TI P S D z s bb) (hc : z.cells.toList = List.replicate n u)
    : MS P N w0 M H E Γ R ⟨some d, .alloc S, T, ps, af, none⟩ (X := Nat) (fun _ => True) (fun b => .pointer (some ⟨b, 0, none⟩)) (fun b => (d, arr b S n (fun _ => u)) :: Γ) (fun _ => R) := by
  intro a w hE hC next Q hn
  refine ms_alloc (d := d) ht hc a w hE hC next Q fun b w' hx hC' => hn b w' hx ?_
  have hl : (List.replicate n u).length = n := by simp
  exact (hC'.upd (A := row b S (List.replicate n u)) (A' := arr b S n (fun _ => u)) (k := d) (by simp [cget]) fun G hG hlt =>
      ⟨G, row_arr hl (fun i hi => by simp [hi]) hG, fun b hb => ⟨hlt b hb, fun _ => hb⟩, Touch.refl _ _⟩).congr (fun j A h => by
        simp only [cget] at h ⊢
        cases hb : Nat.beq d j with
        | true => rw [hb] at h; simpa using h
        | false => rw [hb] at h; simpa using h) (fun _ _ h => h)
/-- What is owned may be read. -/
theorem Spec.ro1 {P : Program} {n : Nat} {vs : List Value} {A B : Asn} {X : Type} {φ : X → Prop} {v : X → Value} {L' R' : X → List Asn} (h : Spec P n vs [] [A] φ v L' R') (hAB : ∀ w G, B.pred w G → A.pred w G) : Spec P n vs [] [B] φ v L' R' := fun w M H ⟨F, hF⟩ =>
  h w M H ⟨F, hF.touch, hF.has, hF.lt, hF.mine, hF.apart, fun k C hk => by
    cases k with
    | zero =>
      obtain ⟨G, h1, h2⟩ := hF.ro 0 B rfl
      simp at hk
      subst hk
      exact ⟨G, hAB _ _ h1, h2⟩
    | succ k => simp at hk⟩
end
end Go.Proofs.Ytdcbbkpdlcojfaa
namespace Go.Proofs.Ytdcbbkpdlcojfaa
set_option linter.unusedSimpArgs false
set_option linter.unusedVariables false
open Go.RowKit

section
variable {P : Program} {N : Nat} {w0 : World} {M H : Nat → Prop} {E : Env} {Γ R : Ctx} {Q : Exit → Act → World → Prop}

/-- The changing operation c comes next. -/
def Nx (P : Program) (N : Nat) (w0 : World) (M H : Nat → Prop) (E : Env) (Γ R : Ctx) (l : List Oper) (Q : Exit → Act → World → Prop) (V : Vals) (C : List Nat) (c : Nat) : Prop :=
  ∀ ord D a w o, l[c]? = some o → D c = false → (∀ j ∈ preds o, D j = true) → Ord l (fun j => bif Nat.beq j c then true else D j) ord → StI N w0 M H E Γ R l V C D a w → wpOps P l.toArray Q (c :: ord) a w
def NxAll (P : Program) (N : Nat) (w0 : World) (M H : Nat → Prop) (E : Env) (Γ R : Ctx) (l : List Oper) (Q : Exit → Act → World → Prop) (V : Vals) (C : List Nat) : List Nat → Prop
  | [] => True
  | c :: cs => Nx P N w0 M H E Γ R l Q V C c ∧ NxAll P N w0 M H E Γ R l Q V C cs
theorem NxAll.get {l : List Oper} {V : Vals} {C : List Nat} : ∀ {cs : List Nat}, NxAll P N w0 M H E Γ R l Q V C cs → ∀ c ∈ cs, Nx P N w0 M H E Γ R l Q V C c
  | [], _, c, h => by simp at h
  | d :: cs, hp, c, h => by
    rcases List.mem_cons.1 h with rfl | h
    · exact hp.1
    · exact hp.2.get c h
theorem nx_nil {l : List Oper} {V : Vals} {C : List Nat} : NxAll P N w0 M H E Γ R l Q V C [] := trivial
theorem nx_cons {l : List Oper} {V : Vals} {C : List Nat} {c : Nat} {cs : List Nat} (h : Nx P N w0 M H E Γ R l Q V C c) (hs : NxAll P N w0 M H E Γ R l Q V C cs) : NxAll P N w0 M H E Γ R l Q V C (c :: cs) := ⟨h, hs⟩
def clsOkL (l : List Oper) (I : List Nat) (cs : List Nat) : Bool :=
  (List.range l.length).all fun i => I.any (Nat.beq i) || inB cs i || (match l[i]? with | some o => (preds o).any (fun j => !(I.any (Nat.beq j))) | none => true)
/-- One of the changing operations cs comes next. -/
theorem stg_alts {l : List Oper} {V : Vals} {C : List Nat} (is : List Nat) {I : Vals} (hI0 : vpick is V = I) (hst : stOk N E V = true) (hI : PRs P N w0 M H E Γ R l V I) (hcov : covOk V is C = true) (cs : List Nat)
    (hcls : clsOkL l (vidx V ++ C) cs = true) (hne : (match cs with | c :: _ => Nat.blt c l.length && !(inB (vidx V ++ C) c) | [] => false) = true) (hmem : NxAll P N w0 M H E Γ R l Q V C cs) :
    Stg P N w0 M H E Γ R l Q V C := by
  obtain ⟨h1, h2, h3, h4⟩ := stOk_slots hst
  intro ord
  induction ord with
  | nil =>
    intro D a w ho hS
    cases ho with
    | nil h =>
      cases cs with
      | nil => cases hne
      | cons c cs =>
        simp only [Bool.and_eq_true, Bool.not_eq_true'] at hne
        have := mem_inB (hS.done c (h c (by simpa using hne.1)))
        rw [this] at hne
        cases hne.2
  | cons i ord ih =>
    intro D a w ho hS
    cases ho with
    | cons hio hD hpr hrest =>
      have hi : i < l.length := (List.getElem?_eq_some_iff.1 hio).1
      have hc := List.all_eq_true.1 hcls i (by simpa using hi)
      simp only [hio, Bool.or_eq_true] at hc
      rcases hc with (hc | hc) | hc
      · have hiV : i ∈ vidx V := by
          rcases List.mem_append.1 (inB_mem hc : i ∈ vidx V ++ C) with h | h
          · exact h
          · have := hS.sure i h
            rw [hD] at this
            cases this
        have hcv := List.all_eq_true.1 hcov i hiV
        simp only [Bool.or_eq_true] at hcv
        rcases hcv with hcv | hcv
        · obtain ⟨d, v, hm⟩ := vpick_get hiV (inB_mem hcv)
          exact stg_pure h1 h2 h3 h4 (vpick_mem hm) ((hI0 ▸ hI : PRs P N w0 M H E Γ R l V (vpick is V)).get i d v hm) hio hpr hS fun a' hS' => ih _ a' w hrest hS'
        · have := hS.sure i (inB_mem hcv)
          rw [hD] at this
          cases this
      · exact hmem.get i (inB_mem hc) ord D a w _ hio hD hpr hrest hS
      · obtain ⟨j, hj, hjn⟩ := List.any_eq_true.1 hc
        have hjV := mem_inB (hS.done j (hpr j hj))
        rw [inB] at hjV
        rw [hjV] at hjn
        simp at hjn
theorem nx_mem {l : List Oper} {V : Vals} {C : List Nat} (c : Nat) (C' Jx : List Nat) {X : Type} {φ : X → Prop} {v : X → Value} {Γ' R' : X → Ctx} {d : Nat} {o : Oper} (J' : X → Vals)
    (ho : l[c]? = some o) (hdst : o.dst = some d) (hgd : o.guard = none) (hd : Nat.blt d N = true) (hdE : eget E d = none) (hdV : inB (vslots V) d = false) (hcV : inB (vidx V ++ C) c = false)
    (hcl : clOk l C c [] C' = true) (hCC0 : C.all (inB C') = true) (hJ : ∀ x, φ x → vidx (J' x) = Jx) (hJx : Jx.all (fun j => !(inB (vidx V ++ C) j) && !(Nat.beq j c)) = true) (hms : MS P N w0 M H (vpre (preds o) V ++ E) Γ R o φ v Γ' R')
    (k : ∀ x, φ x → Stg P N w0 M H E (Γ' x) (R' x) l Q (J' x ++ (c, d, v x) :: V) C') : Nx P N w0 M H E Γ R l Q V C c := by
  have hCC : ∀ j ∈ C, j ∈ C' := fun j hj => inB_mem (List.all_eq_true.1 hCC0 j hj)
  intro ord D a w o' hio hDk hpr hrest hS
  rw [ho] at hio
  injection hio with hio
  subst hio
  have ho' : l.toArray[c]? = some o := by simpa using ho
  simp only [wpOps, ho']
  rw [if_pos (by simp [Region.wanted, hgd])]
  left
  have hEp : EOk N (vpre (preds o) V ++ E) a := hS.base.vpre fun j d v hj hjp => hS.vals j d v hj (hpr j hjp)
  have hlt : d < a.tmps.size := Nat.lt_of_lt_of_le (by simpa using hd) hS.base.size
  refine hms a w hEp hS.ok _ _ fun x w' hφ hC' => ?_
  rw [hdst]
  have hclosed : ∀ (j : Nat) (o' : Oper), l[j]? = some o' → (bif Nat.beq j c then true else D j) = true → ∀ k ∈ preds o', (bif Nat.beq k c then true else D k) = true := by
    intro j o' hoj hj q hq
    cases hb : Nat.beq j c with
    | true =>
      have := Nat.eq_of_beq_eq_true hb
      subst this
      rw [ho] at hoj
      injection hoj with hoj
      subst hoj
      simp [hpr q hq]
    | false => rw [hb] at hj; simp [hS.closed j o' hoj hj q hq]
  refine k x hφ ord _ _ w' hrest ⟨fun j hj => ?_, clOk_done (fun i hi => by simp [hS.sure i hi]) (by simp) hclosed C' [] hcl (fun s hs => by simp at hs), hclosed, ⟨hS.base.defers, by simpa [Act.put] using hS.base.size, fun t u ht => ?_⟩, fun j e u hj hjD => ?_, hC'⟩
  · rw [vidx_app]
    show j ∈ vidx (J' x) ++ (c :: vidx V) ++ C'
    cases hb : Nat.beq j c with
    | true => rw [Nat.eq_of_beq_eq_true hb]; simp
    | false =>
      rw [hb] at hj
      rcases List.mem_append.1 (hS.done j hj) with h | h
      · simp [h]
      · have := hCC j h
        simp [this]
  · simp only [Act.put, Array.getElem?_setIfInBounds]
    have hne : d ≠ t := fun e => by subst e; rw [hdE] at ht; cases ht
    rw [if_neg hne]
    exact hS.base.slot t u ht
  · simp only [Act.put, Array.getElem?_setIfInBounds]
    rcases List.mem_append.1 hj with hj | hj
    · exfalso
      have hjx : j ∈ Jx := by rw [← hJ x hφ]; exact vidx_mem.2 ⟨e, u, hj⟩
      have h6 := List.all_eq_true.1 hJx j hjx
      simp only [Bool.and_eq_true, Bool.not_eq_true'] at h6
      rw [h6.2] at hjD
      have := mem_inB (hS.done j hjD)
      rw [this] at h6
      simp at h6
    · rcases List.mem_cons.1 hj with e' | e'
      · cases e'
        simp [hlt]
      · have hne : d ≠ e := fun h => by
          subst h
          rw [mem_inB (vslots_mem e')] at hdV
          cases hdV
        rw [if_neg hne]
        cases hb : Nat.beq j c with
        | true =>
          have := Nat.eq_of_beq_eq_true hb
          subst this
          rw [mem_inB (List.mem_append_left _ (vidx_mem.2 ⟨e, u, e'⟩))] at hcV
          cases hcV
        | false => rw [hb] at hjD; exact hS.vals j e u e' hjD
theorem nx_mem0 {l : List Oper} {V : Vals} {C : List Nat} (c : Nat) (C' Jx : List Nat) {X : Type} {φ : X → Prop} {v : X → Value} {Γ' R' : X → Ctx} {o : Oper} (J' : X → Vals)
    (ho : l[c]? = some o) (hdst : o.dst = none) (hgd : o.guard = none) (hcC' : inB C' c = true) (hcV : inB (vidx V ++ C) c = false)
    (hcl : clOk l C c [] C' = true) (hCC0 : C.all (inB C') = true) (hJ : ∀ x, φ x → vidx (J' x) = Jx) (hJx : Jx.all (fun j => !(inB (vidx V ++ C) j) && !(Nat.beq j c)) = true) (hms : MS P N w0 M H (vpre (preds o) V ++ E) Γ R o φ v Γ' R')
    (k : ∀ x, φ x → Stg P N w0 M H E (Γ' x) (R' x) l Q (J' x ++ V) C') : Nx P N w0 M H E Γ R l Q V C c := by
  have hCC : ∀ j ∈ C, j ∈ C' := fun j hj => inB_mem (List.all_eq_true.1 hCC0 j hj)
  intro ord D a w o' hio hDk hpr hrest hS
  rw [ho] at hio
  injection hio with hio
  subst hio
  have ho' : l.toArray[c]? = some o := by simpa using ho
  simp only [wpOps, ho']
  rw [if_pos (by simp [Region.wanted, hgd])]
  left
  have hEp : EOk N (vpre (preds o) V ++ E) a := hS.base.vpre fun j d v hj hjp => hS.vals j d v hj (hpr j hjp)
  refine hms a w hEp hS.ok _ _ fun x w' hφ hC' => ?_
  rw [hdst]
  have hclosed : ∀ (j : Nat) (o' : Oper), l[j]? = some o' → (bif Nat.beq j c then true else D j) = true → ∀ k ∈ preds o', (bif Nat.beq k c then true else D k) = true := by
    intro j o' hoj hj q hq
    cases hb : Nat.beq j c with
    | true =>
      have := Nat.eq_of_beq_eq_true hb
      subst this
      rw [ho] at hoj
      injection hoj with hoj
      subst hoj
      simp [hpr q hq]
    | false => rw [hb] at hj; simp [hS.closed j o' hoj hj q hq]
  refine k x hφ ord _ _ w' hrest ⟨fun j hj => ?_, clOk_done (fun i hi => by simp [hS.sure i hi]) (by simp) hclosed C' [] hcl (fun s hs => by simp at hs), hclosed, hS.base, fun j e u hj hjD => ?_, hC'⟩
  · rw [vidx_app]
    cases hb : Nat.beq j c with
    | true => rw [Nat.eq_of_beq_eq_true hb]; simp [inB_mem hcC']
    | false =>
      rw [hb] at hj
      rcases List.mem_append.1 (hS.done j hj) with h | h
      · simp [h]
      · have := hCC j h
        simp [this]
  · rcases List.mem_append.1 hj with hj | hj
    · exfalso
      have hjx : j ∈ Jx := by rw [← hJ x hφ]; exact vidx_mem.2 ⟨e, u, hj⟩
      have h6 := List.all_eq_true.1 hJx j hjx
      simp only [Bool.and_eq_true, Bool.not_eq_true'] at h6
      rw [h6.2] at hjD
      have := mem_inB (hS.done j hjD)
      rw [this] at h6
      simp at h6
    · cases hb : Nat.beq j c with
      | true =>
        have := Nat.eq_of_beq_eq_true hb
        subst this
        rw [mem_inB (List.mem_append_left _ (vidx_mem.2 ⟨e, u, hj⟩))] at hcV
        cases hcV
      | false => rw [hb] at hjD; exact hS.vals j e u hj hjD
theorem nx_memg {l : List Oper} {V : Vals} {C : List Nat} (c : Nat) (C' Jx : List Nat) {X : Type} {φ : X → Prop} {v : X → Value} {Γ' R' : X → Ctx} {d gi t : Nat} {cc b : Bool} {op : Op} {T : TypeId} {ps : String} {af : Array Edge} (J' : X → Vals)
    (ho : l[c]? = some ⟨some d, op, T, ps, af, some (gi, cc)⟩) (hgi : gslot l gi = some t) (hgt : eget (vpre (preds ⟨some d, op, T, ps, af, some (gi, cc)⟩) V ++ E) t = some (.bool b)) (hb : b = cc) (hd : Nat.blt d N = true) (hdE : eget E d = none) (hdV : inB (vslots V) d = false) (hcV : inB (vidx V ++ C) c = false)
    (hcl : clOk l C c [] C' = true) (hCC0 : C.all (inB C') = true) (hJ : ∀ x, φ x → vidx (J' x) = Jx) (hJx : Jx.all (fun j => !(inB (vidx V ++ C) j) && !(Nat.beq j c)) = true) (hms : MS P N w0 M H (vpre (preds ⟨some d, op, T, ps, af, some (gi, cc)⟩) V ++ E) Γ R ⟨some d, op, T, ps, af, none⟩ φ v Γ' R')
    (k : ∀ x, φ x → Stg P N w0 M H E (Γ' x) (R' x) l Q (J' x ++ (c, d, v x) :: V) C') : Nx P N w0 M H E Γ R l Q V C c := by
  have hCC : ∀ j ∈ C, j ∈ C' := fun j hj => inB_mem (List.all_eq_true.1 hCC0 j hj)
  intro ord D a w o' hio hDk hpr hrest hS
  rw [ho] at hio
  injection hio with hio
  subst hio
  have ho' : l.toArray[c]? = some ⟨some d, op, T, ps, af, some (gi, cc)⟩ := by simpa using ho
  simp only [wpOps, ho']
  have hEp : EOk N (vpre (preds ⟨some d, op, T, ps, af, some (gi, cc)⟩) V ++ E) a := hS.base.vpre fun j d v hj hjp => hS.vals j d v hj (hpr j hjp)
  rw [if_pos (by simp [Region.wanted, hEp.yield hgi hgt, hb])]
  left
  have hlt : d < a.tmps.size := Nat.lt_of_lt_of_le (by simpa using hd) hS.base.size
  refine hms a w hEp hS.ok _ _ fun x w' hφ hC' => ?_
  show wpOps P l.toArray Q ord (a.put (some d) (v x)) w'
  have hclosed : ∀ (j : Nat) (o' : Oper), l[j]? = some o' → (bif Nat.beq j c then true else D j) = true → ∀ k ∈ preds o', (bif Nat.beq k c then true else D k) = true := by
    intro j o' hoj hj q hq
    cases hb : Nat.beq j c with
    | true =>
      have := Nat.eq_of_beq_eq_true hb
      subst this
      rw [ho] at hoj
      injection hoj with hoj
      subst hoj
      simp [hpr q hq]
    | false => rw [hb] at hj; simp [hS.closed j o' hoj hj q hq]
  refine k x hφ ord _ _ w' hrest ⟨fun j hj => ?_, clOk_done (fun i hi => by simp [hS.sure i hi]) (by simp) hclosed C' [] hcl (fun s hs => by simp at hs), hclosed, ⟨hS.base.defers, by simpa [Act.put] using hS.base.size, fun t u ht => ?_⟩, fun j e u hj hjD => ?_, hC'⟩
  · rw [vidx_app]
    show j ∈ vidx (J' x) ++ (c :: vidx V) ++ C'
    cases hb : Nat.beq j c with
    | true => rw [Nat.eq_of_beq_eq_true hb]; simp
    | false =>
      rw [hb] at hj
      rcases List.mem_append.1 (hS.done j hj) with h | h
      · simp [h]
      · have := hCC j h
        simp [this]
  · simp only [Act.put, Array.getElem?_setIfInBounds]
    have hne : d ≠ t := fun e => by subst e; rw [hdE] at ht; cases ht
    rw [if_neg hne]
    exact hS.base.slot t u ht
  · simp only [Act.put, Array.getElem?_setIfInBounds]
    rcases List.mem_append.1 hj with hj | hj
    · exfalso
      have hjx : j ∈ Jx := by rw [← hJ x hφ]; exact vidx_mem.2 ⟨e, u, hj⟩
      have h6 := List.all_eq_true.1 hJx j hjx
      simp only [Bool.and_eq_true, Bool.not_eq_true'] at h6
      rw [h6.2] at hjD
      have := mem_inB (hS.done j hjD)
      rw [this] at h6
      simp at h6
    · rcases List.mem_cons.1 hj with e' | e'
      · cases e'
        simp [hlt]
      · have hne : d ≠ e := fun h => by
          subst h
          rw [mem_inB (vslots_mem e')] at hdV
          cases hdV
        rw [if_neg hne]
        cases hb : Nat.beq j c with
        | true =>
          have := Nat.eq_of_beq_eq_true hb
          subst this
          rw [mem_inB (List.mem_append_left _ (vidx_mem.2 ⟨e, u, e'⟩))] at hcV
          cases hcV
        | false => rw [hb] at hjD; exact hS.vals j e u e' hjD

theorem ms_store_arrAll {T : TypeId} {ps : String} {af : Array Edge} {S S' : TypeId} {D : TypeDesc} {z : Value} {s bb n : Nat} {x y : Operand} {b : Nat} {k : Nat} {f g : Nat → Value} (ht : TI P S D z s bb) (hx : ev E x = some (.pointer (some ⟨b, 0, none⟩))) (hy : ev E y = some (.agg ((List.range n).map g).toArray))
    (hs : n = s) (h1 : ((List.range n).map g).all (·.oneCell') = true) (hk : cget Γ k = some (arr b S' n f))
    : MS P N w0 M H E Γ R ⟨none, .store S x y, T, ps, af, none⟩ (X := Unit) (fun _ => True) (fun _ => undef) (fun _ => (k, arr b S' n g) :: Γ) (fun _ => R) :=
  ms_store_gen (us := (List.range n).map g) ht hx hy (by simp [Value.cells]) (by simpa using hs) h1 hk arr_putAll

/-! ### Sub-slices -/
def loS (x : SV) (j s : Nat) : SV := ⟨if x.c = j then x.a else x.a.map (·.add (j * s)), x.n - j, x.c - j⟩
def hiS (x : SV) (j : Nat) : SV := ⟨x.a, j, x.c⟩
theorem p_slice_lo {α : Type} {S U : TypeId} {D : TypeDesc} {z : Value} {s bb j : Nat} {enc : α → List Value} {x y : Operand} {k : IntKind} {i : Int} {v : SV} {l : List α} (hS : P.underlying S = some (.slice U)) (hU : TI P U D z s bb) (hx : ev E x = some (sv v)) (hy : ev E y = some (.int k i)) (hs : HasSl Γ R s enc (sv v) l) (hi : i = (j : Int)) (hj : j ≤ l.length) : PR P N w0 M H E Γ R (.slice S x (some y) none none) (sv (loS v j s)) :=
  fun _ _ _ a w hE hC _ _ => by
    subst hi
    obtain ⟨G, c, h1, h2, h3⟩ := hs.ok hC
    obtain ⟨va, vn, vc⟩ := v
    rcases h3 with ⟨rfl, _, hv⟩ | ⟨b, o, hv, _, _⟩
    · simp [sv] at hv
      obtain ⟨rfl, rfl, rfl⟩ := hv
      have hj0 : j = 0 := by simpa using hj
      subst hj0
      simp [execOp, hE.ev hx, hE.ev hy, Instr.sliceAt, Instr.slice, run_underlying hS, Instr.sliceBounds, Instr.sliceBound, asIntOf, hU.sizeOf, sv, loS]
    · simp [sv] at hv
      obtain ⟨rfl, rfl, rfl⟩ := hv
      have hjc : (j : Int) ≤ l.length := by omega
      by_cases hcj : vc = j
      · simp [execOp, hE.ev hx, hE.ev hy, Instr.sliceAt, Instr.slice, run_underlying hS, Instr.sliceBounds, Instr.sliceBound, asIntOf, hU.sizeOf, sv, hjc, add_lit', hcj, loS]
        exact fun h => absurd h (by omega)
      · simp [execOp, hE.ev hx, hE.ev hy, Instr.sliceAt, Instr.slice, run_underlying hS, Instr.sliceBounds, Instr.sliceBound, asIntOf, hU.sizeOf, sv, hjc, add_lit', hcj, loS]
        exact fun h => absurd h (by omega)
theorem p_slice_hi {α : Type} {S U : TypeId} {D : TypeDesc} {z : Value} {s bb j : Nat} {enc : α → List Value} {x y : Operand} {k : IntKind} {i : Int} {v : SV} {l : List α} (hS : P.underlying S = some (.slice U)) (hU : TI P U D z s bb) (hx : ev E x = some (sv v)) (hy : ev E y = some (.int k i)) (hs : HasSl Γ R s enc (sv v) l) (hi : i = (j : Int)) (hj : j ≤ l.length) : PR P N w0 M H E Γ R (.slice S x none (some y) none) (sv (hiS v j)) :=
  fun _ _ _ a w hE hC _ _ => by
    subst hi
    obtain ⟨G, c, h1, h2, h3⟩ := hs.ok hC
    obtain ⟨va, vn, vc⟩ := v
    rcases h3 with ⟨rfl, _, hv⟩ | ⟨b, o, hv, _, _⟩
    · simp [sv] at hv
      obtain ⟨rfl, rfl, rfl⟩ := hv
      have hj0 : j = 0 := by simpa using hj
      subst hj0
      simp [execOp, hE.ev hx, hE.ev hy, Instr.sliceAt, Instr.slice, run_underlying hS, Instr.sliceBounds, Instr.sliceBound, asIntOf, hU.sizeOf, sv, hiS]
    · simp [sv] at hv
      obtain ⟨rfl, rfl, rfl⟩ := hv
      have hjc : (j : Int) ≤ vc := by omega
      simp [execOp, hE.ev hx, hE.ev hy, Instr.sliceAt, Instr.slice, run_underlying hS, Instr.sliceBounds, Instr.sliceBound, asIntOf, hU.sizeOf, sv, hjc, add_lit', hiS]
      intro h
      omega
/-- A sub-slice of what may be read may be read. -/
theorem sl_lo {α : Type} {s j : Nat} {enc : α → List Value} (he : ∀ x, (enc x).length = s) {v : SV} {l : List α} (hj : j ≤ l.length) {w : World} {G : Nat → Prop} (h : SlOk w G s enc (sv v) l) : SlOk w G s enc (sv (loS v j s)) (l.drop j) := by
  obtain ⟨c, h1, h2, h3⟩ := h
  obtain ⟨va, vn, vc⟩ := v
  rcases h3 with ⟨rfl, hn, hv⟩ | ⟨b, o, hv, hb, hc⟩
  · simp [sv] at hv
    obtain ⟨rfl, rfl, rfl⟩ := hv
    exact ⟨0, by simp, by unfold maxLen; omega, .inl ⟨by simp, hn, by simp [loS, sv]⟩⟩
  · simp [sv] at hv
    obtain ⟨rfl, rfl, rfl⟩ := hv
    refine ⟨vc - j, by rw [List.length_drop]; omega, by omega, .inr ⟨b, if vc = j then o else o + j * s, by simp [sv, loS]; split <;> simp [add_lit'], hb, fun q u hq => ?_⟩⟩
    by_cases hcj : vc = j
    · have : l.drop j = [] := List.drop_eq_nil_of_le (by omega)
      rw [this] at hq
      simp at hq
    · rw [if_neg hcj, Nat.add_assoc]
      exact hc _ u (flat_drop he hj hq)
theorem sl_hi {α : Type} {s j : Nat} {enc : α → List Value} {v : SV} {l : List α} (hj : j ≤ l.length) {w : World} {G : Nat → Prop} (h : SlOk w G s enc (sv v) l) : SlOk w G s enc (sv (hiS v j)) (l.take j) := by
  obtain ⟨c, h1, h2, h3⟩ := h
  obtain ⟨va, vn, vc⟩ := v
  rcases h3 with ⟨rfl, hn, hv⟩ | ⟨b, o, hv, hb, hc⟩
  · simp [sv] at hv
    obtain ⟨rfl, rfl, rfl⟩ := hv
    have hj0 : j = 0 := by simpa using hj
    subst hj0
    exact ⟨0, by simp, by unfold maxLen; omega, .inl ⟨by simp, hn, by simp [hiS, sv]⟩⟩
  · simp [sv] at hv
    obtain ⟨rfl, rfl, rfl⟩ := hv
    refine ⟨vc, by rw [List.length_take]; omega, h2, .inr ⟨b, o, by simp [sv, hiS, Nat.min_eq_left hj], hb, fun q u hq => hc q u ?_⟩⟩
    have : l.flatMap enc = (l.take j).flatMap enc ++ (l.drop j).flatMap enc := by rw [← List.flatMap_append, List.take_append_drop]
    rw [this, List.getElem?_append_left (List.getElem?_eq_some_iff.1 hq).1]
    exact hq
theorem r_lo {α : Type} (r m j : Nat) {s : Nat} {enc : α → List Value} {v : SV} {l : List α} {Rel : Act → World → Prop} (hr : cget R r = some (sl s enc (sv v) l)) (he : ∀ x, (enc x).length = s) (hj : j ≤ l.length) (h : At N w0 M H E Γ ((m, sl s enc (sv (loS v j s)) (l.drop j)) :: R) Rel) : At N w0 M H E Γ R Rel :=
  h.weak (fun _ h => h) fun w hC => hC.more hr fun G hG _ => ⟨G, sl_lo he hj hG, fun _ hb => hb⟩
theorem r_hi {α : Type} (r m j : Nat) {s : Nat} {enc : α → List Value} {v : SV} {l : List α} {Rel : Act → World → Prop} (hr : cget R r = some (sl s enc (sv v) l)) (hj : j ≤ l.length) (h : At N w0 M H E Γ ((m, sl s enc (sv (hiS v j)) (l.take j)) :: R) Rel) : At N w0 M H E Γ R Rel :=
  h.weak (fun _ h => h) fun w hC => hC.more hr fun G hG _ => ⟨G, sl_hi (s := s) hj hG, fun _ hb => hb⟩
end
end Go.Proofs.Ytdcbbkpdlcojfaa
namespace Go.Proofs.Ytdcbbkpdlcojfaa
set_option linter.unusedSimpArgs false
set_option linter.unusedVariables false
open Go.RowKit

section
variable {P : Program} {N : Nat} {w0 : World} {M H : Nat → Prop} {E : Env} {Γ R : Ctx} {Q : Exit → Act → World → Prop}
variable {ops : Array Oper} {rest : List Oper} {T : TypeId} {ps : String} {af : Array Edge} {d : Nat} {op : Op}

/-- The slice v can be read, and holds l. -/
def SlS {α : Type} (w0 : World) (M H : Nat → Prop) (Γ R : Ctx) (s : Nat) (enc : α → List Value) (v : Value) (l : List α) : Prop := ∀ w, COk w0 M H Γ R w → ∃ G, SlOk w G s enc v l
theorem SlS.of {α : Type} {s : Nat} {enc : α → List Value} {v : Value} {l : List α} (h : HasSl Γ R s enc v l) : SlS w0 M H Γ R s enc v l := fun _ hC => h.ok hC
theorem SlS.lo {α : Type} {s j : Nat} {enc : α → List Value} {v : SV} {l : List α} (h : SlS w0 M H Γ R s enc (sv v) l) (he : ∀ x, (enc x).length = s) (hj : j ≤ l.length) : SlS w0 M H Γ R s enc (sv (loS v j s)) (l.drop j) := fun w hC =>
  let ⟨G, hG⟩ := h w hC
  ⟨G, sl_lo he hj hG⟩
theorem SlS.hi {α : Type} {s j : Nat} {enc : α → List Value} {v : SV} {l : List α} (h : SlS w0 M H Γ R s enc (sv v) l) (hj : j ≤ l.length) : SlS w0 M H Γ R s enc (sv (hiS v j)) (l.take j) := fun w hC =>
  let ⟨G, hG⟩ := h w hC
  ⟨G, sl_hi hj hG⟩
/-- The first elements of an owned slice are an owned slice. -/
theorem own_hi {α : Type} {U s j : Nat} {enc : α → List Value} (he : ∀ x, (enc x).length = s) {v : SV} {l : List α} (hj : j ≤ l.length) : ∀ (w : World) (G : Nat → Prop), (own U s enc (sv v) l).pred w G → (own U s enc (sv (hiS v j)) (l.take j)).pred w G := fun w G ⟨h1, h2, h3⟩ => by
  have hfl := flatK_len he
  have ht : (l.take j).length = j := by rw [List.length_take]; omega
  obtain ⟨va, vn, vc⟩ := v
  rcases h3 with ⟨hv, hn⟩ | ⟨g, cap, cur, hv, hb, hg, hnc, hcm, hcs, htk⟩
  · simp [sv] at hv
    obtain ⟨rfl, rfl, rfl⟩ := hv
    have hl : l = [] := List.eq_nil_of_length_eq_zero hn
    subst hl
    have hj0 : j = 0 := by simpa using hj
    subst hj0
    exact ⟨h1, by simp, .inl ⟨by simp [hiS, sv], by simp⟩⟩
  · simp [sv] at hv
    obtain ⟨rfl, rfl, rfl⟩ := hv
    refine ⟨h1, by rw [hfl], .inr ⟨g, vc, cur, by rw [ht]; rfl, hb, hg, by omega, hcm, hcs, ?_⟩⟩
    have e : l.flatMap enc = (l.take j).flatMap enc ++ (l.drop j).flatMap enc := by rw [← List.flatMap_append, List.take_append_drop]
    have hjs : j * s ≤ l.length * s := Nat.mul_le_mul_right _ hj
    rw [ht, show cur.toList.take (j * s) = (cur.toList.take (l.length * s)).take (j * s) by rw [List.take_take, Nat.min_eq_left hjs], htk, e, List.take_left' (by rw [hfl, ht])]
theorem own_id {α : Type} {U s : Nat} {enc : α → List Value} {v : Value} {l : List α} : ∀ (w : World) (G : Nat → Prop), (own U s enc v l).pred w G → (own U s enc v l).pred w G := fun _ _ h => h
theorem r_appendG {α : Type} {S U : TypeId} {D : TypeDesc} {z : Value} {s bb : Nat} {enc : α → List Value} {x y : Operand} {v v2 v0 : Value} {l l2 l0 : List α} (k : Nat) (hS : P.underlying S = some (.slice U)) (hU : TI P U D z s bb) (hzs : z.cells.size = s) (hs0 : 0 < s) (he : ∀ x, (enc x).length = s) (h1 : ∀ x, (enc x).all (·.oneCell') = true)
    (hx : ev E x = some v) (hy : ev E y = some v2) (hk : cget Γ k = some (own U s enc v0 l0)) (hown : ∀ w G, (own U s enc v0 l0).pred w G → (own U s enc v l).pred w G) (h2 : SlS w0 M H Γ R s enc v2 l2) (hm : (l.length + l2.length) * bb ≤ 140737488355328) (hm' : l.length + l2.length ≤ maxLen)
    (hd : Nat.blt d N = true) (kk : ∀ v' : SV, At N w0 M H ((d, sv v') :: E) ((k, own U s enc (sv v') (l ++ l2)) :: Γ) R (wpList P ops Q rest)) : At N w0 M H E Γ R (wpList P ops Q (⟨some d, .call { callee := .builtin .append, args := #[x, y], argTypes := #[S, S] }, T, ps, af, none⟩ :: rest)) := by
  refine r_gen (X := SV) (fun _ => True) (fun v' => sv v') (fun v' => (k, own U s enc (sv v') (l ++ l2)) :: Γ) (fun _ => R) hd (fun a w hE hC => ?_) fun v' _ => kk v'
  obtain ⟨G0, hp00, hlt0⟩ := hC.reads (.inl hk)
  have hp0 := hown _ _ hp00
  obtain ⟨G2, c, h3, h4, h5⟩ := h2 w hC
  obtain ⟨i, i1, i2, i3, i4⟩ := hU.info
  have hfl : ∀ l' : List α, (l'.flatMap enc).length = l'.length * s := flatMap_len he
  rcases h5 with ⟨rfl, _, rfl⟩ | ⟨b2, o2, rfl, _, hc2⟩
  · obtain ⟨xv, rfl⟩ := ownsRow_sv hp0.2
    refine ⟨xv, w, trivial, ?_, ?_⟩
    · have hr := run_append_owned_none (P := P) w 0 S T U i s hS i1 (sv xv) l.length _ hp0.2
      simp [execOp, resolve, invoke, builtin, hE.ev hx, hE.ev hy, hr]
    · simp only [List.append_nil]
      exact hC.upd hk fun G hG0 hGlt => ⟨G, hown _ _ hG0, fun b hb => ⟨hGlt b hb, fun _ => hb⟩, Touch.refl _ _⟩
  · obtain ⟨v', w', hr, ho, hg, hn⟩ := run_append_own (P := P) w 0 S T U i z s bb hS i1 i2 i3 i4 hzs hs0 v l.length _ hp0.2 ⟨b2, o2, none⟩ l2.length c (l2.flatMap enc) (hfl l2)
      (fun j u hj => by rw [add_lit']; exact hc2 j u hj) (fun u hu => by obtain ⟨x, _, hxu⟩ := List.mem_flatMap.1 hu; simpa using List.all_eq_true.1 (h1 x) u hxu) hm' hm (Nat.zero_le _)
    obtain ⟨xv, rfl⟩ := ownsRow_sv ho
    refine ⟨xv, w', trivial, ?_, ?_⟩
    · simp [execOp, resolve, invoke, builtin, hE.ev hx, hE.ev hy, hr]
    · refine hC.upd hk fun G hG0 hGlt => by
        have hG := hown _ _ hG0
        refine ⟨fun b => (sv xv).ownBlock = some b, ⟨fun x => Iff.rfl, ?_⟩, fun b hb => ⟨(ho.lt b hb).2, fun hlt => ?_⟩, ⟨hg.os, hg.tape, hg.output, hg.size, fun i hi hne => hg.block i hi (fun e => hne ((hG.1 i).2 e.symm))⟩⟩
        · rw [List.length_append, List.flatMap_append]; exact ho
        · rcases hp0.2.2 with ⟨rfl, hl0⟩ | ⟨g, cap, cur, rfl, hbg, hgg, hnc, hcm, hcs, htake⟩
          · exfalso
            have hl : l = [] := List.eq_nil_of_length_eq_zero hl0
            subst hl
            by_cases hz : l2.length = 0
            · have hl2 : l2 = [] := List.eq_nil_of_length_eq_zero hz
              subst hl2
              have := (hn.2 ⟨rfl, rfl⟩)
              rw [this] at hb
              simp [Value.ownBlock] at hb
            · have hr2 := run_append_nil (P := P) w S T U i z hS i1 i2 ⟨b2, o2, none⟩ l2.length c (l2.flatMap enc) (by rw [hfl, i3]) (fun j u hj => by rw [add_lit']; exact hc2 j u hj) (by simpa using Nat.pos_of_ne_zero hz) (by simp only [maxLen] at hm'; simp at hm'; omega) (by rw [i4]; simp at hm; omega)
              rw [hr2] at hr
              injection hr with hr3 hr4
              replace hb : (sv xv).ownBlock = some b := hb
              rw [← hr3] at hb
              simp [Value.ownBlock] at hb
              omega
          · by_cases hroom : l.length + l2.length ≤ cap
            · have hfit : l.length * i.size + (l2.flatMap enc).length ≤ cur.size := by rw [hfl, hcs, i3, ← Nat.add_mul]; exact Nat.mul_le_mul_right _ hroom
              have hr2 := run_append_room (P := P) w S T U i hS i1 g l.length cap cur hgg ⟨b2, o2, none⟩ l2.length c (l2.flatMap enc) (by rw [hfl, i3]) (fun j u hj => by rw [add_lit']; exact hc2 j u hj) (fun u hu => by obtain ⟨x, _, hxu⟩ := List.mem_flatMap.1 hu; simpa using List.all_eq_true.1 (h1 x) u hxu) hroom hfit
              rw [hr2] at hr
              injection hr with hr3 hr4
              replace hb : (sv xv).ownBlock = some b := hb
              rw [← hr3] at hb
              simp [Value.ownBlock] at hb
              subst hb
              exact (hG.1 g).2 rfl
            · exfalso
              have holds := hp0.2.cells (g := g) rfl
              have hr2 := run_append_grow (P := P) w S T U i z hS i1 i2 ⟨g, 0, none⟩ l.length cap (l.flatMap enc) (by rw [hfl, i3]) holds ⟨b2, o2, none⟩ l2.length c (l2.flatMap enc) (by rw [hfl, i3]) (fun j u hj => by rw [add_lit']; exact hc2 j u hj) (by omega) (by simp only [maxLen] at hm'; omega) (growslice_fits (by omega) (by rw [i4]; exact hm))
              rw [hr2] at hr
              injection hr with hr3 hr4
              replace hb : (sv xv).ownBlock = some b := hb
              rw [← hr3] at hb
              simp [Value.ownBlock] at hb
              omega
end
end Go.Proofs.Ytdcbbkpdlcojfaa
namespace Go.Proofs.Ytdcbbkpdlcojfaa
set_option linter.unusedSimpArgs false
set_option linter.unusedVariables false
open Go.RowKit

section
variable {P : Program} {N : Nat} {w0 : World} {M H : Nat → Prop} {E : Env} {Γ R : Ctx}
theorem EOk.yield_u {a : Act} (h : EOk N E a) {l : List Oper} {i t : Nat} (hi : gslot l i = some t) (ht : eget E t = some undef) : yielded l.toArray a.tmps i = none := by
  unfold yielded
  have : (l.toArray[i]?).bind (·.dst) = some t := by simpa [gslot] using hi
  rw [this]
  simp [h.slot t _ ht, undef]
theorem prig_u {l : List Oper} {V : Vals} {i d gi t : Nat} {c : Bool} {op : Op} {T : TypeId} {ps : String} {af : Array Edge} (ho : l[i]? = some ⟨some d, op, T, ps, af, some (gi, c)⟩) (hi : gslot l gi = some t) (ht : eget (vpre (preds ⟨some d, op, T, ps, af, some (gi, c)⟩) V ++ E) t = some undef) :
    PRi P N w0 M H E Γ R l V i d undef :=
  ⟨_, ho, rfl, fun a w hE hC => .inr ⟨by simp [Region.wanted, hE.yield_u hi ht], rfl⟩⟩
end
end Go.Proofs.Ytdcbbkpdlcojfaa
namespace Go.Proofs.Ytdcbbkpdlcojfaa
set_option linter.unusedSimpArgs false
set_option linter.unusedVariables false
open Go.RowKit

section
variable {P : Program} {N : Nat} {w0 : World} {M H : Nat → Prop} {E : Env} {Γ R : Ctx} {Q : Exit → Act → World → Prop}
variable {ops : Array Oper} {rest : List Oper} {T : TypeId} {ps : String} {af : Array Edge} {d : Nat} {op : Op}
theorem r_idx_str {S : TypeId} {x y : Operand} {s : ByteArray} {k : IntKind} {i : Int} {j m : Nat} (hS : P.underlying S = some .string) (hx : ev E x = some (.string s)) (hy : ev E y = some (.int k i)) (hi : i = (j : Int)) (hs : s.size = m) (hj : j < m) (hd : Nat.blt d N = true)
    (kk : ∀ b : Int, 0 ≤ b → b < 256 → At N w0 M H ((d, .int .u8 b) :: E) Γ R (wpList P ops Q rest)) : At N w0 M H E Γ R (wpList P ops Q (⟨some d, .index S x y, T, ps, af, none⟩ :: rest)) := by
  subst hi
  subst hs
  exact r_gen (X := Int) (fun b => 0 ≤ b ∧ b < 256) (fun b => .int .u8 b) (fun _ => Γ) (fun _ => R) hd (fun a w hE hC => ⟨((s[j]'hj).toNat : Int), w, ⟨by omega, by have := (s[j]'hj).toNat_lt; omega⟩, by
    simp [execOp, hE.ev hx, hE.ev hy, Instr.index, asIntOf, run_underlying hS, hj], hC⟩) fun b hb => kk b hb.1 hb.2
/-- A fact that a read-only assertion brings. -/
theorem r_factR {k : Nat} {A : Asn} {Rel : Act → World → Prop} {φ : Prop} (hk : cget R k = some A) (hA : ∀ w G, A.pred w G → φ) (h : φ → At N w0 M H E Γ R Rel) : At N w0 M H E Γ R Rel := fun a w hE hC => by
  obtain ⟨G, h1, _⟩ := hC.reads (.inr hk)
  exact h (hA w G h1) a w hE hC
theorem r_factG {k : Nat} {A : Asn} {Rel : Act → World → Prop} {φ : Prop} (hk : cget Γ k = some A) (hA : ∀ w G, A.pred w G → φ) (h : φ → At N w0 M H E Γ R Rel) : At N w0 M H E Γ R Rel := fun a w hE hC => by
  obtain ⟨G, h1, _⟩ := hC.reads (.inl hk)
  exact h (hA w G h1) a w hE hC
theorem sl_nil {α : Type} {s : Nat} {enc : α → List Value} {v : SV} {l : List α} (w : World) (G : Nat → Prop) (h : (sl s enc (sv v) l).pred w G) : v.a.isNone = true → l = [] := by
  obtain ⟨c, h1, h2, h3⟩ := h
  intro hn
  rcases h3 with ⟨h4, _⟩ | ⟨b, o, h4, _⟩
  · exact h4
  · simp [sv] at h4
    rw [h4.1] at hn
    cases hn
theorem b_eqnil {S U : TypeId} {v : SV} (hS : P.underlying S = some (.slice U)) : BinRun P .eql S (sv v) (.slice none 0 0) (.bool v.a.isNone) := fun x y w => by
  have := Lib.run_eql_slice_nil (P := P) w S U v.a v.n v.c 0 0 hS
  simp [Sem.run_bind, eqGuard, sv, this]
end
end Go.Proofs.Ytdcbbkpdlcojfaa
namespace Go.Proofs.Ytdcbbkpdlcojfaa
set_option linter.unusedSimpArgs false
set_option linter.unusedVariables false
open Go.RowKit

section
variable {P : Program} {N : Nat} {w0 : World} {M H : Nat → Prop} {E : Env} {Γ R : Ctx}
theorem p_idx_slS {α : Type} {S U : TypeId} {D : TypeDesc} {z : Value} {s bb j : Nat} {x y : Operand} {k : IntKind} {i : Int} {enc : α → List Value} {v : Value} {l : List α} (hS : P.underlying S = some (.slice U)) (hU : TI P U D z s bb) (hx : ev E x = some v) (hy : ev E y = some (.int k i)) (hs : SlS w0 M H Γ R s enc v l) (hi : i = (j : Int)) (hj : j < l.length) :
    PR P N w0 M H E Γ R (.indexAddr S x y) (.pointer (some ⟨sblk v, soff v + j * s, none⟩)) := fun _ _ _ a w hE hC _ _ => by
  obtain ⟨G, c, h1, h2, h3⟩ := hs w hC
  rcases h3 with ⟨rfl, _⟩ | ⟨b, o, rfl, _, _⟩
  · simp at hj
  · subst hi
    simp [execOp, hE.ev hx, hE.ev hy, Instr.indexAt, asIntOf, run_underlying hS, hU.sizeOf, add_lit', hj, sblk, soff]
theorem p_len_slS {α : Type} {S U : TypeId} {s : Nat} {x : Operand} {enc : α → List Value} {v : Value} {l : List α} (hS : P.underlying S = some (.slice U)) (hx : ev E x = some v) (hs : SlS w0 M H Γ R s enc v l) : PR P N w0 M H E Γ R (.call { callee := .builtin .len, args := #[x], argTypes := #[S] }) (.int .i64 (l.length : Int)) :=
  fun _ _ _ a w hE hC _ _ => by
    obtain ⟨G, c, h1, h2, h3⟩ := hs w hC
    rcases h3 with ⟨rfl, _, rfl⟩ | ⟨b, o, rfl, _, _⟩
    · simp [execOp, resolve, invoke, builtin, hE.ev hx, Builtin.len_, run_underlying hS, goInt]
    · simp [execOp, resolve, invoke, builtin, hE.ev hx, Builtin.len_, run_underlying hS, goInt]
theorem g_elpS {α : Type} {s : Nat} {enc : α → List Value} {v : Value} {l : List α} (h : SlS w0 M H Γ R s enc v l) (he : ∀ x, (enc x).length = s) {i o : Nat} {x : α} (hx : l[i]? = some x) {us : List Value} (hu : ((enc x).drop o).take us.length = us) :
    Gives w0 M H Γ R (sblk v) (soff v + i * s + o) us := by
  intro w hC j u hj
  obtain ⟨G, c, h1, h2, h3⟩ := h w hC
  rcases h3 with ⟨rfl, _⟩ | ⟨b, o', rfl, _, hc⟩
  · simp at hx
  · simp only [sblk, soff]
    have hxu : (enc x)[o + j]? = some u := by
      rw [← hu, List.getElem?_take] at hj
      split at hj
      · simpa using hj
      · cases hj
    have := hc _ u (flatMap_at he l i (o + j) x u hx hxu)
    rwa [show o' + (i * s + (o + j)) = o' + i * s + o + j by omega] at this
theorem g_elS {α : Type} {s : Nat} {enc : α → List Value} {v : Value} {l : List α} (h : SlS w0 M H Γ R s enc v l) (he : ∀ x, (enc x).length = s) {i : Nat} {x : α} (hx : l[i]? = some x) :
    Gives w0 M H Γ R (sblk v) (soff v + i * s) (enc x) := by
  have := g_elpS (w0 := w0) (M := M) (H := H) h he (o := 0) hx (us := enc x) (by simp)
  simpa using this
theorem g_elS' {α : Type} {s : Nat} {enc : α → List Value} {v : Value} {l : List α} (h : SlS w0 M H Γ R s enc v l) (he : ∀ x, (enc x).length = s) {i : Nat} {x : α} (hx : l[i]? = some x) {us : List Value} (hu : enc x = us) : Gives w0 M H Γ R (sblk v) (soff v + i * s) us := hu ▸ g_elS h he hx
end
end Go.Proofs.Ytdcbbkpdlcojfaa
namespace Go.Proofs.Ytdcbbkpdlcojfaa
set_option linter.unusedSimpArgs false
set_option linter.unusedVariables false
open Go.RowKit

section
variable {P : Program} {N : Nat} {w0 : World} {M H : Nat → Prop} {E : Env} {Γ R : Ctx} {Q : Exit → Act → World → Prop}
variable {ops : Array Oper} {rest : List Oper} {T : TypeId} {ps : String} {af : Array Edge} {d : Nat} {op : Op}
theorem r_clear {S U : TypeId} {bb j k : Nat} {x : Operand} {v : SV} {l : List Int} (hS : P.underlying S = some (.slice U)) (hU : TI P U (.int .i64) (.int .i64 0) 1 bb) (hx : ev E x = some (sv (loS v j 1))) (hk : cget Γ k = some (own U 1 eI (sv v) l)) (hj : j < l.length)
    (kk : At N w0 M H E ((k, own U 1 eI (sv v) (l.take j ++ List.replicate (l.length - j) 0)) :: Γ) R (wpList P ops Q rest)) : At N w0 M H E Γ R (wpList P ops Q (⟨none, .call { callee := .builtin .clear, args := #[x], argTypes := #[S] }, T, ps, af, none⟩ :: rest)) := by
  intro a w hE hC
  obtain ⟨va, vn, vc⟩ := v
  obtain ⟨G0, hp, hlt⟩ := hC.reads (.inl hk)
  have hflat : ∀ l : List Int, l.flatMap eI = l.map (Value.int .i64) := by
    intro l
    induction l with
    | nil => rfl
    | cons y ys ih => simp [eI, ih]
  rcases hp.2.2 with ⟨hv, hn⟩ | ⟨g, cap, cur, hv, hbg, hg, hnc, hcm, hcs, htk⟩
  · omega
  · simp [sv] at hv
    obtain ⟨rfl, rfl, rfl⟩ := hv
    have hus : (List.replicate (l.length - j) (Value.int .i64 0)).length = l.length - j := by simp
    have hst := run_storeCells_at P g j U (List.replicate (l.length - j) (Value.int .i64 0)) 0 cur w hg (by rw [hus]; omega) (fun v hv => by rw [List.eq_of_mem_replicate hv]; rfl)
    simp only [Nat.add_zero] at hst
    have hzc : (Builtin.zeroCells (Value.int .i64 0).cells (l.length - j)).toList = List.replicate (l.length - j) (Value.int .i64 0) := by
      simp [Value.cells, Builtin.zeroCells]
      apply List.ext_getElem
      · simp
      · intro i h1 h2
        simp [Nat.mod_one]
    have hC' : COk w0 M H ((k, own U 1 eI (sv ⟨some ⟨g, 0, none⟩, l.length, vc⟩) (l.take j ++ List.replicate (l.length - j) 0)) :: Γ) R (w.setRow g (cur.toList.take j ++ List.replicate (l.length - j) (Value.int .i64 0) ++ cur.toList.drop (j + (List.replicate (l.length - j) (Value.int .i64 0)).length)).toArray) :=
      hC.upd hk fun G hG hGlt => by
        have hGb : G g := (hG.1 g).2 rfl
        have hlen : (l.take j ++ List.replicate (l.length - j) (0 : Int)).length = l.length := by simp; omega
        have hcs' : cur.toList.length = vc := by simp; omega
        have htk' : cur.toList.take l.length = l.map (Value.int .i64) := by rw [← hflat, ← htk, Nat.mul_one]
        refine ⟨G, ⟨hG.1, by rw [hflat, List.length_map, Nat.mul_one], .inr ⟨g, vc, _, by rw [hlen]; rfl, Nat.zero_le _, setRow_heap w g _ _ U (0, 0) hg, by rw [hlen]; exact hnc, hcm, ?_, ?_⟩⟩, fun x hx => ⟨by simpa using hGlt x hx, fun _ => hx⟩, ⟨rfl, rfl, rfl, by simp, fun i _ hi => setRow_other w g i _ (fun e => hi (e ▸ hGb))⟩⟩
        · simp only [List.size_toArray, List.length_append, List.length_take, List.length_drop, hus, hcs']
          omega
        · have e1 : cur.toList.take j = (l.take j).map (Value.int .i64) := by
            rw [List.map_take, ← htk', List.take_take, Nat.min_eq_left (by omega)]
          have e2 : ((l.take j).map (Value.int .i64) ++ List.replicate (l.length - j) (Value.int .i64 0)).length = l.length * 1 := by simp; omega
          rw [hlen, hflat, hus, e1, List.take_left' e2, List.map_append, List.map_replicate]
    unfold wpList
    rw [if_pos (by simp [Region.wanted])]
    left
    unfold Oper.wp
    have hcj : ¬ vc = j := by omega
    obtain ⟨m, hm⟩ : ∃ m, l.length - j = m + 1 := ⟨l.length - j - 1, by omega⟩
    have hrun : (execOp a.eval ⟨none, .call { callee := .builtin .clear, args := #[x], argTypes := #[S] }, T, ps, af, none⟩).run P w = .ok (.value (.tuple #[])) (w.setRow g (cur.toList.take j ++ List.replicate (l.length - j) (Value.int .i64 0) ++ cur.toList.drop (j + (List.replicate (l.length - j) (Value.int .i64 0)).length)).toArray) := by
      rw [hm] at hst hzc ⊢
      simp [execOp, resolve, invoke, builtin, hE.ev hx, loS, sv, hcj, add_lit', hm, Builtin.clear_, run_underlying hS, hU.zero, hzc, hst]
    rw [hrun]
    exact kk _ _ hE hC'
end
end Go.Proofs.Ytdcbbkpdlcojfaa
namespace Go.Proofs.Ytdcbbkpdlcojfaa
set_option linter.unusedSimpArgs false
set_option linter.unusedVariables false
open Go.RowKit

section
variable {P : Program}
theorem b_beq {S : TypeId} {a b : Bool} (hS : P.underlying S = some .bool) : BinRun P .eql S (.bool a) (.bool b) (.bool (a == b)) := fun x y w => by
  have := run_equal_bool (P := P) w S a b hS
  rw [eqg_bool]; simp [binOp, this]
theorem b_bne {S : TypeId} {a b : Bool} (hS : P.underlying S = some .bool) : BinRun P .neq S (.bool a) (.bool b) (.bool (!(a == b))) := fun x y w => by
  have := run_equal_bool (P := P) w S a b hS
  rw [eqg_bool]; simp [binOp, this]
end
end Go.Proofs.Ytdcbbkpdlcojfaa
