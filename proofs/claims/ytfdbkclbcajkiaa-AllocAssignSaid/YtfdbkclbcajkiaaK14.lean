/-
  Regions that draw their order, where one of several changing operations may come next; and sub-slices as operations that change nothing. No condition.
-/
import Derived.Test.YtfdbkclbcajkiaaK13
namespace Go.Proofs.Ytfdbkclbcajkiaa
set_option linter.unusedSimpArgs false
set_option linter.unusedVariables false
open Go.RowKit

section
variable {P : Program} {N : Nat} {w0 : World} {M H : Nat → Prop} {E : Env} {Γ R : Ctx} {Q : Exit → Act → World → Prop}

/-- The changing operation c comes next. -/
def Nx (P : Program) (N : Nat) (w0 : World) (M H : Nat → Prop) (E : Env) (Γ R : Ctx) (l : List Oper) (Q : Exit → Act → World → Prop) (V : Vals) (C : List Nat) (c : Nat) : Prop :=
  ∀ ord D a w o, l[c]? = some o → D c = false → (∀ j ∈ preds o, D j = true) → Ord l (fun j => bif Nat.beq j c then true else D j) ord → StI N w0 M H E Γ R l V C D a w → wpOps P l.toArray Q (c :: ord) a w
def NxAll (P : Program) (N : Nat) (w0 : World) (M H : Nat → Prop) (E : Env) (Γ R : Ctx) (l : List Oper) (Q : Exit → Act → World → Prop) (V : Vals) (C : List Nat) : List Nat → Prop
  | [] => True
  | c :: cs => Nx P N w0 M H E Γ R l Q V C c ∧ NxAll P N w0 M H E Γ R l Q V C cs
theorem NxAll.get {l : List Oper} {V : Vals} {C : List Nat} : ∀ {cs : List Nat}, NxAll P N w0 M H E Γ R l Q V C cs → ∀ c ∈ cs, Nx P N w0 M H E Γ R l Q V C c
  | [], _, c, h => by simp at h
  | d :: cs, hp, c, h => by
    rcases List.mem_cons.1 h with rfl | h
    · exact hp.1
    · exact hp.2.get c h
theorem nx_nil {l : List Oper} {V : Vals} {C : List Nat} : NxAll P N w0 M H E Γ R l Q V C [] := trivial
theorem nx_cons {l : List Oper} {V : Vals} {C : List Nat} {c : Nat} {cs : List Nat} (h : Nx P N w0 M H E Γ R l Q V C c) (hs : NxAll P N w0 M H E Γ R l Q V C cs) : NxAll P N w0 M H E Γ R l Q V C (c :: cs) := ⟨h, hs⟩
def clsOkL (l : List Oper) (I : List Nat) (cs : List Nat) : Bool :=
  (List.range l.length).all fun i => I.any (Nat.beq i) || inB cs i || (match l[i]? with | some o => (preds o).any (fun j => !(I.any (Nat.beq j))) | none => true)
/-- One of the changing operations cs comes next. -/
theorem stg_alts {l : List Oper} {V : Vals} {C : List Nat} (is : List Nat) {I : Vals} (hI0 : vpick is V = I) (hst : stOk N E V = true) (hI : PRs P N w0 M H E Γ R l V I) (hcov : covOk V is C = true) (cs : List Nat)
    (hcls : clsOkL l (vidx V ++ C) cs = true) (hne : (match cs with | c :: _ => Nat.blt c l.length && !(inB (vidx V ++ C) c) | [] => false) = true) (hmem : NxAll P N w0 M H E Γ R l Q V C cs) :
    Stg P N w0 M H E Γ R l Q V C := by
  obtain ⟨h1, h2, h3, h4⟩ := stOk_slots hst
  intro ord
  induction ord with
  | nil =>
    intro D a w ho hS
    cases ho with
    | nil h =>
      cases cs with
      | nil => cases hne
      | cons c cs =>
        simp only [Bool.and_eq_true, Bool.not_eq_true'] at hne
        have := mem_inB (hS.done c (h c (by simpa using hne.1)))
        rw [this] at hne
        cases hne.2
  | cons i ord ih =>
    intro D a w ho hS
    cases ho with
    | cons hio hD hpr hrest =>
      have hi : i < l.length := (List.getElem?_eq_some_iff.1 hio).1
      have hc := List.all_eq_true.1 hcls i (by simpa using hi)
      simp only [hio, Bool.or_eq_true] at hc
      rcases hc with (hc | hc) | hc
      · have hiV : i ∈ vidx V := by
          rcases List.mem_append.1 (inB_mem hc : i ∈ vidx V ++ C) with h | h
          · exact h
          · have := hS.sure i h
            rw [hD] at this
            cases this
        have hcv := List.all_eq_true.1 hcov i hiV
        simp only [Bool.or_eq_true] at hcv
        rcases hcv with hcv | hcv
        · obtain ⟨d, v, hm⟩ := vpick_get hiV (inB_mem hcv)
          exact stg_pure h1 h2 h3 h4 (vpick_mem hm) ((hI0 ▸ hI : PRs P N w0 M H E Γ R l V (vpick is V)).get i d v hm) hio hpr hS fun a' hS' => ih _ a' w hrest hS'
        · have := hS.sure i (inB_mem hcv)
          rw [hD] at this
          cases this
      · exact hmem.get i (inB_mem hc) ord D a w _ hio hD hpr hrest hS
      · obtain ⟨j, hj, hjn⟩ := List.any_eq_true.1 hc
        have hjV := mem_inB (hS.done j (hpr j hj))
        rw [inB] at hjV
        rw [hjV] at hjn
        simp at hjn
theorem nx_mem {l : List Oper} {V : Vals} {C : List Nat} (c : Nat) (C' Jx : List Nat) {X : Type} {φ : X → Prop} {v : X → Value} {Γ' R' : X → Ctx} {d : Nat} {o : Oper} (J' : X → Vals)
    (ho : l[c]? = some o) (hdst : o.dst = some d) (hgd : o.guard = none) (hd : Nat.blt d N = true) (hdE : eget E d = none) (hdV : inB (vslots V) d = false) (hcV : inB (vidx V ++ C) c = false)
    (hcl : clOk l C c [] C' = true) (hCC0 : C.all (inB C') = true) (hJ : ∀ x, φ x → vidx (J' x) = Jx) (hJx : Jx.all (fun j => !(inB (vidx V ++ C) j) && !(Nat.beq j c)) = true) (hms : MS P N w0 M H (vpre (preds o) V ++ E) Γ R o φ v Γ' R')
    (k : ∀ x, φ x → Stg P N w0 M H E (Γ' x) (R' x) l Q (J' x ++ (c, d, v x) :: V) C') : Nx P N w0 M H E Γ R l Q V C c := by
  have hCC : ∀ j ∈ C, j ∈ C' := fun j hj => inB_mem (List.all_eq_true.1 hCC0 j hj)
  intro ord D a w o' hio hDk hpr hrest hS
  rw [ho] at hio
  injection hio with hio
  subst hio
  have ho' : l.toArray[c]? = some o := by simpa using ho
  simp only [wpOps, ho']
  rw [if_pos (by simp [Region.wanted, hgd])]
  left
  have hEp : EOk N (vpre (preds o) V ++ E) a := hS.base.vpre fun j d v hj hjp => hS.vals j d v hj (hpr j hjp)
  have hlt : d < a.tmps.size := Nat.lt_of_lt_of_le (by simpa using hd) hS.base.size
  refine hms a w hEp hS.ok _ _ fun x w' hφ hC' => ?_
  rw [hdst]
  have hclosed : ∀ (j : Nat) (o' : Oper), l[j]? = some o' → (bif Nat.beq j c then true else D j) = true → ∀ k ∈ preds o', (bif Nat.beq k c then true else D k) = true := by
    intro j o' hoj hj q hq
    cases hb : Nat.beq j c with
    | true =>
      have := Nat.eq_of_beq_eq_true hb
      subst this
      rw [ho] at hoj
      injection hoj with hoj
      subst hoj
      simp [hpr q hq]
    | false => rw [hb] at hj; simp [hS.closed j o' hoj hj q hq]
  refine k x hφ ord _ _ w' hrest ⟨fun j hj => ?_, clOk_done (fun i hi => by simp [hS.sure i hi]) (by simp) hclosed C' [] hcl (fun s hs => by simp at hs), hclosed, ⟨hS.base.defers, by simpa [Act.put] using hS.base.size, fun t u ht => ?_⟩, fun j e u hj hjD => ?_, hC'⟩
  · rw [vidx_app]
    show j ∈ vidx (J' x) ++ (c :: vidx V) ++ C'
    cases hb : Nat.beq j c with
    | true => rw [Nat.eq_of_beq_eq_true hb]; simp
    | false =>
      rw [hb] at hj
      rcases List.mem_append.1 (hS.done j hj) with h | h
      · simp [h]
      · have := hCC j h
        simp [this]
  · simp only [Act.put, Array.getElem?_setIfInBounds]
    have hne : d ≠ t := fun e => by subst e; rw [hdE] at ht; cases ht
    rw [if_neg hne]
    exact hS.base.slot t u ht
  · simp only [Act.put, Array.getElem?_setIfInBounds]
    rcases List.mem_append.1 hj with hj | hj
    · exfalso
      have hjx : j ∈ Jx := by rw [← hJ x hφ]; exact vidx_mem.2 ⟨e, u, hj⟩
      have h6 := List.all_eq_true.1 hJx j hjx
      simp only [Bool.and_eq_true, Bool.not_eq_true'] at h6
      rw [h6.2] at hjD
      have := mem_inB (hS.done j hjD)
      rw [this] at h6
      simp at h6
    · rcases List.mem_cons.1 hj with e' | e'
      · cases e'
        simp [hlt]
      · have hne : d ≠ e := fun h => by
          subst h
          rw [mem_inB (vslots_mem e')] at hdV
          cases hdV
        rw [if_neg hne]
        cases hb : Nat.beq j c with
        | true =>
          have := Nat.eq_of_beq_eq_true hb
          subst this
          rw [mem_inB (List.mem_append_left _ (vidx_mem.2 ⟨e, u, e'⟩))] at hcV
          cases hcV
        | false => rw [hb] at hjD; exact hS.vals j e u e' hjD
theorem nx_mem0 {l : List Oper} {V : Vals} {C : List Nat} (c : Nat) (C' Jx : List Nat) {X : Type} {φ : X → Prop} {v : X → Value} {Γ' R' : X → Ctx} {o : Oper} (J' : X → Vals)
    (ho : l[c]? = some o) (hdst : o.dst = none) (hgd : o.guard = none) (hcC' : inB C' c = true) (hcV : inB (vidx V ++ C) c = false)
    (hcl : clOk l C c [] C' = true) (hCC0 : C.all (inB C') = true) (hJ : ∀ x, φ x → vidx (J' x) = Jx) (hJx : Jx.all (fun j => !(inB (vidx V ++ C) j) && !(Nat.beq j c)) = true) (hms : MS P N w0 M H (vpre (preds o) V ++ E) Γ R o φ v Γ' R')
    (k : ∀ x, φ x → Stg P N w0 M H E (Γ' x) (R' x) l Q (J' x ++ V) C') : Nx P N w0 M H E Γ R l Q V C c := by
  have hCC : ∀ j ∈ C, j ∈ C' := fun j hj => inB_mem (List.all_eq_true.1 hCC0 j hj)
  intro ord D a w o' hio hDk hpr hrest hS
  rw [ho] at hio
  injection hio with hio
  subst hio
  have ho' : l.toArray[c]? = some o := by simpa using ho
  simp only [wpOps, ho']
  rw [if_pos (by simp [Region.wanted, hgd])]
  left
  have hEp : EOk N (vpre (preds o) V ++ E) a := hS.base.vpre fun j d v hj hjp => hS.vals j d v hj (hpr j hjp)
  refine hms a w hEp hS.ok _ _ fun x w' hφ hC' => ?_
  rw [hdst]
  have hclosed : ∀ (j : Nat) (o' : Oper), l[j]? = some o' → (bif Nat.beq j c then true else D j) = true → ∀ k ∈ preds o', (bif Nat.beq k c then true else D k) = true := by
    intro j o' hoj hj q hq
    cases hb : Nat.beq j c with
    | true =>
      have := Nat.eq_of_beq_eq_true hb
      subst this
      rw [ho] at hoj
      injection hoj with hoj
      subst hoj
      simp [hpr q hq]
    | false => rw [hb] at hj; simp [hS.closed j o' hoj hj q hq]
  refine k x hφ ord _ _ w' hrest ⟨fun j hj => ?_, clOk_done (fun i hi => by simp [hS.sure i hi]) (by simp) hclosed C' [] hcl (fun s hs => by simp at hs), hclosed, hS.base, fun j e u hj hjD => ?_, hC'⟩
  · rw [vidx_app]
    cases hb : Nat.beq j c with
    | true => rw [Nat.eq_of_beq_eq_true hb]; simp [inB_mem hcC']
    | false =>
      rw [hb] at hj
      rcases List.mem_append.1 (hS.done j hj) with h | h
      · simp [h]
      · have := hCC j h
        simp [this]
  · rcases List.mem_append.1 hj with hj | hj
    · exfalso
      have hjx : j ∈ Jx := by rw [← hJ x hφ]; exact vidx_mem.2 ⟨e, u, hj⟩
      have h6 := List.all_eq_true.1 hJx j hjx
      simp only [Bool.and_eq_true, Bool.not_eq_true'] at h6
      rw [h6.2] at hjD
      have := mem_inB (hS.done j hjD)
      rw [this] at h6
      simp at h6
    · cases hb : Nat.beq j c with
      | true =>
        have := Nat.eq_of_beq_eq_true hb
        subst this
        rw [mem_inB (List.mem_append_left _ (vidx_mem.2 ⟨e, u, hj⟩))] at hcV
        cases hcV
      | false => rw [hb] at hjD; exact hS.vals j e u hj hjD
theorem nx_memg {l : List Oper} {V : Vals} {C : List Nat} (c : Nat) (C' Jx : List Nat) {X : Type} {φ : X → Prop} {v : X → Value} {Γ' R' : X → Ctx} {d gi t : Nat} {cc b : Bool} {op : Op} {T : TypeId} {ps : String} {af : Array Edge} (J' : X → Vals)
    (ho : l[c]? = some ⟨some d, op, T, ps, af, some (gi, cc)⟩) (hgi : gslot l gi = some t) (hgt : eget (vpre (preds ⟨some d, op, T, ps, af, some (gi, cc)⟩) V ++ E) t = some (.bool b)) (hb : b = cc) (hd : Nat.blt d N = true) (hdE : eget E d = none) (hdV : inB (vslots V) d = false) (hcV : inB (vidx V ++ C) c = false)
    (hcl : clOk l C c [] C' = true) (hCC0 : C.all (inB C') = true) (hJ : ∀ x, φ x → vidx (J' x) = Jx) (hJx : Jx.all (fun j => !(inB (vidx V ++ C) j) && !(Nat.beq j c)) = true) (hms : MS P N w0 M H (vpre (preds ⟨some d, op, T, ps, af, some (gi, cc)⟩) V ++ E) Γ R ⟨some d, op, T, ps, af, none⟩ φ v Γ' R')
    (k : ∀ x, φ x → Stg P N w0 M H E (Γ' x) (R' x) l Q (J' x ++ (c, d, v x) :: V) C') : Nx P N w0 M H E Γ R l Q V C c := by
  have hCC : ∀ j ∈ C, j ∈ C' := fun j hj => inB_mem (List.all_eq_true.1 hCC0 j hj)
  intro ord D a w o' hio hDk hpr hrest hS
  rw [ho] at hio
  injection hio with hio
  subst hio
  have ho' : l.toArray[c]? = some ⟨some d, op, T, ps, af, some (gi, cc)⟩ := by simpa using ho
  simp only [wpOps, ho']
  have hEp : EOk N (vpre (preds ⟨some d, op, T, ps, af, some (gi, cc)⟩) V ++ E) a := hS.base.vpre fun j d v hj hjp => hS.vals j d v hj (hpr j hjp)
  rw [if_pos (by simp [Region.wanted, hEp.yield hgi hgt, hb])]
  left
  have hlt : d < a.tmps.size := Nat.lt_of_lt_of_le (by simpa using hd) hS.base.size
  refine hms a w hEp hS.ok _ _ fun x w' hφ hC' => ?_
  show wpOps P l.toArray Q ord (a.put (some d) (v x)) w'
  have hclosed : ∀ (j : Nat) (o' : Oper), l[j]? = some o' → (bif Nat.beq j c then true else D j) = true → ∀ k ∈ preds o', (bif Nat.beq k c then true else D k) = true := by
    intro j o' hoj hj q hq
    cases hb : Nat.beq j c with
    | true =>
      have := Nat.eq_of_beq_eq_true hb
      subst this
      rw [ho] at hoj
      injection hoj with hoj
      subst hoj
      simp [hpr q hq]
    | false => rw [hb] at hj; simp [hS.closed j o' hoj hj q hq]
  refine k x hφ ord _ _ w' hrest ⟨fun j hj => ?_, clOk_done (fun i hi => by simp [hS.sure i hi]) (by simp) hclosed C' [] hcl (fun s hs => by simp at hs), hclosed, ⟨hS.base.defers, by simpa [Act.put] using hS.base.size, fun t u ht => ?_⟩, fun j e u hj hjD => ?_, hC'⟩
  · rw [vidx_app]
    show j ∈ vidx (J' x) ++ (c :: vidx V) ++ C'
    cases hb : Nat.beq j c with
    | true => rw [Nat.eq_of_beq_eq_true hb]; simp
    | false =>
      rw [hb] at hj
      rcases List.mem_append.1 (hS.done j hj) with h | h
      · simp [h]
      · have := hCC j h
        simp [this]
  · simp only [Act.put, Array.getElem?_setIfInBounds]
    have hne : d ≠ t := fun e => by subst e; rw [hdE] at ht; cases ht
    rw [if_neg hne]
    exact hS.base.slot t u ht
  · simp only [Act.put, Array.getElem?_setIfInBounds]
    rcases List.mem_append.1 hj with hj | hj
    · exfalso
      have hjx : j ∈ Jx := by rw [← hJ x hφ]; exact vidx_mem.2 ⟨e, u, hj⟩
      have h6 := List.all_eq_true.1 hJx j hjx
      simp only [Bool.and_eq_true, Bool.not_eq_true'] at h6
      rw [h6.2] at hjD
      have := mem_inB (hS.done j hjD)
      rw [this] at h6
      simp at h6
    · rcases List.mem_cons.1 hj with e' | e'
      · cases e'
        simp [hlt]
      · have hne : d ≠ e := fun h => by
          subst h
          rw [mem_inB (vslots_mem e')] at hdV
          cases hdV
        rw [if_neg hne]
        cases hb : Nat.beq j c with
        | true =>
          have := Nat.eq_of_beq_eq_true hb
          subst this
          rw [mem_inB (List.mem_append_left _ (vidx_mem.2 ⟨e, u, e'⟩))] at hcV
          cases hcV
        | false => rw [hb] at hjD; exact hS.vals j e u e' hjD

theorem ms_store_arrAll {T : TypeId} {ps : String} {af : Array Edge} {S S' : TypeId} {D : TypeDesc} {z : Value} {s bb n : Nat} {x y : Operand} {b : Nat} {k : Nat} {f g : Nat → Value} (ht : TI P S D z s bb) (hx : ev E x = some (.pointer (some ⟨b, 0, none⟩))) (hy : ev E y = some (.agg ((List.range n).map g).toArray))
    (hs : n = s) (h1 : ((List.range n).map g).all (·.oneCell') = true) (hk : cget Γ k = some (arr b S' n f))
    : MS P N w0 M H E Γ R ⟨none, .store S x y, T, ps, af, none⟩ (X := Unit) (fun _ => True) (fun _ => undef) (fun _ => (k, arr b S' n g) :: Γ) (fun _ => R) :=
  ms_store_gen (us := (List.range n).map g) ht hx hy (by simp [Value.cells]) (by simpa using hs) h1 hk arr_putAll

/-! ### Sub-slices -/
def loS (x : SV) (j s : Nat) : SV := ⟨if x.c = j then x.a else x.a.map (·.add (j * s)), x.n - j, x.c - j⟩
def hiS (x : SV) (j : Nat) : SV := ⟨x.a, j, x.c⟩
theorem p_slice_lo {α : Type} {S U : TypeId} {D : TypeDesc} {z : Value} {s bb j : Nat} {enc : α → List Value} {x y : Operand} {k : IntKind} {i : Int} {v : SV} {l : List α} (hS : P.underlying S = some (.slice U)) (hU : TI P U D z s bb) (hx : ev E x = some (sv v)) (hy : ev E y = some (.int k i)) (hs : HasSl Γ R s enc (sv v) l) (hi : i = (j : Int)) (hj : j ≤ l.length) : PR P N w0 M H E Γ R (.slice S x (some y) none none) (sv (loS v j s)) :=
  fun _ _ _ a w hE hC _ _ => by
    subst hi
    obtain ⟨G, c, h1, h2, h3⟩ := hs.ok hC
    obtain ⟨va, vn, vc⟩ := v
    rcases h3 with ⟨rfl, _, hv⟩ | ⟨b, o, hv, _, _⟩
    · simp [sv] at hv
      obtain ⟨rfl, rfl, rfl⟩ := hv
      have hj0 : j = 0 := by simpa using hj
      subst hj0
      simp [execOp, hE.ev hx, hE.ev hy, Instr.sliceAt, Instr.slice, run_underlying hS, Instr.sliceBounds, Instr.sliceBound, asIntOf, hU.sizeOf, sv, loS]
    · simp [sv] at hv
      obtain ⟨rfl, rfl, rfl⟩ := hv
      have hjc : (j : Int) ≤ l.length := by omega
      by_cases hcj : vc = j
      · simp [execOp, hE.ev hx, hE.ev hy, Instr.sliceAt, Instr.slice, run_underlying hS, Instr.sliceBounds, Instr.sliceBound, asIntOf, hU.sizeOf, sv, hjc, add_lit', hcj, loS]
        exact fun h => absurd h (by omega)
      · simp [execOp, hE.ev hx, hE.ev hy, Instr.sliceAt, Instr.slice, run_underlying hS, Instr.sliceBounds, Instr.sliceBound, asIntOf, hU.sizeOf, sv, hjc, add_lit', hcj, loS]
        exact fun h => absurd h (by omega)
theorem p_slice_hi {α : Type} {S U : TypeId} {D : TypeDesc} {z : Value} {s bb j : Nat} {enc : α → List Value} {x y : Operand} {k : IntKind} {i : Int} {v : SV} {l : List α} (hS : P.underlying S = some (.slice U)) (hU : TI P U D z s bb) (hx : ev E x = some (sv v)) (hy : ev E y = some (.int k i)) (hs : HasSl Γ R s enc (sv v) l) (hi : i = (j : Int)) (hj : j ≤ l.length) : PR P N w0 M H E Γ R (.slice S x none (some y) none) (sv (hiS v j)) :=
  fun _ _ _ a w hE hC _ _ => by
    subst hi
    obtain ⟨G, c, h1, h2, h3⟩ := hs.ok hC
    obtain ⟨va, vn, vc⟩ := v
    rcases h3 with ⟨rfl, _, hv⟩ | ⟨b, o, hv, _, _⟩
    · simp [sv] at hv
      obtain ⟨rfl, rfl, rfl⟩ := hv
      have hj0 : j = 0 := by simpa using hj
      subst hj0
      simp [execOp, hE.ev hx, hE.ev hy, Instr.sliceAt, Instr.slice, run_underlying hS, Instr.sliceBounds, Instr.sliceBound, asIntOf, hU.sizeOf, sv, hiS]
    · simp [sv] at hv
      obtain ⟨rfl, rfl, rfl⟩ := hv
      have hjc : (j : Int) ≤ vc := by omega
      simp [execOp, hE.ev hx, hE.ev hy, Instr.sliceAt, Instr.slice, run_underlying hS, Instr.sliceBounds, Instr.sliceBound, asIntOf, hU.sizeOf, sv, hjc, add_lit', hiS]
      intro h
      omega
/-- A sub-slice of what may be read may be read. -/
theorem sl_lo {α : Type} {s j : Nat} {enc : α → List Value} (he : ∀ x, (enc x).length = s) {v : SV} {l : List α} (hj : j ≤ l.length) {w : World} {G : Nat → Prop} (h : SlOk w G s enc (sv v) l) : SlOk w G s enc (sv (loS v j s)) (l.drop j) := by
  obtain ⟨c, h1, h2, h3⟩ := h
  obtain ⟨va, vn, vc⟩ := v
  rcases h3 with ⟨rfl, hn, hv⟩ | ⟨b, o, hv, hb, hc⟩
  · simp [sv] at hv
    obtain ⟨rfl, rfl, rfl⟩ := hv
    exact ⟨0, by simp, by unfold maxLen; omega, .inl ⟨by simp, hn, by simp [loS, sv]⟩⟩
  · simp [sv] at hv
    obtain ⟨rfl, rfl, rfl⟩ := hv
    refine ⟨vc - j, by rw [List.length_drop]; omega, by omega, .inr ⟨b, if vc = j then o else o + j * s, by simp [sv, loS]; split <;> simp [add_lit'], hb, fun q u hq => ?_⟩⟩
    by_cases hcj : vc = j
    · have : l.drop j = [] := List.drop_eq_nil_of_le (by omega)
      rw [this] at hq
      simp at hq
    · rw [if_neg hcj, Nat.add_assoc]
      exact hc _ u (flat_drop he hj hq)
theorem sl_hi {α : Type} {s j : Nat} {enc : α → List Value} {v : SV} {l : List α} (hj : j ≤ l.length) {w : World} {G : Nat → Prop} (h : SlOk w G s enc (sv v) l) : SlOk w G s enc (sv (hiS v j)) (l.take j) := by
  obtain ⟨c, h1, h2, h3⟩ := h
  obtain ⟨va, vn, vc⟩ := v
  rcases h3 with ⟨rfl, hn, hv⟩ | ⟨b, o, hv, hb, hc⟩
  · simp [sv] at hv
    obtain ⟨rfl, rfl, rfl⟩ := hv
    have hj0 : j = 0 := by simpa using hj
    subst hj0
    exact ⟨0, by simp, by unfold maxLen; omega, .inl ⟨by simp, hn, by simp [hiS, sv]⟩⟩
  · simp [sv] at hv
    obtain ⟨rfl, rfl, rfl⟩ := hv
    refine ⟨vc, by rw [List.length_take]; omega, h2, .inr ⟨b, o, by simp [sv, hiS, Nat.min_eq_left hj], hb, fun q u hq => hc q u ?_⟩⟩
    have : l.flatMap enc = (l.take j).flatMap enc ++ (l.drop j).flatMap enc := by rw [← List.flatMap_append, List.take_append_drop]
    rw [this, List.getElem?_append_left (List.getElem?_eq_some_iff.1 hq).1]
    exact hq
theorem r_lo {α : Type} (r m j : Nat) {s : Nat} {enc : α → List Value} {v : SV} {l : List α} {Rel : Act → World → Prop} (hr : cget R r = some (sl s enc (sv v) l)) (he : ∀ x, (enc x).length = s) (hj : j ≤ l.length) (h : At N w0 M H E Γ ((m, sl s enc (sv (loS v j s)) (l.drop j)) :: R) Rel) : At N w0 M H E Γ R Rel :=
  h.weak (fun _ h => h) fun w hC => hC.more hr fun G hG _ => ⟨G, sl_lo he hj hG, fun _ hb => hb⟩
theorem r_hi {α : Type} (r m j : Nat) {s : Nat} {enc : α → List Value} {v : SV} {l : List α} {Rel : Act → World → Prop} (hr : cget R r = some (sl s enc (sv v) l)) (hj : j ≤ l.length) (h : At N w0 M H E Γ ((m, sl s enc (sv (hiS v j)) (l.take j)) :: R) Rel) : At N w0 M H E Γ R Rel :=
  h.weak (fun _ h => h) fun w hC => hC.more hr fun G hG _ => ⟨G, sl_hi (s := s) hj hG, fun _ hb => hb⟩
end
end Go.Proofs.Ytfdbkclbcajkiaa
