/-
  Operations that change memory, as facts of their own: for regions that draw their order. No condition.
-/
import Derived.Test.YtfdbkclbcajkiaaK7
namespace Go.Proofs.Ytfdbkclbcajkiaa
set_option linter.unusedSimpArgs false
set_option linter.unusedVariables false
open Go.RowKit

section
variable {P : Program} {N : Nat} {w0 : World} {M H : Nat → Prop} {E : Env} {Γ R : Ctx} {Q : Exit → Act → World → Prop}
variable {ops : Array Oper} {rest : List Oper} {T : TypeId} {ps : String} {af : Array Edge} {d : Nat} {op : Op}

theorem ms_alloc {S : TypeId} {D : TypeDesc} {z : Value} {s bb : Nat} {c : List Value} (ht : TI P S D z s bb) (hc : z.cells.toList = c)
    : MS P N w0 M H E Γ R ⟨some d, .alloc S, T, ps, af, none⟩ (X := Nat) (fun _ => True) (fun b => .pointer (some ⟨b, 0, none⟩)) (fun b => (d, row b S c) :: Γ) (fun _ => R) := ms_gen (fun a w hE hC => ⟨w.heap.size, w.alloc (.cells c.toArray S), trivial, by
    subst hc
    simp [execOp, Instr.alloc, ht.zero, newVar, newRow], hC.alloc⟩)

theorem ms_box {S : TypeId} {x : Operand} {v : Value} {c : List Value} (hx : ev E x = some v) (hc : v.cells.toList = c)
    : MS P N w0 M H E Γ R ⟨some d, .box S x, T, ps, af, none⟩ (X := Nat) (fun _ => True) (fun b => .pointer (some ⟨b, 0, none⟩)) (fun b => (d, row b S c) :: Γ) (fun _ => R) := ms_gen (fun a w hE hC => ⟨w.heap.size, w.alloc (.cells c.toArray S), trivial, by
    subst hc
    simp [execOp, hE.ev hx, Instr.box, newVar, newRow], hC.alloc⟩)

theorem ms_bslice1 {α : Type} {S U : TypeId} {D : TypeDesc} {z : Value} {s bb : Nat} (enc : α → List Value) (e : α) {x : Operand} {v : Value} (hS : P.underlying S = some (.slice U)) (hU : TI P U D z s bb) (hs : z.cells.size = s) (hs0 : 0 < s) (hsb : s ≤ 1000000) (hx : ev E x = some v) (hv : v.cells.toList = enc e) (he : (enc e).length = s)
    : MS P N w0 M H E Γ R ⟨some d, .buildSlice S 1 #[(0, x)], T, ps, af, none⟩ (X := SV) (fun _ => True) (fun v' => sv v') (fun v' => (d, own U s enc (sv v') [e]) :: Γ) (fun _ => R) := ms_gen (fun a w hE hC => ⟨⟨some ⟨w.heap.size, 0, none⟩, 1, 1⟩, w.alloc (.cells v.cells U), trivial, by
    have hvs : v.cells.size = s := by rw [← he, ← hv]; simp
    have h0 : ¬ s = 0 := by omega
    have hzz : ((Array.range (1 * s)).map (z.cells[· % z.cells.size]!)).size = s := by simp
    have hf := fill_one (s := s) (v := v) hvs hzz
    simp only [Nat.one_mul] at hf
    have hb : ¬ 16777216 < s := by omega
    simp [execOp, hE.ev hx, Instr.buildSlice, run_underlying hS, hU.sizeOf, hU.zero, newRow, h0, hb, hf, sv], by
    have hvs : v.cells.size = s := by rw [← he, ← hv]; simp
    refine hC.new (Touch.alloc _ _ _) ⟨_, own_new (S := U) (s := s) (enc := enc) (l := [e]) (cap := 1) (by simpa using he) (by simpa using hvs) (by simp) (by simp [maxLen]) (by simp [hv]; rw [← he]; exact List.take_of_length_le (Nat.le_refl _)), fun b hb => by subst hb; simp⟩⟩)

theorem ms_bslice0 {α : Type} {S U : TypeId} {D : TypeDesc} {z : Value} {s bb : Nat} (enc : α → List Value) (hS : P.underlying S = some (.slice U)) (hU : TI P U D z s bb)
    : MS P N w0 M H E Γ R ⟨some d, .buildSlice S 0 #[], T, ps, af, none⟩ (X := SV) (fun _ => True) (fun v' => sv v') (fun v' => (d, own U s enc (sv v') []) :: Γ) (fun _ => R) := ms_gen (fun a w hE hC => ⟨⟨some ⟨w.heap.size, 0, none⟩, 0, 0⟩, w.alloc (.cells #[] U), trivial, by
    simp [execOp, Instr.buildSlice, run_underlying hS, hU.sizeOf, newRow, Instr.fill, Array.range_zero', sv],
    hC.new (Touch.alloc _ _ _) ⟨_, own_new (S := U) (s := s) (enc := enc) (l := []) (cap := 0) (by simp) (by simp) (by simp) (by simp) (by simp), fun b hb => by subst hb; simp⟩⟩)

theorem ms_append {α : Type} {S U : TypeId} {D : TypeDesc} {z : Value} {s bb : Nat} {enc : α → List Value} {x y : Operand} {v v2 : Value} {l l2 : List α} (k : Nat) (hS : P.underlying S = some (.slice U)) (hU : TI P U D z s bb) (hzs : z.cells.size = s) (hs0 : 0 < s) (he : ∀ x, (enc x).length = s) (h1 : ∀ x, (enc x).all (·.oneCell') = true)
    (hx : ev E x = some v) (hy : ev E y = some v2) (hk : cget Γ k = some (own U s enc v l)) (h2 : HasSl Γ R s enc v2 l2) (hm : (l.length + l2.length) * bb ≤ 140737488355328) (hm' : l.length + l2.length ≤ maxLen)
    : MS P N w0 M H E Γ R ⟨some d, .call { callee := .builtin .append, args := #[x, y], argTypes := #[S, S] }, T, ps, af, none⟩ (X := SV) (fun _ => True) (fun v' => sv v') (fun v' => (k, own U s enc (sv v') (l ++ l2)) :: Γ) (fun _ => R) := by
  refine ms_gen fun a w hE hC => ?_
  obtain ⟨G0, hp0, hlt0⟩ := hC.reads (.inl hk)
  obtain ⟨G2, c, h3, h4, h5⟩ := h2.ok hC
  obtain ⟨i, i1, i2, i3, i4⟩ := hU.info
  have hfl : ∀ l' : List α, (l'.flatMap enc).length = l'.length * s := flatMap_len he
  rcases h5 with ⟨rfl, _, rfl⟩ | ⟨b2, o2, rfl, _, hc2⟩
  · obtain ⟨xv, rfl⟩ := ownsRow_sv hp0.2
    refine ⟨xv, w, trivial, ?_, ?_⟩
    · have hr := run_append_owned_none (P := P) w 0 S T U i s hS i1 (sv xv) l.length _ hp0.2
      simp [execOp, resolve, invoke, builtin, hE.ev hx, hE.ev hy, hr]
    · simp only [List.append_nil]
      exact hC.upd hk fun G hG hGlt => ⟨G, hG, fun b hb => ⟨hGlt b hb, fun _ => hb⟩, Touch.refl _ _⟩
  · obtain ⟨v', w', hr, ho, hg, hn⟩ := run_append_own (P := P) w 0 S T U i z s bb hS i1 i2 i3 i4 hzs hs0 v l.length _ hp0.2 ⟨b2, o2, none⟩ l2.length c (l2.flatMap enc) (hfl l2)
      (fun j u hj => by rw [add_lit']; exact hc2 j u hj) (fun u hu => by obtain ⟨x, _, hxu⟩ := List.mem_flatMap.1 hu; simpa using List.all_eq_true.1 (h1 x) u hxu) hm' hm (Nat.zero_le _)
    obtain ⟨xv, rfl⟩ := ownsRow_sv ho
    refine ⟨xv, w', trivial, ?_, ?_⟩
    · simp [execOp, resolve, invoke, builtin, hE.ev hx, hE.ev hy, hr]
    · refine hC.upd hk fun G hG hGlt => ⟨fun b => (sv xv).ownBlock = some b, ⟨fun x => Iff.rfl, ?_⟩, fun b hb => ⟨(ho.lt b hb).2, fun hlt => ?_⟩, ⟨hg.os, hg.tape, hg.output, hg.size, fun i hi hne => hg.block i hi (fun e => hne ((hG.1 i).2 e.symm))⟩⟩
      · rw [List.length_append, List.flatMap_append]; exact ho
      · rcases hp0.2.2 with ⟨rfl, hl0⟩ | ⟨g, cap, cur, rfl, hbg, hgg, hnc, hcm, hcs, htake⟩
        · exfalso
          have hl : l = [] := List.eq_nil_of_length_eq_zero hl0
          subst hl
          by_cases hz : l2.length = 0
          · have hl2 : l2 = [] := List.eq_nil_of_length_eq_zero hz
            subst hl2
            have := (hn.2 ⟨rfl, rfl⟩)
            rw [this] at hb
            simp [Value.ownBlock] at hb
          · have hr2 := run_append_nil (P := P) w S T U i z hS i1 i2 ⟨b2, o2, none⟩ l2.length c (l2.flatMap enc) (by rw [hfl, i3]) (fun j u hj => by rw [add_lit']; exact hc2 j u hj) (by simpa using Nat.pos_of_ne_zero hz) (by simp only [maxLen] at hm'; simp at hm'; omega) (by rw [i4]; simp at hm; omega)
            rw [hr2] at hr
            injection hr with hr3 hr4
            replace hb : (sv xv).ownBlock = some b := hb
            rw [← hr3] at hb
            simp [Value.ownBlock] at hb
            omega
        · by_cases hroom : l.length + l2.length ≤ cap
          · have hfit : l.length * i.size + (l2.flatMap enc).length ≤ cur.size := by rw [hfl, hcs, i3, ← Nat.add_mul]; exact Nat.mul_le_mul_right _ hroom
            have hr2 := run_append_room (P := P) w S T U i hS i1 g l.length cap cur hgg ⟨b2, o2, none⟩ l2.length c (l2.flatMap enc) (by rw [hfl, i3]) (fun j u hj => by rw [add_lit']; exact hc2 j u hj) (fun u hu => by obtain ⟨x, _, hxu⟩ := List.mem_flatMap.1 hu; simpa using List.all_eq_true.1 (h1 x) u hxu) hroom hfit
            rw [hr2] at hr
            injection hr with hr3 hr4
            replace hb : (sv xv).ownBlock = some b := hb
            rw [← hr3] at hb
            simp [Value.ownBlock] at hb
            subst hb
            exact (hG.1 g).2 rfl
          · exfalso
            have holds := hp0.2.cells (g := g) rfl
            have hr2 := run_append_grow (P := P) w S T U i z hS i1 i2 ⟨g, 0, none⟩ l.length cap (l.flatMap enc) (by rw [hfl, i3]) holds ⟨b2, o2, none⟩ l2.length c (l2.flatMap enc) (by rw [hfl, i3]) (fun j u hj => by rw [add_lit']; exact hc2 j u hj) (by omega) (by simp only [maxLen] at hm'; omega) (growslice_fits (by omega) (by rw [i4]; exact hm))
            rw [hr2] at hr
            injection hr with hr3 hr4
            replace hb : (sv xv).ownBlock = some b := hb
            rw [← hr3] at hb
            simp [Value.ownBlock] at hb
            omega

theorem ms_store_gen {S : TypeId} {D : TypeDesc} {z : Value} {s bb : Nat} {x y : Operand} {b o : Nat} {v : Value} {A A' : Asn} {k : Nat} {us : List Value} (ht : TI P S D z s bb) (hx : ev E x = some (.pointer (some ⟨b, o, none⟩))) (hy : ev E y = some v)
    (hus : v.cells.toList = us) (hs : us.length = s) (h1 : us.all (·.oneCell') = true) (hk : cget Γ k = some A)
    (hA : ∀ w G, A.pred w G → ∃ cur S', w.heap[b]? = some (.cells cur S' (0, 0)) ∧ G b ∧ o + us.length ≤ cur.size ∧ A'.pred (w.setRow b (cur.toList.take o ++ us ++ cur.toList.drop (o + us.length)).toArray) G)
    : MS P N w0 M H E Γ R ⟨none, .store S x y, T, ps, af, none⟩ (X := Unit) (fun _ => True) (fun _ => undef) (fun _ => (k, A') :: Γ) (fun _ => R) := by
  intro a w hE hC next Q hnext
  obtain ⟨G0, hp, hlt⟩ := hC.reads (.inl hk)
  obtain ⟨cur, S', hb, _, hfit, _⟩ := hA w G0 hp
  have hst := run_storeCells_at P b o S' us 0 cur w hb (by simpa using hfit) (fun v hv => by simpa using List.all_eq_true.1 h1 v hv)
  simp only [Nat.add_zero] at hst
  have hC' : COk w0 M H ((k, A') :: Γ) R (w.setRow b (cur.toList.take o ++ us ++ cur.toList.drop (o + us.length)).toArray) :=
    hC.upd hk fun G hG hGlt => by
      obtain ⟨cur', S'', hb', hGb, hfit', hA'⟩ := hA w G hG
      rw [hb] at hb'
      injection hb' with hb'
      injection hb' with e1 e2
      subst e1
      exact ⟨G, hA', fun x hx => ⟨by simpa using hGlt x hx, fun _ => hx⟩, ⟨rfl, rfl, rfl, by simp, fun i _ hi => setRow_other w b i _ (fun e => hi (e ▸ hGb))⟩⟩
  unfold Oper.wp
  have hrun : (execOp a.eval ⟨none, .store S x y, T, ps, af, none⟩).run P w = .ok .skip (w.setRow b (cur.toList.take o ++ us ++ cur.toList.drop (o + us.length)).toArray) := by
    have hsz : v.cells.size = s := by rw [← hs, ← hus]; simp
    simp [execOp, hE.ev hx, hE.ev hy, Instr.storeAt, Instr.sureAddr, storeVar, ht.sizeOf, hsz, hus, hst]
  rw [hrun]
  exact hnext () _ trivial hC'

theorem ms_store_row {S S' : TypeId} {D : TypeDesc} {z : Value} {s bb : Nat} {x y : Operand} {b o : Nat} {v : Value} {k : Nat} {c c' us : List Value} (ht : TI P S D z s bb) (hx : ev E x = some (.pointer (some ⟨b, o, none⟩))) (hy : ev E y = some v)
    (hus : v.cells.toList = us) (hs : us.length = s) (h1 : us.all (·.oneCell') = true) (hk : cget Γ k = some (row b S' c)) (hfit : Nat.ble (o + us.length) c.length = true) (hc : c.take o ++ us ++ c.drop (o + us.length) = c')
    : MS P N w0 M H E Γ R ⟨none, .store S x y, T, ps, af, none⟩ (X := Unit) (fun _ => True) (fun _ => undef) (fun _ => ((k, row b S' c') :: Γ)) (fun _ => R) :=
  ms_store_gen ht hx hy hus hs h1 hk (row_put hc (by simpa using hfit))

theorem ms_store_arr {S S' : TypeId} {D : TypeDesc} {z : Value} {s bb : Nat} {x y : Operand} {b o n : Nat} {v : Value} {k : Nat} {f : Nat → Value} (ht : TI P S D z s bb) (hx : ev E x = some (.pointer (some ⟨b, o, none⟩))) (hy : ev E y = some v)
    (h1 : v.oneCell' = true) (hs : s = 1) (hk : cget Γ k = some (arr b S' n f)) (ho : o < n)
    : MS P N w0 M H E Γ R ⟨none, .store S x y, T, ps, af, none⟩ (X := Unit) (fun _ => True) (fun _ => undef) (fun _ => ((k, arr b S' n (fset f o v)) :: Γ)) (fun _ => R) :=
  ms_store_gen (us := [v]) ht hx hy (by cases v <;> first | rfl | simp [Value.oneCell'] at h1) (by simp [hs]) (by simp [h1]) hk (arr_put ho)

theorem ms_store_own {α : Type} {S S' : TypeId} {D : TypeDesc} {z : Value} {s n bb : Nat} {x y : Operand} {u v : Value} {k i o : Nat} {enc : α → List Value} {l : List α} {e e' : α} {us : List Value} (ht : TI P S D z n bb) (hx : ev E x = some (.pointer (some ⟨sblk v, soff v + i * s + o, none⟩))) (hy : ev E y = some u)
    (hus : u.cells.toList = us) (hs : us.length = n) (h1 : us.all (·.oneCell') = true) (hk : cget Γ k = some (own S' s enc v l)) (he : ∀ x, (enc x).length = s) (hi : l[i]? = some e) (ho : o + us.length ≤ s) (hx' : (enc e).take o ++ us ++ (enc e).drop (o + us.length) = enc e')
    : MS P N w0 M H E Γ R ⟨none, .store S x y, T, ps, af, none⟩ (X := Unit) (fun _ => True) (fun _ => undef) (fun _ => ((k, own S' s enc v (l.set i e')) :: Γ)) (fun _ => R) :=
  ms_store_gen ht hx hy hus hs h1 hk (own_put he hi ho hx')

theorem ms_store_all {S S' : TypeId} {D : TypeDesc} {z : Value} {s bb : Nat} {x y : Operand} {b : Nat} {k : Nat} {c us : List Value} (ht : TI P S D z s bb) (hx : ev E x = some (.pointer (some ⟨b, 0, none⟩))) (hy : ev E y = some (.agg us.toArray))
    (hs : us.length = s) (h1 : us.all (·.oneCell') = true) (hk : cget Γ k = some (row b S' c)) (hc : c.length = s)
    : MS P N w0 M H E Γ R ⟨none, .store S x y, T, ps, af, none⟩ (X := Unit) (fun _ => True) (fun _ => undef) (fun _ => ((k, row b S' us) :: Γ)) (fun _ => R) :=
  ms_store_row (us := us) ht hx hy (by simp [Value.cells]) hs h1 hk (by rw [hs, hc]; simp) (by rw [hs, ← hc]; simp)

theorem ms_call {dst : Option Nat} {n : Nat} {f : Operand} {xs : List Operand} {cap us vs : List Value} {at_ : Array TypeId} {L R0 : List Asn} {X : Type} {φ : X → Prop} {v : X → Value} {L' R' : X → List Asn} (hs : Spec P n vs L R0 φ v L' R') (hcb : Cb P n)
    (ks : List Nat) (rs : List (Bool × Nat)) (ns rns : List Nat) (hf : ev E f = some (.func (.func n) #[] cap.toArray)) (hx : evs E xs = some us) (hu : us ++ cap = vs)
    (hnd : ndB ks = true) (hL : cgets Γ ks = somes L) (hR : lgets Γ R rs = somes R0) (hl : lentOk ks rs = true) (hns : ndB ns = true) (hnl : ∀ x, φ x → ns.length = (L' x).length) (hrl : ∀ x, φ x → noneLent rs = true → rns.length = (R' x).length) :
    MS P N w0 M H E Γ R ⟨dst, .call { callee := .value f, args := xs.toArray, argTypes := at_ }, T, ps, af, none⟩ φ v (fun x => cputs ns (L' x) (ckill ks Γ)) (fun x => bif noneLent rs then cputs rns (R' x) R else R) := by
  intro a w hE hC next Q hnext
  unfold Oper.wp
  have hev := hE.evs hx
  have hrun : (execOp a.eval ⟨dst, .call { callee := .value f, args := xs.toArray, argTypes := at_ }, T, ps, af, none⟩).run P w = .ok (.enter n vs.toArray) w := by
    subst hu
    simp [execOp, resolve, hE.ev hf, Deferred.ofValue, invoke, hev, run_callFunc hcb]
  rw [hrun]
  refine (calls_use hs hC ks hnd hL rs hR hl ns hns hnl rns hrl).mono ?_
  rintro e w' ⟨x, h1, rfl, h2⟩
  exact hnext x w' h1 h2

end
end Go.Proofs.Ytfdbkclbcajkiaa
