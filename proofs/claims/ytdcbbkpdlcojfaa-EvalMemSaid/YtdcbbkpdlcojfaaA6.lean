/-
  Programs that can run, and what an execution keeps: plain. No condition.
-/
import Derived.Test.YtdcbbkpdlcojfaaA5
namespace Go.Proofs.Ytdcbbkpdlcojfaa
set_option linter.unusedSimpArgs false
set_option linter.unusedVariables false
open Go.RowKit

abbrev oW (n : Int) : Prop := 0 ≤ n ∧ n < 4294967296
mutual
/-- An expression that can be evaluated. -/
def VX (fs : List Tf) : Tx → Prop
  | .mk k n nm _ kids => oW n ∧ kids.length ≤ 1000000 ∧ (k = 4 → 1 ≤ kids.length) ∧ (k = 6 → 1 ≤ kids.length ∧ ∀ a, (unF nm a).isSome = true) ∧ (k = 7 → 2 ≤ kids.length ∧ ∀ a b, (biF nm a b).isSome = true) ∧
      (k ≠ 1 → k ≠ 2 → k ≠ 4 → k ≠ 5 → k ≠ 6 → k ≠ 7 → ∃ f, ffind fs nm = some f ∧ kids.length ≤ f.ps.length) ∧ VXs fs kids
def VXs (fs : List Tf) : List Tx → Prop
  | [] => True
  | t :: r => VX fs t ∧ VXs fs r
end
theorem VXs.mem {fs : List Tf} : ∀ {l : List Tx}, VXs fs l → ∀ t ∈ l, VX fs t
  | [], _, _, h => by simp at h
  | t :: r, h, u, hu => by
    rcases List.mem_cons.1 hu with rfl | hu
    · exact h.1
    · exact VXs.mem h.2 u hu
mutual
/-- A statement that can be executed. -/
def VY (fs : List Tf) : Ty → Prop
  | .mk k _ _ es _ body _ els => (1 ≤ es.length ∧ es.length ≤ 1000000 ∧ (k = 3 → 2 ≤ es.length) ∧ VXs fs es) ∧ (body.length ≤ 1000000 ∧ VYs fs body) ∧ (els.length ≤ 1000000 ∧ VYs fs els)
def VYs (fs : List Tf) : List Ty → Prop
  | [] => True
  | t :: r => VY fs t ∧ VYs fs r
end
theorem VYs.mem {fs : List Tf} : ∀ {l : List Ty}, VYs fs l → ∀ t ∈ l, VY fs t
  | [], _, _, h => by simp at h
  | t :: r, h, u, hu => by
    rcases List.mem_cons.1 hu with rfl | hu
    · exact h.1
    · exact VYs.mem h.2 u hu
/-- Functions that can be called. -/
def VF (fs : List Tf) : Prop := ∀ f ∈ fs, f.ps.length ≤ 1000000 ∧ f.body.length ≤ 1000000 ∧ VYs fs f.body
def okVs (vs : Vs) : Prop := ∀ p ∈ vs, oW p.2
structure okMs (s : Ms) : Prop where
  inp : ∀ x ∈ s.inp, oW x
  mem : ∀ i, oW (s.mem i)
  fuel : s.fuel < 9223372036854775808
  out : (s.out.length : Int) + max s.fuel 0 ≤ 1000000000000
theorem okVs.get {vs : Vs} (h : okVs vs) (x : ByteArray) : oW (vget vs x) := by
  unfold vget
  cases hf : vs.find? (fun p => decide (p.1 = x)) with
  | none => exact ⟨Int.le_refl _, by show (0 : Int) < 4294967296; decide⟩
  | some p => exact h p (List.mem_of_find?_eq_some hf)
theorem okVs.put {vs : Vs} (h : okVs vs) (x : ByteArray) {n : Int} (hn : oW n) : okVs (vput vs x n) := fun p hp => by
  rcases List.mem_cons.1 hp with rfl | hp
  · exact hn
  · exact h p (List.mem_filter.1 hp).1
theorem okVs.bind : ∀ {vs : Vs} (ps : List ByteArray) (al : List Int), okVs vs → (∀ a ∈ al, oW a) → okVs (vbind vs ps al)
  | vs, p :: ps, a :: al, h, ha => okVs.bind ps al (h.put p (ha a (by simp))) fun b hb => ha b (by simp [hb])
  | vs, [], al, h, _ => by unfold vbind; exact h
  | vs, p :: ps, [], h, _ => by unfold vbind; exact h
theorem oW0 : oW 0 := ⟨Int.le_refl _, by show (0 : Int) < 4294967296; decide⟩
theorem oW_tr (b : Bool) : oW (tr b) := by
  cases b
  · exact oW0
  · exact ⟨by decide, by decide⟩
theorem oW_wU (n : Int) : oW (wU n) := wrap_u32_bd n
theorem oW_bits (o : BinOp) (a b : Int) (h : ∃ z, bits o .u32 a b = IntKind.u32.wrap z) : oW (bits o .u32 a b) := by
  obtain ⟨z, hz⟩ := h
  rw [hz]
  exact wrap_u32_bd z
theorem oW_un {op : ByteArray} {a : Int} (ha : oW a) : oW ((unF op a).getD 0) := by
  unfold unF
  split
  · exact oW_wU _
  · split
    · show 0 ≤ 4294967295 - a ∧ 4294967295 - a < 4294967296
      have h1 := ha.1; have h2 := ha.2
      omega
    · split
      · exact oW_tr _
      · exact oW0
theorem oW_shr {a : Int} (ha : oW a) (n : Nat) : oW (a / 2 ^ n) := by
  have h0 : (0 : Int) < 2 ^ n := Int.pow_pos (by decide)
  refine ⟨Int.ediv_nonneg ha.1 (Int.le_of_lt h0), Int.lt_of_le_of_lt (Int.ediv_le_self _ ha.1) ha.2⟩
theorem oW_bi {op : ByteArray} {a b : Int} (ha : oW a) (hb : oW b) : oW ((biF op a b).getD 0) := by
  have hq : oW (if b = 0 then 0 else a / b) := by
    split
    · exact oW0
    · exact ⟨Int.ediv_nonneg ha.1 hb.1, Int.lt_of_le_of_lt (Int.ediv_le_self _ ha.1) ha.2⟩
  have hr : oW (if b = 0 then a else a % b) := by
    split
    · exact ha
    · rename_i h
      have h1 := Int.emod_nonneg a h
      have h2 := Int.emod_lt_of_pos a (b := b) (by have := hb.1; omega)
      have h3 := hb.2
      exact ⟨h1, by omega⟩
  unfold biF
  by_cases h0 : op = oAdd
  · rw [if_pos h0]; exact oW_wU _
  rw [if_neg h0]
  by_cases h1 : op = oSub
  · rw [if_pos h1]; exact oW_wU _
  rw [if_neg h1]
  by_cases h2 : op = oMul
  · rw [if_pos h2]; exact oW_wU _
  rw [if_neg h2]
  by_cases h3 : op = oQuo
  · rw [if_pos h3]; exact hq
  rw [if_neg h3]
  by_cases h4 : op = oRem
  · rw [if_pos h4]; exact hr
  rw [if_neg h4]
  by_cases h5 : op = oAnd
  · rw [if_pos h5]; exact (show oW (bits .and .u32 a b) from oW_bits .and a b ⟨_, rfl⟩)
  rw [if_neg h5]
  by_cases h6 : op = oOr
  · rw [if_pos h6]; exact (show oW (bits .or .u32 a b) from oW_bits .or a b ⟨_, rfl⟩)
  rw [if_neg h6]
  by_cases h7 : op = oXor
  · rw [if_pos h7]; exact (show oW (bits .xor .u32 a b) from oW_bits .xor a b ⟨_, rfl⟩)
  rw [if_neg h7]
  by_cases h8 : op = oShl
  · rw [if_pos h8]; exact oW_wU _
  rw [if_neg h8]
  by_cases h9 : op = oShr
  · rw [if_pos h9]; exact oW_shr ha _
  rw [if_neg h9]
  by_cases h10 : op = oLt
  · rw [if_pos h10]; exact oW_tr _
  rw [if_neg h10]
  by_cases h11 : op = oLe
  · rw [if_pos h11]; exact oW_tr _
  rw [if_neg h11]
  by_cases h12 : op = oGt
  · rw [if_pos h12]; exact oW_tr _
  rw [if_neg h12]
  by_cases h13 : op = oGe
  · rw [if_pos h13]; exact oW_tr _
  rw [if_neg h13]
  by_cases h14 : op = oEq
  · rw [if_pos h14]; exact oW_tr _
  rw [if_neg h14]
  by_cases h15 : op = oNe
  · rw [if_pos h15]; exact oW_tr _
  rw [if_neg h15]
  exact oW0
/-- What an execution keeps. -/
structure Kp (s s' : Ms) : Prop where
  ok : okMs s'
  sum : (s'.out.length : Int) + max s'.fuel 0 ≤ (s.out.length : Int) + max s.fuel 0
  fl : s'.fuel ≤ s.fuel
  inp : ∃ k, s'.inp = s.inp.drop k
theorem Kp.refl {s : Ms} (h : okMs s) : Kp s s := ⟨h, Int.le_refl _, Int.le_refl _, 0, by simp⟩
theorem Kp.trans {a b c : Ms} (h : Kp a b) (h' : Kp b c) : Kp a c := ⟨h'.ok, Int.le_trans h'.sum h.sum, Int.le_trans h'.fl h.fl, by
  obtain ⟨k, hk⟩ := h.inp
  obtain ⟨j, hj⟩ := h'.inp
  exact ⟨k + j, by rw [hj, hk, List.drop_drop]⟩⟩
theorem Kp.pay {s : Ms} (h : okMs s) (hf : ¬ s.fuel ≤ 0) : Kp s { s with fuel := s.fuel - 1 } := ⟨⟨h.inp, h.mem, by have := h.fuel; dsimp only; omega, by have := h.out; dsimp only; omega⟩, by dsimp only; omega, by dsimp only; omega, 0, by simp⟩
structure EvOk (fs : List Tf) (g : Nat) : Prop where
  x : ∀ d vs t s v s', VX fs t → okVs vs → okMs s → evX g fs d vs t s = some (.ok v s') → oW v ∧ Kp s s'
  k : ∀ d vs acc l s ks s', VXs fs l → okVs vs → okMs s → (∀ a ∈ acc, oW a) → evK g fs d vs acc l s = some (.ok ks s') → (∀ a ∈ ks, oW a) ∧ ks.length = acc.length + l.length ∧ Kp s s'
  c : ∀ d f al s v s', f ∈ fs → (∀ a ∈ al, oW a) → okMs s → evC g fs d f al s = some (.ok v s') → oW v ∧ Kp s s'
  b : ∀ d vs l s p s', VYs fs l → okVs vs → okMs s → evB g fs d vs l s = some (.ok p s') → okVs p.1 ∧ (∀ x, p.2 = some x → oW x) ∧ Kp s s'
  s : ∀ d vs t s p s', VY fs t → okVs vs → okMs s → evS g fs d vs t s = some (.ok p s') → okVs p.1 ∧ (∀ x, p.2 = some x → oW x) ∧ Kp s s'
  w : ∀ d vs e l v s p s', VX fs e → VYs fs l → okVs vs → okMs s → evW g fs d vs e l v s = some (.ok p s') → okVs p.1 ∧ (∀ x, p.2 = some x → oW x) ∧ Kp s s'
theorem getD_oW {ks : List Int} (h : ∀ a ∈ ks, oW a) (i : Nat) : oW (ks.getD i 0) := by
  rw [List.getD_eq_getElem?_getD]
  cases hk : ks[i]? with
  | none => exact oW0
  | some a => exact h a (List.mem_of_getElem? hk)
theorem ffind_mem {fs : List Tf} {x : ByteArray} {f : Tf} (h : ffind fs x = some f) : f ∈ fs := List.mem_of_find?_eq_some h
theorem ev_ok {fs : List Tf} (hF : VF fs) : ∀ g, EvOk fs g
  | 0 => ⟨fun _ _ _ _ _ _ _ _ _ h => by simp [evX] at h, fun _ _ _ _ _ _ _ _ _ _ _ h => by simp [evK] at h, fun _ _ _ _ _ _ _ _ _ h => by simp [evC] at h, fun _ _ _ _ _ _ _ _ _ h => by simp [evB] at h, fun _ _ _ _ _ _ _ _ _ h => by simp [evS] at h, fun _ _ _ _ _ _ _ _ _ _ _ _ h => by simp [evW] at h⟩
  | g + 1 => by
    have ih := ev_ok hF g
    refine ⟨fun d vs t s v s' ht hv hs h => ?_, fun d vs acc l s ks s' hl hv hs ha h => ?_, fun d f al s v s' hf ha hs h => ?_, fun d vs l s p s' hl hv hs h => ?_, fun d vs t s p s' ht hv hs h => ?_, fun d vs e l v s p s' he hl hv hs h => ?_⟩
    · -- an expression
      unfold evX at h
      by_cases hfu : s.fuel ≤ 0
      · rw [if_pos hfu] at h; simp at h
      · rw [if_neg hfu] at h
        have hp := Kp.pay hs hfu
        cases hk : evK g fs d vs [] t.kids { s with fuel := s.fuel - 1 } with
        | none => rw [hk] at h; simp at h
        | some r =>
          cases r with
          | err e => rw [hk] at h; simp at h
          | ok ks s1 =>
            rw [hk] at h
            dsimp only at h
            have hkids : VXs fs t.kids := by cases t; exact ht.2.2.2.2.2.2
            obtain ⟨k1, k2, k3⟩ := ih.k d vs [] t.kids _ ks s1 hkids hv hp.ok (by simp) hk
            have k4 := hp.trans k3
            split at h
            · simp only [Option.some.injEq, Re.ok.injEq] at h
              obtain ⟨rfl, rfl⟩ := h
              exact ⟨by cases t; exact ht.1, k4⟩
            · split at h
              · simp only [Option.some.injEq, Re.ok.injEq] at h
                obtain ⟨rfl, rfl⟩ := h
                exact ⟨hv.get _, k4⟩
              · split at h
                · simp only [Option.some.injEq, Re.ok.injEq] at h
                  obtain ⟨rfl, rfl⟩ := h
                  exact ⟨k4.ok.mem _, k4⟩
                · split at h
                  · split at h
                    · simp only [Option.some.injEq, Re.ok.injEq] at h
                      obtain ⟨rfl, rfl⟩ := h
                      exact ⟨oW0, k4⟩
                    · rename_i a r hi
                      simp only [Option.some.injEq, Re.ok.injEq] at h
                      obtain ⟨rfl, rfl⟩ := h
                      refine ⟨k4.ok.inp a (by rw [hi]; simp), k4.trans ⟨⟨fun x hx => k4.ok.inp x (by rw [hi]; simp [hx]), k4.ok.mem, k4.ok.fuel, k4.ok.out⟩, Int.le_refl _, Int.le_refl _, 1, by rw [hi]; rfl⟩⟩
                  · split at h
                    · simp only [Option.some.injEq, Re.ok.injEq] at h
                      obtain ⟨rfl, rfl⟩ := h
                      exact ⟨oW_un (getD_oW k1 0), k4⟩
                    · split at h
                      · simp only [Option.some.injEq, Re.ok.injEq] at h
                        obtain ⟨rfl, rfl⟩ := h
                        exact ⟨oW_bi (getD_oW k1 0) (getD_oW k1 1), k4⟩
                      · split at h
                        · simp at h
                        · rename_i f hff
                          obtain ⟨c1, c2⟩ := ih.c d f ks s1 v s' (ffind_mem hff) k1 k4.ok h
                          exact ⟨c1, k4.trans c2⟩
    · -- parts
      cases l with
      | nil =>
        simp only [evK, Option.some.injEq, Re.ok.injEq] at h
        obtain ⟨rfl, rfl⟩ := h
        exact ⟨ha, by simp, Kp.refl hs⟩
      | cons t r =>
        unfold evK at h
        cases hx : evX g fs d vs t s with
        | none => rw [hx] at h; simp at h
        | some q =>
          cases q with
          | err e => rw [hx] at h; simp at h
          | ok v s1 =>
            rw [hx] at h
            dsimp only at h
            obtain ⟨x1, x2⟩ := ih.x d vs t s v s1 hl.1 hv hs hx
            obtain ⟨k1, k2, k3⟩ := ih.k d vs (acc ++ [v]) r s1 ks s' hl.2 hv x2.ok (fun a hm => by
              rcases List.mem_append.1 hm with hm | hm
              · exact ha a hm
              · rw [List.mem_singleton.1 hm]; exact x1) h
            exact ⟨k1, by rw [k2]; simp; omega, x2.trans k3⟩
    · -- a call
      unfold evC at h
      split at h
      · simp at h
      · cases hb : evB g fs (d + 1) (vbind [] f.ps al) f.body s with
        | none => rw [hb] at h; simp at h
        | some q =>
          cases q with
          | err e => rw [hb] at h; simp at h
          | ok p s1 =>
            obtain ⟨vs1, r⟩ := p
            rw [hb] at h
            simp only [Option.some.injEq, Re.ok.injEq] at h
            obtain ⟨rfl, rfl⟩ := h
            obtain ⟨b1, b2, b3⟩ := ih.b (d + 1) _ f.body s _ s1 (hF f hf).2.2 (okVs.bind _ _ (fun p hp => by simp at hp) ha) hs hb
            refine ⟨?_, b3⟩
            cases r with
            | none => exact oW0
            | some x => exact b2 x rfl
    · -- statements
      cases l with
      | nil =>
        simp only [evB, Option.some.injEq, Re.ok.injEq] at h
        obtain ⟨rfl, rfl⟩ := h
        exact ⟨hv, fun x hx => by simp at hx, Kp.refl hs⟩
      | cons t r =>
        unfold evB at h
        cases hx : evS g fs d vs t s with
        | none => rw [hx] at h; simp at h
        | some q =>
          cases q with
          | err e => rw [hx] at h; simp at h
          | ok q s1 =>
            obtain ⟨vs1, ro⟩ := q
            obtain ⟨x1, x2, x3⟩ := ih.s d vs t s _ s1 hl.1 hv hs hx
            rw [hx] at h
            cases ro with
            | some x =>
              simp only [Option.some.injEq, Re.ok.injEq] at h
              obtain ⟨rfl, rfl⟩ := h
              exact ⟨x1, x2, x3⟩
            | none =>
              dsimp only at h
              obtain ⟨b1, b2, b3⟩ := ih.b d vs1 r s1 p s' hl.2 x1 x3.ok h
              exact ⟨b1, b2, x3.trans b3⟩
    · -- a statement
      unfold evS at h
      by_cases hfu : s.fuel ≤ 0
      · rw [if_pos hfu] at h; simp at h
      · rw [if_neg hfu] at h
        have hp := Kp.pay hs hfu
        obtain ⟨kd, nm, ve, es, vb, body, vl, els⟩ := t
        obtain ⟨⟨e1, e2, e3, e4⟩, ⟨b1, b2⟩, c1, c2⟩ := ht
        cases es with
        | nil => simp [Ty.es] at h
        | cons e r =>
          simp only [Ty.es] at h
          cases hx : evX g fs d vs e { s with fuel := s.fuel - 1 } with
          | none => rw [hx] at h; simp at h
          | some q =>
            cases q with
            | err z => rw [hx] at h; simp at h
            | ok v s1 =>
              rw [hx] at h
              dsimp only at h
              obtain ⟨x1, x2⟩ := ih.x d vs e _ v s1 e4.1 hv hp.ok hx
              have x3 := hp.trans x2
              split at h
              · simp only [Option.some.injEq, Re.ok.injEq] at h
                obtain ⟨rfl, rfl⟩ := h
                exact ⟨hv.put _ x1, fun x hx => by simp at hx, x3⟩
              · split at h
                · cases r with
                  | nil => simp at h
                  | cons e5 r =>
                    dsimp only at h
                    cases hx2 : evX g fs d vs e5 s1 with
                    | none => rw [hx2] at h; simp at h
                    | some q =>
                      cases q with
                      | err z => rw [hx2] at h; simp at h
                      | ok w s2 =>
                        rw [hx2] at h
                        simp only [Option.some.injEq, Re.ok.injEq] at h
                        obtain ⟨rfl, rfl⟩ := h
                        obtain ⟨y1, y2⟩ := ih.x d vs e5 s1 w s2 e4.2.1 hv x3.ok hx2
                        have y3 := x3.trans y2
                        refine ⟨hv, fun x hx => by simp at hx, y3.trans ⟨⟨y3.ok.inp, fun i => ?_, y3.ok.fuel, y3.ok.out⟩, Int.le_refl _, Int.le_refl _, 0, by simp⟩⟩
                        dsimp only [mput]
                        split
                        · exact y1
                        · exact y3.ok.mem i
                · split at h
                  · obtain ⟨z1, z2, z3⟩ := ih.b d vs (if v = 0 then els else body) s1 p s' (by split <;> assumption) hv x3.ok (by simpa only [Ty.els, Ty.body] using h)
                    exact ⟨z1, z2, x3.trans z3⟩
                  · split at h
                    · obtain ⟨z1, z2, z3⟩ := ih.w d vs e body v s1 p s' e4.1 b2 hv x3.ok (by simpa only [Ty.body] using h)
                      exact ⟨z1, z2, x3.trans z3⟩
                    · split at h
                      · simp only [Option.some.injEq, Re.ok.injEq] at h
                        obtain ⟨rfl, rfl⟩ := h
                        exact ⟨hv, fun x hx => by simp at hx; rw [← hx]; exact x1, x3⟩
                      · split at h
                        · simp only [Option.some.injEq, Re.ok.injEq] at h
                          obtain ⟨rfl, rfl⟩ := h
                          have x4 := x2.sum
                          have x5 := hs.out
                          dsimp only at x4
                          obtain ⟨k, hk⟩ := x3.inp
                          exact ⟨hv, fun x hx => by simp at hx, ⟨⟨x3.ok.inp, x3.ok.mem, x3.ok.fuel, by dsimp only; rw [List.length_append, List.length_singleton]; omega⟩, by dsimp only; rw [List.length_append, List.length_singleton]; omega, x3.fl, k, hk⟩⟩
                        · simp only [Option.some.injEq, Re.ok.injEq] at h
                          obtain ⟨rfl, rfl⟩ := h
                          exact ⟨hv, fun x hx => by simp at hx, x3⟩
    · -- a loop
      unfold evW at h
      split at h
      · simp only [Option.some.injEq, Re.ok.injEq] at h
        obtain ⟨rfl, rfl⟩ := h
        exact ⟨hv, fun x hx => by simp at hx, Kp.refl hs⟩
      · cases hb : evB g fs d vs l s with
        | none => rw [hb] at h; simp at h
        | some q =>
          cases q with
          | err z => rw [hb] at h; simp at h
          | ok q s1 =>
            obtain ⟨vs1, ro⟩ := q
            obtain ⟨x1, x2, x3⟩ := ih.b d vs l s _ s1 hl hv hs hb
            rw [hb] at h
            cases ro with
            | some x =>
              simp only [Option.some.injEq, Re.ok.injEq] at h
              obtain ⟨rfl, rfl⟩ := h
              exact ⟨x1, x2, x3⟩
            | none =>
              dsimp only at h
              cases hx : evX g fs d vs1 e s1 with
              | none => rw [hx] at h; simp at h
              | some q =>
                cases q with
                | err z => rw [hx] at h; simp at h
                | ok w s2 =>
                  rw [hx] at h
                  dsimp only at h
                  obtain ⟨y1, y2⟩ := ih.x d vs1 e s1 w s2 he x1 x3.ok hx
                  have y3 := x3.trans y2
                  obtain ⟨z1, z2, z3⟩ := ih.w d vs1 e l w s2 p s' he hl x1 y3.ok h
                  exact ⟨z1, z2, y3.trans z3⟩
end Go.Proofs.Ytdcbbkpdlcojfaa
