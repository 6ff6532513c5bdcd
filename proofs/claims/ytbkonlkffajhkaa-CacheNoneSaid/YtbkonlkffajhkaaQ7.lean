/-
  New caches; removing a block; recording a link. Conditions: in order, few.
-/
import Derived.Test.YtbkonlkffajhkaaQ6
namespace Go.Proofs.Ytbkonlkffajhkaa
set_option linter.unusedSimpArgs false
set_option linter.unusedVariables false
open Go.RowKit

theorem COk.mv {w0 : World} {M H : Nat → Prop} {Γ R : Ctx} {w : World} {k k' : Nat} {A : Asn} (h : COk w0 M H Γ R w) (hk : cget Γ k = some A) (hne : Nat.beq k' k = false) : COk w0 M H ((k', A) :: (k, emp) :: Γ) R w := by
  obtain ⟨F, hF⟩ := h
  have hne' : k' ≠ k := fun e => by subst e; simp at hne
  have hsub : ∀ j b, (if j = k' then F k else if j = k then fun _ => False else F j) b → (j = k' ∧ F k b) ∨ (j ≠ k' ∧ j ≠ k ∧ F j b) := by
    intro j b hb
    split at hb
    · exact .inl ⟨by assumption, hb⟩
    · split at hb
      · exact hb.elim
      · exact .inr ⟨by assumption, by assumption, hb⟩
  refine ⟨fun j => if j = k' then F k else if j = k then fun _ => False else F j, hF.touch, ?_, ?_, ?_, ?_, ?_⟩
  · intro j B hj
    simp only [cget] at hj
    cases h1 : Nat.beq k' j with
    | true =>
      rw [h1] at hj
      simp at hj
      subst hj
      have := Nat.eq_of_beq_eq_true h1
      subst this
      simp only [if_true]
      exact hF.has k A hk
    | false =>
      rw [h1] at hj
      have hj1 : j ≠ k' := fun e => by subst e; simp at h1
      cases h2 : Nat.beq k j with
      | true =>
        rw [h2] at hj
        simp at hj
        subst hj
        have := Nat.eq_of_beq_eq_true h2
        subst this
        simp only [hj1, if_false, if_true]
        exact fun b hb => hb
      | false =>
        rw [h2] at hj
        have hj2 : j ≠ k := fun e => by subst e; simp at h2
        simp only [hj1, hj2, if_false]
        exact hF.has j B hj
  · intro j b hb
    rcases hsub j b hb with ⟨_, hb⟩ | ⟨_, _, hb⟩ <;> exact hF.lt _ b hb
  · intro j b hb hlt
    rcases hsub j b hb with ⟨_, hb⟩ | ⟨_, _, hb⟩ <;> exact hF.mine _ b hb hlt
  · intro i j b hi hj
    rcases hsub i b hi with ⟨e1, h1⟩ | ⟨e1, e2, h1⟩ <;> rcases hsub j b hj with ⟨f1, h2⟩ | ⟨f1, f2, h2⟩
    · rw [e1, f1]
    · exact absurd (hF.apart k j b h1 h2).symm f2
    · exact absurd (hF.apart i k b h1 h2) e2
    · exact hF.apart i j b h1 h2
  · intro j B hj
    obtain ⟨G, g1, g2⟩ := hF.ro j B hj
    refine ⟨G, g1, fun b hb => ⟨(g2 b hb).1, fun i hi => ?_, (g2 b hb).2.2⟩⟩
    rcases hsub i b hi with ⟨_, hb'⟩ | ⟨_, _, hb'⟩ <;> exact (g2 b hb).2.1 _ hb'
/-- Another name for what is owned. -/
theorem r_mv {N : Nat} {w0 : World} {M H : Nat → Prop} {E : Env} {Γ R : Ctx} (k k' : Nat) {A : Asn} {Rel : Act → World → Prop} (hk : cget Γ k = some A) (hne : Nat.beq k' k = false) (h : At N w0 M H E ((k', A) :: (k, emp) :: Γ) R Rel) : At N w0 M H E Γ R Rel :=
  h.weak (fun _ h => h) fun w hC => hC.mv hk hne
theorem mp_none {α κ : Type} [DecidableEq κ] {mk : κ → Value} {kf : α → κ} {vf : α → Value} {L : List α} (w : World) (G : Nat → Prop) (h : (mp mk kf vf none L).pred w G) : L = [] := by
  obtain ⟨ms, clk, h1, h2⟩ := h
  rw [h2.2.2.1 rfl] at h1
  simpa using h1.symm
theorem p_len_sv {P : Program} {N : Nat} {w0 : World} {M H : Nat → Prop} {E : Env} {Γ R : Ctx} {S U : TypeId} {x : Operand} {v : SV} (hS : P.underlying S = some (.slice U)) (hx : ev E x = some (sv v)) : PR P N w0 M H E Γ R (.call { callee := .builtin .len, args := #[x], argTypes := #[S] }) (.int .i64 (v.n : Int)) :=
  fun _ _ _ a w hE hC _ _ => by
    simp [execOp, resolve, invoke, builtin, hE.ev hx, Builtin.len_, run_underlying hS, goInt, sv]
theorem r_mpnil {N : Nat} {w0 : World} {M H : Nat → Prop} {E : Env} {Γ R : Ctx} {α κ : Type} [DecidableEq κ] (k : Nat) (mk : κ → Value) (kf : α → κ) (vf : α → Value) {Rel : Act → World → Prop} (h : At N w0 M H E ((k, mp mk kf vf none []) :: Γ) R Rel) : At N w0 M H E Γ R Rel :=
  h.weak (fun _ h => h) fun w hC => hC.new (Touch.refl _ w) ⟨fun _ => False, ⟨[], 0, List.Perm.refl _, ⟨by simp, by simp, by simp⟩, fun x => by simp, fun _ => rfl, fun b hb => by simp at hb⟩, fun b hb => hb.elim⟩
def cR (base size cur : Int) (vL vC : SV) : List Value := [.int .u32 base, .int .i64 size, .int .i64 cur, sv vL, sv vC]
def sizeN (base size : Int) : Int := min (max size 0) (4294967296 - base)

set_option maxRecDepth 100000 in
theorem new_spec (base size : Int) (hb : 0 ≤ base ∧ base < 4294967296) :
    Spec Try.prog 22 [.int .u32 base, .int .i64 size] [] [] (X := Nat) (fun _ => True) (fun C => .pointer (some ⟨C, 0, none⟩)) (fun C => [row C 84 (cC base (sizeN base size) 0 none none), mpB none [], mpL none []]) (fun _ => []) := by
  refine r_enter Try.func22 rfl Try.ntmps22 rfl fun w0 M H => ?_
  refine r_mpnil 101 mkU En.pc veEnt ?_
  refine r_mpnil 102 mkS kfS vfS ?_
  refine r_seq ?_
  refine r_region ?_
  refine r_p (p_assign rfl) rfl ?_
  refine r_nil ?_
  refine r_seq ?_
  refine r_region ?_
  refine r_p (p_move rfl) rfl ?_
  refine r_p (p_move rfl) rfl ?_
  refine r_p (p_max rfl rfl rfl) rfl ?_
  refine r_p (p_move rfl) rfl ?_
  refine r_p (p_conv Try.underlying30 Try.underlying3 rfl (by first | exact w_i64 (by omega) (by omega) | rfl)) rfl ?_
  refine r_p (p_bin rfl rfl (b_sub (by first | exact w_i64 (by omega) (by omega) | rfl))) rfl ?_
  refine r_p (p_min rfl rfl rfl) rfl ?_
  refine r_p (p_build (parts := [(0, .tmp 5), (1, .tmp 11)]) t84 pl84 rfl rfl) rfl ?_
  refine r_boxA rfl rfl fun b13 => ?_
  refine r_p (p_assign rfl) rfl ?_
  refine r_nil ?_
  refine r_cret ?_
  refine r_ret b13 trivial rfl (rs1 (rv_tmp rfl)) rfl [13, 101, 102] [] rfl rfl rfl
set_option maxRecDepth 100000 in
theorem rnew_spec (base size : Int) (hb : 0 ≤ base ∧ base < 4294967296) :
    Spec Try.prog 32 [.int .u32 base, .int .i64 size] [] [] (X := Nat) (fun _ => True) (fun C => .pointer (some ⟨C, 0, none⟩)) (fun C => [row C 34 (cR base (sizeN base size) 0 nilS nilS), own 36 5 eR (sv nilS) [], own 100 3 eL (sv nilS) []]) (fun _ => []) := by
  refine r_enter Try.func32 rfl Try.ntmps32 rfl fun w0 M H => ?_
  refine r_nilown 101 (S := 36) (s := 5) (enc := eR) ?_
  refine r_nilown 102 (S := 100) (s := 3) (enc := eL) ?_
  refine r_seq ?_
  refine r_region ?_
  refine r_p (p_assign rfl) rfl ?_
  refine r_nil ?_
  refine r_seq ?_
  refine r_region ?_
  refine r_p (p_move rfl) rfl ?_
  refine r_p (p_move rfl) rfl ?_
  refine r_p (p_max rfl rfl rfl) rfl ?_
  refine r_p (p_move rfl) rfl ?_
  refine r_p (p_conv Try.underlying30 Try.underlying3 rfl (by first | exact w_i64 (by omega) (by omega) | rfl)) rfl ?_
  refine r_p (p_bin rfl rfl (b_sub (by first | exact w_i64 (by omega) (by omega) | rfl))) rfl ?_
  refine r_p (p_min rfl rfl rfl) rfl ?_
  refine r_p (p_build (parts := [(0, .tmp 5), (1, .tmp 11)]) t34 pl34 rfl rfl) rfl ?_
  refine r_boxA rfl rfl fun b13 => ?_
  refine r_p (p_assign rfl) rfl ?_
  refine r_nil ?_
  refine r_cret ?_
  refine r_ret b13 trivial rfl (rs1 (rv_tmp rfl)) rfl [13, 101, 102] [] rfl rfl rfl
def goneF (L : List En) (pc : Int) : List Int := if (L.find? fun a => decide (a.pc = pc)).isSome then [pc] else []
set_option maxRecDepth 100000 in
theorem remove_some (C : Nat) (base size cur : Int) (ob ol : Option Nat) (L : List En) (K : List Lk) (pc : Int) (hK : K.Pairwise ltK) (hlen : K.length < 40) (x : En) (hf : L.find? (fun a => decide (a.pc = pc)) = (some x)) :
    Spec Try.prog 35 [.pointer (some ⟨C, 0, none⟩), .int .u32 pc] [row C 84 (cC base size cur ob ol), mpB ob L, mpL ol K] [] (X := SV) (fun _ => True) (fun x => sv x) (fun x => [row C 84 (cC base size cur ob ol), mpB ob (L.filter (keepE (goneF L pc))), mpL ol (K.filter (keepK (goneF L pc))), own 64 3 eL (sv x) (K.filter (cutK (goneF L pc)))]) (fun _ => []) := by
  have hxp : x.pc = pc := by
    have := List.find?_some hf
    simpa using this
  have hg : goneF L pc = ([x] : List En).map En.pc := by simp [goneF, hf, hxp]
  rw [hg]
  refine r_enter Try.func35 rfl Try.ntmps35 rfl fun w0 M H => ?_
  refine r_seq ?_
  refine r_region ?_
  refine r_p (p_assign rfl) rfl ?_
  refine r_nil ?_
  refine r_seq ?_
  refine r_region ?_
  refine r_p (p_move rfl) rfl ?_
  refine r_p (p_move rfl) rfl ?_
  refine r_call (xs := [.tmp 8, .tmp 9]) (find_spec C base size cur ob ol L pc (some x) hf) cb21 [] [(true, 0), (true, 1)] [] [] rfl rfl rfl rfl rfl rfl rfl rfl (fun _ _ => rfl) (fun _ _ _ => rfl) rfl (fun _ _ => ?_)
  refine r_p (p_move rfl) rfl ?_
  refine r_p (p_extract rfl rfl) rfl ?_
  refine r_p (p_extract rfl rfl) rfl ?_
  refine r_alloc t54 rfl rfl fun b5 => ?_
  refine r_store_all (k := 5) t54 rfl rfl rfl rfl rfl rfl ?_
  refine r_p (p_assign rfl) rfl ?_
  refine r_nil ?_
  refine r_seq ?_
  refine r_seq ?_
  refine r_region ?_
  refine r_p (p_move rfl) rfl ?_
  refine r_p (p_not rfl) rfl ?_
  refine r_nil ?_
  refine r_cond rfl (fun h1 => ?_) (fun h1 => ?_)
  · exact absurd h1 (by simp)
  · (try simp only [decide_eq_true_eq, decide_eq_false_iff_not, Bool.and_eq_true, Bool.or_eq_true, Bool.and_eq_false_iff, Bool.or_eq_false_iff, Bool.not_eq_true, Bool.not_eq_false, Bool.not_eq_true', Bool.not_eq_false', Bool.not_not, bne_iff_ne, beq_iff_eq] at h1)
    refine r_skip ?_
    refine r_seq ?_
    refine r_region ?_
    refine r_p (p_move rfl) rfl ?_
    refine r_p (p_loadA t54 rfl rfl rfl (g_all (k := 5) rfl)) rfl ?_
    refine r_bslice1 eEnt x Try.underlying39 t54 rfl (by decide) (by decide) rfl rfl rfl rfl fun v17 => ?_
    refine r_freeze 17 17 rfl own_to_sl ?_
    refine r_call (xs := [.tmp 15, .tmp 17]) (drop_spec C base size cur ob ol v17 [x] L K hK hlen (by simp) (by simp)) cb45 [0, 1, 2] [(false, 17)] [0, 1, 2, 18] [] rfl rfl rfl rfl rfl rfl rfl rfl (fun _ _ => rfl) (fun _ _ _ => rfl) rfl (fun v18 _ => ?_)
    refine r_p (p_assign rfl) rfl ?_
    refine r_nil ?_
    refine r_cret ?_
    refine r_ret v18 trivial rfl (rs1 (rv_tmp rfl)) rfl [0, 1, 2, 18] [] rfl rfl rfl
set_option maxRecDepth 100000 in
theorem remove_none (C : Nat) (base size cur : Int) (ob ol : Option Nat) (L : List En) (K : List Lk) (pc : Int) (hK : K.Pairwise ltK) (hlen : K.length < 40) (hf : L.find? (fun a => decide (a.pc = pc)) = none) :
    Spec Try.prog 35 [.pointer (some ⟨C, 0, none⟩), .int .u32 pc] [row C 84 (cC base size cur ob ol), mpB ob L, mpL ol K] [] (X := SV) (fun _ => True) (fun x => sv x) (fun x => [row C 84 (cC base size cur ob ol), mpB ob (L.filter (keepE (goneF L pc))), mpL ol (K.filter (keepK (goneF L pc))), own 64 3 eL (sv x) (K.filter (cutK (goneF L pc)))]) (fun _ => []) := by
  have hg : goneF L pc = [] := by simp [goneF, hf]
  have e1 : L.filter (keepE []) = L := List.filter_eq_self.2 fun x _ => by simp [keepE]
  have e2 : K.filter (keepK []) = K := List.filter_eq_self.2 fun x _ => by simp [keepK]
  have e3 : K.filter (cutK []) = [] := List.filter_eq_nil_iff.2 fun x _ => by simp [cutK]
  rw [hg, e1, e2, e3]
  refine r_enter Try.func35 rfl Try.ntmps35 rfl fun w0 M H => ?_
  refine r_nilown 100 (S := 64) (s := 3) (enc := eL) ?_
  refine r_seq ?_
  refine r_region ?_
  refine r_p (p_assign rfl) rfl ?_
  refine r_nil ?_
  refine r_seq ?_
  refine r_region ?_
  refine r_p (p_move rfl) rfl ?_
  refine r_p (p_move rfl) rfl ?_
  refine r_call (xs := [.tmp 8, .tmp 9]) (find_spec C base size cur ob ol L pc none hf) cb21 [] [(true, 0), (true, 1)] [] [] rfl rfl rfl rfl rfl rfl rfl rfl (fun _ _ => rfl) (fun _ _ _ => rfl) rfl (fun _ _ => ?_)
  refine r_p (p_move rfl) rfl ?_
  refine r_p (p_extract rfl rfl) rfl ?_
  refine r_p (p_extract rfl rfl) rfl ?_
  refine r_alloc t54 rfl rfl fun b5 => ?_
  refine r_store_all (k := 5) t54 rfl rfl rfl rfl rfl rfl ?_
  refine r_p (p_assign rfl) rfl ?_
  refine r_nil ?_
  refine r_seq ?_
  refine r_seq ?_
  refine r_region ?_
  refine r_p (p_move rfl) rfl ?_
  refine r_p (p_not rfl) rfl ?_
  refine r_nil ?_
  refine r_cond rfl (fun h1 => ?_) (fun h1 => ?_)
  · (try simp only [decide_eq_true_eq, decide_eq_false_iff_not, Bool.and_eq_true, Bool.or_eq_true, Bool.and_eq_false_iff, Bool.or_eq_false_iff, Bool.not_eq_true, Bool.not_eq_false, Bool.not_eq_true', Bool.not_eq_false', Bool.not_not, bne_iff_ne, beq_iff_eq] at h1)
    refine r_seq ?_
    refine r_region ?_
    refine r_p (p_assign rfl) rfl ?_
    refine r_nil ?_
    refine r_cret ?_
    refine r_ret nilS trivial rfl (rs1 (rv_tmp rfl)) rfl [0, 1, 2, 100] [] rfl rfl rfl
  · exact absurd h1 (by simp)
theorem remove_spec (C : Nat) (base size cur : Int) (ob ol : Option Nat) (L : List En) (K : List Lk) (pc : Int) (hK : K.Pairwise ltK) (hlen : K.length < 40) :
    Spec Try.prog 35 [.pointer (some ⟨C, 0, none⟩), .int .u32 pc] [row C 84 (cC base size cur ob ol), mpB ob L, mpL ol K] [] (X := SV) (fun _ => True) (fun x => sv x) (fun x => [row C 84 (cC base size cur ob ol), mpB ob (L.filter (keepE (goneF L pc))), mpL ol (K.filter (keepK (goneF L pc))), own 64 3 eL (sv x) (K.filter (cutK (goneF L pc)))]) (fun _ => []) := by
  cases hf : L.find? (fun a => decide (a.pc = pc)) with
  | none => exact remove_none C base size cur ob ol L K pc hK hlen hf
  | some x => exact remove_some C base size cur ob ol L K pc hK hlen x hf

def okB (L : List En) (l : Lk) : Bool := (L.find? fun a => decide (a.pc = l.f)).isSome && ((L.find? fun a => decide (a.pc = l.t)).isSome && (decide (0 ≤ l.s) && decide (l.s < ((L.find? fun a => decide (a.pc = l.f)).getD dE).sites.n)))
def linkK (L : List En) (K : List Lk) (l : Lk) : List Lk := if okB L l = true then l :: K.filter (fun a => decide (kfS a ≠ kfS l)) else K

set_option maxHeartbeats 1000000 in
set_option maxRecDepth 100000 in
theorem link_spec (C : Nat) (base size cur : Int) (ob ol : Option Nat) (L : List En) (K : List Lk) (l : Lk) :
    Spec Try.prog 40 [.pointer (some ⟨C, 0, none⟩), veL l] [row C 84 (cC base size cur ob ol), mpB ob L, mpL ol K] [] (X := Option Nat) (fun _ => True) (fun _ => .tuple #[]) (fun o => [row C 84 (cC base size cur ob o), mpB ob L, mpL o (linkK L K l)]) (fun _ => []) := by
  refine r_enter Try.func40 rfl Try.ntmps40 rfl fun w0 M H => ?_
  refine r_seq ?_
  refine r_region ?_
  refine r_boxA rfl rfl fun b3 => ?_
  refine r_nil ?_
  refine r_seq ?_
  refine r_region ?_
  refine r_p (p_move rfl) rfl ?_
  refine r_p (p_field0 fo64_0 rfl) rfl ?_
  refine r_p (p_load1 t30 rfl rfl (g_row1 (k := 3) rfl rfl)) rfl ?_
  refine r_call (xs := [.tmp 9, .tmp 11]) (find_spec C base size cur ob ol L l.f _ rfl) cb21 [] [(true, 0), (true, 1)] [] [] rfl rfl rfl rfl rfl rfl rfl rfl (fun _ _ => rfl) (fun _ _ _ => rfl) rfl (fun _ _ => ?_)
  refine r_p (p_move rfl) rfl ?_
  refine r_p (p_extract rfl rfl) rfl ?_
  refine r_p (p_extract rfl rfl) rfl ?_
  refine r_alloc t54 rfl rfl fun b4 => ?_
  refine r_store_all (k := 4) t54 rfl rfl rfl rfl rfl rfl ?_
  refine r_p (p_assign rfl) rfl ?_
  refine r_nil ?_
  refine r_seq ?_
  refine r_region ?_
  refine r_p (p_move rfl) rfl ?_
  refine r_p (p_field0 fo64_2 rfl) rfl ?_
  refine r_p (p_load1 t30 rfl rfl (g_row1 (k := 3) rfl rfl)) rfl ?_
  refine r_call (xs := [.tmp 16, .tmp 18]) (find_spec C base size cur ob ol L l.t _ rfl) cb21 [] [(true, 0), (true, 1)] [] [] rfl rfl rfl rfl rfl rfl rfl rfl (fun _ _ => rfl) (fun _ _ _ => rfl) rfl (fun _ _ => ?_)
  refine r_p (p_move rfl) rfl ?_
  refine r_p (p_extract rfl rfl) rfl ?_
  refine r_p (p_extract rfl rfl) rfl ?_
  refine r_alloc t54 rfl rfl fun b6 => ?_
  refine r_store_all (k := 6) t54 rfl rfl rfl rfl rfl rfl ?_
  refine r_p (p_assign rfl) rfl ?_
  refine r_nil ?_
  refine r_seq ?_
  refine r_seq ?_
  refine r_region ?_
  refine r_p (p_move rfl) rfl ?_
  refine r_p (p_not rfl) rfl ?_
  refine r_p (p_move rfl) rfl ?_
  refine r_gp [] rfl rfl trivial (fun hg1 => p_move rfl) rfl ?_
  refine r_gp [(25, _)] rfl rfl ⟨rfl, trivial⟩ (fun hg2 => p_not rfl) rfl ?_
  refine r_p (p_pick rfl rfl rfl (by first | exact pick_and | exact pick_or |  rfl)) rfl ?_
  refine r_p (p_move rfl) rfl ?_
  refine r_gp [] rfl rfl trivial (fun hg3 => p_field0 fo64_1 rfl) rfl ?_
  refine r_gp [(29, _)] rfl rfl ⟨rfl, trivial⟩ (fun hg4 => p_load1 t3 rfl rfl (g_row1 (k := 3) rfl rfl)) rfl ?_
  refine r_gp [(29, _), (30, _)] rfl rfl ⟨rfl, rfl, trivial⟩ (fun hg5 => p_bin rfl rfl b_lt) rfl ?_
  refine r_p (p_pick rfl rfl rfl (by first | exact pick_and | exact pick_or |  rfl)) rfl ?_
  refine r_p (p_move rfl) rfl ?_
  refine r_gp [] rfl rfl trivial (fun hg6 => p_field0 fo64_1 rfl) rfl ?_
  refine r_gp [(34, _)] rfl rfl ⟨rfl, trivial⟩ (fun hg7 => p_load1 t3 rfl rfl (g_row1 (k := 3) rfl rfl)) rfl ?_
  refine r_gp [(34, _), (35, _)] rfl rfl ⟨rfl, rfl, trivial⟩ (fun hg8 => p_field0 fo54_4 rfl) rfl ?_
  refine r_gp [(34, _), (35, _), (36, _)] rfl rfl ⟨rfl, rfl, rfl, trivial⟩ (fun hg9 => p_field fo52_1 rfl) rfl ?_
  refine r_gp [(34, _), (35, _), (36, _), (37, _)] rfl rfl ⟨rfl, rfl, rfl, rfl, trivial⟩ (fun hg10 => p_load1 t50 rfl rfl (g_row1 (k := 4) rfl rfl)) rfl ?_
  refine r_gp [(34, _), (35, _), (36, _), (37, _), (38, _)] rfl rfl ⟨rfl, rfl, rfl, rfl, rfl, trivial⟩ (fun hg11 => p_len_sv Try.underlying50 rfl) rfl ?_
  refine r_gp [(34, _), (35, _), (36, _), (37, _), (38, _), (39, _)] rfl rfl ⟨rfl, rfl, rfl, rfl, rfl, rfl, trivial⟩ (fun hg12 => p_bin rfl rfl b_ge) rfl ?_
  refine r_p (p_pick rfl rfl rfl (by first | exact pick_and | exact pick_or |  rfl)) rfl ?_
  refine r_nil ?_
  refine r_cond rfl (fun h13 => ?_) (fun h13 => ?_)
  · (try simp only [decide_eq_true_eq, decide_eq_false_iff_not, Bool.and_eq_true, Bool.or_eq_true, Bool.and_eq_false_iff, Bool.or_eq_false_iff, Bool.not_eq_true, Bool.not_eq_false, Bool.not_eq_true', Bool.not_eq_false', Bool.not_not, bne_iff_ne, beq_iff_eq] at h13)
    have hok : okB L l = false := by
      unfold okB
      cases h1 : (L.find? fun a => decide (a.pc = l.f)).isSome <;> cases h2 : (L.find? fun a => decide (a.pc = l.t)).isSome <;> simp_all <;> omega
    refine r_cret ?_
    refine r_ret ol trivial rfl rs0 rfl [0, 1, 2] [] rfl (by unfold linkK; rw [if_neg (by simp [hok])]; rfl) rfl
  · (try simp only [decide_eq_true_eq, decide_eq_false_iff_not, Bool.and_eq_true, Bool.or_eq_true, Bool.and_eq_false_iff, Bool.or_eq_false_iff, Bool.not_eq_true, Bool.not_eq_false, Bool.not_eq_true', Bool.not_eq_false', Bool.not_not, bne_iff_ne, beq_iff_eq] at h13)
    have hok : okB L l = true := by
      unfold okB
      cases h1 : (L.find? fun a => decide (a.pc = l.f)).isSome <;> cases h2 : (L.find? fun a => decide (a.pc = l.t)).isSome <;> simp_all <;> omega
    refine r_skip ?_
    refine r_seq ?_
    refine r_seq ?_
    refine r_region ?_
    refine r_p (p_move rfl) rfl ?_
    refine r_p (p_nilCheck rfl) rfl ?_
    refine r_p (p_field0 fo84_4 rfl) rfl ?_
    refine r_p (p_load1 t82 rfl rfl (g_row1 (k := 0) rfl rfl)) rfl ?_
    refine r_p (p_bin rfl rfl (b_eqMn Try.underlying82)) rfl ?_
    refine r_nil ?_
    refine r_cond rfl (fun h14 => ?_) (fun h14 => ?_)
    · (try simp only [decide_eq_true_eq, decide_eq_false_iff_not, Bool.and_eq_true, Bool.or_eq_true, Bool.and_eq_false_iff, Bool.or_eq_false_iff, Bool.not_eq_true, Bool.not_eq_false, Bool.not_eq_true', Bool.not_eq_false', Bool.not_not, bne_iff_ne, beq_iff_eq] at h14)
      obtain rfl : ol = none := by cases ol <;> simp_all
      refine r_factG (k := 2) rfl (fun w G h => mp_none w G h) (fun hKn => ?_)
      subst hKn
      refine r_region ?_
      refine r_p (p_move rfl) rfl ?_
      refine r_makeMap kfS mkS vfS rfl fun b48 => ?_
      refine r_p (p_nilCheck rfl) rfl ?_
      refine r_p (p_field0 fo84_4 rfl) rfl ?_
      refine r_store_row (k := 0) t82 rfl rfl rfl rfl rfl rfl rfl rfl ?_
      refine r_nil ?_
      refine r_draw [51, 52, 53, 54, 55, 56, 57, 58, 59, 60, 61] _ rfl (stg_mem0 (V := [(0, 51, _), (1, 52, _), (2, 53, _), (3, 54, _), (4, 55, _), (5, 56, _), (6, 57, _), (7, 58, _), (8, 59, _), (9, 60, _), (10, 61, _)]) [0, 1, 2, 3, 4, 5, 6, 7, 8, 9, 10] 11 [11, 10, 9, 8, 7, 6, 5, 4, 3, 2, 1, 0] [] (fun _ => []) rfl rfl (prs_cons (pri rfl (p_move rfl)) (prs_cons (pri rfl (p_nilCheck rfl)) (prs_cons (pri rfl (p_field0 fo84_4 rfl)) (prs_cons (pri rfl (p_load1 t82 rfl rfl (g_row1 (k := 0) rfl rfl))) (prs_cons (pri rfl (p_field0 fo64_0 rfl)) (prs_cons (pri rfl (p_load1 t30 rfl rfl (g_row1 (k := 3) rfl rfl))) (prs_cons (pri rfl (p_field0 fo64_1 rfl)) (prs_cons (pri rfl (p_load1 t3 rfl rfl (g_row1 (k := 3) rfl rfl))) (prs_cons (pri rfl (p_build (parts := [(0, .tmp 56), (1, .tmp 58)]) t107 pl107 rfl rfl)) (prs_cons (pri rfl (p_field0 fo64_2 rfl)) (prs_cons (pri rfl (p_load1 t30 rfl rfl (g_row1 (k := 3) rfl rfl))) prs_nil))))))))))) rfl rfl rfl rfl rfl rfl rfl rfl rfl (fun _ _ => rfl) rfl (ms_mapUpdate (k := 48) l (linkK L [] l) Try.underlying82 keyS rfl rfl rfl rfl (by unfold linkK; rw [if_pos hok])) (fun _ _ => stg_end [] rfl rfl prs_nil rfl rfl rfl ?_))
      refine r_end (some b48) trivial rfl rs0 rfl [0, 1, 48] [] rfl rfl rfl
    · (try simp only [decide_eq_true_eq, decide_eq_false_iff_not, Bool.and_eq_true, Bool.or_eq_true, Bool.and_eq_false_iff, Bool.or_eq_false_iff, Bool.not_eq_true, Bool.not_eq_false, Bool.not_eq_true', Bool.not_eq_false', Bool.not_not, bne_iff_ne, beq_iff_eq] at h14)
      obtain ⟨b, rfl⟩ : ∃ b, ol = some b := by cases ol with
        | none => simp at h14
        | some b => exact ⟨b, rfl⟩
      refine r_skip ?_
      refine r_draw [51, 52, 53, 54, 55, 56, 57, 58, 59, 60, 61] _ rfl (stg_mem0 (V := [(0, 51, _), (1, 52, _), (2, 53, _), (3, 54, _), (4, 55, _), (5, 56, _), (6, 57, _), (7, 58, _), (8, 59, _), (9, 60, _), (10, 61, _)]) [0, 1, 2, 3, 4, 5, 6, 7, 8, 9, 10] 11 [11, 10, 9, 8, 7, 6, 5, 4, 3, 2, 1, 0] [] (fun _ => []) rfl rfl (prs_cons (pri rfl (p_move rfl)) (prs_cons (pri rfl (p_nilCheck rfl)) (prs_cons (pri rfl (p_field0 fo84_4 rfl)) (prs_cons (pri rfl (p_load1 t82 rfl rfl (g_row1 (k := 0) rfl rfl))) (prs_cons (pri rfl (p_field0 fo64_0 rfl)) (prs_cons (pri rfl (p_load1 t30 rfl rfl (g_row1 (k := 3) rfl rfl))) (prs_cons (pri rfl (p_field0 fo64_1 rfl)) (prs_cons (pri rfl (p_load1 t3 rfl rfl (g_row1 (k := 3) rfl rfl))) (prs_cons (pri rfl (p_build (parts := [(0, .tmp 56), (1, .tmp 58)]) t107 pl107 rfl rfl)) (prs_cons (pri rfl (p_field0 fo64_2 rfl)) (prs_cons (pri rfl (p_load1 t30 rfl rfl (g_row1 (k := 3) rfl rfl))) prs_nil))))))))))) rfl rfl rfl rfl rfl rfl rfl rfl rfl (fun _ _ => rfl) rfl (ms_mapUpdate (k := 2) l (linkK L K l) Try.underlying82 keyS rfl rfl rfl rfl (by unfold linkK; rw [if_pos hok])) (fun _ _ => stg_end [] rfl rfl prs_nil rfl rfl rfl ?_))
      refine r_end (some b) trivial rfl rs0 rfl [0, 1, 2] [] rfl rfl rfl

end Go.Proofs.Ytbkonlkffajhkaa
