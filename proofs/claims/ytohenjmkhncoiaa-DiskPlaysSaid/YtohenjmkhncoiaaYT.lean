/-
  The journal: its last checkpoint, beginning one. Conditions: sizes.
-/
import Derived.Test.YtohenjmkhncoiaaYS
namespace Go.Proofs.Ytohenjmkhncoiaa
set_option linter.unusedSimpArgs false
set_option linter.unusedVariables false
open Go.RowKit

theorem COk.mv {w0 : World} {M H : Nat → Prop} {Γ R : Ctx} {w : World} {k k' : Nat} {A : Asn} (h : COk w0 M H Γ R w) (hk : cget Γ k = some A) (hne : Nat.beq k' k = false) : COk w0 M H ((k', A) :: (k, emp) :: Γ) R w := by
  obtain ⟨F, hF⟩ := h
  have hne' : k' ≠ k := fun e => by subst e; simp at hne
  have hsub : ∀ j b, (if j = k' then F k else if j = k then fun _ => False else F j) b → (j = k' ∧ F k b) ∨ (j ≠ k' ∧ j ≠ k ∧ F j b) := by
    intro j b hb
    split at hb
    · exact .inl ⟨by assumption, hb⟩
    · split at hb
      · exact hb.elim
      · exact .inr ⟨by assumption, by assumption, hb⟩
  refine ⟨fun j => if j = k' then F k else if j = k then fun _ => False else F j, hF.touch, ?_, ?_, ?_, ?_, ?_⟩
  · intro j B hj
    simp only [cget] at hj
    cases h1 : Nat.beq k' j with
    | true =>
      rw [h1] at hj
      simp at hj
      subst hj
      have := Nat.eq_of_beq_eq_true h1
      subst this
      simp only [if_true]
      exact hF.has k A hk
    | false =>
      rw [h1] at hj
      have hj1 : j ≠ k' := fun e => by subst e; simp at h1
      cases h2 : Nat.beq k j with
      | true =>
        rw [h2] at hj
        simp at hj
        subst hj
        have := Nat.eq_of_beq_eq_true h2
        subst this
        simp only [hj1, if_false, if_true]
        exact fun b hb => hb
      | false =>
        rw [h2] at hj
        have hj2 : j ≠ k := fun e => by subst e; simp at h2
        simp only [hj1, hj2, if_false]
        exact hF.has j B hj
  · intro j b hb
    rcases hsub j b hb with ⟨_, hb⟩ | ⟨_, _, hb⟩ <;> exact hF.lt _ b hb
  · intro j b hb hlt
    rcases hsub j b hb with ⟨_, hb⟩ | ⟨_, _, hb⟩ <;> exact hF.mine _ b hb hlt
  · intro i j b hi hj
    rcases hsub i b hi with ⟨e1, h1⟩ | ⟨e1, e2, h1⟩ <;> rcases hsub j b hj with ⟨f1, h2⟩ | ⟨f1, f2, h2⟩
    · rw [e1, f1]
    · exact absurd (hF.apart k j b h1 h2).symm f2
    · exact absurd (hF.apart i k b h1 h2) e2
    · exact hF.apart i j b h1 h2
  · intro j B hj
    obtain ⟨G, g1, g2⟩ := hF.ro j B hj
    refine ⟨G, g1, fun b hb => ⟨(g2 b hb).1, fun i hi => ?_, (g2 b hb).2.2⟩⟩
    rcases hsub i b hi with ⟨_, hb'⟩ | ⟨_, _, hb'⟩ <;> exact (g2 b hb).2.1 _ hb'
theorem r_mv {N : Nat} {w0 : World} {M H : Nat → Prop} {E : Env} {Γ R : Ctx} (k k' : Nat) {A : Asn} {Rel : Act → World → Prop} (hk : cget Γ k = some A) (hne : Nat.beq k' k = false) (h : At N w0 M H E ((k', A) :: (k, emp) :: Γ) R Rel) : At N w0 M H E Γ R Rel :=
  h.weak (fun _ h => h) fun w hC => hC.mv hk hne
/-- A part of a body, a whole sector of it, and the number of its sectors. -/
def prt (body : ByteArray) (i : Nat) : ByteArray := body.extract (64 * i) (min body.size (64 * i + 64))
def blk (body : ByteArray) (i : Nat) : ByteArray := prt body i ++ ofI (List.replicate (64 - (prt body i).size) 0)
def nbk (body : ByteArray) : Nat := (body.size + 63) / 64
theorem prt_size (body : ByteArray) (i : Nat) : (prt body i).size = min body.size (64 * i + 64) - 64 * i := by
  unfold prt
  rw [extract_size]
  omega
theorem blk_size (body : ByteArray) (i : Nat) : (blk body i).size = 64 := by
  unfold blk
  rw [ByteArray.size_append, ofI_size, List.length_replicate, prt_size]
  omega
theorem hdrS_size (n : Int) (body : ByteArray) : (hdrS n body).size = 64 := by
  unfold hdrS
  rw [ByteArray.size_append, ofI_size, ofI_size, List.length_replicate]
  rfl
theorem prt_eq (body : ByteArray) (i : Nat) : body.extract (((64 * i : Nat) : Int)).toNat (min (body.size : Int) (((64 * i : Nat) : Int) + 64)).toNat = prt body i := by
  unfold prt
  rw [Int.toNat_natCast, show (min (body.size : Int) (((64 * i : Nat) : Int) + 64)).toNat = min body.size (64 * i + 64) by omega]
theorem p_prt {P : Program} {N : Nat} {w0 : World} {M H : Nat → Prop} {E : Env} {Γ R : Ctx} {S : TypeId} {x y z : Operand} {k k' : IntKind} {body : ByteArray} {i : Nat} (hS : P.underlying S = some .string) (hx : ev E x = some (.string body)) (hy : ev E y = some (.int k ((64 * i : Nat) : Int))) (hz : ev E z = some (.int k' (min (body.size : Int) (((64 * i : Nat) : Int) + 64)))) (h : 64 * i < body.size) :
    PR P N w0 M H E Γ R (.slice S x (some y) (some z) none) (.string (prt body i)) := by
  have h := p_slice_strlh (w0 := w0) (M := M) (H := H) (Γ := Γ) (R := R) (N := N) hS hx hy hz (by omega) (by omega) (by omega)
  rw [prt_eq] at h
  exact h
theorem acts_sws {J : Nat} {a : Ac} : ∀ w G, (actsA J [a]).pred w G → (∀ b, G b → b < w.heap.size) → ∃ G', (actsA J [.sync, a, .sync]).pred w G' ∧ ∀ b, G' b → G b := fun w G h _ => ⟨G, fun c hc => by
  simp only [List.mem_cons, List.not_mem_nil, or_false] at hc
  rcases hc with rfl | rfl | rfl
  · trivial
  · exact h _ (by simp)
  · trivial, fun _ hb => hb⟩
/-- What a checkpoint does. -/
def planF (n : Int) (room : Nat) (body : ByteArray) : List (Option (Int × ByteArray)) := (List.range (nbk body)).map (fun i : Nat => some (2 + (n + 1) % 2 * (room : Int) + (i : Int), blk body i)) ++ [none, some ((n + 1) % 2, hdrS (n + 1) body), none]
theorem acV_one (D : Nat) (a : Ac) : (acV D a).oneCell' = true := by cases a <;> rfl
theorem and1 (x : Int) : bits .and .i64 x 1 = x % 2 := and_mask 1 (by decide) rfl

set_option maxRecDepth 100000 in
theorem last_spec44 (J D : Nat) (lst : Sp) (n : Int) (nxt : Sp) (vt : SV) (h0 : n = 0) :
    Spec Try.prog 44 [.pointer (some ⟨J, 0, none⟩)] [] [row J 100 (jC D lst n nxt vt)] (X := Unit) (fun _ => True) (fun _ => .tuple #[snV zSp, .int .i64 0, .bool false]) (fun _ => []) (fun _ => []) := by
  refine r_enter Try.func44 rfl Try.ntmps44 rfl fun w0 M H => ?_
  refine r_seq ?_
  refine r_region ?_
  refine r_alloc t59 rfl rfl fun b2 => ?_
  refine r_p (p_assign rfl) rfl ?_
  refine r_p (p_assign rfl) rfl ?_
  refine r_nil ?_
  refine r_seq ?_
  refine r_seq ?_
  refine r_region ?_
  refine r_p (p_move rfl) rfl ?_
  refine r_p (p_bin rfl rfl (b_eqPn Try.underlying49)) rfl ?_
  refine r_p (p_move rfl) rfl ?_
  refine r_split (t := 7) rfl (fun h1 => False.elim (by simp at h1)) (fun h1 => ?_)
  refine r_gyes rfl rfl ?_
  refine r_p (p_move rfl) rfl ?_
  refine r_gyes rfl rfl ?_
  refine r_p (p_nilCheck rfl) rfl ?_
  refine r_gyes rfl rfl ?_
  refine r_p (p_field0 fo100_2 rfl) rfl ?_
  refine r_gyes rfl rfl ?_
  refine r_p (p_load1 t3 rfl rfl (g_row1R (k := 0) rfl rfl)) rfl ?_
  refine r_gyes rfl rfl ?_
  refine r_p (p_bin rfl rfl b_eq) rfl ?_
  refine r_p (p_pick rfl rfl rfl (by first | exact pick_and | exact pick_or |  rfl)) rfl ?_
  refine r_nil ?_
  refine r_cond rfl (fun h2 => ?_) (fun h2 => ?_)
  · (try simp only [decide_eq_true_eq, decide_eq_false_iff_not, Bool.and_eq_true, Bool.or_eq_true, Bool.and_eq_false_iff, Bool.or_eq_false_iff, Bool.not_eq_true, Bool.not_eq_false, Bool.not_eq_true', Bool.not_eq_false', Bool.not_not, bne_iff_ne, beq_iff_eq] at h2)
    refine r_seq ?_
    refine r_region ?_
    refine r_p (p_build (parts := []) t59 pl59 rfl rfl) rfl ?_
    refine r_store_all (k := 2) t59 rfl rfl rfl rfl rfl rfl ?_
    refine r_p (p_assign rfl) rfl ?_
    refine r_p (p_assign rfl) rfl ?_
    refine r_nil ?_
    refine r_cret ?_
    refine r_ret () trivial rfl (rs3 (rv_cellA t59 rfl rfl rfl (g_all (k := 2) rfl)) (rv_tmp rfl) (rv_tmp rfl)) rfl [] [] rfl rfl rfl
  · (simp [h0] at h2)
set_option maxRecDepth 100000 in
theorem last_nil  :
    Spec Try.prog 44 [.pointer none] [] [] (X := Unit) (fun _ => True) (fun _ => .tuple #[snV zSp, .int .i64 0, .bool false]) (fun _ => []) (fun _ => []) := by
  refine r_enter Try.func44 rfl Try.ntmps44 rfl fun w0 M H => ?_
  refine r_seq ?_
  refine r_region ?_
  refine r_alloc t59 rfl rfl fun b2 => ?_
  refine r_p (p_assign rfl) rfl ?_
  refine r_p (p_assign rfl) rfl ?_
  refine r_nil ?_
  refine r_seq ?_
  refine r_seq ?_
  refine r_region ?_
  refine r_p (p_move rfl) rfl ?_
  refine r_p (p_bin rfl rfl (b_eqPn Try.underlying49)) rfl ?_
  refine r_p (p_move rfl) rfl ?_
  refine r_split (t := 7) rfl (fun h1 => ?_) (fun h1 => False.elim (by simp at h1))
  refine r_gno rfl rfl rfl rfl ?_
  refine r_gno rfl rfl rfl rfl ?_
  refine r_gno rfl rfl rfl rfl ?_
  refine r_gno rfl rfl rfl rfl ?_
  refine r_gno rfl rfl rfl rfl ?_
  refine r_p (p_pick rfl rfl rfl (by first | exact pick_and | exact pick_or |  rfl)) rfl ?_
  refine r_nil ?_
  refine r_cond rfl (fun h2 => ?_) (fun h2 => ?_)
  · (try simp only [decide_eq_true_eq, decide_eq_false_iff_not, Bool.and_eq_true, Bool.or_eq_true, Bool.and_eq_false_iff, Bool.or_eq_false_iff, Bool.not_eq_true, Bool.not_eq_false, Bool.not_eq_true', Bool.not_eq_false', Bool.not_not, bne_iff_ne, beq_iff_eq] at h2)
    refine r_seq ?_
    refine r_region ?_
    refine r_p (p_build (parts := []) t59 pl59 rfl rfl) rfl ?_
    refine r_store_all (k := 2) t59 rfl rfl rfl rfl rfl rfl ?_
    refine r_p (p_assign rfl) rfl ?_
    refine r_p (p_assign rfl) rfl ?_
    refine r_nil ?_
    refine r_cret ?_
    refine r_ret () trivial rfl (rs3 (rv_cellA t59 rfl rfl rfl (g_all (k := 2) rfl)) (rv_tmp rfl) (rv_tmp rfl)) rfl [] [] rfl rfl rfl
  · exact absurd h2 (by simp)
set_option maxHeartbeats 1000000 in
set_option maxRecDepth 100000 in
theorem last_some (J D : Nat) (lst : Sp) (n : Int) (nxt : Sp) (vt : SV) (h0 : n ≠ 0) (hs : lst.Sm) :
    Spec Try.prog 44 [.pointer (some ⟨J, 0, none⟩)] [] [row J 100 (jC D lst n nxt vt), snA lst] (X := Sp) (fun y => y.sn = lst.sn) (fun y => .tuple #[snV y, .int .i64 n, .bool true]) (fun _ => []) (fun y => [snA y]) := by
  refine r_enter Try.func44 rfl Try.ntmps44 rfl fun w0 M H => ?_
  refine r_seq ?_
  refine r_region ?_
  refine r_alloc t59 rfl rfl fun b2 => ?_
  refine r_p (p_assign rfl) rfl ?_
  refine r_p (p_assign rfl) rfl ?_
  refine r_nil ?_
  refine r_seq ?_
  refine r_seq ?_
  refine r_region ?_
  refine r_p (p_move rfl) rfl ?_
  refine r_p (p_bin rfl rfl (b_eqPn Try.underlying49)) rfl ?_
  refine r_p (p_move rfl) rfl ?_
  refine r_split (t := 7) rfl (fun h1 => False.elim (by simp at h1)) (fun h1 => ?_)
  refine r_gyes rfl rfl ?_
  refine r_p (p_move rfl) rfl ?_
  refine r_gyes rfl rfl ?_
  refine r_p (p_nilCheck rfl) rfl ?_
  refine r_gyes rfl rfl ?_
  refine r_p (p_field0 fo100_2 rfl) rfl ?_
  refine r_gyes rfl rfl ?_
  refine r_p (p_load1 t3 rfl rfl (g_row1R (k := 0) rfl rfl)) rfl ?_
  refine r_gyes rfl rfl ?_
  refine r_p (p_bin rfl rfl b_eq) rfl ?_
  refine r_p (p_pick rfl rfl rfl (by first | exact pick_and | exact pick_or |  rfl)) rfl ?_
  refine r_nil ?_
  refine r_cond rfl (fun h2 => ?_) (fun h2 => ?_)
  · (simp [h0] at h2)
  · (try simp only [decide_eq_true_eq, decide_eq_false_iff_not, Bool.and_eq_true, Bool.or_eq_true, Bool.and_eq_false_iff, Bool.or_eq_false_iff, Bool.not_eq_true, Bool.not_eq_false, Bool.not_eq_true', Bool.not_eq_false', Bool.not_not, bne_iff_ne, beq_iff_eq] at h2)
    refine r_skip ?_
    refine r_seq ?_
    refine r_drawM [0, 1, 2, 3, 4, 5, 6, 7, 8, 9, 10, 11] [0, 1, 2, 3, 4, 6, 7, 8, 9, 5, 10, 11] [15, 16, 17, 18, 19, 20, 21, 22, 23, 3, 4] _ rfl rfl rfl (stg_mem (V := [(0, 15, _), (1, 16, _), (2, 17, _), (3, 18, _), (5, 20, _), (6, 21, _), (7, 22, _), (8, 23, _)]) [0, 1, 2, 3, 5, 6, 7, 8] 4 [4, 3, 2, 1, 0] [] (fun y => []) rfl rfl (prs_cons (pri rfl (p_move rfl)) (prs_cons (pri rfl (p_nilCheck rfl)) (prs_cons (pri rfl (p_field0 fo100_1 rfl)) (prs_cons (pri rfl (p_loadA t59 rfl rfl rfl (g_rowR (us := (snC lst)) (k := 0) rfl rfl))) (prs_cons (pri rfl (p_move rfl)) (prs_cons (pri rfl (p_nilCheck rfl)) (prs_cons (pri rfl (p_field0 fo100_2 rfl)) (prs_cons (pri rfl (p_load1 t3 rfl rfl (g_row1R (k := 0) rfl rfl))) prs_nil)))))))) rfl rfl rfl rfl rfl rfl rfl rfl rfl rfl rfl (fun _ _ => rfl) rfl (ms_call (xs := [.tmp 18]) (own_spec62 lst hs) cb62 [] [(false, 1)] [] [9] rfl rfl rfl rfl rfl rfl rfl rfl (fun _ _ => rfl) (fun _ _ _ => rfl)) (fun y hy => stg_mem0 [5, 6, 7, 8] 9 [9, 4, 3, 2, 1, 0] [10, 11] (fun _ => [(10, 3, _), (11, 4, _)]) rfl rfl (prs_cons (pri rfl (p_move rfl)) (prs_cons (pri rfl (p_nilCheck rfl)) (prs_cons (pri rfl (p_field0 fo100_2 rfl)) (prs_cons (pri rfl (p_load1 t3 rfl rfl (g_row1R (k := 0) rfl rfl))) prs_nil)))) rfl rfl rfl rfl rfl rfl rfl rfl rfl (fun _ _ => rfl) rfl (ms_store_all (k := 2) t59 rfl rfl rfl rfl rfl rfl) (fun _ _ => stg_end [10, 11, 5, 6, 7, 8] rfl rfl (prs_cons (pri rfl (p_assign rfl)) (prs_cons (pri rfl (p_assign rfl)) (prs_cons (pri rfl (p_move rfl)) (prs_cons (pri rfl (p_nilCheck rfl)) (prs_cons (pri rfl (p_field0 fo100_2 rfl)) (prs_cons (pri rfl (p_load1 t3 rfl rfl (g_row1R (k := 0) rfl rfl))) prs_nil)))))) rfl rfl rfl ?_)))
    refine r_cret ?_
    refine r_ret y hy rfl (rs3 (rv_cellA t59 rfl rfl rfl (g_all (k := 2) rfl)) (rv_tmp rfl) (rv_tmp rfl)) rfl [] [9] rfl rfl rfl
set_option maxRecDepth 100000 in
theorem begin_nil (x : Sp) :
    Spec Try.prog 42 [.pointer none, snV x] [] [] (X := Unit) (fun _ => True) (fun _ => .int .i64 41) (fun _ => []) (fun _ => []) := by
  refine r_enter Try.func42 rfl Try.ntmps42 rfl fun w0 M H => ?_
  refine r_seq ?_
  refine r_region ?_
  refine r_box1 rfl rfl rfl fun b2 => ?_
  refine r_boxA rfl rfl fun b3 => ?_
  refine r_p (p_assign rfl) rfl ?_
  refine r_nil ?_
  refine r_seq ?_
  refine r_seq ?_
  refine r_region ?_
  refine r_p (p_load1 t49 rfl rfl (g_row1 (k := 2) rfl rfl)) rfl ?_
  refine r_p (p_bin rfl rfl (b_eqPn Try.underlying49)) rfl ?_
  refine r_p (p_move rfl) rfl ?_
  refine r_split (t := 13) rfl (fun h1 => ?_) (fun h1 => False.elim (by simp at h1))
  refine r_gno rfl rfl rfl rfl ?_
  refine r_gno rfl rfl rfl rfl ?_
  refine r_p (p_pick rfl rfl rfl (by first | exact pick_and | exact pick_or |  rfl)) rfl ?_
  refine r_nil ?_
  refine r_cond rfl (fun h2 => ?_) (fun h2 => ?_)
  · (try simp only [decide_eq_true_eq, decide_eq_false_iff_not, Bool.and_eq_true, Bool.or_eq_true, Bool.and_eq_false_iff, Bool.or_eq_false_iff, Bool.not_eq_true, Bool.not_eq_false, Bool.not_eq_true', Bool.not_eq_false', Bool.not_not, bne_iff_ne, beq_iff_eq] at h2)
    refine r_seq ?_
    refine r_region ?_
    refine r_p (p_assign rfl) rfl ?_
    refine r_nil ?_
    refine r_cret ?_
    refine r_ret () trivial rfl (rs1 (rv_tmp rfl)) rfl [] [] rfl rfl rfl
  · exact absurd h2 (by simp)
set_option maxRecDepth 100000 in
theorem begin_busy (J D : Nat) (lst : Sp) (n : Int) (nxt : Sp) (vt : SV) (l : List Ac) (hl : 0 < l.length) (x : Sp) :
    Spec Try.prog 42 [.pointer (some ⟨J, 0, none⟩), snV x] [] [row J 100 (jC D lst n nxt vt), ownX 35 (acV D) vt l] (X := Unit) (fun _ => True) (fun _ => .int .i64 41) (fun _ => []) (fun _ => []) := by
  refine r_enter Try.func42 rfl Try.ntmps42 rfl fun w0 M H => ?_
  refine r_seq ?_
  refine r_region ?_
  refine r_box1 rfl rfl rfl fun b2 => ?_
  refine r_boxA rfl rfl fun b3 => ?_
  refine r_p (p_assign rfl) rfl ?_
  refine r_nil ?_
  refine r_seq ?_
  refine r_seq ?_
  refine r_region ?_
  refine r_p (p_load1 t49 rfl rfl (g_row1 (k := 2) rfl rfl)) rfl ?_
  refine r_p (p_bin rfl rfl (b_eqPn Try.underlying49)) rfl ?_
  refine r_p (p_move rfl) rfl ?_
  refine r_split (t := 13) rfl (fun h1 => False.elim (by simp at h1)) (fun h1 => ?_)
  refine r_gyes rfl rfl ?_
  refine r_p (p_load1 t49 rfl rfl (g_row1 (k := 2) rfl rfl)) rfl ?_
  refine r_gyes rfl rfl ?_
  refine r_call (xs := [.tmp 14]) (busy_spec J D lst n nxt vt l) cb36 [] [(false, 0), (false, 1)] [] [] rfl rfl rfl rfl rfl rfl rfl rfl (fun _ _ => rfl) (fun _ _ _ => rfl) rfl (fun _ _ => ?_)
  refine r_p (p_pick rfl rfl rfl (by first | exact pick_and | exact pick_or |  rfl)) rfl ?_
  refine r_nil ?_
  refine r_cond rfl (fun h2 => ?_) (fun h2 => ?_)
  · (try simp only [decide_eq_true_eq, decide_eq_false_iff_not, Bool.and_eq_true, Bool.or_eq_true, Bool.and_eq_false_iff, Bool.or_eq_false_iff, Bool.not_eq_true, Bool.not_eq_false, Bool.not_eq_true', Bool.not_eq_false', Bool.not_not, bne_iff_ne, beq_iff_eq] at h2)
    refine r_seq ?_
    refine r_region ?_
    refine r_p (p_assign rfl) rfl ?_
    refine r_nil ?_
    refine r_cret ?_
    refine r_ret () trivial rfl (rs1 (rv_tmp rfl)) rfl [] [] rfl rfl rfl
  · (simp [hl] at h2)
set_option maxRecDepth 100000 in
theorem begin_full (J D : Nat) (lst : Sp) (n : Int) (nxt : Sp) (vt : SV) (v : SV) (m : Nat) (off armed : Bool) (left : Int) (dur : List ByteArray) (hn : 0 ≤ n ∧ n ≤ 1000000000) (hd1 : 4 ≤ dur.length) (hd2 : dur.length ≤ 65536) (x : Sp) (hok : x.sn.Ok) (hlen : (eSn x.sn).length ≤ 100000) (hf : (eSn x.sn).length > ((dur.length - 2) / 2) * 64) :
    Spec Try.prog 42 [.pointer (some ⟨J, 0, none⟩), snV x] [row J 100 (jC D lst n nxt vt), ownX 35 (acV D) vt []] [row D 94 (dC v (some m) off armed left), own 9 1 eS (sv v) dur, snA x] (X := Unit) (fun _ => True) (fun _ => .int .i64 30) (fun _ => [row J 100 (jC D lst n nxt vt), ownX 35 (acV D) vt []]) (fun _ => []) := by
  refine r_enter Try.func42 rfl Try.ntmps42 rfl fun w0 M H => ?_
  have hsz : (ofI (eSn x.sn)).size = (eSn x.sn).length := ofI_size _
  refine r_seq ?_
  refine r_region ?_
  refine r_box1 rfl rfl rfl fun b2 => ?_
  refine r_boxA rfl rfl fun b3 => ?_
  refine r_p (p_assign rfl) rfl ?_
  refine r_freeze 2 12 rfl (fun _ _ h => h) ?_
  refine r_nil ?_
  refine r_seq ?_
  refine r_seq ?_
  refine r_region ?_
  refine r_p (p_load1 t49 rfl rfl (g_row1R (k := 12) rfl rfl)) rfl ?_
  refine r_p (p_bin rfl rfl (b_eqPn Try.underlying49)) rfl ?_
  refine r_p (p_move rfl) rfl ?_
  refine r_split (t := 13) rfl (fun h1 => False.elim (by simp at h1)) (fun h1 => ?_)
  refine r_gyes rfl rfl ?_
  refine r_p (p_load1 t49 rfl rfl (g_row1R (k := 12) rfl rfl)) rfl ?_
  refine r_gyes rfl rfl ?_
  refine r_call (xs := [.tmp 14]) (busy_spec J D lst n nxt vt []) cb36 [] [(true, 0), (true, 1)] [] [] rfl rfl rfl rfl rfl rfl rfl rfl (fun _ _ => rfl) (fun _ _ _ => rfl) rfl (fun _ _ => ?_)
  refine r_p (p_pick rfl rfl rfl (by first | exact pick_and | exact pick_or |  rfl)) rfl ?_
  refine r_nil ?_
  refine r_cond rfl (fun h2 => ?_) (fun h2 => ?_)
  · (simp at h2)
  · (try simp only [decide_eq_true_eq, decide_eq_false_iff_not, Bool.and_eq_true, Bool.or_eq_true, Bool.and_eq_false_iff, Bool.or_eq_false_iff, Bool.not_eq_true, Bool.not_eq_false, Bool.not_eq_true', Bool.not_eq_false', Bool.not_not, bne_iff_ne, beq_iff_eq] at h2)
    refine r_skip ?_
    refine r_seq ?_
    refine r_region ?_
    refine r_p (p_loadA t59 rfl rfl rfl (g_all (k := 3) rfl)) rfl ?_
    refine r_call (xs := [.tmp 17]) (bytes_spec x hok hlen) cb32 [] [(false, 2)] [] [] rfl rfl rfl rfl rfl rfl rfl rfl (fun _ _ => rfl) (fun _ _ _ => rfl) rfl (fun _ _ => ?_)
    refine r_p (p_assign rfl) rfl ?_
    refine r_nil ?_
    refine r_seq ?_
    refine r_seq ?_
    refine r_region ?_
    refine r_p (p_move rfl) rfl ?_
    refine r_p (p_len_str Try.underlying9 rfl) rfl ?_
    refine r_p (p_load1 t49 rfl rfl (g_row1R (k := 12) rfl rfl)) rfl ?_
    refine r_p (p_nilCheck rfl) rfl ?_
    refine r_p (p_field0 fo100_0 rfl) rfl ?_
    refine r_p (p_load1 t24 rfl rfl (g_row1 (k := 0) rfl rfl)) rfl ?_
    refine r_call (xs := [.tmp 24]) (room_spec D v (some m) off armed left dur (by omega) hd2) cb61 [] [(false, 0), (false, 1)] [] [] rfl rfl rfl rfl rfl rfl rfl rfl (fun _ _ => rfl) (fun _ _ _ => rfl) rfl (fun _ _ => ?_)
    refine r_p (p_bin rfl rfl (b_mul (by first | exact w_i64 (by omega) (by omega) | rfl))) rfl ?_
    refine r_p (p_bin rfl rfl b_gt) rfl ?_
    refine r_nil ?_
    refine r_cond rfl (fun h3 => ?_) (fun h3 => ?_)
    · (try simp only [decide_eq_true_eq, decide_eq_false_iff_not, Bool.and_eq_true, Bool.or_eq_true, Bool.and_eq_false_iff, Bool.or_eq_false_iff, Bool.not_eq_true, Bool.not_eq_false, Bool.not_eq_true', Bool.not_eq_false', Bool.not_not, bne_iff_ne, beq_iff_eq] at h3)
      refine r_seq ?_
      refine r_region ?_
      refine r_p (p_assign rfl) rfl ?_
      refine r_nil ?_
      refine r_cret ?_
      refine r_ret () trivial rfl (rs1 (rv_tmp rfl)) rfl [0, 1] [] rfl rfl rfl
    · (simp at h3; omega)
set_option maxHeartbeats 4000000 in
set_option maxRecDepth 100000 in
theorem begin_ok (J D : Nat) (lst : Sp) (n : Int) (nxt : Sp) (vt : SV) (v : SV) (m : Nat) (off armed : Bool) (left : Int) (dur : List ByteArray) (hn : 0 ≤ n ∧ n ≤ 1000000000) (hd1 : 4 ≤ dur.length) (hd2 : dur.length ≤ 65536) (x : Sp) (hok : x.sn.Ok) (hlen : (eSn x.sn).length ≤ 100000) (hf : (eSn x.sn).length ≤ ((dur.length - 2) / 2) * 64) :
    Spec Try.prog 42 [.pointer (some ⟨J, 0, none⟩), snV x] [row J 100 (jC D lst n nxt vt), ownX 35 (acV D) vt [], row D 94 (dC v (some m) off armed left), own 9 1 eS (sv v) dur] [snA x] (X := Sp × SV × List Ac) (fun z => z.1.sn = x.sn ∧ z.2.2.map Ac.plain = planF n ((dur.length - 2) / 2) (ofI (eSn x.sn))) (fun _ => .int .i64 0) (fun z => [row J 100 (jC D lst n z.1 z.2.1), ownX 35 (acV D) z.2.1 z.2.2, row D 94 (dC v (some m) off armed left), own 9 1 eS (sv v) dur]) (fun z => [snA z.1, actsA J z.2.2]) := by
  refine r_enter Try.func42 rfl Try.ntmps42 rfl fun w0 M H => ?_
  refine r_mv 2 42 rfl rfl ?_
  refine r_mv 3 43 rfl rfl ?_
  have hsz : (ofI (eSn x.sn)).size = (eSn x.sn).length := ofI_size _
  have hpr : 0 ≤ (n + 1) % 2 * ((((dur.length - 2) / 2) : Nat) : Int) ∧ (n + 1) % 2 * ((((dur.length - 2) / 2) : Nat) : Int) ≤ ((((dur.length - 2) / 2) : Nat) : Int) := by
    rcases (by omega : (n + 1) % 2 = 0 ∨ (n + 1) % 2 = 1) with h | h
    · rw [h]; omega
    · rw [h]; omega
  refine r_seq ?_
  refine r_region ?_
  refine r_box1 rfl rfl rfl fun b2 => ?_
  refine r_boxA rfl rfl fun b3 => ?_
  refine r_p (p_assign rfl) rfl ?_
  refine r_freeze 2 12 rfl (fun _ _ h => h) ?_
  refine r_nil ?_
  refine r_seq ?_
  refine r_seq ?_
  refine r_region ?_
  refine r_p (p_load1 t49 rfl rfl (g_row1R (k := 12) rfl rfl)) rfl ?_
  refine r_p (p_bin rfl rfl (b_eqPn Try.underlying49)) rfl ?_
  refine r_p (p_move rfl) rfl ?_
  refine r_split (t := 13) rfl (fun h1 => False.elim (by simp at h1)) (fun h1 => ?_)
  refine r_gyes rfl rfl ?_
  refine r_p (p_load1 t49 rfl rfl (g_row1R (k := 12) rfl rfl)) rfl ?_
  refine r_gyes rfl rfl ?_
  refine r_call (xs := [.tmp 14]) (busy_spec J D lst n nxt vt []) cb36 [] [(true, 0), (true, 1)] [] [] rfl rfl rfl rfl rfl rfl rfl rfl (fun _ _ => rfl) (fun _ _ _ => rfl) rfl (fun _ _ => ?_)
  refine r_p (p_pick rfl rfl rfl (by first | exact pick_and | exact pick_or |  rfl)) rfl ?_
  refine r_nil ?_
  refine r_cond rfl (fun h2 => ?_) (fun h2 => ?_)
  · (simp at h2)
  · (try simp only [decide_eq_true_eq, decide_eq_false_iff_not, Bool.and_eq_true, Bool.or_eq_true, Bool.and_eq_false_iff, Bool.or_eq_false_iff, Bool.not_eq_true, Bool.not_eq_false, Bool.not_eq_true', Bool.not_eq_false', Bool.not_not, bne_iff_ne, beq_iff_eq] at h2)
    refine r_skip ?_
    refine r_seq ?_
    refine r_region ?_
    refine r_p (p_loadA t59 rfl rfl rfl (g_all (k := 3) rfl)) rfl ?_
    refine r_call (xs := [.tmp 17]) (bytes_spec x hok hlen) cb32 [] [(false, 0)] [] [] rfl rfl rfl rfl rfl rfl rfl rfl (fun _ _ => rfl) (fun _ _ _ => rfl) rfl (fun _ _ => ?_)
    refine r_p (p_assign rfl) rfl ?_
    refine r_nil ?_
    refine r_seq ?_
    refine r_seq ?_
    refine r_region ?_
    refine r_p (p_move rfl) rfl ?_
    refine r_p (p_len_str Try.underlying9 rfl) rfl ?_
    refine r_p (p_load1 t49 rfl rfl (g_row1R (k := 12) rfl rfl)) rfl ?_
    refine r_p (p_nilCheck rfl) rfl ?_
    refine r_p (p_field0 fo100_0 rfl) rfl ?_
    refine r_p (p_load1 t24 rfl rfl (g_row1 (k := 0) rfl rfl)) rfl ?_
    refine r_call (xs := [.tmp 24]) (room_spec D v (some m) off armed left dur (by omega) (by omega)) cb61 [] [(true, 42), (true, 43)] [] [] rfl rfl rfl rfl rfl rfl rfl rfl (fun _ _ => rfl) (fun _ _ _ => rfl) rfl (fun _ _ => ?_)
    refine r_p (p_bin rfl rfl (b_mul (by first | exact w_i64 (by omega) (by omega) | rfl))) rfl ?_
    refine r_p (p_bin rfl rfl b_gt) rfl ?_
    refine r_nil ?_
    refine r_cond rfl (fun h3 => ?_) (fun h3 => ?_)
    · (simp at h3; omega)
    · (try simp only [decide_eq_true_eq, decide_eq_false_iff_not, Bool.and_eq_true, Bool.or_eq_true, Bool.and_eq_false_iff, Bool.or_eq_false_iff, Bool.not_eq_true, Bool.not_eq_false, Bool.not_eq_true', Bool.not_eq_false', Bool.not_not, bne_iff_ne, beq_iff_eq] at h3)
      refine r_skip ?_
      refine r_seq ?_
      refine r_draw [28, 29, 30, 31, 32] _ rfl (stg_mem (V := [(0, 28, _), (1, 29, _)]) [0, 1] 2 [2, 1] [3, 4] (fun y => [(3, 31, _), (4, 32, _)]) rfl rfl (prs_cons (pri rfl (p_load1 t49 rfl rfl (g_row1R (k := 12) rfl rfl))) (prs_cons (pri rfl (p_loadA t59 rfl rfl rfl (g_all (k := 3) rfl))) prs_nil)) rfl rfl rfl rfl rfl rfl rfl rfl rfl rfl rfl (fun _ _ => rfl) rfl (ms_call (xs := [.tmp 29]) (own_spec62 x (Sp.Sm.of (by omega))) cb62 [] [(false, 0)] [] [20] rfl rfl rfl rfl rfl rfl rfl rfl (fun _ _ => rfl) (fun _ _ _ => rfl)) (fun y hy => stg_mem0 [3, 4, 0] 5 [5, 4, 3, 2, 1, 0] [] (fun _ => []) rfl rfl (prs_cons (pri rfl (p_nilCheck rfl)) (prs_cons (pri rfl (p_field0 fo100_3 rfl)) (prs_cons (pri rfl (p_load1 t49 rfl rfl (g_row1R (k := 12) rfl rfl))) prs_nil))) rfl rfl rfl rfl rfl rfl rfl rfl rfl (fun _ _ => rfl) rfl (ms_store_row (k := 0) t59 rfl rfl rfl rfl rfl rfl rfl rfl) (fun _ _ => stg_end [] rfl rfl prs_nil rfl rfl rfl ?_)))
      refine r_seq ?_
      refine r_region ?_
      refine r_p (p_load1 t49 rfl rfl (g_row1R (k := 12) rfl rfl)) rfl ?_
      refine r_p (p_nilCheck rfl) rfl ?_
      refine r_p (p_field0 fo100_2 rfl) rfl ?_
      refine r_p (p_load1 t3 rfl rfl (g_row1 (k := 0) rfl rfl)) rfl ?_
      refine r_p (p_bin rfl rfl (b_add (by first | exact w_i64 (by omega) (by omega) | rfl))) rfl ?_
      refine r_p (p_bin rfl rfl (b_and (and1 _))) rfl ?_
      refine r_p (p_assign rfl) rfl ?_
      refine r_nil ?_
      refine r_seq ?_
      refine r_region ?_
      refine r_p (p_move rfl) rfl ?_
      refine r_p (p_load1 t49 rfl rfl (g_row1R (k := 12) rfl rfl)) rfl ?_
      refine r_p (p_nilCheck rfl) rfl ?_
      refine r_p (p_field0 fo100_0 rfl) rfl ?_
      refine r_p (p_load1 t24 rfl rfl (g_row1 (k := 0) rfl rfl)) rfl ?_
      refine r_call (xs := [.tmp 43]) (room_spec D v (some m) off armed left dur (by omega) (by omega)) cb61 [] [(true, 42), (true, 43)] [] [] rfl rfl rfl rfl rfl rfl rfl rfl (fun _ _ => rfl) (fun _ _ _ => rfl) rfl (fun _ _ => ?_)
      refine r_p (p_bin rfl rfl (b_mul (by first | exact w_i64 (by omega) (by omega) | rfl))) rfl ?_
      refine r_p (p_bin rfl rfl (b_add (by first | exact w_i64 (by omega) (by omega) | rfl))) rfl ?_
      refine r_p (p_assign rfl) rfl ?_
      refine r_nil ?_
      refine r_seq ?_
      refine r_region ?_
      refine r_p (p_makeFunc (first := []) (cap := [.tmp 2]) rfl rfl) rfl ?_
      refine r_p (p_assign rfl) rfl ?_
      refine r_nil ?_
      refine r_seq ?_
      refine r_seq ?_
      refine r_region ?_
      refine r_p (p_assign rfl) rfl ?_
      refine r_nil ?_
      refine r_block ?_
      refine r_addR 31 (A := actsA J []) actsA_nil ?_
      refine r_loop (X := Nat × SV × List Ac) (fun z => z.1 ≤ nbk (ofI (eSn x.sn)) ∧ z.2.2.map Ac.plain = (List.range z.1).map fun i : Nat => some ((2 + (n + 1) % 2 * ((((dur.length - 2) / 2) : Nat) : Int)) + (i : Int), blk (ofI (eSn x.sn)) i)) (fun z => [(2, .pointer (some ⟨b2, 0, none⟩)), (3, .pointer (some ⟨b3, 0, none⟩)), (5, .string (ofI (eSn x.sn))), (6, .int .i64 ((n + 1) % 2)), (7, .int .i64 (2 + (n + 1) % 2 * ((((dur.length - 2) / 2) : Nat) : Int))), (8, .func (.func 63) #[] #[.pointer (some ⟨b2, 0, none⟩)]), (9, .int .i64 ((64 * z.1 : Nat) : Int))]) (fun z => [(0, row J 100 (jC D lst n y z.2.1)), (1, ownX 35 (acV D) z.2.1 z.2.2), (42, row D 94 (dC v (some m) off armed left)), (43, own 9 1 eS (sv v) dur)]) (fun z => [(12, row b2 49 [.pointer (some ⟨J, 0, none⟩)]), (0, snA x), (20, snA y), (31, actsA J z.2.2)]) (fun z => nbk (ofI (eSn x.sn)) - z.1) (0, vt, []) ⟨Nat.zero_le _, rfl⟩ rfl rfl rfl (fun z hz0 => ?_)
      obtain ⟨i, vi, ai⟩ := z
      obtain ⟨hi0, hia⟩ := hz0
      dsimp only at hi0 hia ⊢
      have hal : ai.length = i := by have := congrArg List.length hia; simpa using this
      unfold nbk at hi0
      refine r_seq ?_
      refine r_seq ?_
      refine r_region ?_
      refine r_p (p_move rfl) rfl ?_
      refine r_p (p_move rfl) rfl ?_
      refine r_p (p_len_str Try.underlying9 rfl) rfl ?_
      refine r_p (p_bin rfl rfl b_lt) rfl ?_
      refine r_nil ?_
      refine r_cond rfl (fun h4 => ?_) (fun h4 => ?_)
      · (try simp only [decide_eq_true_eq, decide_eq_false_iff_not, Bool.and_eq_true, Bool.or_eq_true, Bool.and_eq_false_iff, Bool.or_eq_false_iff, Bool.not_eq_true, Bool.not_eq_false, Bool.not_eq_true', Bool.not_eq_false', Bool.not_not, bne_iff_ne, beq_iff_eq] at h4)
        have hk : 64 * i < (ofI (eSn x.sn)).size := by omega
        refine r_skip ?_
        refine r_seq ?_
        refine r_block ?_
        refine r_seq ?_
        refine r_region ?_
        refine r_p (p_move rfl) rfl ?_
        refine r_p (p_move rfl) rfl ?_
        refine r_p (p_move rfl) rfl ?_
        refine r_p (p_len_str Try.underlying9 rfl) rfl ?_
        refine r_p (p_move rfl) rfl ?_
        refine r_p (p_bin rfl rfl (b_add (by first | exact w_i64 (by omega) (by omega) | rfl))) rfl ?_
        refine r_p (p_min rfl rfl rfl) rfl ?_
        refine r_p (p_prt (k := .i64) (k' := .i64) Try.underlying9 rfl rfl rfl hk) rfl ?_
        have hps := prt_size (ofI (eSn x.sn)) i
        refine r_p (p_assign rfl) rfl ?_
        refine r_nil ?_
        refine r_draw [62, 63, 64, 65, 66, 67, 68, 69, 70, 71, 72, 73, 74, 75, 76, 77, 78, 79, 80, 81, 82, 83] _ rfl (stg_mem (V := [(0, 62, _), (1, 63, _), (2, 64, _), (3, 65, _), (4, 66, _), (5, 67, _), (6, 68, _), (7, 69, _), (8, 70, _), (9, 71, _), (10, 72, _), (11, 73, _), (12, 74, _), (13, 75, _)]) [0, 1, 2, 3, 4, 5, 6, 7, 8, 9, 10, 11, 12, 13] 14 [14, 13, 12, 11] [15, 16] (fun v76 => [(15, 77, _), (16, 78, _)]) rfl rfl (prs_cons (pri rfl (p_load1 t49 rfl rfl (g_row1R (k := 12) rfl rfl))) (prs_cons (pri rfl (p_load1 t49 rfl rfl (g_row1R (k := 12) rfl rfl))) (prs_cons (pri rfl (p_nilCheck rfl)) (prs_cons (pri rfl (p_field0 fo100_4 rfl)) (prs_cons (pri rfl (p_load1 t98 rfl rfl (g_row1 (k := 0) rfl rfl))) (prs_cons (pri rfl (p_move rfl)) (prs_cons (pri rfl (p_move rfl)) (prs_cons (pri rfl (p_move rfl)) (prs_cons (pri rfl (p_bin rfl rfl (b_quo (c := (i : Int)) (by decide) (by rw [Int.tdiv_eq_ediv_of_nonneg (by omega), show ((64 * i : Nat) : Int) / 64 = (i : Int) by omega]; exact w_i64 (by omega) (by omega))))) (prs_cons (pri rfl (p_bin rfl rfl (b_add (by first | exact w_i64 (by omega) (by omega) | rfl)))) (prs_cons (pri rfl (p_move rfl)) (prs_cons (pri rfl (p_move rfl)) (prs_cons (pri rfl (p_len_str Try.underlying9 rfl)) (prs_cons (pri rfl (p_bin rfl rfl (b_sub (by first | exact w_i64 (by omega) (by omega) | rfl)))) prs_nil)))))))))))))) rfl rfl rfl rfl rfl rfl rfl rfl rfl rfl rfl (fun _ _ => rfl) rfl (ms_makeN eU8 (0 : Int) Try.underlying95 t5 rfl rfl rfl rfl (c := (64 - (prt (ofI (eSn x.sn)) i).size)) (by omega) (by omega) (by omega) (by simp only [maxLen]; omega)) (fun v76 _ => stg_mem [15, 16, 0, 1, 2, 3, 4, 5, 6, 7, 8, 9, 10] 17 [17, 16, 15, 14, 13, 12, 11, 10, 9, 8, 7, 6, 5] [] (fun cc => []) rfl rfl (prs_cons (pri rfl (p_b2sE Try.underlying95 Try.underlying5 Try.underlying9 rfl (SlS.of (hs_own (k := 76) rfl)))) (prs_cons (pri rfl (p_bin rfl rfl (b_sadd (by rw [ofI_size, List.length_replicate]; omega)))) (prs_cons (pri rfl (p_load1 t49 rfl rfl (g_row1R (k := 12) rfl rfl))) (prs_cons (pri rfl (p_load1 t49 rfl rfl (g_row1R (k := 12) rfl rfl))) (prs_cons (pri rfl (p_nilCheck rfl)) (prs_cons (pri rfl (p_field0 fo100_4 rfl)) (prs_cons (pri rfl (p_load1 t98 rfl rfl (g_row1 (k := 0) rfl rfl))) (prs_cons (pri rfl (p_move rfl)) (prs_cons (pri rfl (p_move rfl)) (prs_cons (pri rfl (p_move rfl)) (prs_cons (pri rfl (p_bin rfl rfl (b_quo (c := (i : Int)) (by decide) (by rw [Int.tdiv_eq_ediv_of_nonneg (by omega), show ((64 * i : Nat) : Int) / 64 = (i : Int) by omega]; exact w_i64 (by omega) (by omega))))) (prs_cons (pri rfl (p_bin rfl rfl (b_add (by first | exact w_i64 (by omega) (by omega) | rfl)))) (prs_cons (pri rfl (p_move rfl)) prs_nil))))))))))))) rfl rfl rfl rfl rfl rfl rfl rfl rfl rfl rfl (fun _ _ => rfl) rfl (ms_call (xs := [.tmp 71, .tmp 78]) (mkwrite_spec J b2 ((2 + (n + 1) % 2 * ((((dur.length - 2) / 2) : Nat) : Int)) + (i : Int)) (blk (ofI (eSn x.sn)) i)) cb63 [] [(false, 12)] [] [30] rfl rfl rfl rfl rfl rfl rfl rfl (fun _ _ => rfl) (fun _ _ _ => rfl)) (fun cc _ => stg_mem [0, 1, 2, 3, 4] 18 [18, 17, 16, 15, 14, 13, 12, 11, 10, 9, 8, 7, 6, 5] [] (fun v80 => []) rfl rfl (prs_cons (pri rfl (p_load1 t49 rfl rfl (g_row1R (k := 12) rfl rfl))) (prs_cons (pri rfl (p_load1 t49 rfl rfl (g_row1R (k := 12) rfl rfl))) (prs_cons (pri rfl (p_nilCheck rfl)) (prs_cons (pri rfl (p_field0 fo100_4 rfl)) (prs_cons (pri rfl (p_load1 t98 rfl rfl (g_row1 (k := 0) rfl rfl))) prs_nil))))) rfl rfl rfl rfl rfl rfl rfl rfl rfl rfl rfl (fun _ _ => rfl) rfl (ms_bslice1 (fun a => [acV D a]) (.wr b2 cc.1 cc.2 ((2 + (n + 1) % 2 * ((((dur.length - 2) / 2) : Nat) : Int)) + (i : Int)) (blk (ofI (eSn x.sn)) i)) Try.underlying98 t35 rfl (by decide) (by decide) rfl rfl rfl) (fun v80 _ => stg_mem [0, 1, 2, 3, 4] 19 [19, 18, 17, 16, 15, 14, 13, 12, 11, 10, 9, 8, 7, 6, 5, 4, 3, 2, 1] [20, 21] (fun v81 => [(20, 82, _), (21, 83, _)]) rfl rfl (prs_cons (pri rfl (p_load1 t49 rfl rfl (g_row1R (k := 12) rfl rfl))) (prs_cons (pri rfl (p_load1 t49 rfl rfl (g_row1R (k := 12) rfl rfl))) (prs_cons (pri rfl (p_nilCheck rfl)) (prs_cons (pri rfl (p_field0 fo100_4 rfl)) (prs_cons (pri rfl (p_load1 t98 rfl rfl (g_row1 (k := 0) rfl rfl))) prs_nil))))) rfl rfl rfl rfl rfl rfl rfl rfl rfl rfl rfl (fun _ _ => rfl) rfl (ms_appendX 1 Try.underlying98 t35 rfl (fun _ => (acV_one _ _)) rfl rfl rfl (hs_own (k := 80) rfl) (by simp only [List.length_cons, List.length_nil]; omega) (by unfold maxLen; simp only [List.length_cons, List.length_nil]; omega)) (fun v81 _ => stg_mem0 [20, 21, 0] 22 [22, 21, 20, 19, 18, 17, 16, 15, 14, 13, 12, 11, 10, 9, 8, 7, 6, 5, 4, 3, 2, 1, 0] [] (fun _ => []) rfl rfl (prs_cons (pri rfl (p_nilCheck rfl)) (prs_cons (pri rfl (p_field0 fo100_4 rfl)) (prs_cons (pri rfl (p_load1 t49 rfl rfl (g_row1R (k := 12) rfl rfl))) prs_nil))) rfl rfl rfl rfl rfl rfl rfl rfl rfl (fun _ _ => rfl) rfl (ms_store_row (k := 0) t98 rfl rfl rfl rfl rfl rfl rfl rfl) (fun _ _ => stg_end [] rfl rfl prs_nil rfl rfl rfl ?_))))))
        refine r_joinR 31 30 31 rfl rfl actsA_app ?_
        refine r_region ?_
        refine r_p (p_move rfl) rfl ?_
        refine r_p (p_bin rfl rfl (b_add (by first | exact w_i64 (by omega) (by omega) | rfl))) rfl ?_
        refine r_p (p_assign rfl) rfl ?_
        refine r_nil ?_
        refine r_here (i + 1, v81, ai ++ [.wr b2 cc.1 cc.2 ((2 + (n + 1) % 2 * ((((dur.length - 2) / 2) : Nat) : Int)) + (i : Int)) (blk (ofI (eSn x.sn)) i)]) ⟨⟨by show i + 1 ≤ nbk _; unfold nbk; omega, by show (ai ++ _).map Ac.plain = _; rw [List.map_append, hia, map_snoc]; rfl⟩, by show nbk _ - (i + 1) < nbk _ - i; unfold nbk; omega⟩ rfl rfl rfl
      · (try simp only [decide_eq_true_eq, decide_eq_false_iff_not, Bool.and_eq_true, Bool.or_eq_true, Bool.and_eq_false_iff, Bool.or_eq_false_iff, Bool.not_eq_true, Bool.not_eq_false, Bool.not_eq_true', Bool.not_eq_false', Bool.not_not, bne_iff_ne, beq_iff_eq] at h4)
        have hk : i = nbk (ofI (eSn x.sn)) := by unfold nbk; omega
        subst hk
        refine r_exit ?_
        refine r_seq ?_
        refine r_draw [84, 85, 86, 87, 88, 89, 90, 91, 92, 93, 94, 95, 96, 97, 98, 99, 100, 101, 102, 103, 104, 105, 106, 107, 108, 109, 110, 111, 112] _ rfl (stg_mem (V := [(0, 84, _), (1, 85, _), (2, 86, _), (3, 87, _), (4, 88, _), (5, 89, _), (6, 90, _), (7, 91, _), (8, 92, _), (9, 93, _), (10, 94, _), (11, 95, _), (12, 96, _), (13, 97, _), (14, 98, _), (15, 99, _), (16, 100, _), (17, 101, _), (20, 104, _), (21, 105, _), (22, 106, _), (23, 107, _), (24, 108, _)]) [0, 1, 2, 3, 4, 5, 6, 7, 8, 9, 10, 11, 12, 13, 14, 15, 16, 17, 20, 21, 22, 23, 24] 18 [18, 17, 16, 15, 14, 13, 12] [] (fun _ => []) rfl rfl (prs_cons (pri rfl (p_load1 t49 rfl rfl (g_row1R (k := 12) rfl rfl))) (prs_cons (pri rfl (p_load1 t49 rfl rfl (g_row1R (k := 12) rfl rfl))) (prs_cons (pri rfl (p_nilCheck rfl)) (prs_cons (pri rfl (p_field0 fo100_4 rfl)) (prs_cons (pri rfl (p_load1 t98 rfl rfl (g_row1 (k := 0) rfl rfl))) (prs_cons (pri rfl (p_load1 t49 rfl rfl (g_row1R (k := 12) rfl rfl))) (prs_cons (pri rfl (p_nilCheck rfl)) (prs_cons (pri rfl (p_field0 fo100_0 rfl)) (prs_cons (pri rfl (p_load1 t24 rfl rfl (g_row1 (k := 0) rfl rfl))) (prs_cons (pri rfl (p_makeFunc (first := [.tmp 92]) (cap := []) rfl rfl)) (prs_cons (pri rfl (p_move rfl)) (prs_cons (pri rfl (p_move rfl)) (prs_cons (pri rfl (p_load1 t49 rfl rfl (g_row1R (k := 12) rfl rfl))) (prs_cons (pri rfl (p_nilCheck rfl)) (prs_cons (pri rfl (p_field0 fo100_2 rfl)) (prs_cons (pri rfl (p_load1 t3 rfl rfl (g_row1 (k := 0) rfl rfl))) (prs_cons (pri rfl (p_bin rfl rfl (b_add (by first | exact w_i64 (by omega) (by omega) | rfl)))) (prs_cons (pri rfl (p_move rfl)) (prs_cons (pri rfl (p_load1 t49 rfl rfl (g_row1R (k := 12) rfl rfl))) (prs_cons (pri rfl (p_nilCheck rfl)) (prs_cons (pri rfl (p_field0 fo100_0 rfl)) (prs_cons (pri rfl (p_load1 t24 rfl rfl (g_row1 (k := 0) rfl rfl))) (prs_cons (pri rfl (p_makeFunc (first := [.tmp 107]) (cap := []) rfl rfl)) prs_nil))))))))))))))))))))))) rfl rfl rfl rfl rfl rfl rfl rfl rfl rfl rfl (fun _ _ => rfl) rfl (ms_call (xs := [.tmp 100, .tmp 101]) (header_spec (n + 1) (ofI (eSn x.sn)) (by omega)) cb65 [] [] [] [] rfl rfl rfl rfl rfl rfl rfl rfl (fun _ _ => rfl) (fun _ _ _ => rfl)) (fun _ _ => stg_mem [0, 1, 2, 3, 4, 5, 6, 7, 8, 9, 10, 11, 20, 21, 22, 23, 24] 19 [19, 18, 17, 16, 15, 14, 13, 12, 11, 10] [] (fun cd => []) rfl rfl (prs_cons (pri rfl (p_load1 t49 rfl rfl (g_row1R (k := 12) rfl rfl))) (prs_cons (pri rfl (p_load1 t49 rfl rfl (g_row1R (k := 12) rfl rfl))) (prs_cons (pri rfl (p_nilCheck rfl)) (prs_cons (pri rfl (p_field0 fo100_4 rfl)) (prs_cons (pri rfl (p_load1 t98 rfl rfl (g_row1 (k := 0) rfl rfl))) (prs_cons (pri rfl (p_load1 t49 rfl rfl (g_row1R (k := 12) rfl rfl))) (prs_cons (pri rfl (p_nilCheck rfl)) (prs_cons (pri rfl (p_field0 fo100_0 rfl)) (prs_cons (pri rfl (p_load1 t24 rfl rfl (g_row1 (k := 0) rfl rfl))) (prs_cons (pri rfl (p_makeFunc (first := [.tmp 92]) (cap := []) rfl rfl)) (prs_cons (pri rfl (p_move rfl)) (prs_cons (pri rfl (p_move rfl)) (prs_cons (pri rfl (p_load1 t49 rfl rfl (g_row1R (k := 12) rfl rfl))) (prs_cons (pri rfl (p_nilCheck rfl)) (prs_cons (pri rfl (p_field0 fo100_0 rfl)) (prs_cons (pri rfl (p_load1 t24 rfl rfl (g_row1 (k := 0) rfl rfl))) (prs_cons (pri rfl (p_makeFunc (first := [.tmp 107]) (cap := []) rfl rfl)) prs_nil))))))))))))))))) rfl rfl rfl rfl rfl rfl rfl rfl rfl rfl rfl (fun _ _ => rfl) rfl (ms_call (xs := [.tmp 95, .tmp 102]) (mkwrite_spec J b2 ((n + 1) % 2) (hdrS (n + 1) (ofI (eSn x.sn)))) cb63 [] [(false, 12)] [] [32] rfl rfl rfl rfl rfl rfl rfl rfl (fun _ _ => rfl) (fun _ _ _ => rfl)) (fun cd _ => stg_mem [0, 1, 2, 3, 4, 5, 6, 7, 8, 9, 20, 21, 22, 23, 24] 25 [25, 24, 23, 22, 21, 20, 19, 18, 17, 16, 15, 14, 13, 12, 11, 10, 9, 8, 7, 6, 5] [] (fun v109 => []) rfl rfl (prs_cons (pri rfl (p_load1 t49 rfl rfl (g_row1R (k := 12) rfl rfl))) (prs_cons (pri rfl (p_load1 t49 rfl rfl (g_row1R (k := 12) rfl rfl))) (prs_cons (pri rfl (p_nilCheck rfl)) (prs_cons (pri rfl (p_field0 fo100_4 rfl)) (prs_cons (pri rfl (p_load1 t98 rfl rfl (g_row1 (k := 0) rfl rfl))) (prs_cons (pri rfl (p_load1 t49 rfl rfl (g_row1R (k := 12) rfl rfl))) (prs_cons (pri rfl (p_nilCheck rfl)) (prs_cons (pri rfl (p_field0 fo100_0 rfl)) (prs_cons (pri rfl (p_load1 t24 rfl rfl (g_row1 (k := 0) rfl rfl))) (prs_cons (pri rfl (p_makeFunc (first := [.tmp 92]) (cap := []) rfl rfl)) (prs_cons (pri rfl (p_load1 t49 rfl rfl (g_row1R (k := 12) rfl rfl))) (prs_cons (pri rfl (p_nilCheck rfl)) (prs_cons (pri rfl (p_field0 fo100_0 rfl)) (prs_cons (pri rfl (p_load1 t24 rfl rfl (g_row1 (k := 0) rfl rfl))) (prs_cons (pri rfl (p_makeFunc (first := [.tmp 107]) (cap := []) rfl rfl)) prs_nil))))))))))))))) rfl rfl rfl rfl rfl rfl rfl rfl rfl rfl rfl (fun _ _ => rfl) rfl (ms_bslice (fun a => [acV D a]) [Ac.sync, .wr b2 cd.1 cd.2 ((n + 1) % 2) (hdrS (n + 1) (ofI (eSn x.sn))), Ac.sync] (parts := [(0, .tmp 93), (1, .tmp 103), (2, .tmp 108)]) Try.underlying98 t35 rfl (by decide) (by intro _; rfl) rfl (by decide) (by decide) rfl rfl rfl) (fun v109 _ => stg_mem [0, 1, 2, 3, 4] 26 [26, 25, 24, 23, 22, 21, 20, 19, 18, 17, 16, 15, 14, 13, 12, 11, 10, 9, 8, 7, 6, 5, 4, 3, 2, 1] [27, 28] (fun v110 => [(27, 111, _), (28, 112, _)]) rfl rfl (prs_cons (pri rfl (p_load1 t49 rfl rfl (g_row1R (k := 12) rfl rfl))) (prs_cons (pri rfl (p_load1 t49 rfl rfl (g_row1R (k := 12) rfl rfl))) (prs_cons (pri rfl (p_nilCheck rfl)) (prs_cons (pri rfl (p_field0 fo100_4 rfl)) (prs_cons (pri rfl (p_load1 t98 rfl rfl (g_row1 (k := 0) rfl rfl))) prs_nil))))) rfl rfl rfl rfl rfl rfl rfl rfl rfl rfl rfl (fun _ _ => rfl) rfl (ms_appendX 1 Try.underlying98 t35 rfl (fun _ => (acV_one _ _)) rfl rfl rfl (hs_own (k := 109) rfl) (by simp only [List.length_cons, List.length_nil]; omega) (by unfold maxLen; simp only [List.length_cons, List.length_nil]; omega)) (fun v110 _ => stg_mem0 [27, 28, 0] 29 [29, 28, 27, 26, 25, 24, 23, 22, 21, 20, 19, 18, 17, 16, 15, 14, 13, 12, 11, 10, 9, 8, 7, 6, 5, 4, 3, 2, 1, 0] [] (fun _ => []) rfl rfl (prs_cons (pri rfl (p_nilCheck rfl)) (prs_cons (pri rfl (p_field0 fo100_4 rfl)) (prs_cons (pri rfl (p_load1 t49 rfl rfl (g_row1R (k := 12) rfl rfl))) prs_nil))) rfl rfl rfl rfl rfl rfl rfl rfl rfl (fun _ _ => rfl) rfl (ms_store_row (k := 0) t98 rfl rfl rfl rfl rfl rfl rfl rfl) (fun _ _ => stg_end [] rfl rfl prs_nil rfl rfl rfl ?_))))))
        refine r_more 32 33 rfl acts_sws ?_
        refine r_joinR 31 33 31 rfl rfl actsA_app ?_
        refine r_seq ?_
        refine r_region ?_
        refine r_p (p_assign rfl) rfl ?_
        refine r_nil ?_
        refine r_cret ?_
        refine r_ret (y, v110, ai ++ [Ac.sync, .wr b2 cd.1 cd.2 ((n + 1) % 2) (hdrS (n + 1) (ofI (eSn x.sn))), Ac.sync]) ⟨hy, by show (ai ++ _).map Ac.plain = _; rw [List.map_append, hia]; rfl⟩ rfl (rs1 (rv_tmp rfl)) rfl [0, 1, 42, 43] [20, 31] rfl rfl rfl

end Go.Proofs.Ytohenjmkhncoiaa
