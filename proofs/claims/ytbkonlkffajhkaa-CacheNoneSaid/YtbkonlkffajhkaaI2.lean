/-
  A call of both caches. Condition: both hold the same, in order.
-/
import Derived.Test.YtbkonlkffajhkaaI1
namespace Go.Proofs.Ytbkonlkffajhkaa
set_option linter.unusedSimpArgs false
set_option linter.unusedVariables false
open Go.RowKit

theorem Spec.snoc {P : Program} {n : Nat} {vs : List Value} {L R0 : List Asn} {X : Type} {φ : X → Prop} {v : X → Value} {L' R' : X → List Asn} (A : Asn) (hA : ∀ w, A.pred w fun _ => False) (h : Spec P n vs L R0 φ v L' R') : Spec P n vs L R0 φ v (fun x => L' x ++ [A]) R' := fun w M H hL => (h w M H hL).mono (by
  rintro e w' ⟨x, h1, h2, F, hF⟩
  refine ⟨x, h1, h2, fun k b => k < (L' x).length ∧ F k b, hF.touch, ?_, fun k b hb => hF.lt k b hb.2, fun k b hb => hF.mine k b hb.2, fun j k b hj hk => hF.apart j k b hj.2 hk.2, ?_⟩
  · intro k B hk
    by_cases hlt : k < (L' x).length
    · rw [List.getElem?_append_left hlt] at hk
      have : (fun b => k < (L' x).length ∧ F k b) = F k := by funext b; simp [hlt]
      show B.pred w' _
      rw [this]
      exact hF.has k B hk
    · rw [List.getElem?_append_right (by omega)] at hk
      have hk0 : k - (L' x).length = 0 := by
        have := (List.getElem?_eq_some_iff.1 hk).1
        simp at this
        omega
      rw [hk0] at hk
      simp at hk
      subst hk
      have : (fun b => k < (L' x).length ∧ F k b) = fun _ => False := by funext b; simp [hlt]
      show A.pred w' _
      rw [this]
      exact hA w'
  · intro k B hk
    obtain ⟨G, g1, g2⟩ := hF.ro k B hk
    exact ⟨G, g1, fun b hb => ⟨(g2 b hb).1, fun j hj => (g2 b hb).2.1 j hj.2, (g2 b hb).2.2⟩⟩)
theorem own_nil {α : Type} {T : TypeId} {s : Nat} {enc : α → List Value} (w : World) : (own T s enc (sv nilS) ([] : List α)).pred w fun _ => False :=
  ⟨fun x => by simp [sv, nilS, Value.ownBlock], by simp, .inl ⟨rfl, rfl⟩⟩
theorem Spec.conv {P : Program} {n : Nat} {vs : List Value} {L R0 : List Asn} {X Y : Type} {φ : X → Prop} {v : X → Value} {L' R' : X → List Asn} {ψ : Y → Prop} {u : Y → Value} {K' S' : Y → List Asn} (h : Spec P n vs L R0 φ v L' R')
    (hy : ∀ x, φ x → ∃ y, ψ y ∧ v x = u y ∧ (∀ (i : Nat) A, (K' y)[i]? = some A → ∃ B, (L' x)[i]? = some B ∧ ∀ w G, B.pred w G → A.pred w G) ∧ R' x = S' y) : Spec P n vs L R0 ψ u K' S' := fun w M H hL => (h w M H hL).mono (by
  rintro e w' ⟨x, h1, h2, F, hF⟩
  obtain ⟨y, g1, g2, g3, g4⟩ := hy x h1
  exact ⟨y, g1, by rw [h2, g2], F, hF.touch, fun k A hk => by
    obtain ⟨B, hB, hBA⟩ := g3 k A hk
    exact hBA w' _ (hF.has k B hB), hF.lt, hF.mine, hF.apart, fun k A hk => hF.ro k A (by rw [g4]; exact hk)⟩)
theorem add_spec {PS : List Int} (C : Nat) (base size cur : Int) (ob ol : Option Nat) {L : List En} {K : List Lk} (h : CInv PS base size cur L K) (hp : PS.length ≤ 12) (e : En) (hes : e.bytes.size ≤ 1000000) :
    Spec Try.prog 19 [.pointer (some ⟨C, 0, none⟩), veEnt e] [row C 84 (cC base size cur ob ol), mpB ob L, mpL ol K] [] (X := SV × SV × Option Nat) (fun _ => True) (fun x => .tuple #[.int .u32 (addF base size cur L K e).b, sv x.1, sv x.2.1, .int .i64 (addF base size cur L K e).err])
      (fun x => [row C 84 (cC base size (addF base size cur L K e).cur x.2.2 ol), mpB x.2.2 (addF base size cur L K e).L, mpL ol (addF base size cur L K e).K, own 54 36 eEnt (sv x.1) (addF base size cur L K e).rem, own 64 3 eL (sv x.2.1) (addF base size cur L K e).cut]) (fun _ => []) := by
  by_cases h0 : e.bytes.size = 0
  · have he : addF base size cur L K e = ⟨cur, L, K, 0, [], [], 1⟩ := by unfold addF; rw [if_pos h0]
    rw [he]
    exact (((add_empty C base size cur ob ol L K e h0).snoc (own 54 36 eEnt (sv nilS) []) own_nil).snoc (own 64 3 eL (sv nilS) []) own_nil).mono fun x _ => ⟨(nilS, nilS, ob), trivial, rfl, rfl, rfl⟩
  · by_cases h1 : size < e.bytes.size
    · have he : addF base size cur L K e = ⟨cur, L, K, 0, [], [], 30⟩ := by unfold addF; rw [if_neg h0, if_pos h1]
      rw [he]
      exact (((add_full C base size cur ob ol L K e (by omega) h1).snoc (own 54 36 eEnt (sv nilS) []) own_nil).snoc (own 64 3 eL (sv nilS) []) own_nil).mono fun x _ => ⟨(nilS, nilS, ob), trivial, rfl, rfl, rfl⟩
    · have hl := h.hlen hp
      have hsz := h.sz
      refine (add_ok C base size cur ob ol L K e (by omega) (by omega) ⟨by omega, by omega⟩ h.cu h.sizes h.hL (by omega) h.ordK (h.hlenK hp) h.pcs hes).conv fun x _ => ⟨(x.1, x.2.1, some x.2.2), trivial, ?_, ?_, rfl⟩
      · unfold addF
        rw [if_neg h0, if_neg h1]
      · unfold addF
        rw [if_neg h0, if_neg h1]
        intro i A hi
        match i, hi with
        | 0, hi => exact ⟨_, rfl, by simp at hi; subst hi; exact fun _ _ h => h⟩
        | 1, hi => exact ⟨_, rfl, by simp at hi; subst hi; exact mp_perm (insD_perm _ _ _).symm⟩
        | 2, hi => exact ⟨_, rfl, by simp at hi; subst hi; exact fun _ _ h => h⟩
        | 3, hi => exact ⟨_, rfl, by simp at hi; subst hi; exact fun _ _ h => h⟩
        | 4, hi => exact ⟨_, rfl, by simp at hi; subst hi; exact fun _ _ h => h⟩
        | i + 5, hi => simp at hi
theorem radd_spec {PS : List Int} (r : Nat) (base size cur : Int) (vL vC : SV) {L : List En} {K : List Lk} (h : CInv PS base size cur L K) (hp : PS.length ≤ 12) (e : En) :
    Spec Try.prog 33 [.pointer (some ⟨r, 0, none⟩), veR e] [row r 34 (cR base size cur vL vC), own 36 5 eR (sv vL) L, own 100 3 eL (sv vC) K] [] (X := SV × SV × SV × SV) (fun _ => True) (fun x => addedV (addF base size cur L K e).b x.1 x.2.1 (addF base size cur L K e).err)
      (fun x => [row r 34 (cR base size (addF base size cur L K e).cur x.2.2.1 x.2.2.2), own 36 5 eR (sv x.2.2.1) (addF base size cur L K e).L, own 100 3 eL (sv x.2.2.2) (addF base size cur L K e).K, own 36 5 eR (sv x.1) (addF base size cur L K e).rem, own 100 3 eL (sv x.2.1) (addF base size cur L K e).cut]) (fun _ => []) := by
  by_cases h0 : e.bytes.size = 0
  · have he : addF base size cur L K e = ⟨cur, L, K, 0, [], [], 1⟩ := by unfold addF; rw [if_pos h0]
    rw [he]
    exact (((radd_empty r base size cur vL vC L K e h0).snoc (own 36 5 eR (sv nilS) []) own_nil).snoc (own 100 3 eL (sv nilS) []) own_nil).mono fun x _ => ⟨(nilS, nilS, vL, vC), trivial, rfl, rfl, rfl⟩
  · by_cases h1 : size < e.bytes.size
    · have he : addF base size cur L K e = ⟨cur, L, K, 0, [], [], 30⟩ := by unfold addF; rw [if_neg h0, if_pos h1]
      rw [he]
      exact (((radd_full r base size cur vL vC L K e (by omega) h1).snoc (own 36 5 eR (sv nilS) []) own_nil).snoc (own 100 3 eL (sv nilS) []) own_nil).mono fun x _ => ⟨(nilS, nilS, vL, vC), trivial, rfl, rfl, rfl⟩
    · have hl := h.hlen hp
      have hsz := h.sz
      refine (radd_ok r base size cur vL vC L K e (by omega) (by omega) ⟨by omega, by omega⟩ h.cu h.sizes (fun x hx => by have := h.ent x hx; exact ⟨by omega, by omega⟩) (by omega) (h.hlenK hp)).mono fun x _ => ⟨x, trivial, ?_, ?_, rfl⟩
      · unfold addF
        rw [if_neg h0, if_neg h1]
      · unfold addF
        rw [if_neg h0, if_neg h1]
theorem remove_specG {PS : List Int} (C : Nat) (base size cur : Int) (ob ol : Option Nat) {L : List En} {K : List Lk} (h : CInv PS base size cur L K) (hp : PS.length ≤ 12) (pc : Int) :
    Spec Try.prog 35 [.pointer (some ⟨C, 0, none⟩), .int .u32 pc] [row C 84 (cC base size cur ob ol), mpB ob L, mpL ol K] [] (X := SV) (fun _ => True) (fun x => sv x) (fun x => [row C 84 (cC base size cur ob ol), mpB ob (L.filter (keepE [pc])), mpL ol (K.filter (keepK [pc])), own 64 3 eL (sv x) (K.filter (cutK [pc]))]) (fun _ => []) := by
  have h1 := remove_spec C base size cur ob ol L K pc h.ordK (h.hlenK hp)
  obtain ⟨e1, e2, e3⟩ := goneF_eq h pc
  rw [e1, e2, e3] at h1
  exact h1
def PS12 : List Int := (List.range 12).map fun (i : Nat) => 4 * (i : Int)
theorem ps12_len : PS12.length ≤ 12 := by simp [PS12]
theorem ps12_mem (n : Int) : 4 * (n % 12) ∈ PS12 := by
  refine List.mem_map.2 ⟨(n % 12).toNat, by simp; omega, ?_⟩
  have := Int.emod_nonneg n (show (12 : Int) ≠ 0 by omega)
  omega
/-- The state of a cache and of its model. -/
structure St where
  cur : Int
  L : List En
  K : List Lk
  ob : Option Nat
  ol : Option Nat
  vL : SV
  vC : SV
  S : List En

theorem add_mem {base size cur : Int} {L S : List En} {K : List Lk} {e : En} (hS : ∀ x ∈ L, x ∈ S) : ∀ x ∈ (addF base size cur L K e).L, x ∈ putE base (curN size cur e.bytes.size) e :: S := by
  intro x hx
  unfold addF at hx
  split at hx
  · exact List.mem_cons_of_mem _ (hS x hx)
  · split at hx
    · exact List.mem_cons_of_mem _ (hS x hx)
    · rcases List.mem_cons.1 ((insD_perm _ _ _).mem_iff.1 hx) with rfl | hx
      · exact List.mem_cons_self ..
      · exact List.mem_cons_of_mem _ (hS x (List.mem_filter.1 hx).1)
theorem rem_ok {PS : List Int} {base size cur : Int} {L S : List En} {K : List Lk} (h : CInv PS base size cur L K) (hS : ∀ x ∈ L, x ∈ S) (e : En) {y : En} : ∀ x ∈ (addF base size cur L K e).rem, SameOk x ∧ x ∈ y :: S := by
  intro x hx
  unfold addF at hx
  split at hx
  · simp at hx
  · split at hx
    · simp at hx
    · have := (List.mem_filter.1 hx).1
      exact ⟨(h.ent x this).2.2.2.1, List.mem_cons_of_mem _ (hS x this)⟩
theorem rem_len (base size cur : Int) (L : List En) (K : List Lk) (e : En) : (addF base size cur L K e).rem.length ≤ L.length := by
  unfold addF
  split
  · simp
  · split
    · simp
    · exact List.length_filter_le _ _
theorem cut_len (base size cur : Int) (L : List En) (K : List Lk) (e : En) : (addF base size cur L K e).cut.length ≤ K.length := by
  unfold addF
  split
  · simp
  · split
    · simp
    · exact List.length_filter_le _ _
set_option maxHeartbeats 4000000 in
set_option maxRecDepth 100000 in
theorem does_spec (C r : Nat) (base size cur : Int) (L S : List En) (K : List Lk) (ob ol : Option Nat) (vL vC : SV) (q : Nat → Int) (most : Int) (hm : 0 ≤ most ∧ most ≤ 100) (h : CInv PS12 base size cur L K) (hS : ∀ e ∈ L, e ∈ S) :
    Spec Try.prog 41 [.pointer (some ⟨C, 0, none⟩), .pointer (some ⟨r, 0, none⟩), vq q, .int .i64 most] [row C 84 (cC base size cur ob ol), mpB ob L, mpL ol K, row r 34 (cR base size cur vL vC), own 36 5 eR (sv vL) L, own 100 3 eL (sv vC) K] [pgP S] (X := St) (fun x => CInv PS12 base size x.cur x.L x.K ∧ (∀ e ∈ x.L, e ∈ x.S) ∧ (∀ e ∈ S, e ∈ x.S)) (fun _ => .bool true) (fun x => [row C 84 (cC base size x.cur x.ob x.ol), mpB x.ob x.L, mpL x.ol x.K, row r 34 (cR base size x.cur x.vL x.vC), own 36 5 eR (sv x.vL) x.L, own 100 3 eL (sv x.vC) x.K]) (fun x => [pgP x.S]) := by
  refine r_enter Try.func41 rfl Try.ntmps41 rfl fun w0 M H => ?_
  have hlen := h.hlen ps12_len
  have hlenK := h.hlenK ps12_len
  have h12 := m12 (q 0)
  refine r_seq ?_
  refine r_region ?_
  refine r_box_arr rfl rfl fun b6 => ?_
  refine r_p (p_assign rfl) rfl ?_
  refine r_nil ?_
  refine r_seq ?_
  refine r_seq ?_
  refine r_region ?_
  refine r_p (p_idx_arr1 (j := 3) Try.underlying38 t3 rfl rfl (by rfl) (by decide)) rfl ?_
  refine r_p (p_load1 t3 rfl rfl (g_arr1 (k := 6) rfl (by omega))) rfl ?_
  refine r_call (xs := [.tmp 20, .const (.int .i64 8)]) (mod_spec (q 3) 8 (by omega) (by omega)) cb17 [] [] [] [] rfl rfl rfl rfl rfl rfl rfl rfl (fun _ _ => rfl) (fun _ _ _ => rfl) rfl (fun _ _ => ?_)
  refine r_nil ?_
  refine r_block ?_
  refine r_seq ?_
  refine r_region ?_
  refine r_p (p_bin rfl rfl b_eq) rfl ?_
  refine r_p (p_assign rfl) rfl ?_
  refine r_nil ?_
  refine r_cond rfl (fun h1 => ?_) (fun h1 => ?_)
  · (try simp only [decide_eq_true_eq, decide_eq_false_iff_not, Bool.and_eq_true, Bool.or_eq_true, Bool.and_eq_false_iff, Bool.or_eq_false_iff, Bool.not_eq_true, Bool.not_eq_false, Bool.not_eq_true', Bool.not_eq_false', Bool.not_not, bne_iff_ne, beq_iff_eq] at h1)
    refine r_seq ?_
    refine r_region ?_
    refine r_p (p_idx_arr1 (j := 0) Try.underlying38 t3 rfl rfl (by rfl) (by decide)) rfl ?_
    refine r_p (p_load1 t3 rfl rfl (g_arr1 (k := 6) rfl (by omega))) rfl ?_
    refine r_call (xs := [.tmp 25, .const (.int .i64 12)]) (mod_spec (q 0) 12 (by omega) (by omega)) cb17 [] [] [] [] rfl rfl rfl rfl rfl rfl rfl rfl (fun _ _ => rfl) (fun _ _ _ => rfl) rfl (fun _ _ => ?_)
    refine r_p (p_bin rfl rfl (b_mul (by first | exact w_i64 (by omega) (by omega) | rfl))) rfl ?_
    refine r_p (p_conv Try.underlying3 Try.underlying30 rfl (by first | exact w_u32 (by omega) (by omega) | rfl)) rfl ?_
    refine r_p (p_assign rfl) rfl ?_
    refine r_nil ?_
    refine r_seq ?_
    refine r_region ?_
    refine r_p (p_move rfl) rfl ?_
    refine r_p (p_move rfl) rfl ?_
    refine r_call (xs := [.tmp 29, .tmp 30]) (remove_specG C base size cur ob ol h ps12_len _) cb35 [0, 1, 2] [] [0, 1, 2, 31] [] rfl rfl rfl rfl rfl rfl rfl rfl (fun _ _ => rfl) (fun _ _ _ => rfl) rfl (fun v31 _ => ?_)
    refine r_p (p_move rfl) rfl ?_
    refine r_p (p_move rfl) rfl ?_
    refine r_call (xs := [.tmp 32, .tmp 33]) (rremove_spec r base size cur vL vC L K _ (by omega) hlenK) cb36 [3, 4, 5] [] [3, 4, 5, 34] [] rfl rfl rfl rfl rfl rfl rfl rfl (fun _ _ => rfl) (fun _ _ _ => rfl) rfl (fun ⟨v34, vl, vk⟩ _ => ?_)
    dsimp only
    refine r_freeze 31 31 rfl own_to_sl ?_
    refine r_freeze 34 34 rfl own_to_sl ?_
    refine r_call (xs := [.tmp 31, .tmp 34]) (chains_spec v31 v34 _ (by have := List.length_filter_le (cutK [4 * (q 0 % 12)]) K; omega)) cb27 [] [(false, 31), (false, 34)] [] [] rfl rfl rfl rfl rfl rfl rfl rfl (fun _ _ => rfl) (fun _ _ _ => rfl) rfl (fun _ _ => ?_)
    refine r_p (p_assign rfl) rfl ?_
    refine r_nil ?_
    refine r_cret ?_
    refine r_ret ⟨cur, (L.filter (keepE [4 * (q 0 % 12)])), (K.filter (keepK [4 * (q 0 % 12)])), ob, ol, vl, vk, S⟩ ⟨h.gone _, fun e he => hS e (List.mem_filter.1 he).1, fun e he => he⟩ rfl (rs1 (rv_tmp rfl)) rfl [0, 1, 2, 3, 4, 5] [0] rfl rfl rfl
  · (try simp only [decide_eq_true_eq, decide_eq_false_iff_not, Bool.and_eq_true, Bool.or_eq_true, Bool.and_eq_false_iff, Bool.or_eq_false_iff, Bool.not_eq_true, Bool.not_eq_false, Bool.not_eq_true', Bool.not_eq_false', Bool.not_not, bne_iff_ne, beq_iff_eq] at h1)
    refine r_seq ?_
    refine r_seq ?_
    refine r_region ?_
    refine r_p (p_bin rfl rfl b_eq) rfl ?_
    refine r_p (p_assign rfl) rfl ?_
    refine r_nil ?_
    refine r_cond rfl (fun h2 => ?_) (fun h2 => ?_)
    · (try simp only [decide_eq_true_eq, decide_eq_false_iff_not, Bool.and_eq_true, Bool.or_eq_true, Bool.and_eq_false_iff, Bool.or_eq_false_iff, Bool.not_eq_true, Bool.not_eq_false, Bool.not_eq_true', Bool.not_eq_false', Bool.not_not, bne_iff_ne, beq_iff_eq] at h2)
      refine r_skip ?_
      refine r_cond rfl (fun h3 => ?_) (fun h3 => ?_)
      · (try simp only [decide_eq_true_eq, decide_eq_false_iff_not, Bool.and_eq_true, Bool.or_eq_true, Bool.and_eq_false_iff, Bool.or_eq_false_iff, Bool.not_eq_true, Bool.not_eq_false, Bool.not_eq_true', Bool.not_eq_false', Bool.not_not, bne_iff_ne, beq_iff_eq] at h3)
        refine r_seq ?_
        refine r_region ?_
        refine r_p (p_loadA t38 rfl rfl (by simp) (g_arr (k := 6) rfl)) rfl ?_
        refine r_call (xs := [.tmp 39]) (chain_spec q) cb58 [] [] [] [] rfl rfl rfl rfl rfl rfl rfl rfl (fun _ _ => rfl) (fun _ _ _ => rfl) rfl (fun _ _ => ?_)
        refine r_alloc t100 rfl rfl fun b10 => ?_
        refine r_store_all (k := 10) t100 rfl rfl rfl rfl rfl rfl ?_
        refine r_nil ?_
        refine r_seq ?_
        refine r_region ?_
        refine r_p (p_move rfl) rfl ?_
        refine r_p (p_field0 fo100_0 rfl) rfl ?_
        refine r_p (p_load1 t30 rfl rfl (g_row1 (k := 10) rfl rfl)) rfl ?_
        refine r_p (p_field0 fo100_1 rfl) rfl ?_
        refine r_p (p_load1 t3 rfl rfl (g_row1 (k := 10) rfl rfl)) rfl ?_
        refine r_p (p_field0 fo100_2 rfl) rfl ?_
        refine r_p (p_load1 t30 rfl rfl (g_row1 (k := 10) rfl rfl)) rfl ?_
        refine r_p (p_build (parts := [(0, .tmp 43), (1, .tmp 45), (2, .tmp 47)]) t64 pl64 rfl rfl) rfl ?_
        refine r_call (xs := [.tmp 41, .tmp 48]) (link_spec C base size cur ob ol L K (chainQ q)) cb40 [0, 1, 2] [] [0, 1, 2] [] rfl rfl rfl rfl rfl rfl rfl rfl (fun _ _ => rfl) (fun _ _ _ => rfl) rfl (fun o _ => ?_)
        refine r_nil ?_
        refine r_seq ?_
        refine r_region ?_
        refine r_p (p_move rfl) rfl ?_
        refine r_p (p_loadA t100 rfl rfl rfl (g_all (k := 10) rfl)) rfl ?_
        refine r_call (xs := [.tmp 50, .tmp 51]) (rlink_spec r base size cur vL vC L K (chainQ q) (by omega) hlenK h.sites) cb59 [3, 4, 5] [] [3, 4, 5] [] rfl rfl rfl rfl rfl rfl rfl rfl (fun _ _ => rfl) (fun _ _ _ => rfl) rfl (fun v5 _ => ?_)
        skip
        refine r_nil ?_
        refine r_seq ?_
        refine r_region ?_
        refine r_p (p_assign rfl) rfl ?_
        refine r_nil ?_
        refine r_cret ?_
        refine r_conva (k := 2) rfl (mp_perm (link_perm L K (chainQ q))) ?_
        refine r_ret ⟨cur, L, (rlinkK L K (chainQ q)), ob, o, vL, v5, S⟩ ⟨h.link _, hS, fun e he => he⟩ rfl (rs1 (rv_tmp rfl)) rfl [0, 1, 2, 3, 4, 5] [0] rfl rfl rfl
      · (try simp only [decide_eq_true_eq, decide_eq_false_iff_not, Bool.and_eq_true, Bool.or_eq_true, Bool.and_eq_false_iff, Bool.or_eq_false_iff, Bool.not_eq_true, Bool.not_eq_false, Bool.not_eq_true', Bool.not_eq_false', Bool.not_not, bne_iff_ne, beq_iff_eq] at h3)
        refine r_skip ?_
        refine r_seq ?_
        refine r_region ?_
        refine r_p (p_loadA t38 rfl rfl (by simp) (g_arr (k := 6) rfl)) rfl ?_
        refine r_p (p_move rfl) rfl ?_
        refine r_call (xs := [.tmp 53, .tmp 54]) (made_spec q most (by omega)) cb18 [] [] [300] [] rfl rfl rfl rfl rfl rfl rfl rfl (fun _ _ => rfl) (fun _ _ _ => rfl) rfl (fun e he => ?_)
        obtain ⟨hepc, heb, hen, hest, hepg⟩ := he
        have h4e := m4 (q 2)
        have hnb : 0 ≤ q 1 % (most + 1) ∧ q 1 % (most + 1) ≤ most := by
          have h1 := Int.emod_nonneg (q 1) (show most + 1 ≠ 0 by omega)
          have h2 := Int.emod_lt_of_pos (q 1) (show 0 < most + 1 by omega)
          omega
        refine r_alloc t36 rfl rfl fun b11 => ?_
        refine r_store_all (k := 11) t36 rfl rfl rfl rfl rfl rfl ?_
        refine r_nil ?_
        refine r_seq ?_
        refine r_region ?_
        refine r_p (p_move rfl) rfl ?_
        refine r_p (p_loadA t36 rfl rfl rfl (g_all (k := 11) rfl)) rfl ?_
        refine r_call (xs := [.tmp 58]) (entry_spec e (by omega)) cb20 [] [] [] [] rfl rfl rfl rfl rfl rfl rfl rfl (fun _ _ => rfl) (fun _ _ _ => rfl) rfl (fun ⟨ea, es⟩ hes => ?_)
        dsimp only at hes ⊢
        refine r_pgadd 300 0 301 (putE base (curN size cur e.bytes.size) (entE e ea es)) rfl rfl rfl rfl rfl ?_
        refine r_call (xs := [.tmp 57, .tmp 59]) (add_spec C base size cur ob ol h ps12_len (entE e ea es) (by simp only [entE]; omega)) cb19 [0, 1, 2] [] [0, 1, 2, 400, 401] [] rfl rfl rfl rfl rfl rfl rfl rfl (fun _ _ => rfl) (fun _ _ _ => rfl) rfl (fun ⟨va, vb, o⟩ _ => ?_)
        dsimp only
        refine r_p (p_move rfl) rfl ?_
        refine r_p (p_extract rfl rfl) rfl ?_
        refine r_p (p_extract rfl rfl) rfl ?_
        refine r_p (p_extract rfl rfl) rfl ?_
        refine r_p (p_extract rfl rfl) rfl ?_
        refine r_p (p_assign rfl) rfl ?_
        refine r_p (p_assign rfl) rfl ?_
        refine r_p (p_assign rfl) rfl ?_
        refine r_p (p_assign rfl) rfl ?_
        refine r_nil ?_
        refine r_seq ?_
        refine r_region ?_
        refine r_p (p_move rfl) rfl ?_
        refine r_p (p_loadA t36 rfl rfl rfl (g_all (k := 11) rfl)) rfl ?_
        refine r_call (xs := [.tmp 65, .tmp 66]) (radd_spec r base size cur vL vC h ps12_len (entE e ea es)) cb33 [3, 4, 5] [] [3, 4, 5, 402, 403] [] rfl rfl rfl rfl rfl rfl rfl rfl (fun _ _ => rfl) (fun _ _ _ => rfl) rfl (fun ⟨wa, wb, wl, wk⟩ _ => ?_)
        dsimp only
        refine r_freeze 400 400 rfl own_to_sl ?_
        refine r_freeze 401 401 rfl own_to_sl ?_
        refine r_freeze 402 402 rfl own_to_sl ?_
        refine r_freeze 403 403 rfl own_to_sl ?_
        have hnew := h.add (e := (entE e ea es)) (by simp only [entE, hepc]; exact ps12_mem _) (by simp only [entE]; omega) (by simp only [entE]; exact hes) rfl (by simp only [entE]; exact hepg) (by simp only [entE]; omega)
        have hrem : ∀ x ∈ (addF base size cur L K (entE e ea es)).rem, SameOk x ∧ x ∈ (putE base (curN size cur e.bytes.size) (entE e ea es)) :: S := rem_ok h hS (entE e ea es)
        have hcl := cut_len base size cur L K (entE e ea es)
        have hrl := rem_len base size cur L K (entE e ea es)
        refine r_alloc t74 rfl rfl fun b16 => ?_
        refine r_store_all (k := 16) t74 rfl rfl rfl rfl rfl rfl ?_
        refine r_nil ?_
        refine r_seq ?_
        refine r_region ?_
        refine r_p (p_move rfl) rfl ?_
        refine r_p (p_field0 fo74_1 rfl) rfl ?_
        refine r_p (p_load1 t31 rfl rfl (g_row1 (k := 16) rfl rfl)) rfl ?_
        refine r_call (xs := [.tmp 68, .tmp 70]) (sames_spec va wa (addF base size cur L K (entE e ea es)).rem ((putE base (curN size cur e.bytes.size) (entE e ea es)) :: S) hrem (by omega)) cb25 [] [(false, 400), (false, 402), (false, 0)] [] [] rfl rfl rfl rfl rfl rfl rfl rfl (fun _ _ => rfl) (fun _ _ _ => rfl) rfl (fun _ _ => ?_)
        refine r_p (p_assign rfl) rfl ?_
        refine r_nil ?_
        refine r_seq ?_
        refine r_region ?_
        refine r_p (p_move rfl) rfl ?_
        refine r_p (p_field0 fo74_2 rfl) rfl ?_
        refine r_p (p_load1 t32 rfl rfl (g_row1 (k := 16) rfl rfl)) rfl ?_
        refine r_call (xs := [.tmp 72, .tmp 74]) (chains_spec vb wb (addF base size cur L K (entE e ea es)).cut (by omega)) cb27 [] [(false, 401), (false, 403)] [] [] rfl rfl rfl rfl rfl rfl rfl rfl (fun _ _ => rfl) (fun _ _ _ => rfl) rfl (fun _ _ => ?_)
        refine r_p (p_assign rfl) rfl ?_
        refine r_nil ?_
        refine r_seq ?_
        refine r_region ?_
        refine r_p (p_move rfl) rfl ?_
        refine r_p (p_field0 fo74_0 rfl) rfl ?_
        refine r_p (p_load1 t30 rfl rfl (g_row1 (k := 16) rfl rfl)) rfl ?_
        refine r_p (p_bin rfl rfl b_eq) rfl ?_
        refine r_p (p_move rfl) rfl ?_
        refine r_gp [] rfl rfl trivial (fun hg4 => p_move rfl) rfl ?_
        refine r_gp [(81, _)] rfl rfl ⟨rfl, trivial⟩ (fun hg5 => p_field0 fo74_3 rfl) rfl ?_
        refine r_gp [(81, _), (82, _)] rfl rfl ⟨rfl, rfl, trivial⟩ (fun hg6 => p_load1 t41 rfl rfl (g_row1 (k := 16) rfl rfl)) rfl ?_
        refine r_gp [(81, _), (82, _), (83, _)] rfl rfl ⟨rfl, rfl, rfl, trivial⟩ (fun hg7 => p_bin rfl rfl b_eq) rfl ?_
        refine r_p (p_pick rfl rfl rfl (by first | exact pick_and | exact pick_or |  rfl)) rfl ?_
        refine r_p (p_move rfl) rfl ?_
        refine r_gp [] rfl rfl trivial (fun hg8 => p_move rfl) rfl ?_
        refine r_p (p_pick rfl rfl rfl (by first | exact pick_and | exact pick_or |  rfl)) rfl ?_
        refine r_p (p_move rfl) rfl ?_
        refine r_gp [] rfl rfl trivial (fun hg9 => p_move rfl) rfl ?_
        refine r_p (p_pick rfl rfl rfl (by first | exact pick_and | exact pick_or |  rfl)) rfl ?_
        refine r_p (p_assign rfl) rfl ?_
        refine r_nil ?_
        refine r_cret ?_
        refine r_ret ⟨(addF base size cur L K (entE e ea es)).cur, (addF base size cur L K (entE e ea es)).L, (addF base size cur L K (entE e ea es)).K, o, ol, wl, wk, ((putE base (curN size cur e.bytes.size) (entE e ea es)) :: S)⟩ ⟨hnew, add_mem hS, fun e he => List.mem_cons_of_mem _ he⟩ rfl (rs1 (rv_tmp rfl)) (congrArg Value.bool (by simp)) [0, 1, 2, 3, 4, 5] [0] rfl rfl rfl
    · (try simp only [decide_eq_true_eq, decide_eq_false_iff_not, Bool.and_eq_true, Bool.or_eq_true, Bool.and_eq_false_iff, Bool.or_eq_false_iff, Bool.not_eq_true, Bool.not_eq_false, Bool.not_eq_true', Bool.not_eq_false', Bool.not_not, bne_iff_ne, beq_iff_eq] at h2)
      refine r_region ?_
      refine r_p (p_bin rfl rfl b_eq) rfl ?_
      refine r_p (p_assign rfl) rfl ?_
      refine r_nil ?_
      refine r_cond rfl (fun h10 => ?_) (fun h10 => ?_)
      · (try simp only [decide_eq_true_eq, decide_eq_false_iff_not, Bool.and_eq_true, Bool.or_eq_true, Bool.and_eq_false_iff, Bool.or_eq_false_iff, Bool.not_eq_true, Bool.not_eq_false, Bool.not_eq_true', Bool.not_eq_false', Bool.not_not, bne_iff_ne, beq_iff_eq] at h10)
        refine r_seq ?_
        refine r_region ?_
        refine r_p (p_loadA t38 rfl rfl (by simp) (g_arr (k := 6) rfl)) rfl ?_
        refine r_call (xs := [.tmp 39]) (chain_spec q) cb58 [] [] [] [] rfl rfl rfl rfl rfl rfl rfl rfl (fun _ _ => rfl) (fun _ _ _ => rfl) rfl (fun _ _ => ?_)
        refine r_alloc t100 rfl rfl fun b10 => ?_
        refine r_store_all (k := 10) t100 rfl rfl rfl rfl rfl rfl ?_
        refine r_nil ?_
        refine r_seq ?_
        refine r_region ?_
        refine r_p (p_move rfl) rfl ?_
        refine r_p (p_field0 fo100_0 rfl) rfl ?_
        refine r_p (p_load1 t30 rfl rfl (g_row1 (k := 10) rfl rfl)) rfl ?_
        refine r_p (p_field0 fo100_1 rfl) rfl ?_
        refine r_p (p_load1 t3 rfl rfl (g_row1 (k := 10) rfl rfl)) rfl ?_
        refine r_p (p_field0 fo100_2 rfl) rfl ?_
        refine r_p (p_load1 t30 rfl rfl (g_row1 (k := 10) rfl rfl)) rfl ?_
        refine r_p (p_build (parts := [(0, .tmp 43), (1, .tmp 45), (2, .tmp 47)]) t64 pl64 rfl rfl) rfl ?_
        refine r_call (xs := [.tmp 41, .tmp 48]) (link_spec C base size cur ob ol L K (chainQ q)) cb40 [0, 1, 2] [] [0, 1, 2] [] rfl rfl rfl rfl rfl rfl rfl rfl (fun _ _ => rfl) (fun _ _ _ => rfl) rfl (fun o _ => ?_)
        refine r_nil ?_
        refine r_seq ?_
        refine r_region ?_
        refine r_p (p_move rfl) rfl ?_
        refine r_p (p_loadA t100 rfl rfl rfl (g_all (k := 10) rfl)) rfl ?_
        refine r_call (xs := [.tmp 50, .tmp 51]) (rlink_spec r base size cur vL vC L K (chainQ q) (by omega) hlenK h.sites) cb59 [3, 4, 5] [] [3, 4, 5] [] rfl rfl rfl rfl rfl rfl rfl rfl (fun _ _ => rfl) (fun _ _ _ => rfl) rfl (fun v5 _ => ?_)
        skip
        refine r_nil ?_
        refine r_seq ?_
        refine r_region ?_
        refine r_p (p_assign rfl) rfl ?_
        refine r_nil ?_
        refine r_cret ?_
        refine r_conva (k := 2) rfl (mp_perm (link_perm L K (chainQ q))) ?_
        refine r_ret ⟨cur, L, (rlinkK L K (chainQ q)), ob, o, vL, v5, S⟩ ⟨h.link _, hS, fun e he => he⟩ rfl (rs1 (rv_tmp rfl)) rfl [0, 1, 2, 3, 4, 5] [0] rfl rfl rfl
      · (try simp only [decide_eq_true_eq, decide_eq_false_iff_not, Bool.and_eq_true, Bool.or_eq_true, Bool.and_eq_false_iff, Bool.or_eq_false_iff, Bool.not_eq_true, Bool.not_eq_false, Bool.not_eq_true', Bool.not_eq_false', Bool.not_not, bne_iff_ne, beq_iff_eq] at h10)
        refine r_skip ?_
        refine r_seq ?_
        refine r_region ?_
        refine r_p (p_loadA t38 rfl rfl (by simp) (g_arr (k := 6) rfl)) rfl ?_
        refine r_p (p_move rfl) rfl ?_
        refine r_call (xs := [.tmp 53, .tmp 54]) (made_spec q most (by omega)) cb18 [] [] [300] [] rfl rfl rfl rfl rfl rfl rfl rfl (fun _ _ => rfl) (fun _ _ _ => rfl) rfl (fun e he => ?_)
        obtain ⟨hepc, heb, hen, hest, hepg⟩ := he
        have h4e := m4 (q 2)
        have hnb : 0 ≤ q 1 % (most + 1) ∧ q 1 % (most + 1) ≤ most := by
          have h1 := Int.emod_nonneg (q 1) (show most + 1 ≠ 0 by omega)
          have h2 := Int.emod_lt_of_pos (q 1) (show 0 < most + 1 by omega)
          omega
        refine r_alloc t36 rfl rfl fun b11 => ?_
        refine r_store_all (k := 11) t36 rfl rfl rfl rfl rfl rfl ?_
        refine r_nil ?_
        refine r_seq ?_
        refine r_region ?_
        refine r_p (p_move rfl) rfl ?_
        refine r_p (p_loadA t36 rfl rfl rfl (g_all (k := 11) rfl)) rfl ?_
        refine r_call (xs := [.tmp 58]) (entry_spec e (by omega)) cb20 [] [] [] [] rfl rfl rfl rfl rfl rfl rfl rfl (fun _ _ => rfl) (fun _ _ _ => rfl) rfl (fun ⟨ea, es⟩ hes => ?_)
        dsimp only at hes ⊢
        refine r_pgadd 300 0 301 (putE base (curN size cur e.bytes.size) (entE e ea es)) rfl rfl rfl rfl rfl ?_
        refine r_call (xs := [.tmp 57, .tmp 59]) (add_spec C base size cur ob ol h ps12_len (entE e ea es) (by simp only [entE]; omega)) cb19 [0, 1, 2] [] [0, 1, 2, 400, 401] [] rfl rfl rfl rfl rfl rfl rfl rfl (fun _ _ => rfl) (fun _ _ _ => rfl) rfl (fun ⟨va, vb, o⟩ _ => ?_)
        dsimp only
        refine r_p (p_move rfl) rfl ?_
        refine r_p (p_extract rfl rfl) rfl ?_
        refine r_p (p_extract rfl rfl) rfl ?_
        refine r_p (p_extract rfl rfl) rfl ?_
        refine r_p (p_extract rfl rfl) rfl ?_
        refine r_p (p_assign rfl) rfl ?_
        refine r_p (p_assign rfl) rfl ?_
        refine r_p (p_assign rfl) rfl ?_
        refine r_p (p_assign rfl) rfl ?_
        refine r_nil ?_
        refine r_seq ?_
        refine r_region ?_
        refine r_p (p_move rfl) rfl ?_
        refine r_p (p_loadA t36 rfl rfl rfl (g_all (k := 11) rfl)) rfl ?_
        refine r_call (xs := [.tmp 65, .tmp 66]) (radd_spec r base size cur vL vC h ps12_len (entE e ea es)) cb33 [3, 4, 5] [] [3, 4, 5, 402, 403] [] rfl rfl rfl rfl rfl rfl rfl rfl (fun _ _ => rfl) (fun _ _ _ => rfl) rfl (fun ⟨wa, wb, wl, wk⟩ _ => ?_)
        dsimp only
        refine r_freeze 400 400 rfl own_to_sl ?_
        refine r_freeze 401 401 rfl own_to_sl ?_
        refine r_freeze 402 402 rfl own_to_sl ?_
        refine r_freeze 403 403 rfl own_to_sl ?_
        have hnew := h.add (e := (entE e ea es)) (by simp only [entE, hepc]; exact ps12_mem _) (by simp only [entE]; omega) (by simp only [entE]; exact hes) rfl (by simp only [entE]; exact hepg) (by simp only [entE]; omega)
        have hrem : ∀ x ∈ (addF base size cur L K (entE e ea es)).rem, SameOk x ∧ x ∈ (putE base (curN size cur e.bytes.size) (entE e ea es)) :: S := rem_ok h hS (entE e ea es)
        have hcl := cut_len base size cur L K (entE e ea es)
        have hrl := rem_len base size cur L K (entE e ea es)
        refine r_alloc t74 rfl rfl fun b16 => ?_
        refine r_store_all (k := 16) t74 rfl rfl rfl rfl rfl rfl ?_
        refine r_nil ?_
        refine r_seq ?_
        refine r_region ?_
        refine r_p (p_move rfl) rfl ?_
        refine r_p (p_field0 fo74_1 rfl) rfl ?_
        refine r_p (p_load1 t31 rfl rfl (g_row1 (k := 16) rfl rfl)) rfl ?_
        refine r_call (xs := [.tmp 68, .tmp 70]) (sames_spec va wa (addF base size cur L K (entE e ea es)).rem ((putE base (curN size cur e.bytes.size) (entE e ea es)) :: S) hrem (by omega)) cb25 [] [(false, 400), (false, 402), (false, 0)] [] [] rfl rfl rfl rfl rfl rfl rfl rfl (fun _ _ => rfl) (fun _ _ _ => rfl) rfl (fun _ _ => ?_)
        refine r_p (p_assign rfl) rfl ?_
        refine r_nil ?_
        refine r_seq ?_
        refine r_region ?_
        refine r_p (p_move rfl) rfl ?_
        refine r_p (p_field0 fo74_2 rfl) rfl ?_
        refine r_p (p_load1 t32 rfl rfl (g_row1 (k := 16) rfl rfl)) rfl ?_
        refine r_call (xs := [.tmp 72, .tmp 74]) (chains_spec vb wb (addF base size cur L K (entE e ea es)).cut (by omega)) cb27 [] [(false, 401), (false, 403)] [] [] rfl rfl rfl rfl rfl rfl rfl rfl (fun _ _ => rfl) (fun _ _ _ => rfl) rfl (fun _ _ => ?_)
        refine r_p (p_assign rfl) rfl ?_
        refine r_nil ?_
        refine r_seq ?_
        refine r_region ?_
        refine r_p (p_move rfl) rfl ?_
        refine r_p (p_field0 fo74_0 rfl) rfl ?_
        refine r_p (p_load1 t30 rfl rfl (g_row1 (k := 16) rfl rfl)) rfl ?_
        refine r_p (p_bin rfl rfl b_eq) rfl ?_
        refine r_p (p_move rfl) rfl ?_
        refine r_gp [] rfl rfl trivial (fun hg11 => p_move rfl) rfl ?_
        refine r_gp [(81, _)] rfl rfl ⟨rfl, trivial⟩ (fun hg12 => p_field0 fo74_3 rfl) rfl ?_
        refine r_gp [(81, _), (82, _)] rfl rfl ⟨rfl, rfl, trivial⟩ (fun hg13 => p_load1 t41 rfl rfl (g_row1 (k := 16) rfl rfl)) rfl ?_
        refine r_gp [(81, _), (82, _), (83, _)] rfl rfl ⟨rfl, rfl, rfl, trivial⟩ (fun hg14 => p_bin rfl rfl b_eq) rfl ?_
        refine r_p (p_pick rfl rfl rfl (by first | exact pick_and | exact pick_or |  rfl)) rfl ?_
        refine r_p (p_move rfl) rfl ?_
        refine r_gp [] rfl rfl trivial (fun hg15 => p_move rfl) rfl ?_
        refine r_p (p_pick rfl rfl rfl (by first | exact pick_and | exact pick_or |  rfl)) rfl ?_
        refine r_p (p_move rfl) rfl ?_
        refine r_gp [] rfl rfl trivial (fun hg16 => p_move rfl) rfl ?_
        refine r_p (p_pick rfl rfl rfl (by first | exact pick_and | exact pick_or |  rfl)) rfl ?_
        refine r_p (p_assign rfl) rfl ?_
        refine r_nil ?_
        refine r_cret ?_
        refine r_ret ⟨(addF base size cur L K (entE e ea es)).cur, (addF base size cur L K (entE e ea es)).L, (addF base size cur L K (entE e ea es)).K, o, ol, wl, wk, ((putE base (curN size cur e.bytes.size) (entE e ea es)) :: S)⟩ ⟨hnew, add_mem hS, fun e he => List.mem_cons_of_mem _ he⟩ rfl (rs1 (rv_tmp rfl)) (congrArg Value.bool (by simp)) [0, 1, 2, 3, 4, 5] [0] rfl rfl rfl

end Go.Proofs.Ytbkonlkffajhkaa
