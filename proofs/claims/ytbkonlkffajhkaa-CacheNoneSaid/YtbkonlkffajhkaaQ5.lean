/-
  Removing blocks, finding them, and all blocks and links. Conditions: in order, few, shorter than 2^32.
-/
import Derived.Test.YtbkonlkffajhkaaQ4
namespace Go.Proofs.Ytbkonlkffajhkaa
set_option linter.unusedSimpArgs false
set_option linter.unusedVariables false
open Go.RowKit

def keepE (G : List Int) (x : En) : Bool := !decide (x.pc ∈ G)
def keepK (G : List Int) (x : Lk) : Bool := !(decide (x.f ∈ G) || decide (x.t ∈ G))
def cutK (G : List Int) (x : Lk) : Bool := decide (x.t ∈ G) && !decide (x.f ∈ G)
theorem take_pc {rem : List En} {k : Nat} (hk : k < rem.length) : (rem.take (k + 1)).map En.pc = (rem.take k).map En.pc ++ [(rem.getD k dE).pc] := by
  rw [List.take_succ_eq_append_getElem hk, List.map_append, List.getD_eq_getElem?_getD, List.getElem?_eq_getElem hk]
  rfl
theorem gone_step {rem : List En} (hn : (rem.map En.pc).Nodup) {k : Nat} (hk : k < rem.length) : ((rem.getD k dE).pc :: ((rem.take k).map En.pc).filter fun a => decide (a ≠ (rem.getD k dE).pc)).Perm ((rem.take (k + 1)).map En.pc) := by
  have h1 : ((rem.take k).map En.pc).filter (fun a => decide (a ≠ (rem.getD k dE).pc)) = (rem.take k).map En.pc := by
    rw [List.filter_eq_self]
    intro a ha
    simp only [decide_eq_true_eq]
    rintro rfl
    have h2 : ((rem.take (k + 1)).map En.pc).Nodup := by
      rw [List.map_take]
      exact (List.take_sublist _ _).nodup hn
    rw [take_pc hk, List.nodup_append] at h2
    exact h2.2.2 _ ha _ (by simp) rfl
  rw [h1, take_pc hk]
  exact (List.perm_append_singleton _ _).symm
theorem keep_step {rem L : List En} {k : Nat} (hk : k < rem.length) : (L.filter (keepE ((rem.take k).map En.pc))).filter (fun x => decide (x.pc ≠ (rem.getD k dE).pc)) = L.filter (keepE ((rem.take (k + 1)).map En.pc)) := by
  rw [List.filter_filter]
  refine List.filter_congr fun x _ => ?_
  unfold keepE
  rw [take_pc hk]
  by_cases h1 : x.pc ∈ (rem.take k).map En.pc <;> by_cases h2 : x.pc = (rem.getD k dE).pc <;> simp only [h1, h2, List.mem_append, List.mem_singleton, or_true, or_false, ne_eq, not_true, not_false_eq_true, decide_true, decide_false, Bool.not_true, Bool.not_false, Bool.and_true, Bool.and_false, true_or]
  all_goals simp_all
def usedL (L : List En) : Int := (L.map fun x => (x.bytes.size : Int)).sum
theorem usedL_take {L : List En} {k : Nat} (hk : k < L.length) : usedL (L.take (k + 1)) = usedL (L.take k) + (L.getD k dE).bytes.size := by
  unfold usedL
  rw [List.take_succ_eq_append_getElem hk, List.map_append, List.sum_append, List.getD_eq_getElem?_getD, List.getElem?_eq_getElem hk]
  simp
theorem usedL_bd {L : List En} (h : ∀ x ∈ L, x.bytes.size ≤ 4294967296) (hl : L.length < 40) (k : Nat) : 0 ≤ usedL (L.take k) ∧ usedL (L.take k) ≤ 40 * 4294967296 := by
  have : ∀ (l : List En), (∀ x ∈ l, x.bytes.size ≤ 4294967296) → 0 ≤ usedL l ∧ usedL l ≤ l.length * 4294967296 := by
    intro l
    induction l with
    | nil => intro _; simp [usedL]
    | cons y r ih =>
      intro hx
      have h1 := ih fun x hx' => hx x (List.mem_cons_of_mem _ hx')
      have h2 := hx y (List.mem_cons_self ..)
      unfold usedL at h1 ⊢
      simp only [List.map_cons, List.sum_cons, List.length_cons]
      omega
  have h1 := this (L.take k) fun x hx => h x (List.mem_of_mem_take hx)
  have h2 := List.length_take_le k L
  have h3 := List.length_take_le' k L
  omega

set_option maxHeartbeats 1000000 in
set_option maxRecDepth 100000 in
theorem drop_spec (C : Nat) (base size cur : Int) (ob ol : Option Nat) (v : SV) (rem L : List En) (K : List Lk) (hK : K.Pairwise ltK) (hlen : K.length < 40) (hn : (rem.map En.pc).Nodup) (hrl : rem.length ≤ 1000) :
    Spec Try.prog 45 [.pointer (some ⟨C, 0, none⟩), sv v] [row C 84 (cC base size cur ob ol), mpB ob L, mpL ol K] [sl 36 eEnt (sv v) rem] (X := SV) (fun _ => True) (fun x => sv x) (fun x => [row C 84 (cC base size cur ob ol), mpB ob (L.filter (keepE (rem.map En.pc))), mpL ol (K.filter (keepK (rem.map En.pc))), own 64 3 eL (sv x) (K.filter (cutK (rem.map En.pc)))]) (fun _ => []) := by
  refine r_enter Try.func45 rfl Try.ntmps45 rfl fun w0 M H => ?_
  refine r_seq ?_
  refine r_region ?_
  refine r_p (p_assign rfl) rfl ?_
  refine r_nil ?_
  refine r_seq ?_
  refine r_region ?_
  refine r_makeMap (fun n : Int => n) mkU vfG rfl fun b9 => ?_
  refine r_alloc t111 rfl rfl fun b5 => ?_
  refine r_store_row (k := 5) t111 rfl rfl rfl rfl rfl rfl rfl rfl ?_
  refine r_nil ?_
  refine r_seq ?_
  refine r_seq ?_
  refine r_region ?_
  refine r_p (p_move rfl) rfl ?_
  refine r_p (p_len_sl Try.underlying39 rfl (hs_sl (k := 0) rfl)) rfl ?_
  refine r_p (p_move rfl) rfl ?_
  refine r_nil ?_
  refine r_block ?_
  refine r_loop (X := Nat) (fun k => k ≤ rem.length) (fun k => [(0, .pointer (some ⟨C, 0, none⟩)), (5, .pointer (some ⟨b5, 0, none⟩)), (10, sv v), (11, .int .i64 (rem.length : Int)), (12, .int .i64 (k : Int))]) (fun k => [(0, row C 84 (cC base size cur ob ol)), (1, mpB ob (L.filter (keepE ((rem.take k).map En.pc)))), (2, mpL ol K), (5, row b5 111 [.map (some b9)]), (9, mpG (some b9) ((rem.take k).map En.pc))]) (fun k => [(0, sl 36 eEnt (sv v) rem)]) (fun k => rem.length - k) 0 (Nat.zero_le _) rfl (by rw [show L.filter (keepE ((rem.take 0).map En.pc)) = L from List.filter_eq_self.2 (fun x _ => by simp [keepE])]; rfl) rfl (fun k hk0 => ?_)
  refine r_seq ?_
  refine r_region ?_
  refine r_p (p_bin rfl rfl b_lt) rfl ?_
  refine r_nil ?_
  refine r_seq ?_
  refine r_cond rfl (fun h1 => ?_) (fun h1 => ?_)
  · (try simp only [decide_eq_true_eq, decide_eq_false_iff_not, Bool.and_eq_true, Bool.or_eq_true, Bool.and_eq_false_iff, Bool.or_eq_false_iff, Bool.not_eq_true, Bool.not_eq_false, Bool.not_eq_true', Bool.not_eq_false', Bool.not_not, bne_iff_ne, beq_iff_eq] at h1)
    have hk : k < rem.length := by omega
    refine r_skip ?_
    refine r_seq ?_
    refine r_block ?_
    refine r_seq ?_
    refine r_region ?_
    refine r_p (p_idx_sl (j := k) Try.underlying39 t54 rfl rfl (hs_sl (k := 0) rfl) (by first | rfl | omega) (by first | omega | (simp; done) | (simp; omega))) rfl ?_
    refine r_p (p_loadA t54 rfl rfl rfl (g_el' (hs_sl (k := 0) rfl) (by intro _; rfl) (getD_get dE (by omega)) (by rfl))) rfl ?_
    refine r_alloc t54 rfl rfl fun b7 => ?_
    refine r_store_all (k := 7) t54 rfl rfl rfl rfl rfl rfl ?_
    refine r_nil ?_
    refine r_seq ?_
    refine r_region ?_
    refine r_p (p_load1 t111 rfl rfl (g_row1 (k := 5) rfl rfl)) rfl ?_
    refine r_p (p_field0 fo54_0 rfl) rfl ?_
    refine r_p (p_load1 t30 rfl rfl (g_row1 (k := 7) rfl rfl)) rfl ?_
    refine r_mapUpdate (k := 9) ((rem.getD k dE).pc) ((rem.take (k + 1)).map En.pc) Try.underlying111 keyU rfl rfl rfl rfl (gone_step hn hk) ?_
    refine r_nil ?_
    refine r_mpo 1 rfl (fun ms clk hpm hW => ?_)
    refine r_draw [19, 20, 21, 22, 23, 24] _ rfl (stg_mem0 (V := [(0, 19, _), (1, 20, _), (2, 21, _), (3, 22, _), (4, 23, _), (5, 24, _)]) [0, 1, 2, 3, 4, 5] 6 [6, 5, 4, 3, 2, 1, 0] [] (fun _ => []) rfl rfl (prs_cons (pri rfl (p_move rfl)) (prs_cons (pri rfl (p_nilCheck rfl)) (prs_cons (pri rfl (p_field0 fo84_3 rfl)) (prs_cons (pri rfl (p_load1 t81 rfl rfl (g_row1 (k := 0) rfl rfl))) (prs_cons (pri rfl (p_field0 fo54_0 rfl)) (prs_cons (pri rfl (p_load1 t30 rfl rfl (g_row1 (k := 7) rfl rfl))) prs_nil)))))) rfl rfl rfl rfl rfl rfl rfl rfl rfl (fun _ _ => rfl) rfl (ms_deleteS (kn := 1) Try.underlying81 keyU (k := (rem.getD k dE).pc) rfl rfl rfl) (fun _ _ => stg_end [] rfl rfl prs_nil rfl rfl rfl ?_))
    refine r_conva (k := 1) rfl (mps_mp (L := L.filter (keepE ((rem.take (k + 1)).map En.pc))) (by rw [filter_map_fst (p := fun x : En => decide (x.pc ≠ (rem.getD k dE).pc)), ← keep_step hk]; exact hpm.filter _)) ?_
    refine r_region ?_
    refine r_p (p_bin rfl rfl (b_add (by first | exact w_i64 (by omega) (by omega) | rfl))) rfl ?_
    refine r_p (p_move rfl) rfl ?_
    refine r_nil ?_
    refine r_here (k + 1) ⟨by omega, by omega⟩ rfl rfl rfl
  · (try simp only [decide_eq_true_eq, decide_eq_false_iff_not, Bool.and_eq_true, Bool.or_eq_true, Bool.and_eq_false_iff, Bool.or_eq_false_iff, Bool.not_eq_true, Bool.not_eq_false, Bool.not_eq_true', Bool.not_eq_false', Bool.not_not, bne_iff_ne, beq_iff_eq] at h1)
    have hk : k = rem.length := by omega
    subst hk
    rw [List.take_length]
    refine r_exit ?_
    refine r_seq ?_
    refine r_region ?_
    refine r_p (p_move rfl) rfl ?_
    refine r_p (p_makeFunc (first := []) (cap := [.tmp 5]) rfl rfl) rfl ?_
    refine r_call (xs := [.tmp 26, .tmp 27]) (chained_spec C base size cur ob ol 61 [.pointer (some ⟨b5, 0, none⟩)] (row b5 111 [.map (some b9)]) (mpG (some b9) (rem.map En.pc)) (cutK (rem.map En.pc)) K cb61 (fun x _ => drop1_spec b5 b9 (rem.map En.pc) x) hK hlen) cb48 [] [(true, 0), (true, 2), (true, 5), (true, 9)] [28] [] rfl rfl rfl rfl rfl rfl rfl rfl (fun _ _ => rfl) (fun _ _ _ => rfl) rfl (fun v28 _ => ?_)
    refine r_p (p_assign rfl) rfl ?_
    refine r_nil ?_
    refine r_seq ?_
    refine r_region ?_
    refine r_p (p_move rfl) rfl ?_
    refine r_p (p_nilCheck rfl) rfl ?_
    refine r_p (p_field0 fo84_4 rfl) rfl ?_
    refine r_p (p_load1 t82 rfl rfl (g_row1 (k := 0) rfl rfl)) rfl ?_
    refine r_p (p_makeFunc (first := []) (cap := [.tmp 5]) rfl rfl) rfl ?_
    refine r_call (xs := [.tmp 32, .tmp 33]) (delf_spec 63 [.pointer (some ⟨b5, 0, none⟩)] (row b5 111 [.map (some b9)]) (mpG (some b9) (rem.map En.pc)) (fun x => decide (x.f ∈ rem.map En.pc) || decide (x.t ∈ rem.map En.pc)) K ol cb63 (fun x _ => drop2_spec b5 b9 (rem.map En.pc) x)) cb62 [2] [(true, 5), (true, 9)] [2] [] rfl rfl rfl rfl rfl rfl rfl rfl (fun _ _ => rfl) (fun _ _ _ => rfl) rfl (fun _ _ => ?_)
    refine r_nil ?_
    refine r_seq ?_
    refine r_region ?_
    refine r_p (p_move rfl) rfl ?_
    refine r_p (p_assign rfl) rfl ?_
    refine r_nil ?_
    refine r_cret ?_
    refine r_ret v28 trivial rfl (rs1 (rv_tmp rfl)) rfl [0, 1, 2, 28] [] rfl rfl rfl
set_option maxRecDepth 100000 in
theorem find_some (C : Nat) (base size cur : Int) (ob ol : Option Nat) (L : List En) (pc : Int) (x : En) (hf : L.find? (fun a => decide (a.pc = pc)) = (some x)) :
    Spec Try.prog 21 [.pointer (some ⟨C, 0, none⟩), .int .u32 pc] [] [row C 84 (cC base size cur ob ol), mpB ob L] (X := Unit) (fun _ => True) (fun _ => .tuple #[veEnt x, .bool true]) (fun _ => []) (fun _ => []) := by
  refine r_enter Try.func21 rfl Try.ntmps21 rfl fun w0 M H => ?_
  refine r_seq ?_
  refine r_region ?_
  refine r_alloc t54 rfl rfl fun b4 => ?_
  refine r_p (p_assign rfl) rfl ?_
  refine r_nil ?_
  refine r_seq ?_
  refine r_seq ?_
  refine r_region ?_
  refine r_p (p_move rfl) rfl ?_
  refine r_p (p_bin rfl rfl (b_eqPn Try.underlying25)) rfl ?_
  refine r_nil ?_
  refine r_cond rfl (fun h1 => ?_) (fun h1 => ?_)
  · exact absurd h1 (by simp)
  · (try simp only [decide_eq_true_eq, decide_eq_false_iff_not, Bool.and_eq_true, Bool.or_eq_true, Bool.and_eq_false_iff, Bool.or_eq_false_iff, Bool.not_eq_true, Bool.not_eq_false, Bool.not_eq_true', Bool.not_eq_false', Bool.not_not, bne_iff_ne, beq_iff_eq] at h1)
    refine r_skip ?_
    refine r_seq ?_
    refine r_region ?_
    refine r_p (p_move rfl) rfl ?_
    refine r_p (p_nilCheck rfl) rfl ?_
    refine r_p (p_field0 fo84_3 rfl) rfl ?_
    refine r_p (p_load1 t81 rfl rfl (g_row1R (k := 0) rfl rfl)) rfl ?_
    refine r_p (p_move rfl) rfl ?_
    refine r_p (p_lookup Try.underlying81 keyU t54 rfl rfl (hm_ro (k := 1) rfl) hf) rfl ?_
    refine r_p (p_move rfl) rfl ?_
    refine r_p (p_extract rfl rfl) rfl ?_
    refine r_p (p_extract rfl rfl) rfl ?_
    refine r_alloc t54 rfl rfl fun b6 => ?_
    refine r_store_all (k := 6) t54 rfl rfl rfl rfl rfl rfl ?_
    refine r_p (p_assign rfl) rfl ?_
    refine r_nil ?_
    refine r_seq ?_
    refine r_region ?_
    refine r_p (p_loadA t54 rfl rfl rfl (g_all (k := 6) rfl)) rfl ?_
    refine r_p (p_move rfl) rfl ?_
    refine r_store_all (k := 4) t54 rfl rfl rfl rfl rfl rfl ?_
    refine r_p (p_assign rfl) rfl ?_
    refine r_nil ?_
    refine r_cret ?_
    refine r_ret () trivial rfl (rs2 (rv_cellA t54 rfl rfl rfl (g_all (k := 4) rfl)) (rv_tmp rfl)) rfl [] [] rfl rfl rfl
set_option maxRecDepth 100000 in
theorem find_none (C : Nat) (base size cur : Int) (ob ol : Option Nat) (L : List En) (pc : Int) (hf : L.find? (fun a => decide (a.pc = pc)) = none) :
    Spec Try.prog 21 [.pointer (some ⟨C, 0, none⟩), .int .u32 pc] [] [row C 84 (cC base size cur ob ol), mpB ob L] (X := Unit) (fun _ => True) (fun _ => .tuple #[veEnt dE, .bool false]) (fun _ => []) (fun _ => []) := by
  refine r_enter Try.func21 rfl Try.ntmps21 rfl fun w0 M H => ?_
  refine r_seq ?_
  refine r_region ?_
  refine r_alloc t54 rfl rfl fun b4 => ?_
  refine r_p (p_assign rfl) rfl ?_
  refine r_nil ?_
  refine r_seq ?_
  refine r_seq ?_
  refine r_region ?_
  refine r_p (p_move rfl) rfl ?_
  refine r_p (p_bin rfl rfl (b_eqPn Try.underlying25)) rfl ?_
  refine r_nil ?_
  refine r_cond rfl (fun h1 => ?_) (fun h1 => ?_)
  · exact absurd h1 (by simp)
  · (try simp only [decide_eq_true_eq, decide_eq_false_iff_not, Bool.and_eq_true, Bool.or_eq_true, Bool.and_eq_false_iff, Bool.or_eq_false_iff, Bool.not_eq_true, Bool.not_eq_false, Bool.not_eq_true', Bool.not_eq_false', Bool.not_not, bne_iff_ne, beq_iff_eq] at h1)
    refine r_skip ?_
    refine r_seq ?_
    refine r_region ?_
    refine r_p (p_move rfl) rfl ?_
    refine r_p (p_nilCheck rfl) rfl ?_
    refine r_p (p_field0 fo84_3 rfl) rfl ?_
    refine r_p (p_load1 t81 rfl rfl (g_row1R (k := 0) rfl rfl)) rfl ?_
    refine r_p (p_move rfl) rfl ?_
    refine r_p (p_lookup Try.underlying81 keyU t54 rfl rfl (hm_ro (k := 1) rfl) hf) rfl ?_
    refine r_p (p_move rfl) rfl ?_
    refine r_p (p_extract rfl rfl) rfl ?_
    refine r_p (p_extract rfl rfl) rfl ?_
    refine r_alloc t54 rfl rfl fun b6 => ?_
    refine r_store_all (k := 6) t54 rfl rfl rfl rfl rfl rfl ?_
    refine r_p (p_assign rfl) rfl ?_
    refine r_nil ?_
    refine r_seq ?_
    refine r_region ?_
    refine r_p (p_loadA t54 rfl rfl rfl (g_all (k := 6) rfl)) rfl ?_
    refine r_p (p_move rfl) rfl ?_
    refine r_store_all (k := 4) t54 rfl rfl rfl rfl rfl rfl ?_
    refine r_p (p_assign rfl) rfl ?_
    refine r_nil ?_
    refine r_cret ?_
    refine r_ret () trivial rfl (rs2 (rv_cellA t54 rfl rfl rfl (g_all (k := 4) rfl)) (rv_tmp rfl)) rfl [] [] rfl rfl rfl
theorem find_spec (C : Nat) (base size cur : Int) (ob ol : Option Nat) (L : List En) (pc : Int) (r : Option En) (hf : L.find? (fun a => decide (a.pc = pc)) = r) :
    Spec Try.prog 21 [.pointer (some ⟨C, 0, none⟩), .int .u32 pc] [] [row C 84 (cC base size cur ob ol), mpB ob L] (X := Unit) (fun _ => True) (fun _ => .tuple #[veEnt (r.getD dE), .bool r.isSome]) (fun _ => []) (fun _ => []) := by
  cases r with
  | none => exact find_none C base size cur ob ol L pc hf
  | some x => exact find_some C base size cur ob ol L pc x hf

set_option maxRecDepth 100000 in
theorem all_spec (C : Nat) (base size cur : Int) (ob ol : Option Nat) (L : List En) (hL : L.Pairwise fun x y => offW base x < offW base y) (hlen : L.length < 40) :
    Spec Try.prog 26 [.pointer (some ⟨C, 0, none⟩)] [] [row C 84 (cC base size cur ob ol), mpB ob L] (X := SV) (fun _ => True) (fun x => sv x) (fun x => [own 54 36 eEnt (sv x) L]) (fun _ => []) := by
  refine r_enter Try.func26 rfl Try.ntmps26 rfl fun w0 M H => ?_
  refine r_seq ?_
  refine r_region ?_
  refine r_p (p_assign rfl) rfl ?_
  refine r_nil ?_
  refine r_seq ?_
  refine r_region ?_
  refine r_p (p_move rfl) rfl ?_
  refine r_call (xs := [.tmp 3, .func 50]) (pick_spec C base size cur ob ol 50 [] (row C 84 (cC base size cur ob ol)) (row C 84 (cC base size cur ob ol)) (row C 84 (cC base size cur ob ol)) (fun _ => true) L cb50 (fun x _ => allT_spec (row C 84 (cC base size cur ob ol)) (row C 84 (cC base size cur ob ol)) (row C 84 (cC base size cur ob ol)) (row C 84 (cC base size cur ob ol)) x) hL hlen) cb42 [] [(false, 0), (false, 1), (false, 0), (false, 0), (false, 0)] [4] [] rfl rfl rfl rfl rfl rfl rfl rfl (fun _ _ => rfl) (fun _ _ _ => rfl) rfl (fun v4 _ => ?_)
  refine r_p (p_assign rfl) rfl ?_
  refine r_nil ?_
  refine r_cret ?_
  refine r_ret v4 trivial rfl (rs1 (rv_tmp rfl)) rfl [4] [] rfl (by rw [List.filter_eq_self.2 (fun _ _ => rfl)]; rfl) rfl
set_option maxRecDepth 100000 in
theorem links_spec (C : Nat) (base size cur : Int) (ob ol : Option Nat) (K : List Lk) (hK : K.Pairwise ltK) (hlen : K.length < 40) :
    Spec Try.prog 24 [.pointer (some ⟨C, 0, none⟩)] [] [row C 84 (cC base size cur ob ol), mpL ol K] (X := SV) (fun _ => True) (fun x => sv x) (fun x => [own 64 3 eL (sv x) K]) (fun _ => []) := by
  refine r_enter Try.func24 rfl Try.ntmps24 rfl fun w0 M H => ?_
  refine r_seq ?_
  refine r_region ?_
  refine r_p (p_assign rfl) rfl ?_
  refine r_nil ?_
  refine r_seq ?_
  refine r_region ?_
  refine r_p (p_move rfl) rfl ?_
  refine r_call (xs := [.tmp 3, .func 49]) (chained_spec C base size cur ob ol 49 [] (row C 84 (cC base size cur ob ol)) (row C 84 (cC base size cur ob ol)) (fun _ => true) K cb49 (fun x _ => linksT_spec (row C 84 (cC base size cur ob ol)) (row C 84 (cC base size cur ob ol)) x) hK hlen) cb48 [] [(false, 0), (false, 1), (false, 0), (false, 0)] [4] [] rfl rfl rfl rfl rfl rfl rfl rfl (fun _ _ => rfl) (fun _ _ _ => rfl) rfl (fun v4 _ => ?_)
  refine r_p (p_assign rfl) rfl ?_
  refine r_nil ?_
  refine r_cret ?_
  refine r_ret v4 trivial rfl (rs1 (rv_tmp rfl)) rfl [4] [] rfl (by rw [List.filter_eq_self.2 (fun _ _ => rfl)]; rfl) rfl
set_option maxRecDepth 100000 in
theorem at_none (C : Nat) (base size cur : Int) (ob ol : Option Nat) (L : List En) (hL : L.Pairwise fun x y => offW base x < offW base y) (hlen : L.length < 40) (a : Int) (hf : L.filter (atW a) = []) :
    Spec Try.prog 29 [.pointer (some ⟨C, 0, none⟩), .int .u32 a] [] [row C 84 (cC base size cur ob ol), mpB ob L] (X := Unit) (fun _ => True) (fun _ => .tuple #[veEnt dE, .bool false]) (fun _ => []) (fun _ => []) := by
  refine r_enter Try.func29 rfl Try.ntmps29 rfl fun w0 M H => ?_
  refine r_seq ?_
  refine r_region ?_
  refine r_box1 rfl rfl rfl fun b3 => ?_
  refine r_alloc t54 rfl rfl fun b4 => ?_
  refine r_p (p_assign rfl) rfl ?_
  refine r_nil ?_
  refine r_seq ?_
  refine r_region ?_
  refine r_p (p_move rfl) rfl ?_
  refine r_p (p_makeFunc (first := []) (cap := [.tmp 3]) rfl rfl) rfl ?_
  refine r_call (xs := [.tmp 7, .tmp 8]) (pick_spec C base size cur ob ol 51 [.pointer (some ⟨b3, 0, none⟩)] (row b3 30 [.int .u32 a]) (row C 84 (cC base size cur ob ol)) (row C 84 (cC base size cur ob ol)) (atW a) L cb51 (fun x _ => atT_spec (row C 84 (cC base size cur ob ol)) (row C 84 (cC base size cur ob ol)) (row C 84 (cC base size cur ob ol)) b3 a x) hL hlen) cb42 [] [(false, 0), (false, 1), (true, 3), (false, 0), (false, 0)] [9] [] rfl rfl rfl rfl rfl rfl rfl rfl (fun _ _ => rfl) (fun _ _ _ => rfl) rfl (fun v9 _ => ?_)
  refine r_p (p_assign rfl) rfl ?_
  refine r_nil ?_
  refine r_seq ?_
  refine r_seq ?_
  refine r_region ?_
  refine r_p (p_move rfl) rfl ?_
  refine r_p (p_len_sl Try.underlying39 rfl (hs_own (k := 9) rfl)) rfl ?_
  refine r_p (p_bin rfl rfl b_eq) rfl ?_
  refine r_nil ?_
  refine r_cond rfl (fun h1 => ?_) (fun h1 => ?_)
  · (try simp only [decide_eq_true_eq, decide_eq_false_iff_not, Bool.and_eq_true, Bool.or_eq_true, Bool.and_eq_false_iff, Bool.or_eq_false_iff, Bool.not_eq_true, Bool.not_eq_false, Bool.not_eq_true', Bool.not_eq_false', Bool.not_not, bne_iff_ne, beq_iff_eq] at h1)
    refine r_seq ?_
    refine r_region ?_
    refine r_p (p_build (parts := []) t54 pl54 rfl rfl) rfl ?_
    refine r_store_all (k := 4) t54 rfl rfl rfl rfl rfl rfl ?_
    refine r_p (p_assign rfl) rfl ?_
    refine r_nil ?_
    refine r_cret ?_
    refine r_ret () trivial rfl (rs2 (rv_cellA t54 rfl rfl rfl (g_all (k := 4) rfl)) (rv_tmp rfl)) rfl [] [] rfl rfl rfl
  · exact absurd h1 (by rw [hf]; simp; try omega)
set_option maxRecDepth 100000 in
theorem at_some (C : Nat) (base size cur : Int) (ob ol : Option Nat) (L : List En) (hL : L.Pairwise fun x y => offW base x < offW base y) (hlen : L.length < 40) (a : Int) (x : En) (tl : List En) (hf : L.filter (atW a) = x :: tl) :
    Spec Try.prog 29 [.pointer (some ⟨C, 0, none⟩), .int .u32 a] [] [row C 84 (cC base size cur ob ol), mpB ob L] (X := Unit) (fun _ => True) (fun _ => .tuple #[veEnt x, .bool true]) (fun _ => []) (fun _ => []) := by
  refine r_enter Try.func29 rfl Try.ntmps29 rfl fun w0 M H => ?_
  refine r_seq ?_
  refine r_region ?_
  refine r_box1 rfl rfl rfl fun b3 => ?_
  refine r_alloc t54 rfl rfl fun b4 => ?_
  refine r_p (p_assign rfl) rfl ?_
  refine r_nil ?_
  refine r_seq ?_
  refine r_region ?_
  refine r_p (p_move rfl) rfl ?_
  refine r_p (p_makeFunc (first := []) (cap := [.tmp 3]) rfl rfl) rfl ?_
  refine r_call (xs := [.tmp 7, .tmp 8]) (pick_spec C base size cur ob ol 51 [.pointer (some ⟨b3, 0, none⟩)] (row b3 30 [.int .u32 a]) (row C 84 (cC base size cur ob ol)) (row C 84 (cC base size cur ob ol)) (atW a) L cb51 (fun x _ => atT_spec (row C 84 (cC base size cur ob ol)) (row C 84 (cC base size cur ob ol)) (row C 84 (cC base size cur ob ol)) b3 a x) hL hlen) cb42 [] [(false, 0), (false, 1), (true, 3), (false, 0), (false, 0)] [9] [] rfl rfl rfl rfl rfl rfl rfl rfl (fun _ _ => rfl) (fun _ _ _ => rfl) rfl (fun v9 _ => ?_)
  refine r_p (p_assign rfl) rfl ?_
  refine r_nil ?_
  refine r_seq ?_
  refine r_seq ?_
  refine r_region ?_
  refine r_p (p_move rfl) rfl ?_
  refine r_p (p_len_sl Try.underlying39 rfl (hs_own (k := 9) rfl)) rfl ?_
  refine r_p (p_bin rfl rfl b_eq) rfl ?_
  refine r_nil ?_
  refine r_cond rfl (fun h1 => ?_) (fun h1 => ?_)
  · exact absurd h1 (by rw [hf]; simp; try omega)
  · (try simp only [decide_eq_true_eq, decide_eq_false_iff_not, Bool.and_eq_true, Bool.or_eq_true, Bool.and_eq_false_iff, Bool.or_eq_false_iff, Bool.not_eq_true, Bool.not_eq_false, Bool.not_eq_true', Bool.not_eq_false', Bool.not_not, bne_iff_ne, beq_iff_eq] at h1)
    refine r_skip ?_
    refine r_seq ?_
    refine r_region ?_
    refine r_p (p_move rfl) rfl ?_
    refine r_p (p_idx_sl (j := 0) Try.underlying39 t54 rfl rfl (hs_own (k := 9) rfl) (by rfl) (by rw [hf]; simp)) rfl ?_
    refine r_p (p_loadA t54 rfl rfl rfl (g_el' (hs_own (k := 9) rfl) (by intro _; rfl) (show _ = some x by rw [hf]; rfl) (by rfl))) rfl ?_
    refine r_store_all (k := 4) t54 rfl rfl rfl rfl rfl rfl ?_
    refine r_p (p_assign rfl) rfl ?_
    refine r_nil ?_
    refine r_cret ?_
    refine r_ret () trivial rfl (rs2 (rv_cellA t54 rfl rfl rfl (g_all (k := 4) rfl)) (rv_tmp rfl)) rfl [] [] rfl rfl rfl
set_option maxRecDepth 100000 in
theorem used_spec (C : Nat) (base size cur : Int) (ob ol : Option Nat) (L : List En) (hL : L.Pairwise fun x y => offW base x < offW base y) (hlen : L.length < 40) (hb : ∀ x ∈ L, x.bytes.size ≤ 4294967296) :
    Spec Try.prog 31 [.pointer (some ⟨C, 0, none⟩)] [] [row C 84 (cC base size cur ob ol), mpB ob L] (X := Unit) (fun _ => True) (fun _ => .int .i64 (usedL L)) (fun _ => []) (fun _ => []) := by
  refine r_enter Try.func31 rfl Try.ntmps31 rfl fun w0 M H => ?_
  refine r_seq ?_
  refine r_region ?_
  refine r_p (p_assign rfl) rfl ?_
  refine r_nil ?_
  refine r_seq ?_
  refine r_region ?_
  refine r_p (p_assign rfl) rfl ?_
  refine r_nil ?_
  refine r_seq ?_
  refine r_seq ?_
  refine r_region ?_
  refine r_p (p_move rfl) rfl ?_
  refine r_call (xs := [.tmp 6]) (all_spec C base size cur ob ol L hL hlen) cb26 [] [(false, 0), (false, 1)] [7] [] rfl rfl rfl rfl rfl rfl rfl rfl (fun _ _ => rfl) (fun _ _ _ => rfl) rfl (fun v7 _ => ?_)
  refine r_p (p_len_sl Try.underlying39 rfl (hs_own (k := 7) rfl)) rfl ?_
  refine r_p (p_move rfl) rfl ?_
  refine r_nil ?_
  refine r_block ?_
  refine r_loop (X := Nat) (fun k => k ≤ L.length) (fun k => [(3, .int .i64 (usedL (L.take k))), (7, sv v7), (8, .int .i64 (L.length : Int)), (9, .int .i64 (k : Int))]) (fun k => [(7, own 54 36 eEnt (sv v7) L)]) (fun k => []) (fun k => L.length - k) 0 (Nat.zero_le _) rfl rfl rfl (fun k hk0 => ?_)
  refine r_seq ?_
  refine r_region ?_
  refine r_p (p_bin rfl rfl b_lt) rfl ?_
  refine r_nil ?_
  refine r_seq ?_
  refine r_cond rfl (fun h1 => ?_) (fun h1 => ?_)
  · (try simp only [decide_eq_true_eq, decide_eq_false_iff_not, Bool.and_eq_true, Bool.or_eq_true, Bool.and_eq_false_iff, Bool.or_eq_false_iff, Bool.not_eq_true, Bool.not_eq_false, Bool.not_eq_true', Bool.not_eq_false', Bool.not_not, bne_iff_ne, beq_iff_eq] at h1)
    have hk : k < L.length := by omega
    have hub := usedL_bd hb hlen k
    have hxb : (L.getD k dE).bytes.size ≤ 4294967296 := hb _ (by rw [List.getD_eq_getElem?_getD, List.getElem?_eq_getElem hk]; exact List.getElem_mem hk)
    refine r_skip ?_
    refine r_seq ?_
    refine r_block ?_
    refine r_seq ?_
    refine r_region ?_
    refine r_p (p_idx_sl (j := k) Try.underlying39 t54 rfl rfl (hs_own (k := 7) rfl) (by first | rfl | omega) (by first | omega | (simp; done) | (simp; omega))) rfl ?_
    refine r_p (p_loadA t54 rfl rfl rfl (g_el' (hs_own (k := 7) rfl) (by intro _; rfl) (getD_get dE (by omega)) (by rfl))) rfl ?_
    refine r_alloc t54 rfl rfl fun b5 => ?_
    refine r_store_all (k := 5) t54 rfl rfl rfl rfl rfl rfl ?_
    refine r_nil ?_
    refine r_region ?_
    refine r_p (p_move rfl) rfl ?_
    refine r_p (p_field0 fo54_4 rfl) rfl ?_
    refine r_p (p_field fo52_0 rfl) rfl ?_
    refine r_p (p_load1 t9 rfl rfl (g_row1 (k := 5) rfl rfl)) rfl ?_
    refine r_p (p_len_str Try.underlying9 rfl) rfl ?_
    refine r_p (p_bin rfl rfl (b_add (by first | exact w_i64 (by omega) (by omega) | rfl))) rfl ?_
    refine r_p (p_assign rfl) rfl ?_
    refine r_nil ?_
    refine r_region ?_
    refine r_p (p_bin rfl rfl (b_add (by first | exact w_i64 (by omega) (by omega) | rfl))) rfl ?_
    refine r_p (p_move rfl) rfl ?_
    refine r_nil ?_
    refine r_here (k + 1) ⟨by omega, by omega⟩ (by rw [usedL_take hk]; rfl) rfl rfl
  · (try simp only [decide_eq_true_eq, decide_eq_false_iff_not, Bool.and_eq_true, Bool.or_eq_true, Bool.and_eq_false_iff, Bool.or_eq_false_iff, Bool.not_eq_true, Bool.not_eq_false, Bool.not_eq_true', Bool.not_eq_false', Bool.not_not, bne_iff_ne, beq_iff_eq] at h1)
    have hk : k = L.length := by omega
    subst hk
    refine r_exit ?_
    refine r_seq ?_
    refine r_region ?_
    refine r_p (p_move rfl) rfl ?_
    refine r_p (p_assign rfl) rfl ?_
    refine r_nil ?_
    refine r_cret ?_
    refine r_ret () trivial rfl (rs1 (rv_tmp rfl)) (by rw [List.take_length]) [] [] rfl rfl rfl

end Go.Proofs.Ytbkonlkffajhkaa
