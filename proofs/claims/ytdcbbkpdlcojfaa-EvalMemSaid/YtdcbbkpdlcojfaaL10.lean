/-
  The law of mem. Condition: words.
-/
import Derived.Test.YtdcbbkpdlcojfaaB2
import Derived.Test.YtdcbbkpdlcojfaaKN
import Derived.Test.YtdcbbkpdlcojfaaKL
namespace Go.Proofs.Ytdcbbkpdlcojfaa
set_option linter.unusedSimpArgs false
set_option linter.unusedVariables false
open Go.RowKit

theorem arr_sl {b : Nat} {S : TypeId} {m : Nat → Int} (o : Nat) (ho : o = 0 := by rfl) : ∀ w G, (arr b S 256 (fun j => .int .u32 (m j))).pred w G → (∀ b, G b → b < w.heap.size) → ∃ G', (sl 1 eU (sv ⟨some ⟨b, 0, none⟩, 256, 256⟩) ((List.range 256).map m)).pred w G' ∧ ∀ b, G' b → G b := fun w G h _ => by
  obtain ⟨h1, c, h2, h3, h4⟩ := h
  refine ⟨G, ⟨256, by simp, by unfold maxLen; omega, .inr ⟨b, 0, by simp; rfl, (h1 b).2 rfl, fun j u hj => ?_⟩⟩, fun _ hb => hb⟩
  rw [flat_eU, List.map_map, List.getElem?_map] at hj
  by_cases hj2 : j < 256
  · rw [List.getElem?_range hj2] at hj
    have h5 := h4 j hj2
    simp only [World.cell?, h2, Nat.zero_add]
    rw [← hj]
    exact h5
  · rw [List.getElem?_eq_none (by simp; omega)] at hj
    cases hj
def eP2 (p : Int × Int) : List Value := [.int .u32 p.1, .int .u32 p.2]
/-- The parts of statements can be read. -/
def ysA (l : List Ty) : Asn := ⟨fun w F => TysIn w F l, fun h hs => TysIn.mono (fun _ hb => hb) hs _ h⟩
theorem ys_snoc {w : World} {F : Nat → Prop} : ∀ {l : List Ty} {t : Ty}, TysIn w F l → TyIn w F t → TysIn w F (l ++ [t])
  | [], t, _, ht => ⟨ht, trivial⟩
  | a :: r, t, h, ht => ⟨h.1, ys_snoc h.2 ht⟩
theorem ys_up {w : World} {F G : Nat → Prop} {l : List Ty} (h : (ysA l).pred w G) (hs : ∀ b, G b → F b) : TysIn w F l := TysIn.mono hs (fun _ _ => rfl) l h
theorem put_all {sq : List SV} {v : SV} (w : World) (F : Nat → Prop) (h : AllIn w F [ysA (sq.map putS), own 57 4 eTx (sv v) [tIn, tIn]]) : (ysA ((sq ++ [v]).map putS)).pred w F := by
  obtain ⟨⟨_, a0, b0⟩, ⟨_, a1, b1⟩, _⟩ := h
  have hx : TxIn w F tIn := ⟨nil_in, trivial⟩
  have hny : SlIn' w F 5 eTy (sv nilS) [] ∧ TysIn w F [] := ⟨nil_in, trivial⟩
  show TysIn w F ((sq ++ [v]).map putS)
  rw [List.map_append]
  exact ys_snoc (ys_up a0 b0) ⟨⟨own_in a1 b1, hx, hx, trivial⟩, hny, hny⟩
theorem out_all {sq : List SV} {os : List (Int × SV × SV)} {a : Int} {u v : SV} (w : World) (F : Nat → Prop) (h : AllIn w F [ysA (memB9 sq os), own 57 4 eTx (sv u) [tNum a], own 57 4 eTx (sv v) [memX u a]]) : (ysA (memB9 sq (os ++ [(a, u, v)]))).pred w F := by
  obtain ⟨⟨_, a0, b0⟩, ⟨_, a1, b1⟩, ⟨_, a2, b2⟩, _⟩ := h
  have hn : TxIn w F (tNum a) := ⟨nil_in, trivial⟩
  have hny : SlIn' w F 5 eTy (sv nilS) [] ∧ TysIn w F [] := ⟨nil_in, trivial⟩
  show TysIn w F (sq.map putS ++ (os ++ [(a, u, v)]).map outS)
  rw [List.map_append, ← List.append_assoc]
  exact ys_snoc (ys_up a0 b0) ⟨⟨own_in a2 b2, ⟨own_in a1 b1, hn, trivial⟩, trivial⟩, hny, hny⟩
theorem prog_all {sq : List SV} {os : List (Int × SV × SV)} {vb vp : SV} (w : World) (F : Nat → Prop) (h : AllIn w F [own 64 3 eTf (sv vp) [fMain vb (memB9 sq os)], own 54 5 eTy (sv vb) (memB9 sq os), ysA (memB9 sq os)]) : (tfsA vp [fMain vb (memB9 sq os)]).pred w F := by
  obtain ⟨⟨_, a0, b0⟩, ⟨_, a1, b1⟩, ⟨_, a2, b2⟩, _⟩ := h
  refine ⟨own_in a0 b0, fun f hf => ?_⟩
  rw [List.mem_singleton.1 hf]
  exact ⟨nil_in, own_in a1 b1, ys_up a2 b2⟩
theorem want_set (m : Nat → Int) (a b : Int) : fset (fun j => .int .u32 (m j)) (a % 256).toNat (.int .u32 b) = fun j => .int .u32 (mput m (a % 256).toNat b j) := by
  funext j
  unfold fset mput
  split <;> rfl
theorem flatP_take {l : List (Int × Int)} {i : Nat} {p : Int × Int} (h : l[i]? = some p) : flatP (l.take (i + 1)) = flatP (l.take i) ++ [p.1, p.2] := by rw [take_snoc h, flatP_app]; rfl
theorem wantM_take {l : List (Int × Int)} {i : Nat} {p : Int × Int} (m : Nat → Int) (h : l[i]? = some p) : wantM m (l.take (i + 1)) = mput (wantM m (l.take i)) (p.1 % 256).toNat p.2 := by rw [take_snoc h, wantM_app]; rfl
theorem flatP_len : ∀ l : List (Int × Int), (flatP l).length = 2 * l.length
  | [] => rfl
  | p :: r => by simp [flatP, flatP_len r]; omega
theorem flatP_ok {l : List (Int × Int)} (h : ∀ p ∈ l, oW p.1 ∧ oW p.2) : ∀ x ∈ flatP l, oW x := by
  induction l with
  | nil => intro x hx; simp [flatP] at hx
  | cons p r ih =>
    intro x hx
    simp only [flatP, List.mem_cons] at hx
    rcases hx with rfl | rfl | hx
    · exact (h p (by simp)).1
    · exact (h p (by simp)).2
    · exact ih (fun q hq => h q (by simp [hq])) x hx
set_option maxHeartbeats 8000000 in
set_option maxRecDepth 100000 in
theorem mem_law (v0 : SV) (l0 : List (Int × Int)) (hl0 : ∀ p ∈ l0, oW p.1 ∧ oW p.2) :
    Spec Try.prog 10 [sv v0] [] [sl 2 eP2 (sv v0) l0] (X := Unit) (fun _ => True) (fun _ => .bool true) (fun _ => []) (fun _ => []) := by
  refine r_enter Try.func10 rfl Try.ntmps10 rfl fun w0 M H => ?_
  obtain ⟨m, hm⟩ : ∃ m : Nat, min l0.length 20 = m := ⟨_, rfl⟩
  refine r_seq ?_
  refine r_region ?_
  refine r_p (p_assign rfl) rfl ?_
  refine r_nil ?_
  refine r_seq ?_
  refine r_region ?_
  refine r_callN (xs := []) sanity_spec cb12 [] [] [] rfl rfl rfl rfl rfl rfl rfl rfl (fun _ _ => rfl) (fun _ _ _ => rfl) rfl (fun _ _ => ?_)
  refine r_p (p_assign rfl) rfl ?_
  refine r_nil ?_
  refine r_seq ?_
  refine r_region ?_
  refine r_p (p_move rfl) rfl ?_
  refine r_p (p_move rfl) rfl ?_
  refine r_p (p_len_sl Try.underlying68 rfl (hs_sl (k := 0) rfl)) rfl ?_
  refine r_p (p_min rfl rfl rfl) rfl ?_
  refine r_slice_hi (j := m) 0 19 Try.underlying68 t70 (by intro _; rfl) rfl rfl (by omega) (by omega) rfl rfl fun v19 => ?_
  obtain ⟨l, hl⟩ : ∃ l, l0.take m = l := ⟨_, rfl⟩
  have hll : l.length ≤ 20 := by rw [← hl, List.length_take]; omega
  have hlo : ∀ p ∈ l, oW p.1 ∧ oW p.2 := fun p hp => hl0 p (by rw [← hl] at hp; exact List.mem_of_mem_take hp)
  rw [hl]
  refine r_p (p_assign rfl) rfl ?_
  refine r_nil ?_
  refine r_seq ?_
  refine r_region ?_
  refine r_p (p_assign rfl) rfl ?_
  refine r_nil ?_
  refine r_seq ?_
  refine r_region ?_
  refine r_alloc_arr (n := 256) (u := (.int .u32 0)) t69 rfl rfl fun b5 => ?_
  refine r_nil ?_
  refine r_seq ?_
  refine r_region ?_
  refine r_p (p_build (parts := [(0, .const (.int .i64 5))]) t57 pl57 rfl rfl) rfl ?_
  refine r_alloc t57 rfl rfl fun b6 => ?_
  refine r_store_all (k := 6) t57 rfl rfl rfl rfl rfl rfl ?_
  refine r_nil ?_
  refine r_seq ?_
  refine r_region ?_
  refine r_p (p_assign rfl) rfl ?_
  refine r_nil ?_
  refine r_seq ?_
  refine r_seq ?_
  refine r_region ?_
  refine r_p (p_assign rfl) rfl ?_
  refine r_nil ?_
  refine r_block ?_
  refine r_nilown 4 (α := Ty) (S := 54) (s := 5) (enc := eTy) ?_
  refine r_nilown 7 (α := Int) (S := 22) (s := 1) (enc := eU) ?_
  refine r_collect 40 [] (L := []) (C := ysA []) rfl (fun _ _ _ => trivial) ?_
  refine r_loop (X := Nat × SV × SV × List SV) (fun x => x.1 ≤ l.length ∧ x.2.2.2.length = x.1) (fun x => [(0, sv v19), (3, .bool true), (5, .pointer (some ⟨b5, 0, none⟩)), (6, .pointer (some ⟨b6, 0, none⟩)), (4, sv x.2.1), (7, sv x.2.2.1), (8, .int .i64 (x.1 : Int))]) (fun x => [(4, own 54 5 eTy (sv x.2.1) (x.2.2.2.map putS)), (40, ysA (x.2.2.2.map putS)), (5, arr b5 69 256 (fun j => .int .u32 (wantM (fun _ => 0) (l.take x.1) j))), (6, row b6 57 (eTx tIn)), (7, own 22 1 eU (sv x.2.2.1) (flatP (l.take x.1)))]) (fun x => [(19, sl 2 eP2 (sv v19) l)]) (fun x => l.length - x.1) (0, nilS, nilS, []) ⟨Nat.zero_le _, rfl⟩ rfl rfl rfl (fun x hx0 => ?_)
  obtain ⟨i, vb, vin, sq⟩ := x
  obtain ⟨n1, n2⟩ := hx0
  dsimp only at n1 n2 ⊢
  refine r_seq ?_
  refine r_seq ?_
  refine r_region ?_
  refine r_p (p_move rfl) rfl ?_
  refine r_p (p_move rfl) rfl ?_
  refine r_p (p_len_sl Try.underlying68 rfl (hs_sl (k := 19) rfl)) rfl ?_
  refine r_p (p_bin rfl rfl b_lt) rfl ?_
  refine r_nil ?_
  refine r_cond rfl (fun h1 => ?_) (fun h1 => ?_)
  · (try simp only [decide_eq_true_eq, decide_eq_false_iff_not, Bool.and_eq_true, Bool.or_eq_true, Bool.and_eq_false_iff, Bool.or_eq_false_iff, Bool.not_eq_true, Bool.not_eq_false, Bool.not_eq_true', Bool.not_eq_false', Bool.not_not, bne_iff_ne, beq_iff_eq] at h1)
    have hi : i < l.length := by omega
    obtain ⟨p, hp⟩ : ∃ p, l[i]? = some p := ⟨_, List.getElem?_eq_getElem hi⟩
    refine r_skip ?_
    refine r_seq ?_
    refine r_block ?_
    refine r_seq ?_
    refine r_region ?_
    refine r_p (p_move rfl) rfl ?_
    refine r_p (p_loadA t57 rfl rfl rfl (g_all (k := 6) rfl)) rfl ?_
    refine r_p (p_loadA t57 rfl rfl rfl (g_all (k := 6) rfl)) rfl ?_
    refine r_bslice eTx [tIn, tIn] (parts := [(0, .tmp 28), (1, .tmp 29)]) Try.underlying51 t57 rfl (by decide) (by intro _; rfl) rfl (by decide) (by decide) rfl rfl rfl rfl fun v30 => ?_
    refine r_p (p_build (parts := [(0, .const (.int .i64 3)), (2, .tmp 30)]) t54 pl54 rfl rfl) rfl ?_
    refine r_bslice1 eTy (putS v30) Try.underlying52 t54 rfl (by decide) (by decide) rfl rfl rfl rfl fun v32 => ?_
    refine r_append 4 Try.underlying52 t54 rfl (by decide) (fun _ => rfl) (fun _ => rfl) rfl rfl rfl (hs_own (k := 32) rfl) (by rw [List.length_map, List.length_singleton]; omega) (by unfold maxLen; rw [List.length_map, List.length_singleton]; omega) rfl fun v33 => ?_
    refine r_p (p_assign rfl) rfl ?_
    refine r_nil ?_
    refine r_seq ?_
    refine r_draw [34, 35, 36, 37, 38, 39, 40, 41, 42, 43, 44, 45, 46] _ rfl (stg_mem (V := [(0, 34, _), (1, 35, _), (2, 36, _), (3, 37, _), (4, 38, _), (5, 39, _), (6, 40, _), (7, 41, _), (8, 42, _), (9, 43, _), (10, 44, _)]) [0, 1, 2, 3, 4, 5, 6, 7, 8, 9, 10] 11 [11, 10, 9, 8, 7, 6, 5, 4, 3, 2, 1] [] (fun v45 => []) rfl rfl (prs_cons (pri rfl (p_move rfl)) (prs_cons (pri rfl (p_move rfl)) (prs_cons (pri rfl (p_move rfl)) (prs_cons (pri rfl (p_idx_sl (j := i) Try.underlying68 t70 rfl rfl (hs_sl (k := 19) rfl) (by first | rfl | omega) (by first | omega | (simp; done) | (simp; omega)))) (prs_cons (pri rfl (p_idx_arr (j := 0) Try.underlying70 t22 rfl rfl (by rfl) (by decide))) (prs_cons (pri rfl (p_load1 t22 rfl rfl (g_elp (o := 0) (hs_sl (k := 19) rfl) (by intro _; rfl) hp rfl))) (prs_cons (pri rfl (p_move rfl)) (prs_cons (pri rfl (p_move rfl)) (prs_cons (pri rfl (p_idx_sl (j := i) Try.underlying68 t70 rfl rfl (hs_sl (k := 19) rfl) (by first | rfl | omega) (by first | omega | (simp; done) | (simp; omega)))) (prs_cons (pri rfl (p_idx_arr (j := 1) Try.underlying70 t22 rfl rfl (by rfl) (by decide))) (prs_cons (pri rfl (p_load1 t22 rfl rfl (g_elp (o := 1) (hs_sl (k := 19) rfl) (by intro _; rfl) hp rfl))) prs_nil))))))))))) rfl rfl rfl rfl rfl rfl rfl rfl rfl rfl rfl (fun _ _ => rfl) rfl (ms_bslice eU [p.1, p.2] (parts := [(0, .tmp 39), (1, .tmp 44)]) Try.underlying35 t22 rfl (by decide) (by intro _; rfl) rfl (by decide) (by decide) rfl rfl rfl) (fun v45 _ => stg_mem [0] 12 [12, 11, 10, 9, 8, 7, 6, 5, 4, 3, 2, 1, 0] [] (fun v46 => []) rfl rfl (prs_cons (pri rfl (p_move rfl)) prs_nil) rfl rfl rfl rfl rfl rfl rfl rfl rfl rfl rfl (fun _ _ => rfl) rfl (ms_append 7 Try.underlying35 t22 rfl (by decide) (fun _ => rfl) (fun _ => rfl) rfl rfl rfl (hs_own (k := 45) rfl) (by rw [flatP_len, List.length_take]; simp only [List.length_cons, List.length_nil]; omega) (by unfold maxLen; rw [flatP_len, List.length_take]; simp only [List.length_cons, List.length_nil]; omega)) (fun v46 _ => stg_last [] 13 [13, 12, 11, 10, 9, 8, 7, 6, 5, 4, 3, 2, 1, 0] rfl rfl prs_nil rfl rfl rfl rfl rfl rfl rfl rfl (p_assign rfl) ?_)))
    refine r_draw [47, 48, 49, 50, 51, 52, 53, 54, 55, 56, 57, 58] _ rfl (stg_mem0 (V := [(0, 47, _), (1, 48, _), (2, 49, _), (3, 50, _), (4, 51, _), (5, 52, _), (6, 53, _), (7, 54, _), (8, 55, _), (9, 56, _), (10, 57, _), (11, 58, _)]) [0, 1, 2, 3, 4, 5, 6, 7, 8, 9, 10, 11] 12 [12, 11, 10, 9, 8, 7, 6, 5, 4, 3, 2, 1, 0] [] (fun _ => []) rfl rfl (prs_cons (pri rfl (p_move rfl)) (prs_cons (pri rfl (p_move rfl)) (prs_cons (pri rfl (p_idx_sl (j := i) Try.underlying68 t70 rfl rfl (hs_sl (k := 19) rfl) (by first | rfl | omega) (by first | omega | (simp; done) | (simp; omega)))) (prs_cons (pri rfl (p_idx_arr (j := 0) Try.underlying70 t22 rfl rfl (by rfl) (by decide))) (prs_cons (pri rfl (p_load1 t22 rfl rfl (g_elp (o := 0) (hs_sl (k := 19) rfl) (by intro _; rfl) hp rfl))) (prs_cons (pri rfl (p_bin rfl rfl (b_rem (by decide) (tmod_u32 (hlo p (List.mem_of_getElem? hp)).1)))) (prs_cons (pri rfl (p_move rfl)) (prs_cons (pri rfl (p_move rfl)) (prs_cons (pri rfl (p_idx_sl (j := i) Try.underlying68 t70 rfl rfl (hs_sl (k := 19) rfl) (by first | rfl | omega) (by first | omega | (simp; done) | (simp; omega)))) (prs_cons (pri rfl (p_idx_arr (j := 1) Try.underlying70 t22 rfl rfl (by rfl) (by decide))) (prs_cons (pri rfl (p_load1 t22 rfl rfl (g_elp (o := 1) (hs_sl (k := 19) rfl) (by intro _; rfl) hp rfl))) (prs_cons (pri rfl (p_idx_arr1 (j := (p.1 % 256).toNat) Try.underlying69 t22 rfl rfl (by have := (hlo p (List.mem_of_getElem? hp)).1.1; omega) (by omega))) prs_nil)))))))))))) rfl rfl rfl rfl rfl rfl rfl rfl rfl (fun _ _ => rfl) rfl (ms_store_arr (k := 5) t22 rfl rfl rfl rfl rfl (by omega)) (fun _ _ => stg_end [] rfl rfl prs_nil rfl rfl rfl ?_))
    refine r_region ?_
    refine r_p (p_move rfl) rfl ?_
    refine r_p (p_bin rfl rfl (b_add (by first | exact w_i64 (by omega) (by omega) | rfl))) rfl ?_
    refine r_p (p_assign rfl) rfl ?_
    refine r_nil ?_
    refine r_collect 40 [40, 30] rfl put_all ?_
    refine r_here (i + 1, v33, v46, sq ++ [v30]) ⟨⟨by dsimp only; omega, by dsimp only; rw [List.length_append, List.length_singleton, n2]⟩, by dsimp only; omega⟩ rfl (by dsimp only; rw [wantM_take _ hp, ← want_set, flatP_take hp, List.map_append]; rfl) rfl
  · (try simp only [decide_eq_true_eq, decide_eq_false_iff_not, Bool.and_eq_true, Bool.or_eq_true, Bool.and_eq_false_iff, Bool.or_eq_false_iff, Bool.not_eq_true, Bool.not_eq_false, Bool.not_eq_true', Bool.not_eq_false', Bool.not_not, bne_iff_ne, beq_iff_eq] at h1)
    have hi : i = l.length := by omega
    subst hi
    rw [List.take_length]
    refine r_exit ?_
    refine r_seq ?_
    refine r_seq ?_
    refine r_region ?_
    refine r_p (p_assign rfl) rfl ?_
    refine r_nil ?_
    refine r_block ?_
    refine r_loop (X := Nat × SV × List (Int × SV × SV)) (fun x => x.1 ≤ l.length ∧ x.2.2.map (fun o => o.1) = (l.take x.1).map (fun p => p.1)) (fun x => [(0, sv v19), (3, .bool true), (5, .pointer (some ⟨b5, 0, none⟩)), (6, .pointer (some ⟨b6, 0, none⟩)), (4, sv x.2.1), (7, sv vin), (9, .int .i64 (x.1 : Int))]) (fun x => [(4, own 54 5 eTy (sv x.2.1) (memB9 sq x.2.2)), (40, ysA (memB9 sq x.2.2)), (5, arr b5 69 256 (fun j => .int .u32 (wantM (fun _ => 0) (l) j))), (7, own 22 1 eU (sv vin) (flatP l))]) (fun x => [(19, sl 2 eP2 (sv v19) l)]) (fun x => l.length - x.1) (0, vb, []) ⟨Nat.zero_le _, rfl⟩ rfl (by dsimp only; rw [show memB9 sq [] = sq.map putS from List.append_nil _]; rfl) rfl (fun x hx0 => ?_)
    obtain ⟨i, vb, os⟩ := x
    obtain ⟨n1, n3⟩ := hx0
    dsimp only at n1 n3 ⊢
    have hol0 : os.length = (l.take i).length := by simpa using congrArg List.length n3
    rw [List.length_take] at hol0
    refine r_seq ?_
    refine r_seq ?_
    refine r_region ?_
    refine r_p (p_move rfl) rfl ?_
    refine r_p (p_move rfl) rfl ?_
    refine r_p (p_len_sl Try.underlying68 rfl (hs_sl (k := 19) rfl)) rfl ?_
    refine r_p (p_bin rfl rfl b_lt) rfl ?_
    refine r_nil ?_
    refine r_cond rfl (fun h2 => ?_) (fun h2 => ?_)
    · (try simp only [decide_eq_true_eq, decide_eq_false_iff_not, Bool.and_eq_true, Bool.or_eq_true, Bool.and_eq_false_iff, Bool.or_eq_false_iff, Bool.not_eq_true, Bool.not_eq_false, Bool.not_eq_true', Bool.not_eq_false', Bool.not_not, bne_iff_ne, beq_iff_eq] at h2)
      have hi : i < l.length := by omega
      obtain ⟨p, hp⟩ : ∃ p, l[i]? = some p := ⟨_, List.getElem?_eq_getElem hi⟩
      refine r_skip ?_
      refine r_seq ?_
      refine r_block ?_
      refine r_region ?_
      refine r_p (p_move rfl) rfl ?_
      refine r_p (p_move rfl) rfl ?_
      refine r_p (p_move rfl) rfl ?_
      refine r_p (p_idx_sl (j := i) Try.underlying68 t70 rfl rfl (hs_sl (k := 19) rfl) (by first | rfl | omega) (by first | omega | (simp; done) | (simp; omega))) rfl ?_
      refine r_p (p_idx_arr (j := 0) Try.underlying70 t22 rfl rfl (by rfl) (by decide)) rfl ?_
      refine r_p (p_load1 t22 rfl rfl (g_elp (o := 0) (hs_sl (k := 19) rfl) (by intro _; rfl) hp rfl)) rfl ?_
      refine r_callN (xs := [.tmp 70]) (num_spec p.1) cb25 [] [] [] rfl rfl rfl rfl rfl rfl rfl rfl (fun _ _ => rfl) (fun _ _ _ => rfl) rfl (fun _ _ => ?_)
      refine r_bslice1 eTx (tNum p.1) Try.underlying51 t57 rfl (by decide) (by decide) rfl rfl rfl rfl fun v72 => ?_
      refine r_p (p_build (parts := [(0, .const (.int .i64 4)), (3, .tmp 72)]) t57 pl57 rfl rfl) rfl ?_
      refine r_callN (xs := [.tmp 73]) (output_spec (memX v72 p.1)) cb24 [] [] [74] rfl rfl rfl rfl rfl rfl rfl rfl (fun _ _ => rfl) (fun _ _ _ => rfl) rfl (fun v74 _ => ?_)
      refine r_bslice1 eTy (outS (p.1, v72, v74)) Try.underlying52 t54 rfl (by decide) (by decide) rfl rfl rfl rfl fun v75 => ?_
      refine r_append 4 Try.underlying52 t54 rfl (by decide) (fun _ => rfl) (fun _ => rfl) rfl rfl rfl (hs_own (k := 75) rfl) (by simp only [List.length_append, List.length_map, List.length_singleton]; omega) (by unfold maxLen; simp only [List.length_append, List.length_map, List.length_singleton]; omega) rfl fun v76 => ?_
      refine r_p (p_assign rfl) rfl ?_
      refine r_nil ?_
      refine r_region ?_
      refine r_p (p_move rfl) rfl ?_
      refine r_p (p_bin rfl rfl (b_add (by first | exact w_i64 (by omega) (by omega) | rfl))) rfl ?_
      refine r_p (p_assign rfl) rfl ?_
      refine r_nil ?_
      refine r_collect 40 [40, 72, 74] rfl out_all ?_
      refine r_here (i + 1, v76, os ++ [(p.1, v72, v74)]) ⟨⟨by dsimp only; omega, by dsimp only; rw [List.map_append, n3, take_snoc hp, List.map_append]; rfl⟩, by dsimp only; omega⟩ rfl (by dsimp only; rw [show memB9 sq (os ++ [(p.1, v72, v74)]) = memB9 sq os ++ [outS (p.1, v72, v74)] by show sq.map putS ++ (os ++ [(p.1, v72, v74)]).map outS = (sq.map putS ++ os.map outS) ++ [outS (p.1, v72, v74)]; rw [List.map_append, List.append_assoc]; rfl]; rfl) rfl
    · (try simp only [decide_eq_true_eq, decide_eq_false_iff_not, Bool.and_eq_true, Bool.or_eq_true, Bool.and_eq_false_iff, Bool.or_eq_false_iff, Bool.not_eq_true, Bool.not_eq_false, Bool.not_eq_true', Bool.not_eq_false', Bool.not_not, bne_iff_ne, beq_iff_eq] at h2)
      have hi : i = l.length := by omega
      subst hi
      rw [List.take_length] at n3
      have hol : os.length = l.length := by omega
      have hoo : ∀ o ∈ os, oW o.1 := fun o ho => by
        have h1 : o.1 ∈ os.map (fun o => o.1) := List.mem_map_of_mem ho
        rw [n3] at h1
        obtain ⟨q, hq, hq2⟩ := List.mem_map.1 h1
        rw [← hq2]
        exact (hlo q hq).1
      refine r_exit ?_
      refine r_seq ?_
      refine r_region ?_
      refine r_p (p_move rfl) rfl ?_
      refine r_callN (xs := [.tmp 78]) (main_spec vb (memB9 sq os)) cb23 [] [] [79] rfl rfl rfl rfl rfl rfl rfl rfl (fun _ _ => rfl) (fun _ _ _ => rfl) rfl (fun v79 _ => ?_)
      refine r_collect 50 [79, 4, 40] rfl prog_all ?_
      refine r_freeze 7 93 rfl own_to_sl ?_
      have hrun := memB_run (vb := vb) (sl := sq) (os := os) hll n2 n3
      refine r_p (p_move rfl) rfl ?_
      refine r_callN (xs := [.tmp 79, .tmp 80, .const (.int .i64 1000)]) (run_spec v79 vin [fMain vb (memB9 sq os)] (flatP l) 1000 (memB_gp (by rw [n2, hol]; omega) hoo) (flatP_ok hlo) (by rw [flatP_len]; omega) (by decide) _ hrun) cb20 [] [(true, 50), (false, 93)] [60, 61] rfl rfl rfl rfl rfl rfl rfl rfl (fun _ _ => rfl) (fun _ _ _ => rfl) rfl (fun ⟨ra, rb⟩ _ => ?_)
      refine r_p (p_move rfl) rfl ?_
      refine r_p (p_extract rfl rfl) rfl ?_
      refine r_p (p_extract rfl rfl) rfl ?_
      refine r_p (p_extract rfl rfl) rfl ?_
      refine r_p (p_assign rfl) rfl ?_
      refine r_p (p_assign rfl) rfl ?_
      refine r_p (p_assign rfl) rfl ?_
      refine r_nil ?_
      refine r_seq ?_
      refine r_seq ?_
      refine r_region ?_
      refine r_p (p_move rfl) rfl ?_
      refine r_p (p_bin rfl rfl b_ne) rfl ?_
      refine r_p (p_move rfl) rfl ?_
      refine r_gp [] rfl rfl trivial (fun hg3 => p_move rfl) rfl ?_
      refine r_gp [(88, _)] rfl rfl ⟨rfl, trivial⟩ (fun hg4 => p_len_sl Try.underlying35 rfl (hs_own (k := 60) rfl)) rfl ?_
      refine r_gp [(88, _), (89, _)] rfl rfl ⟨rfl, rfl, trivial⟩ (fun hg5 => p_move rfl) rfl ?_
      refine r_gp [(88, _), (89, _), (90, _)] rfl rfl ⟨rfl, rfl, rfl, trivial⟩ (fun hg6 => p_len_sl Try.underlying68 rfl (hs_sl (k := 19) rfl)) rfl ?_
      refine r_gp [(88, _), (89, _), (90, _), (91, _)] rfl rfl ⟨rfl, rfl, rfl, rfl, trivial⟩ (fun hg7 => p_bin rfl rfl b_ne) rfl ?_
      refine r_p (p_pick rfl rfl rfl (by first | exact pick_and | exact pick_or |  rfl)) rfl ?_
      refine r_nil ?_
      refine r_cond rfl (fun h8 => ?_) (fun h8 => ?_)
      · exact absurd h8 (by simp)
      · refine r_skip ?_
        refine r_seq ?_
        refine r_seq ?_
        refine r_region ?_
        refine r_p (p_assign rfl) rfl ?_
        refine r_nil ?_
        refine r_block ?_
        refine r_loop (X := Nat) (fun i => i ≤ l.length) (fun i => [(0, sv v19), (3, .bool true), (5, .pointer (some ⟨b5, 0, none⟩)), (10, sv ra), (11, sv rb), (13, .int .i64 (i : Int))]) (fun i => [(5, arr b5 69 256 (fun j => .int .u32 (wantM (fun _ => 0) (l) j))), (60, own 22 1 eU (sv ra) (l.map fun p => wantM (fun _ => 0) l (p.1 % 256).toNat)), (61, own 22 1 eU (sv rb) ((List.range 256).map (wantM (fun _ => 0) l)))]) (fun i => [(19, sl 2 eP2 (sv v19) l)]) (fun i => l.length - i) 0 (Nat.zero_le _) rfl rfl rfl (fun i n1 => ?_)
        refine r_seq ?_
        refine r_seq ?_
        refine r_region ?_
        refine r_p (p_move rfl) rfl ?_
        refine r_p (p_move rfl) rfl ?_
        refine r_p (p_len_sl Try.underlying68 rfl (hs_sl (k := 19) rfl)) rfl ?_
        refine r_p (p_bin rfl rfl b_lt) rfl ?_
        refine r_nil ?_
        refine r_cond rfl (fun h9 => ?_) (fun h9 => ?_)
        · (try simp only [decide_eq_true_eq, decide_eq_false_iff_not, Bool.and_eq_true, Bool.or_eq_true, Bool.and_eq_false_iff, Bool.or_eq_false_iff, Bool.not_eq_true, Bool.not_eq_false, Bool.not_eq_true', Bool.not_eq_false', Bool.not_not, bne_iff_ne, beq_iff_eq] at h9)
          have hi : i < l.length := by omega
          obtain ⟨p, hp⟩ : ∃ p, l[i]? = some p := ⟨_, List.getElem?_eq_getElem hi⟩
          refine r_skip ?_
          refine r_seq ?_
          refine r_block ?_
          refine r_seq ?_
          refine r_draw [100, 101, 102, 103, 104, 105, 106, 107, 108, 109, 110, 111, 112] _ rfl (stg_end (V := [(0, 100, _), (1, 101, _), (2, 102, _), (3, 103, _), (4, 104, _), (5, 105, _), (6, 106, _), (7, 107, _), (8, 108, _), (9, 109, _), (10, 110, _), (11, 111, _), (12, 112, _)]) [0, 1, 2, 3, 4, 5, 6, 7, 8, 9, 10, 11, 12] rfl rfl (prs_cons (pri rfl (p_move rfl)) (prs_cons (pri rfl (p_move rfl)) (prs_cons (pri rfl (p_idx_sl (j := i) Try.underlying35 t22 rfl rfl (hs_own (k := 60) rfl) (by first | rfl | omega) (by rw [List.length_map]; omega))) (prs_cons (pri rfl (p_load1 t22 rfl rfl (g_el' (hs_own (k := 60) rfl) (by intro _; rfl) (show (l.map fun p => wantM (fun _ => 0) l (p.1 % 256).toNat)[i]? = some (wantM (fun _ => 0) l (p.1 % 256).toNat) by rw [List.getElem?_map, hp]; rfl) (by rfl)))) (prs_cons (pri rfl (p_move rfl)) (prs_cons (pri rfl (p_move rfl)) (prs_cons (pri rfl (p_idx_sl (j := i) Try.underlying68 t70 rfl rfl (hs_sl (k := 19) rfl) (by first | rfl | omega) (by first | omega | (simp; done) | (simp; omega)))) (prs_cons (pri rfl (p_idx_arr (j := 0) Try.underlying70 t22 rfl rfl (by rfl) (by decide))) (prs_cons (pri rfl (p_load1 t22 rfl rfl (g_elp (o := 0) (hs_sl (k := 19) rfl) (by intro _; rfl) hp rfl))) (prs_cons (pri rfl (p_bin rfl rfl (b_rem (by decide) (tmod_u32 (hlo p (List.mem_of_getElem? hp)).1)))) (prs_cons (pri rfl (p_idx_arr1 (j := (p.1 % 256).toNat) Try.underlying69 t22 rfl rfl (by have := (hlo p (List.mem_of_getElem? hp)).1.1; omega) (by omega))) (prs_cons (pri rfl (p_load1 t22 rfl rfl (g_arr1 (k := 5) rfl (by omega)))) (prs_cons (pri rfl (p_bin rfl rfl b_ne)) prs_nil))))))))))))) rfl rfl rfl ?_)
          refine r_cond rfl (fun h10 => ?_) (fun h10 => ?_)
          · exact absurd h10 (by simp)
          · refine r_skip ?_
            refine r_region ?_
            refine r_p (p_move rfl) rfl ?_
            refine r_p (p_bin rfl rfl (b_add (by first | exact w_i64 (by omega) (by omega) | rfl))) rfl ?_
            refine r_p (p_assign rfl) rfl ?_
            refine r_nil ?_
            refine r_here (i + 1) ⟨by omega, by omega⟩ rfl rfl rfl
        · (try simp only [decide_eq_true_eq, decide_eq_false_iff_not, Bool.and_eq_true, Bool.or_eq_true, Bool.and_eq_false_iff, Bool.or_eq_false_iff, Bool.not_eq_true, Bool.not_eq_false, Bool.not_eq_true', Bool.not_eq_false', Bool.not_not, bne_iff_ne, beq_iff_eq] at h9)
          have hi : i = l.length := by omega
          subst hi
          refine r_freeze 5 95 rfl (fun _ _ h => h) ?_
          refine r_more 95 96 rfl (arr_sl (o := 0) (m := wantM (fun _ => 0) l)) ?_
          refine r_exit ?_
          refine r_seq ?_
          refine r_region ?_
          refine r_p (p_move rfl) rfl ?_
          refine r_p (p_move rfl) rfl ?_
          refine r_gyes rfl rfl ?_
          refine r_p (p_move rfl) rfl ?_
          refine r_gyes rfl rfl ?_
          refine r_p (p_slice_arr Try.underlying69 t22 rfl (by decide)) rfl ?_
          refine r_gyes rfl rfl ?_
          refine r_freeze 61 97 rfl own_to_sl ?_
          refine r_callN (xs := [.tmp 115, .tmp 116]) (rwords_spec rb ⟨some ⟨b5, 0, none⟩, 256, 256⟩ ((List.range 256).map (wantM (fun _ => 0) l)) ((List.range 256).map (wantM (fun _ => 0) l)) (by simp)) cb21 [] [(false, 97), (false, 96)] [] rfl rfl rfl rfl rfl rfl rfl rfl (fun _ _ => rfl) (fun _ _ _ => rfl) rfl (fun _ _ => ?_)
          refine r_p (p_pick rfl rfl rfl (pick_t rfl)) rfl ?_
          refine r_p (p_assign rfl) rfl ?_
          refine r_nil ?_
          refine r_cret ?_
          refine r_ret () trivial rfl (rs1 (rv_tmp rfl)) (congrArg Value.bool (by simp)) [] [] rfl rfl rfl

end Go.Proofs.Ytdcbbkpdlcojfaa
