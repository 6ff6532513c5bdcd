/-
  Run. Conditions: the program can be checked, the inputs are words.
-/
import Derived.Test.YtdcbbkpdlcojfaaAV
namespace Go.Proofs.Ytdcbbkpdlcojfaa
set_option linter.unusedSimpArgs false
set_option linter.unusedVariables false
open Go.RowKit

section
variable {P : Program} {N : Nat} {w0 : World} {M H : Nat → Prop} {E : Env} {Γ R : Ctx} {Q : Exit → Act → World → Prop} {ds : List Deferred}
theorem r_drawMD {id : Nat} {l : List Oper} (rt rg : List Nat) (dl : List Nat) (V : Vals) (h1 : topoM .any rt l = true) (h2 : topoM .text rt l = true) (h3 : topoM .gc rg l = true) (h : Stg P N w0 M H (edel dl E) Γ R l (fun e a w => Q e (more ds a) w) V []) : AtD ds N w0 M H E Γ R ((Code.region id l.toArray true).wp P Q) := by
  intro a w hE hC
  refine wp_region_draw fun t => wpOps_more P ds l.toArray Q _ a _ (h _ (fun _ => false) a _ (sched_ordM _ l rt rg h1 h2 h3 t) ⟨(fun i hi => by cases hi), (fun i hi => by simp at hi), (fun i o _ hi => by cases hi), hE.del dl, (fun i d v _ hi => by cases hi), hC.stay ⟨rfl, rfl, rfl, Nat.le_refl _, fun _ _ _ => rfl⟩⟩)
theorem r_cretD (h : AtD ds N w0 M H E Γ R (Q .ret)) : AtD ds N w0 M H E Γ R (Code.ret.wp P Q) := fun a w hE hC => wp_ret (h a w hE hC)
theorem r_enterD {n : Nat} {fn : Func} {c : Code} {vs : List Value} {L R0 : List Asn} {X : Type} {φ : X → Prop} {v : X → Fin} {L' R' : X → List Asn} (hf : P.funcs[n]? = some fn) (hb : fn.body = some c) (hN : fn.ntmps = N) (hv : Nat.ble vs.length N = true)
    (h : ∀ w0 M H, At N w0 M H (aenv 0 vs) (cenv 0 L) (cenv 0 R0) (c.wp P (bodyPostD P fn (RetE w0 M H φ v L' R')))) : SpecE P n vs L R0 φ v L' R' := by
  intro w M H hL
  have key : ∀ (K : Ending → World → Prop), At N w M H (aenv 0 vs) (cenv 0 L) (cenv 0 R0) (c.wp P (bodyPostD P fn K)) → Calls P n vs.toArray w K := fun K hK => by
    refine calls_of_wp_defers hf hb (hK _ _ ⟨rfl, ?_, fun t u ht => ?_⟩ ?_)
    · simp only [Array.size_append, Array.size_replicate]
      have := Nat.le_of_ble_eq_true hv
      simp only [List.size_toArray]
      omega
    · obtain ⟨h1, h2⟩ := aenv_get ht
      simp only [Nat.sub_zero] at h2
      rw [Array.getElem?_append_left (by have := (List.getElem?_eq_some_iff.1 h2).1; simpa using this)]
      simpa using h2
    · obtain ⟨F, hF⟩ := hL
      refine ⟨F, hF.touch, fun k A hk => hF.has k A ?_, hF.lt, hF.mine, hF.apart, fun k A hk => hF.ro k A ?_⟩
      · simpa using (cenv_get hk).2
      · simpa using (cenv_get hk).2
  exact key _ (h w M H)
end
theorem flat_eU : ∀ l : List Int, l.flatMap eU = l.map fun x => Value.int .u32 x
  | [] => rfl
  | a :: r => by rw [List.flatMap_cons, flat_eU r]; rfl
theorem mC_sl {mf mu mb : Nat} {vi vo : SV} {mem : Nat → Int} {fuel d : Int} {rt : Bool} {val : Int} : ((mC mf mu mb vi vo mem fuel d rt val).drop 5).take (((List.range 256).map mem).flatMap eU).length = ((List.range 256).map mem).flatMap eU := by
  rw [flat_eU, List.map_map]
  show List.take _ ((List.range 256).map (fun i => Value.int .u32 (mem i)) ++ _) = _
  rw [List.take_append_of_le_length (by simp), List.take_of_length_le (by simp)]
  rfl
theorem perm_new {l : List Tf} {f : Tf} {i : Nat} (hu : ∀ (j : Nat) (f : Tf), l[j]? = some f → fix l f.name = (j : Int)) (hi : l[i]? = some f) : (f :: (l.take i).filter fun a => decide (a.name ≠ f.name)).Perm (l.take (i + 1)) := by
  have h1 : (l.take i).filter (fun a => decide (a.name ≠ f.name)) = l.take i := by
    rw [List.filter_eq_self]
    intro a ha
    obtain ⟨j, hj, rfl⟩ := List.mem_iff_getElem.1 ha
    rw [List.length_take] at hj
    rw [List.getElem_take]
    have hj2 : l[j]? = some l[j] := List.getElem?_eq_getElem (by omega)
    have e1 := hu j _ hj2
    have e2 := hu i _ hi
    simp only [ne_eq, decide_eq_true_eq]
    intro e
    rw [e] at e1
    omega
  rw [h1, take_snoc hi]
  exact List.perm_append_comm (l₁ := [f])
set_option maxHeartbeats 16000000 in
set_option maxRecDepth 100000 in
theorem run_bad (vp vin : SV) (fs : List Tf) (ins : List Int) (fuel : Int) (hg : GP fs) (hi : ∀ x ∈ ins, oW x) (hil : ins.length ≤ 1000000) (hf : -9000000000000000000 ≤ fuel ∧ fuel ≤ 1000000000000) (hc : chk fs ≠ 0) :
    SpecE Try.prog 20 [.agg #[sv vp], sv vin, .int .i64 fuel] [] [tfsA vp fs, sl 1 eU (sv vin) ins] (X := SV × SV) (fun _ => True) (fun x => .ret (.tuple #[sv x.1, sv x.2, .int .i64 (⟨chk fs, [], []⟩ : Ru).err])) (fun x => [own 22 1 eU (sv x.1) (⟨chk fs, [], []⟩ : Ru).out, own 22 1 eU (sv x.2) (⟨chk fs, [], []⟩ : Ru).mem]) (fun _ => []) := by
  refine r_enterD Try.func20 rfl Try.ntmps20 rfl fun w0 M H => ?_
  refine r_seq ?_
  refine r_region ?_
  refine r_boxA rfl rfl fun b3 => ?_
  refine r_alloc t35 rfl rfl fun b6 => ?_
  refine r_alloc t35 rfl rfl fun b7 => ?_
  refine r_alloc t43 rfl rfl fun b8 => ?_
  refine r_nil ?_
  refine r_seq ?_
  refine r_region ?_
  refine r_p (p_loadA t40 rfl rfl rfl (g_all (k := 3) rfl)) rfl ?_
  refine r_call (xs := [.tmp 12]) (check_spec vp fs hg) cb36 [] [(false, 0)] [] [] rfl rfl rfl rfl rfl rfl rfl rfl (fun _ _ => rfl) (fun _ _ _ => rfl) rfl (fun _ _ => ?_)
  refine r_store_row (k := 8) t43 rfl rfl rfl rfl rfl rfl rfl rfl ?_
  refine r_nil ?_
  refine r_seq ?_
  refine r_seq ?_
  refine r_region ?_
  refine r_p (p_load1 t43 rfl rfl (g_row1 (k := 8) rfl rfl)) rfl ?_
  refine r_p (p_bin rfl rfl b_ne) rfl ?_
  refine r_nil ?_
  refine r_cond rfl (fun h1 => ?_) (fun h1 => ?_)
  · (try simp only [decide_eq_true_eq, decide_eq_false_iff_not, Bool.and_eq_true, Bool.or_eq_true, Bool.and_eq_false_iff, Bool.or_eq_false_iff, Bool.not_eq_true, Bool.not_eq_false, Bool.not_eq_true', Bool.not_eq_false', Bool.not_not, bne_iff_ne, beq_iff_eq] at h1)
    refine r_seq ?_
    refine r_drawM [0, 1, 2, 3] [0, 1, 2, 3] [16] _ rfl rfl rfl (stg_mem0 (V := [(0, 16, _)]) [0] 1 [1] [] (fun _ => []) rfl rfl (prs_cons (pri rfl (p_load1 t43 rfl rfl (g_row1 (k := 8) rfl rfl))) prs_nil) rfl rfl rfl rfl rfl rfl rfl rfl rfl (fun _ _ => rfl) rfl (ms_store_row (k := 6) t35 rfl rfl rfl rfl rfl rfl rfl rfl) (fun _ _ => stg_mem0 [0] 2 [2, 1] [] (fun _ => []) rfl rfl (prs_cons (pri rfl (p_load1 t43 rfl rfl (g_row1 (k := 8) rfl rfl))) prs_nil) rfl rfl rfl rfl rfl rfl rfl rfl rfl (fun _ _ => rfl) rfl (ms_store_row (k := 7) t35 rfl rfl rfl rfl rfl rfl rfl rfl) (fun _ _ => stg_mem0 [0] 3 [3, 2, 1, 0] [] (fun _ => []) rfl rfl (prs_cons (pri rfl (p_load1 t43 rfl rfl (g_row1 (k := 8) rfl rfl))) prs_nil) rfl rfl rfl rfl rfl rfl rfl rfl rfl (fun _ _ => rfl) rfl (ms_store_row (k := 8) t43 rfl rfl rfl rfl rfl rfl rfl rfl) (fun _ _ => stg_end [] rfl rfl prs_nil rfl rfl rfl ?_))))
    refine r_cret ?_
    refine r_nilown 20 (α := Int) (S := 22) (s := 1) (enc := eU) ?_
    refine r_nilown 21 (α := Int) (S := 22) (s := 1) (enc := eU) ?_
    refine r_ret0D (nilS, nilS) trivial rfl (rs3 (rv_cell1 t35 rfl rfl (g_row1 (k := 6) rfl rfl)) (rv_cell1 t35 rfl rfl (g_row1 (k := 7) rfl rfl)) (rv_cell1 t43 rfl rfl (g_row1 (k := 8) rfl rfl))) rfl [20, 21] [] rfl rfl rfl
  · exact absurd (by simpa using h1) hc
theorem mR_0 (m mf mu mb : Nat) (vin : SV) (ins : List Int) (fs : List Tf) (fuel : Int) : mR ⟨m, mf, mu, mb, vin, ins, fs⟩ (ms0 ins fuel) nilS 0 false 0 = mC mf mu mb vin nilS (fun _ => 0) fuel 0 false 0 := by
  unfold mR ms0
  dsimp only
  rw [Nat.sub_self]
  rfl
set_option maxHeartbeats 16000000 in
set_option maxRecDepth 100000 in
theorem run_ok (vp vin : SV) (fs : List Tf) (ins : List Int) (fuel : Int) (hg : GP fs) (hi : ∀ x ∈ ins, oW x) (hil : ins.length ≤ 1000000) (hf : -9000000000000000000 ≤ fuel ∧ fuel ≤ 1000000000000) (hc : chk fs = 0) (f : Tf) (hm : Fine fs f) (g : Nat) (r : Re Int) (hr : evC g fs 0 f [] (ms0 ins fuel) = some r) :
    SpecE Try.prog 20 [.agg #[sv vp], sv vin, .int .i64 fuel] [] [tfsA vp fs, sl 1 eU (sv vin) ins] (X := SV × SV) (fun _ => True) (fun x => .ret (.tuple #[sv x.1, sv x.2, .int .i64 (ruOf r).err])) (fun x => [own 22 1 eU (sv x.1) (ruOf r).out, own 22 1 eU (sv x.2) (ruOf r).mem]) (fun _ => []) := by
  refine r_enterD Try.func20 rfl Try.ntmps20 rfl fun w0 M H => ?_
  refine r_more 0 2 rfl tfs_sl ?_
  have hfl := hg.1
  refine r_seq ?_
  refine r_region ?_
  refine r_boxA rfl rfl fun b3 => ?_
  refine r_alloc t35 rfl rfl fun b6 => ?_
  refine r_alloc t35 rfl rfl fun b7 => ?_
  refine r_alloc t43 rfl rfl fun b8 => ?_
  refine r_nil ?_
  refine r_seq ?_
  refine r_region ?_
  refine r_p (p_loadA t40 rfl rfl rfl (g_all (k := 3) rfl)) rfl ?_
  refine r_call (xs := [.tmp 12]) (check_spec vp fs hg) cb36 [] [(false, 0)] [] [] rfl rfl rfl rfl rfl rfl rfl rfl (fun _ _ => rfl) (fun _ _ _ => rfl) rfl (fun _ _ => ?_)
  refine r_store_row (k := 8) t43 rfl rfl rfl rfl rfl rfl rfl rfl ?_
  refine r_nil ?_
  refine r_seq ?_
  refine r_seq ?_
  refine r_region ?_
  refine r_p (p_load1 t43 rfl rfl (g_row1 (k := 8) rfl rfl)) rfl ?_
  refine r_p (p_bin rfl rfl b_ne) rfl ?_
  refine r_nil ?_
  refine r_cond rfl (fun h1 => ?_) (fun h1 => ?_)
  · exact absurd hc (by simpa using h1)
  · (try simp only [decide_eq_true_eq, decide_eq_false_iff_not, Bool.and_eq_true, Bool.or_eq_true, Bool.and_eq_false_iff, Bool.or_eq_false_iff, Bool.not_eq_true, Bool.not_eq_false, Bool.not_eq_true', Bool.not_eq_false', Bool.not_not, bne_iff_ne, beq_iff_eq] at h1)
    refine r_skip ?_
    refine r_seq ?_
    refine r_region ?_
    refine r_makeMap Tf.name mkS tfV rfl fun b17 => ?_
    refine r_call (xs := []) unaries_spec cb31 [] [] [18] [] rfl rfl rfl rfl rfl rfl rfl rfl (fun _ _ => rfl) (fun _ _ _ => rfl) rfl (fun bu _ => ?_)
    refine r_call (xs := []) binaries_spec cb32 [] [] [19] [] rfl rfl rfl rfl rfl rfl rfl rfl (fun _ _ => rfl) (fun _ _ _ => rfl) rfl (fun bb _ => ?_)
    refine r_p (p_move rfl) rfl ?_
    refine r_p (p_move rfl) rfl ?_
    refine r_p (p_build (cs := (mC b17 bu bb vin nilS (fun _ => 0) fuel 0 false 0).toArray) (parts := [(0, .tmp 17), (1, .tmp 18), (2, .tmp 19), (3, .tmp 20), (6, .tmp 21)]) t92 pl92 rfl (by kernel_rfl)) rfl ?_
    refine r_boxA rfl rfl fun b23 => ?_
    refine r_p (p_assign rfl) rfl ?_
    refine r_nil ?_
    refine r_seq ?_
    refine r_seq ?_
    refine r_region ?_
    refine r_p (p_field0 fo40_0 rfl) rfl ?_
    refine r_p (p_load1 t38 rfl rfl (g_row1 (k := 3) rfl rfl)) rfl ?_
    refine r_p (p_len_sl Try.underlying38 rfl (hs_sl (k := 2) rfl)) rfl ?_
    refine r_p (p_move rfl) rfl ?_
    refine r_nil ?_
    refine r_block ?_
    refine r_loop (X := Nat) (fun i => i ≤ fs.length) (fun i => [(3, .pointer (some ⟨b3, 0, none⟩)), (6, .pointer (some ⟨b6, 0, none⟩)), (7, .pointer (some ⟨b7, 0, none⟩)), (8, .pointer (some ⟨b8, 0, none⟩)), (9, .pointer (some ⟨b23, 0, none⟩)), (25, sv vp), (26, .int .i64 (fs.length : Int)), (27, .int .i64 (i : Int))]) (fun i => [(3, row b3 40 [sv vp]), (6, row b6 35 [sv nilS]), (7, row b7 35 [sv nilS]), (8, row b8 43 [.int .i64 (chk fs)]), (17, mp mkS Tf.name tfV (some b17) (fs.take i)), (18, mp mkS Prod.fst vF (some bu) uL), (19, mp mkS Prod.fst vF (some bb) bL), (23, row b23 92 (mC b17 bu bb vin nilS (fun _ => 0) fuel 0 false 0))]) (fun i => [(0, tfsA vp fs), (1, sl 1 eU (sv vin) ins), (2, sl 3 eTf (sv vp) fs)]) (fun i => fs.length - i) 0 (Nat.zero_le _) rfl rfl rfl (fun i n1 => ?_)
    refine r_seq ?_
    refine r_region ?_
    refine r_p (p_bin rfl rfl b_lt) rfl ?_
    refine r_nil ?_
    refine r_seq ?_
    refine r_cond rfl (fun h2 => ?_) (fun h2 => ?_)
    · (try simp only [decide_eq_true_eq, decide_eq_false_iff_not, Bool.and_eq_true, Bool.or_eq_true, Bool.and_eq_false_iff, Bool.or_eq_false_iff, Bool.not_eq_true, Bool.not_eq_false, Bool.not_eq_true', Bool.not_eq_false', Bool.not_not, bne_iff_ne, beq_iff_eq] at h2)
      have hi2 : i < fs.length := by omega
      obtain ⟨f2, hst⟩ : ∃ k, fs[i]? = some k := ⟨_, List.getElem?_eq_getElem hi2⟩
      refine r_skip ?_
      refine r_seq ?_
      refine r_block ?_
      refine r_seq ?_
      refine r_region ?_
      refine r_p (p_idx_sl (j := i) Try.underlying38 t64 rfl rfl (hs_sl (k := 2) rfl) (by first | rfl | omega) (by first | omega | (simp; done) | (simp; omega))) rfl ?_
      refine r_p (p_loadA t64 rfl rfl rfl (g_el' (hs_sl (k := 2) rfl) (by intro _; rfl) hst (by rfl))) rfl ?_
      refine r_alloc t64 rfl rfl fun b11 => ?_
      refine r_store_all (k := 11) t64 rfl rfl rfl rfl rfl rfl ?_
      refine r_nil ?_
      refine r_draw [31, 32, 33, 34, 35, 36, 37] _ rfl (stg_mem0 (V := [(0, 31, _), (1, 32, _), (2, 33, _), (3, 34, _), (4, 35, _), (5, 36, _), (6, 37, _)]) [0, 1, 2, 3, 4, 5, 6] 7 [7, 6, 5, 4, 3, 2, 1, 0] [] (fun _ => []) rfl rfl (prs_cons (pri rfl (p_move rfl)) (prs_cons (pri rfl (p_nilCheck rfl)) (prs_cons (pri rfl (p_field0 fo92_0 rfl)) (prs_cons (pri rfl (p_load1 t90 rfl rfl (g_row1 (k := 23) rfl rfl))) (prs_cons (pri rfl (p_field0 fo64_0 rfl)) (prs_cons (pri rfl (p_load1 t9 rfl rfl (g_row1 (k := 11) rfl rfl))) (prs_cons (pri rfl (p_loadA t64 rfl rfl rfl (g_all (k := 11) rfl))) prs_nil))))))) rfl rfl rfl rfl rfl rfl rfl rfl rfl (fun _ _ => rfl) rfl (ms_mapUpdate (k := 17) f2 (fs.take (i + 1)) Try.underlying90 keyS rfl rfl rfl rfl (perm_new hm.once hst)) (fun _ _ => stg_end [] rfl rfl prs_nil rfl rfl rfl ?_))
      refine r_region ?_
      refine r_p (p_bin rfl rfl (b_add (by first | exact w_i64 (by omega) (by omega) | rfl))) rfl ?_
      refine r_p (p_move rfl) rfl ?_
      refine r_nil ?_
      refine r_here (i + 1) ⟨by omega, by omega⟩ rfl rfl rfl
    · (try simp only [decide_eq_true_eq, decide_eq_false_iff_not, Bool.and_eq_true, Bool.or_eq_true, Bool.and_eq_false_iff, Bool.or_eq_false_iff, Bool.not_eq_true, Bool.not_eq_false, Bool.not_eq_true', Bool.not_eq_false', Bool.not_not, bne_iff_ne, beq_iff_eq] at h2)
      have hi2 : i = fs.length := by omega
      subst hi2
      rw [List.take_length]
      refine r_exit ?_
      refine r_seq ?_
      refine r_region ?_
      refine r_p (p_makeFunc (first := []) (cap := [.tmp 6, .tmp 7, .tmp 8]) rfl rfl) rfl ?_
      refine r_defer (rest := []) rfl ?_
      refine r_seqD ?_
      refine r_regionD ?_
      refine r_p (p_move rfl) rfl ?_
      refine r_p (p_move rfl) rfl ?_
      refine r_p (p_nilCheck rfl) rfl ?_
      refine r_p (p_field0 fo92_0 rfl) rfl ?_
      refine r_p (p_load1 t90 rfl rfl (g_row1 (k := 23) rfl rfl)) rfl ?_
      refine r_p (p_lookup Try.underlying90 keyS t64 rfl rfl (hm_own (k := 17) rfl) hm.main) rfl ?_
      refine r_more 0 4 rfl tfs_fns ?_
      refine r_more 0 5 rfl (tfs_f (ffind_mem hm.main)) ?_
      refine r_nilsl 30 (α := Int) (s := 1) (enc := eU) ?_
      refine r_nilown 22 (α := Int) (S := 22) (s := 1) (enc := eU) ?_
      refine r_conva (k := 23) (A' := row b23 92 (mR (⟨b23, b17, bu, bb, vin, ins, fs⟩ : En) (ms0 ins fuel) nilS 0 false 0)) rfl (fun _ _ h => by rw [mR_0]; exact h) ?_
      refine r_callE (xs := [.tmp 40, .tmp 45, .const (.slice Option.none 0 0)]) (hc_all (e := (⟨b23, b17, bu, bb, vin, ins, fs⟩ : En)) hm.vf g f 0 nilS [] (ms0 ins fuel) nilS r (ffind_mem hm.main) (by simp) (by simp) (by omega) (ms0_ok hi hf.2) ⟨0, Nat.zero_le _, rfl⟩ hr) cb38 [23, 22] [(false, 30), (false, 5), (false, 4), (true, 17), (true, 18), (true, 19), (false, 1)] [23, 22] [] rfl rfl rfl rfl rfl rfl rfl rfl (fun o _ => lX_len o) (fun _ _ _ => rfl) rfl (fun o ho => ?_)
      rcases o with ⟨a, s, vo2⟩ | ⟨z, c, vo2, l⟩
      rotate_left
      · refine aft_pan ?_
        have hq : r = .err z := ho
        subst hq
        dsimp only [ruOf]
        refine r_nilown 20 (α := Int) (S := 22) (s := 1) (enc := eU) ?_
        refine r_nilown 21 (α := Int) (S := 22) (s := 1) (enc := eU) ?_
        refine r_norm [(6, .pointer (some ⟨b6, 0, none⟩)), (7, .pointer (some ⟨b7, 0, none⟩)), (8, .pointer (some ⟨b8, 0, none⟩))] [(6, row b6 35 [sv nilS]), (7, row b7 35 [sv nilS]), (8, row b8 43 [.int .i64 (chk fs)]), (20, own 22 1 eU (sv nilS) []), (21, own 22 1 eU (sv nilS) [])] [] rfl rfl rfl ?_
        show AtD [{ target := .fn (.func 37) #[.pointer (some ⟨b6, 0, none⟩), .pointer (some ⟨b7, 0, none⟩), .pointer (some ⟨b8, 0, none⟩)], args := #[] }] _ _ _ _ _ _ _ (bodyPostD Try.prog Try.f20 _ (.panic _))
        refine r_out1D (fun w hC => run1_pan b6 b7 b8 _ _ _ _ z w hC) cb37 (nilS, nilS) trivial rfl (rs3 (rv_cell1 t35 rfl rfl (g_row1 (k := 6) rfl rfl)) (rv_cell1 t35 rfl rfl (g_row1 (k := 7) rfl rfl)) (rv_cell1 t43 rfl rfl (g_row1 (k := 8) rfl rfl))) rfl [20, 21] [] rfl rfl rfl
      refine aft_ret ?_
      have hq : r = .ok a s := ho
      subst hq
      refine r_freeze 23 40 rfl (fun _ _ h => h) ?_
      refine r_more 40 41 rfl (row_sl (o := 5) (s := 1) (enc := eU) (n := 256) (l := (List.range 256).map s.mem) (by simp) (by unfold maxLen; omega) mC_sl) ?_
      refine r_nil ?_
      refine r_seqD ?_
      refine r_drawMD [0, 1, 2, 3, 4, 5, 6, 7, 8, 9, 10, 11] [0, 1, 2, 3, 4, 5, 6, 7, 8, 9, 10, 11] [47, 48, 49, 50, 51, 52, 53, 54, 55] _ rfl rfl rfl (stg_mem (V := [(0, 47, _), (1, 48, _), (2, 49, _), (3, 50, _), (4, 51, _), (5, 52, _), (6, 53, _), (7, 54, _)]) [0, 1, 2, 3, 4, 5, 6, 7] 8 [8, 7, 6, 5, 4] [] (fun v55 => []) rfl rfl (prs_cons (pri rfl (p_move rfl)) (prs_cons (pri rfl (p_nilCheck rfl)) (prs_cons (pri rfl (p_field0 fo92_4 rfl)) (prs_cons (pri rfl (p_load1 t35 rfl rfl (g_row1R (k := 40) rfl rfl))) (prs_cons (pri rfl (p_move rfl)) (prs_cons (pri rfl (p_nilCheck rfl)) (prs_cons (pri rfl (p_field0 fo92_5 rfl)) (prs_cons (pri rfl (p_slice_arr Try.underlying69 t22 rfl (by decide))) prs_nil)))))))) rfl rfl rfl rfl rfl rfl rfl rfl rfl rfl rfl (fun _ _ => rfl) rfl (ms_call (xs := [.tmp 54]) (clone_spec ⟨some ⟨b23, 5, none⟩, 256, 256⟩ ((List.range 256).map s.mem) (by simp)) cb39 [] [(false, 41)] [55] [] rfl rfl rfl rfl rfl rfl rfl rfl (fun _ _ => rfl) (fun _ _ _ => rfl)) (fun v55 _ => stg_mem0 [0, 1, 2, 3] 9 [9, 8, 7, 6, 5, 4, 3, 2, 1, 0] [] (fun _ => []) rfl rfl (prs_cons (pri rfl (p_move rfl)) (prs_cons (pri rfl (p_nilCheck rfl)) (prs_cons (pri rfl (p_field0 fo92_4 rfl)) (prs_cons (pri rfl (p_load1 t35 rfl rfl (g_row1R (k := 40) rfl rfl))) prs_nil)))) rfl rfl rfl rfl rfl rfl rfl rfl rfl (fun _ _ => rfl) rfl (ms_store_row (k := 6) t35 rfl rfl rfl rfl rfl rfl rfl rfl) (fun _ _ => stg_mem0 [] 10 [10, 9, 8, 7, 6, 5, 4, 3, 2, 1, 0] [] (fun _ => []) rfl rfl prs_nil rfl rfl rfl rfl rfl rfl rfl rfl rfl (fun _ _ => rfl) rfl (ms_store_row (k := 7) t35 rfl rfl rfl rfl rfl rfl rfl rfl) (fun _ _ => stg_mem0 [] 11 [11, 10, 9, 8, 7, 6, 5, 4, 3, 2, 1, 0] [] (fun _ => []) rfl rfl prs_nil rfl rfl rfl rfl rfl rfl rfl rfl rfl (fun _ _ => rfl) rfl (ms_store_row (k := 8) t43 rfl rfl rfl rfl rfl rfl rfl rfl) (fun _ _ => stg_end [] rfl rfl prs_nil rfl rfl rfl ?_)))))
      refine r_cretD ?_
      refine r_ret1D (fun w hC => run1_ret b6 b7 b8 w hC) cb37 (vo2, v55) trivial rfl (rs3 (rv_cell1 t35 rfl rfl (g_row1 (k := 6) rfl rfl)) (rv_cell1 t35 rfl rfl (g_row1 (k := 7) rfl rfl)) (rv_cell1 t43 rfl rfl (g_row1 (k := 8) rfl rfl))) rfl [22, 55] [] rfl rfl rfl
theorem run_spec (vp vin : SV) (fs : List Tf) (ins : List Int) (fuel : Int) (hg : GP fs) (hi : ∀ x ∈ ins, oW x) (hil : ins.length ≤ 1000000) (hf : -9000000000000000000 ≤ fuel ∧ fuel ≤ 1000000000000) (ru : Ru) (hru : RunIs fs ins fuel ru) :
    Spec Try.prog 20 [.agg #[sv vp], sv vin, .int .i64 fuel] [] [tfsA vp fs, sl 1 eU (sv vin) ins] (X := SV × SV) (fun _ => True) (fun x => .tuple #[sv x.1, sv x.2, .int .i64 ru.err]) (fun x => [own 22 1 eU (sv x.1) ru.out, own 22 1 eU (sv x.2) ru.mem]) (fun _ => []) := by
  cases hru with
  | bad h => exact (run_bad vp vin fs ins fuel hg hi hil hf h).toSpec _ fun _ _ => rfl
  | run f g r h hfm he =>
    obtain ⟨f2, hf2⟩ := chk_fine hg h
    have : f2 = f := by
      have := hf2.main
      rw [hfm] at this
      exact (Option.some.inj this).symm
    subst this
    exact (run_ok vp vin fs ins fuel hg hi hil hf h f2 hf2 g r he).toSpec _ fun _ _ => rfl

end Go.Proofs.Ytdcbbkpdlcojfaa
