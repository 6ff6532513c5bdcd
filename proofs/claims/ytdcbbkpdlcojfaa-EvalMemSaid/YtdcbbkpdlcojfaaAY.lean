/-
  The examples. No condition.
-/
import Derived.Test.YtdcbbkpdlcojfaaAX
namespace Go.Proofs.Ytdcbbkpdlcojfaa
set_option linter.unusedSimpArgs false
set_option linter.unusedVariables false
open Go.RowKit

structure Sv6 where
  v0 : SV
  v1 : SV
  v2 : SV
  v3 : SV
  v4 : SV
  b : Nat
theorem nmB_of {s : ByteArray} (h : (s.data.toList.all (fun b => decide (b.toNat < 128)) && decide (s.size ≤ 1000000)) = true) : nmB s := by
  simp only [Bool.and_eq_true, decide_eq_true_eq, List.all_eq_true] at h
  refine ⟨fun i hi => ?_, h.2⟩
  refine h.1 (s[i]'hi) ?_
  have : s[i]'hi = s.data.toList[i]'(by simpa using hi) := by simp [ByteArray.getElem_eq_getElem_data]
  rw [this]
  exact List.getElem_mem _
theorem gx_num {n : Int} (h : oW n) : GX (tNum n) := ⟨h, nmB_of rfl, Nat.zero_le _, trivial⟩
theorem gx_name {s : ByteArray} (h : nmB s) : GX (tName s) := ⟨oW0, h, Nat.zero_le _, trivial⟩
theorem gx_in : GX tIn := ⟨oW0, nmB_of rfl, Nat.zero_le _, trivial⟩
theorem gx_bin {op : ByteArray} {v : SV} {a b : Tx} (h : nmB op) (ha : GX a) (hb : GX b) : GX (tBin op v a b) := ⟨oW0, h, by show 2 ≤ 1000000; decide, ha, hb, trivial⟩
theorem gy_one {k : Int} {nm : ByteArray} {ve : SV} {t : Tx} (h : nmB nm) (ht : GX t) : GY (.mk k nm ve [t] nilS [] nilS []) := ⟨h, ⟨by show 1 ≤ 1000000; decide, ht, trivial⟩, ⟨Nat.zero_le _, trivial⟩, Nat.zero_le _, trivial⟩
theorem gp_main {vb : SV} {l : List Ty} (hl : l.length ≤ 1000000) (hg : GYs l) (hn : nYs l ≤ 1000000) : GP [fMain vb l] := ⟨by show 1 ≤ 1000000; decide, fun f hf => by
  rw [List.mem_singleton.1 hf]
  exact ⟨nmB_of rfl, fun s hs => by simp at hs, Nat.zero_le _, hl, hg, by show 0 + nYs l ≤ 1000000; omega⟩⟩
abbrev sf1 (v0 v1 v2 v3 : SV) : List Tf := [fMain v3 [yOut v2 (tBin oSub v1 tIn (tBin oMul v0 tIn (tNum 2)))]]
theorem sf1_gp (v0 v1 v2 v3 : SV) : GP (sf1 v0 v1 v2 v3) := gp_main (by show 1 ≤ 1000000; decide) ⟨gy_one (nmB_of rfl) (gx_bin (nmB_of rfl) gx_in (gx_bin (nmB_of rfl) gx_in (gx_num (by decide)))), trivial⟩ (by show 6 ≤ 1000000; decide)
theorem sf1_chk (v0 v1 v2 v3 : SV) : chk (sf1 v0 v1 v2 v3) = 0 := by kernel_rfl
theorem sf1_ev (v0 v1 v2 v3 : SV) : evC 40 (sf1 v0 v1 v2 v3) 0 (fMain v3 [yOut v2 (tBin oSub v1 tIn (tBin oMul v0 tIn (tNum 2)))]) [] (ms0 [7, 5] 100) = some (.ok 0 ⟨[], [4294967293], fun _ => 0, 94⟩) := by kernel_rfl
theorem sf1_run (v0 v1 v2 v3 : SV) : RunIs (sf1 v0 v1 v2 v3) [7, 5] 100 ⟨0, [4294967293], (List.range 256).map fun _ => 0⟩ := .run _ 40 _ (sf1_chk v0 v1 v2 v3) rfl (sf1_ev v0 v1 v2 v3)
theorem lp_gp {n : Int} (hn : oW n) (x : Lv) : GP (x.p n) := gp_main (by show 2 ≤ 1000000; decide) ⟨gy_one (nmB_of rfl) (gx_num hn), ⟨nmB_of rfl, ⟨by show 1 ≤ 1000000; decide, gx_name (nmB_of rfl), trivial⟩, ⟨by show 2 ≤ 1000000; decide, gy_one (nmB_of rfl) (gx_name (nmB_of rfl)), gy_one (nmB_of rfl) (gx_bin (nmB_of rfl) (gx_name (nmB_of rfl)) (gx_num (by decide))), trivial⟩, Nat.zero_le _, trivial⟩, trivial⟩ (by show 10 ≤ 1000000; decide)
theorem lp_chk (n : Int) (x : Lv) : chk (x.p n) = 0 := by kernel_rfl
theorem lp3_ev (x : Lv) : ∃ s : Ms, evC 60 (x.p 3) 0 (fMain x.v6 (lpBody 3 x.v0 x.v1 x.v2 x.v3 x.v4 x.v5)) [] (ms0 [] 100) = some (.ok 0 s) ∧ s.out = [3, 2, 1] := ⟨⟨[], [3, 2, 1], fun _ => 0, 75⟩, by kernel_rfl, rfl⟩
theorem lp3_run (x : Lv) : ∃ mem : List Int, mem.length = 256 ∧ RunIs (x.p 3) [] 100 ⟨0, [3, 2, 1], mem⟩ := by
  obtain ⟨s, h1, h2⟩ := lp3_ev x
  have h3 : RunIs (x.p 3) [] 100 (ruOf (.ok 0 s)) := .run _ 60 _ (lp_chk 3 x) rfl h1
  refine ⟨(List.range 256).map s.mem, by simp, ?_⟩
  rw [← h2]
  exact h3
theorem sf1_all {v0 v1 v2 v3 v4 : SV} (w : World) (F : Nat → Prop) (h : AllIn w F [own 57 4 eTx (sv v0) [tIn, tNum 2], own 57 4 eTx (sv v1) [tIn, tBin oMul v0 tIn (tNum 2)], own 57 4 eTx (sv v2) [tBin oSub v1 tIn (tBin oMul v0 tIn (tNum 2))], own 54 5 eTy (sv v3) [yOut v2 (tBin oSub v1 tIn (tBin oMul v0 tIn (tNum 2)))], own 64 3 eTf (sv v4) (sf1 v0 v1 v2 v3)]) : (tfsA v4 (sf1 v0 v1 v2 v3)).pred w F := by
  obtain ⟨⟨_, a0, b0⟩, ⟨_, a1, b1⟩, ⟨_, a2, b2⟩, ⟨_, a3, b3⟩, ⟨_, a4, b4⟩, _⟩ := h
  have hx : TxIn w F tIn := ⟨nil_in, trivial⟩
  have hn : ∀ n, TxIn w F (tNum n) := fun _ => ⟨nil_in, trivial⟩
  have hny : SlIn' w F 5 eTy (sv nilS) [] ∧ TysIn w F [] := ⟨nil_in, trivial⟩
  have e1 : TxIn w F (tBin oMul v0 tIn (tNum 2)) := ⟨own_in a0 b0, hx, hn 2, trivial⟩
  have e2 : TxIn w F (tBin oSub v1 tIn (tBin oMul v0 tIn (tNum 2))) := ⟨own_in a1 b1, hx, e1, trivial⟩
  refine ⟨own_in a4 b4, fun f hf => ?_⟩
  rw [List.mem_singleton.1 hf]
  exact ⟨nil_in, own_in a3 b3, ⟨⟨own_in a2 b2, e2, trivial⟩, hny, hny⟩, trivial⟩
set_option maxHeartbeats 4000000 in
set_option maxRecDepth 100000 in
theorem sanity_spec  :
    Spec Try.prog 12 [] [] [] (X := Unit) (fun _ => True) (fun _ => .bool true) (fun _ => []) (fun _ => []) := by
  refine r_enter Try.func12 rfl Try.ntmps12 rfl fun w0 M H => ?_
  refine r_seq ?_
  refine r_region ?_
  refine r_p (p_assign rfl) rfl ?_
  refine r_nil ?_
  refine r_seq ?_
  refine r_region ?_
  refine r_p (p_build (parts := [(0, .const (.int .i64 5))]) t57 pl57 rfl rfl) rfl ?_
  refine r_alloc t57 rfl rfl fun b1 => ?_
  refine r_store_all (k := 1) t57 rfl rfl rfl rfl rfl rfl ?_
  refine r_nil ?_
  refine r_seq_cut (X := Sv6) (fun _ => True) (fun y => [(2, .pointer (some ⟨y.b, 0, none⟩))]) (fun y => [(2, row y.b 40 [sv y.v4]), (50, tfsA y.v4 (sf1 y.v0 y.v1 y.v2 y.v3))]) (fun y => []) ?_ (fun y _ => ?_)
  · refine r_draw [14, 15, 16, 17, 18, 19, 20, 21, 2] _ rfl (stg_alts (V := [(0, 14, _), (1, 15, _)]) [0, 1] rfl rfl (prs_cons (pri rfl (p_loadA t57 rfl rfl rfl (g_all (k := 1) rfl))) (prs_cons (pri rfl (p_loadA t57 rfl rfl rfl (g_all (k := 1) rfl))) prs_nil)) rfl [2, 8] rfl rfl (nx_cons (nx_mem 2 [2] [] (fun _ => []) rfl rfl rfl rfl rfl rfl rfl rfl rfl (fun _ _ => rfl) rfl (ms_call (xs := [.const (.int .u32 2)]) (num_spec 2) cb25 [] [] [] [] rfl rfl rfl rfl rfl rfl rfl rfl (fun _ _ => rfl) (fun _ _ _ => rfl)) (fun _ _ => stg_alts [0, 1] rfl rfl (prs_cons (pri rfl (p_loadA t57 rfl rfl rfl (g_all (k := 1) rfl))) (prs_cons (pri rfl (p_loadA t57 rfl rfl rfl (g_all (k := 1) rfl))) prs_nil)) rfl [3, 8] rfl rfl (nx_cons (nx_mem 3 [3, 2, 1] [] (fun v17 => []) rfl rfl rfl rfl rfl rfl rfl rfl rfl (fun _ _ => rfl) rfl (ms_call (xs := [.const (.string (ByteArray.mk #[42])), .tmp 15, .tmp 16]) (binary_spec9 oMul tIn (tNum 2)) cb26 [] [] [17] [] rfl rfl rfl rfl rfl rfl rfl rfl (fun _ _ => rfl) (fun _ _ _ => rfl)) (fun v17 _ => stg_alts [0] rfl rfl (prs_cons (pri rfl (p_loadA t57 rfl rfl rfl (g_all (k := 1) rfl))) prs_nil) rfl [4, 8] rfl rfl (nx_cons (nx_mem 4 [4, 3, 2, 1, 0] [] (fun v18 => []) rfl rfl rfl rfl rfl rfl rfl rfl rfl (fun _ _ => rfl) rfl (ms_call (xs := [.const (.string (ByteArray.mk #[45])), .tmp 14, .tmp 17]) (binary_spec9 oSub tIn (tBin oMul v17 tIn (tNum 2))) cb26 [] [] [18] [] rfl rfl rfl rfl rfl rfl rfl rfl (fun _ _ => rfl) (fun _ _ _ => rfl)) (fun v18 _ => stg_alts [] rfl rfl prs_nil rfl [5, 8] rfl rfl (nx_cons (nx_mem 5 [5, 4, 3, 2, 1, 0] [] (fun v19 => []) rfl rfl rfl rfl rfl rfl rfl rfl rfl (fun _ _ => rfl) rfl (ms_call (xs := [.tmp 18]) (output_spec (tBin oSub v18 tIn (tBin oMul v17 tIn (tNum 2)))) cb24 [] [] [19] [] rfl rfl rfl rfl rfl rfl rfl rfl (fun _ _ => rfl) (fun _ _ _ => rfl)) (fun v19 _ => stg_alts [] rfl rfl prs_nil rfl [6, 8] rfl rfl (nx_cons (nx_mem 6 [6, 5, 4, 3, 2, 1, 0] [] (fun v20 => []) rfl rfl rfl rfl rfl rfl rfl rfl rfl (fun _ _ => rfl) rfl (ms_bslice1 eTy (yOut v19 (tBin oSub v18 tIn (tBin oMul v17 tIn (tNum 2)))) Try.underlying52 t54 rfl (by decide) (by decide) rfl rfl rfl) (fun v20 _ => stg_alts [] rfl rfl prs_nil rfl [7, 8] rfl rfl (nx_cons (nx_mem 7 [7, 6, 5, 4, 3, 2, 1, 0] [] (fun v21 => []) rfl rfl rfl rfl rfl rfl rfl rfl rfl (fun _ _ => rfl) rfl (ms_call (xs := [.tmp 20]) (main_spec v20 [yOut v19 (tBin oSub v18 tIn (tBin oMul v17 tIn (tNum 2)))]) cb23 [] [] [21] [] rfl rfl rfl rfl rfl rfl rfl rfl (fun _ _ => rfl) (fun _ _ _ => rfl)) (fun v21 _ => stg_mem [] 8 [8, 7, 6, 5, 4, 3, 2, 1, 0] [] (fun b2 => []) rfl rfl prs_nil rfl rfl rfl rfl rfl rfl rfl rfl rfl rfl rfl (fun _ _ => rfl) rfl (ms_alloc t40 rfl) (fun b2 _ => stg_mem0 [] 9 [9, 8, 7, 6, 5, 4, 3, 2, 1, 0] [] (fun _ => []) rfl rfl prs_nil rfl rfl rfl rfl rfl rfl rfl rfl rfl (fun _ _ => rfl) rfl (ms_store_all (k := 2) t40 rfl rfl rfl rfl rfl rfl) (fun _ _ => stg_end [] rfl rfl prs_nil rfl rfl rfl ?_)))) (nx_cons (nx_mem 8 [8, 6, 5, 4, 3, 2, 1, 0] [] (fun b2 => []) rfl rfl rfl rfl rfl rfl rfl rfl rfl (fun _ _ => rfl) rfl (ms_alloc t40 rfl) (fun b2 _ => stg_mem [] 7 [8, 7, 6, 5, 4, 3, 2, 1, 0] [] (fun v21 => []) rfl rfl prs_nil rfl rfl rfl rfl rfl rfl rfl rfl rfl rfl rfl (fun _ _ => rfl) rfl (ms_call (xs := [.tmp 20]) (main_spec v20 [yOut v19 (tBin oSub v18 tIn (tBin oMul v17 tIn (tNum 2)))]) cb23 [] [] [21] [] rfl rfl rfl rfl rfl rfl rfl rfl (fun _ _ => rfl) (fun _ _ _ => rfl)) (fun v21 _ => stg_mem0 [] 9 [9, 8, 7, 6, 5, 4, 3, 2, 1, 0] [] (fun _ => []) rfl rfl prs_nil rfl rfl rfl rfl rfl rfl rfl rfl rfl (fun _ _ => rfl) rfl (ms_store_all (k := 2) t40 rfl rfl rfl rfl rfl rfl) (fun _ _ => stg_end [] rfl rfl prs_nil rfl rfl rfl ?_)))) nx_nil)))) (nx_cons (nx_mem 8 [8, 5, 4, 3, 2, 1, 0] [] (fun b2 => []) rfl rfl rfl rfl rfl rfl rfl rfl rfl (fun _ _ => rfl) rfl (ms_alloc t40 rfl) (fun b2 _ => stg_mem [] 6 [8, 6, 5, 4, 3, 2, 1, 0] [] (fun v20 => []) rfl rfl prs_nil rfl rfl rfl rfl rfl rfl rfl rfl rfl rfl rfl (fun _ _ => rfl) rfl (ms_bslice1 eTy (yOut v19 (tBin oSub v18 tIn (tBin oMul v17 tIn (tNum 2)))) Try.underlying52 t54 rfl (by decide) (by decide) rfl rfl rfl) (fun v20 _ => stg_mem [] 7 [8, 7, 6, 5, 4, 3, 2, 1, 0] [] (fun v21 => []) rfl rfl prs_nil rfl rfl rfl rfl rfl rfl rfl rfl rfl rfl rfl (fun _ _ => rfl) rfl (ms_call (xs := [.tmp 20]) (main_spec v20 [yOut v19 (tBin oSub v18 tIn (tBin oMul v17 tIn (tNum 2)))]) cb23 [] [] [21] [] rfl rfl rfl rfl rfl rfl rfl rfl (fun _ _ => rfl) (fun _ _ _ => rfl)) (fun v21 _ => stg_mem0 [] 9 [9, 8, 7, 6, 5, 4, 3, 2, 1, 0] [] (fun _ => []) rfl rfl prs_nil rfl rfl rfl rfl rfl rfl rfl rfl rfl (fun _ _ => rfl) rfl (ms_store_all (k := 2) t40 rfl rfl rfl rfl rfl rfl) (fun _ _ => stg_end [] rfl rfl prs_nil rfl rfl rfl ?_))))) nx_nil)))) (nx_cons (nx_mem 8 [8, 4, 3, 2, 1, 0] [] (fun b2 => []) rfl rfl rfl rfl rfl rfl rfl rfl rfl (fun _ _ => rfl) rfl (ms_alloc t40 rfl) (fun b2 _ => stg_mem [] 5 [8, 5, 4, 3, 2, 1, 0] [] (fun v19 => []) rfl rfl prs_nil rfl rfl rfl rfl rfl rfl rfl rfl rfl rfl rfl (fun _ _ => rfl) rfl (ms_call (xs := [.tmp 18]) (output_spec (tBin oSub v18 tIn (tBin oMul v17 tIn (tNum 2)))) cb24 [] [] [19] [] rfl rfl rfl rfl rfl rfl rfl rfl (fun _ _ => rfl) (fun _ _ _ => rfl)) (fun v19 _ => stg_mem [] 6 [8, 6, 5, 4, 3, 2, 1, 0] [] (fun v20 => []) rfl rfl prs_nil rfl rfl rfl rfl rfl rfl rfl rfl rfl rfl rfl (fun _ _ => rfl) rfl (ms_bslice1 eTy (yOut v19 (tBin oSub v18 tIn (tBin oMul v17 tIn (tNum 2)))) Try.underlying52 t54 rfl (by decide) (by decide) rfl rfl rfl) (fun v20 _ => stg_mem [] 7 [8, 7, 6, 5, 4, 3, 2, 1, 0] [] (fun v21 => []) rfl rfl prs_nil rfl rfl rfl rfl rfl rfl rfl rfl rfl rfl rfl (fun _ _ => rfl) rfl (ms_call (xs := [.tmp 20]) (main_spec v20 [yOut v19 (tBin oSub v18 tIn (tBin oMul v17 tIn (tNum 2)))]) cb23 [] [] [21] [] rfl rfl rfl rfl rfl rfl rfl rfl (fun _ _ => rfl) (fun _ _ _ => rfl)) (fun v21 _ => stg_mem0 [] 9 [9, 8, 7, 6, 5, 4, 3, 2, 1, 0] [] (fun _ => []) rfl rfl prs_nil rfl rfl rfl rfl rfl rfl rfl rfl rfl (fun _ _ => rfl) rfl (ms_store_all (k := 2) t40 rfl rfl rfl rfl rfl rfl) (fun _ _ => stg_end [] rfl rfl prs_nil rfl rfl rfl ?_)))))) nx_nil)))) (nx_cons (nx_mem 8 [8, 3, 2, 1] [] (fun b2 => []) rfl rfl rfl rfl rfl rfl rfl rfl rfl (fun _ _ => rfl) rfl (ms_alloc t40 rfl) (fun b2 _ => stg_mem [0] 4 [8, 4, 3, 2, 1, 0] [] (fun v18 => []) rfl rfl (prs_cons (pri rfl (p_loadA t57 rfl rfl rfl (g_all (k := 1) rfl))) prs_nil) rfl rfl rfl rfl rfl rfl rfl rfl rfl rfl rfl (fun _ _ => rfl) rfl (ms_call (xs := [.const (.string (ByteArray.mk #[45])), .tmp 14, .tmp 17]) (binary_spec9 oSub tIn (tBin oMul v17 tIn (tNum 2))) cb26 [] [] [18] [] rfl rfl rfl rfl rfl rfl rfl rfl (fun _ _ => rfl) (fun _ _ _ => rfl)) (fun v18 _ => stg_mem [] 5 [8, 5, 4, 3, 2, 1, 0] [] (fun v19 => []) rfl rfl prs_nil rfl rfl rfl rfl rfl rfl rfl rfl rfl rfl rfl (fun _ _ => rfl) rfl (ms_call (xs := [.tmp 18]) (output_spec (tBin oSub v18 tIn (tBin oMul v17 tIn (tNum 2)))) cb24 [] [] [19] [] rfl rfl rfl rfl rfl rfl rfl rfl (fun _ _ => rfl) (fun _ _ _ => rfl)) (fun v19 _ => stg_mem [] 6 [8, 6, 5, 4, 3, 2, 1, 0] [] (fun v20 => []) rfl rfl prs_nil rfl rfl rfl rfl rfl rfl rfl rfl rfl rfl rfl (fun _ _ => rfl) rfl (ms_bslice1 eTy (yOut v19 (tBin oSub v18 tIn (tBin oMul v17 tIn (tNum 2)))) Try.underlying52 t54 rfl (by decide) (by decide) rfl rfl rfl) (fun v20 _ => stg_mem [] 7 [8, 7, 6, 5, 4, 3, 2, 1, 0] [] (fun v21 => []) rfl rfl prs_nil rfl rfl rfl rfl rfl rfl rfl rfl rfl rfl rfl (fun _ _ => rfl) rfl (ms_call (xs := [.tmp 20]) (main_spec v20 [yOut v19 (tBin oSub v18 tIn (tBin oMul v17 tIn (tNum 2)))]) cb23 [] [] [21] [] rfl rfl rfl rfl rfl rfl rfl rfl (fun _ _ => rfl) (fun _ _ _ => rfl)) (fun v21 _ => stg_mem0 [] 9 [9, 8, 7, 6, 5, 4, 3, 2, 1, 0] [] (fun _ => []) rfl rfl prs_nil rfl rfl rfl rfl rfl rfl rfl rfl rfl (fun _ _ => rfl) rfl (ms_store_all (k := 2) t40 rfl rfl rfl rfl rfl rfl) (fun _ _ => stg_end [] rfl rfl prs_nil rfl rfl rfl ?_))))))) nx_nil)))) (nx_cons (nx_mem 8 [8, 2] [] (fun b2 => []) rfl rfl rfl rfl rfl rfl rfl rfl rfl (fun _ _ => rfl) rfl (ms_alloc t40 rfl) (fun b2 _ => stg_mem [0, 1] 3 [8, 3, 2, 1] [] (fun v17 => []) rfl rfl (prs_cons (pri rfl (p_loadA t57 rfl rfl rfl (g_all (k := 1) rfl))) (prs_cons (pri rfl (p_loadA t57 rfl rfl rfl (g_all (k := 1) rfl))) prs_nil)) rfl rfl rfl rfl rfl rfl rfl rfl rfl rfl rfl (fun _ _ => rfl) rfl (ms_call (xs := [.const (.string (ByteArray.mk #[42])), .tmp 15, .tmp 16]) (binary_spec9 oMul tIn (tNum 2)) cb26 [] [] [17] [] rfl rfl rfl rfl rfl rfl rfl rfl (fun _ _ => rfl) (fun _ _ _ => rfl)) (fun v17 _ => stg_mem [0] 4 [8, 4, 3, 2, 1, 0] [] (fun v18 => []) rfl rfl (prs_cons (pri rfl (p_loadA t57 rfl rfl rfl (g_all (k := 1) rfl))) prs_nil) rfl rfl rfl rfl rfl rfl rfl rfl rfl rfl rfl (fun _ _ => rfl) rfl (ms_call (xs := [.const (.string (ByteArray.mk #[45])), .tmp 14, .tmp 17]) (binary_spec9 oSub tIn (tBin oMul v17 tIn (tNum 2))) cb26 [] [] [18] [] rfl rfl rfl rfl rfl rfl rfl rfl (fun _ _ => rfl) (fun _ _ _ => rfl)) (fun v18 _ => stg_mem [] 5 [8, 5, 4, 3, 2, 1, 0] [] (fun v19 => []) rfl rfl prs_nil rfl rfl rfl rfl rfl rfl rfl rfl rfl rfl rfl (fun _ _ => rfl) rfl (ms_call (xs := [.tmp 18]) (output_spec (tBin oSub v18 tIn (tBin oMul v17 tIn (tNum 2)))) cb24 [] [] [19] [] rfl rfl rfl rfl rfl rfl rfl rfl (fun _ _ => rfl) (fun _ _ _ => rfl)) (fun v19 _ => stg_mem [] 6 [8, 6, 5, 4, 3, 2, 1, 0] [] (fun v20 => []) rfl rfl prs_nil rfl rfl rfl rfl rfl rfl rfl rfl rfl rfl rfl (fun _ _ => rfl) rfl (ms_bslice1 eTy (yOut v19 (tBin oSub v18 tIn (tBin oMul v17 tIn (tNum 2)))) Try.underlying52 t54 rfl (by decide) (by decide) rfl rfl rfl) (fun v20 _ => stg_mem [] 7 [8, 7, 6, 5, 4, 3, 2, 1, 0] [] (fun v21 => []) rfl rfl prs_nil rfl rfl rfl rfl rfl rfl rfl rfl rfl rfl rfl (fun _ _ => rfl) rfl (ms_call (xs := [.tmp 20]) (main_spec v20 [yOut v19 (tBin oSub v18 tIn (tBin oMul v17 tIn (tNum 2)))]) cb23 [] [] [21] [] rfl rfl rfl rfl rfl rfl rfl rfl (fun _ _ => rfl) (fun _ _ _ => rfl)) (fun v21 _ => stg_mem0 [] 9 [9, 8, 7, 6, 5, 4, 3, 2, 1, 0] [] (fun _ => []) rfl rfl prs_nil rfl rfl rfl rfl rfl rfl rfl rfl rfl (fun _ _ => rfl) rfl (ms_store_all (k := 2) t40 rfl rfl rfl rfl rfl rfl) (fun _ _ => stg_end [] rfl rfl prs_nil rfl rfl rfl ?_)))))))) nx_nil)))) (nx_cons (nx_mem 8 [8] [] (fun b2 => []) rfl rfl rfl rfl rfl rfl rfl rfl rfl (fun _ _ => rfl) rfl (ms_alloc t40 rfl) (fun b2 _ => stg_mem [0, 1] 2 [8, 2] [] (fun _ => []) rfl rfl (prs_cons (pri rfl (p_loadA t57 rfl rfl rfl (g_all (k := 1) rfl))) (prs_cons (pri rfl (p_loadA t57 rfl rfl rfl (g_all (k := 1) rfl))) prs_nil)) rfl rfl rfl rfl rfl rfl rfl rfl rfl rfl rfl (fun _ _ => rfl) rfl (ms_call (xs := [.const (.int .u32 2)]) (num_spec 2) cb25 [] [] [] [] rfl rfl rfl rfl rfl rfl rfl rfl (fun _ _ => rfl) (fun _ _ _ => rfl)) (fun _ _ => stg_mem [0, 1] 3 [8, 3, 2, 1] [] (fun v17 => []) rfl rfl (prs_cons (pri rfl (p_loadA t57 rfl rfl rfl (g_all (k := 1) rfl))) (prs_cons (pri rfl (p_loadA t57 rfl rfl rfl (g_all (k := 1) rfl))) prs_nil)) rfl rfl rfl rfl rfl rfl rfl rfl rfl rfl rfl (fun _ _ => rfl) rfl (ms_call (xs := [.const (.string (ByteArray.mk #[42])), .tmp 15, .tmp 16]) (binary_spec9 oMul tIn (tNum 2)) cb26 [] [] [17] [] rfl rfl rfl rfl rfl rfl rfl rfl (fun _ _ => rfl) (fun _ _ _ => rfl)) (fun v17 _ => stg_mem [0] 4 [8, 4, 3, 2, 1, 0] [] (fun v18 => []) rfl rfl (prs_cons (pri rfl (p_loadA t57 rfl rfl rfl (g_all (k := 1) rfl))) prs_nil) rfl rfl rfl rfl rfl rfl rfl rfl rfl rfl rfl (fun _ _ => rfl) rfl (ms_call (xs := [.const (.string (ByteArray.mk #[45])), .tmp 14, .tmp 17]) (binary_spec9 oSub tIn (tBin oMul v17 tIn (tNum 2))) cb26 [] [] [18] [] rfl rfl rfl rfl rfl rfl rfl rfl (fun _ _ => rfl) (fun _ _ _ => rfl)) (fun v18 _ => stg_mem [] 5 [8, 5, 4, 3, 2, 1, 0] [] (fun v19 => []) rfl rfl prs_nil rfl rfl rfl rfl rfl rfl rfl rfl rfl rfl rfl (fun _ _ => rfl) rfl (ms_call (xs := [.tmp 18]) (output_spec (tBin oSub v18 tIn (tBin oMul v17 tIn (tNum 2)))) cb24 [] [] [19] [] rfl rfl rfl rfl rfl rfl rfl rfl (fun _ _ => rfl) (fun _ _ _ => rfl)) (fun v19 _ => stg_mem [] 6 [8, 6, 5, 4, 3, 2, 1, 0] [] (fun v20 => []) rfl rfl prs_nil rfl rfl rfl rfl rfl rfl rfl rfl rfl rfl rfl (fun _ _ => rfl) rfl (ms_bslice1 eTy (yOut v19 (tBin oSub v18 tIn (tBin oMul v17 tIn (tNum 2)))) Try.underlying52 t54 rfl (by decide) (by decide) rfl rfl rfl) (fun v20 _ => stg_mem [] 7 [8, 7, 6, 5, 4, 3, 2, 1, 0] [] (fun v21 => []) rfl rfl prs_nil rfl rfl rfl rfl rfl rfl rfl rfl rfl rfl rfl (fun _ _ => rfl) rfl (ms_call (xs := [.tmp 20]) (main_spec v20 [yOut v19 (tBin oSub v18 tIn (tBin oMul v17 tIn (tNum 2)))]) cb23 [] [] [21] [] rfl rfl rfl rfl rfl rfl rfl rfl (fun _ _ => rfl) (fun _ _ _ => rfl)) (fun v21 _ => stg_mem0 [] 9 [9, 8, 7, 6, 5, 4, 3, 2, 1, 0] [] (fun _ => []) rfl rfl prs_nil rfl rfl rfl rfl rfl rfl rfl rfl rfl (fun _ _ => rfl) rfl (ms_store_all (k := 2) t40 rfl rfl rfl rfl rfl rfl) (fun _ _ => stg_end [] rfl rfl prs_nil rfl rfl rfl ?_))))))))) nx_nil)))
    · refine r_collect 50 [17, 18, 19, 20, 21] rfl sf1_all ?_
      refine r_here ⟨v17, v18, v19, v20, v21, b2⟩ trivial rfl rfl rfl
    · refine r_collect 50 [17, 18, 19, 20, 21] rfl sf1_all ?_
      refine r_here ⟨v17, v18, v19, v20, v21, b2⟩ trivial rfl rfl rfl
    · refine r_collect 50 [17, 18, 19, 20, 21] rfl sf1_all ?_
      refine r_here ⟨v17, v18, v19, v20, v21, b2⟩ trivial rfl rfl rfl
    · refine r_collect 50 [17, 18, 19, 20, 21] rfl sf1_all ?_
      refine r_here ⟨v17, v18, v19, v20, v21, b2⟩ trivial rfl rfl rfl
    · refine r_collect 50 [17, 18, 19, 20, 21] rfl sf1_all ?_
      refine r_here ⟨v17, v18, v19, v20, v21, b2⟩ trivial rfl rfl rfl
    · refine r_collect 50 [17, 18, 19, 20, 21] rfl sf1_all ?_
      refine r_here ⟨v17, v18, v19, v20, v21, b2⟩ trivial rfl rfl rfl
    · refine r_collect 50 [17, 18, 19, 20, 21] rfl sf1_all ?_
      refine r_here ⟨v17, v18, v19, v20, v21, b2⟩ trivial rfl rfl rfl
  · obtain ⟨v17, v18, v19, v20, v21, b2⟩ := y
    dsimp only
    refine r_seq ?_
    refine r_region ?_
    refine r_p (p_loadA t40 rfl rfl rfl (g_all (k := 2) rfl)) rfl ?_
    refine r_bslice eU [7, 5] (parts := [(0, .const (.int .u32 7)), (1, .const (.int .u32 5))]) Try.underlying35 t22 rfl (by decide) (by intro _; rfl) rfl (by decide) (by decide) rfl rfl rfl rfl fun v24 => ?_
    refine r_freeze 24 90 rfl own_to_sl ?_
    refine r_freeze 50 91 rfl (fun _ _ h => h) ?_
    refine r_call (xs := [.tmp 23, .tmp 24, .const (.int .i64 100)]) (run_spec v21 v24 (sf1 v17 v18 v19 v20) [7, 5] 100 (sf1_gp v17 v18 v19 v20) (by intro x hx; simp only [List.mem_cons, List.not_mem_nil, or_false] at hx; rcases hx with rfl | rfl <;> decide) (by simp) (by decide) _ (sf1_run v17 v18 v19 v20)) cb20 [] [(false, 91), (false, 90)] [60, 61] [] rfl rfl rfl rfl rfl rfl rfl rfl (fun _ _ => rfl) (fun _ _ _ => rfl) rfl (fun ⟨ra, rb⟩ _ => ?_)
    refine r_freeze 60 92 rfl own_to_sl ?_
    refine r_p (p_move rfl) rfl ?_
    refine r_p (p_extract rfl rfl) rfl ?_
    refine r_p (p_extract rfl rfl) rfl ?_
    refine r_p (p_extract rfl rfl) rfl ?_
    refine r_p (p_assign rfl) rfl ?_
    refine r_p (p_assign rfl) rfl ?_
    refine r_p (p_assign rfl) rfl ?_
    refine r_nil ?_
    refine r_seq ?_
    refine r_region ?_
    refine r_call (xs := [.const (.int .u32 3)]) (loop_spec 3) cb22 [] [] [51] [] rfl rfl rfl rfl rfl rfl rfl rfl (fun _ _ => rfl) (fun _ _ _ => rfl) rfl (fun lv _ => ?_)
    obtain ⟨mem3, hm3, hr3⟩ := lp3_run lv
    refine r_nilsl 93 (α := Int) (s := 1) (enc := eU) ?_
    refine r_call (xs := [.tmp 30, .const (.slice Option.none 0 0), .const (.int .i64 100)]) (run_spec lv.v7 nilS (lv.p 3) [] 100 (lp_gp (by decide) lv) (by simp) (by simp) (by decide) _ hr3) cb20 [] [(true, 51), (false, 93)] [62, 63] [] rfl rfl rfl rfl rfl rfl rfl rfl (fun _ _ => rfl) (fun _ _ _ => rfl) rfl (fun ⟨rc, rd⟩ _ => ?_)
    refine r_freeze 62 94 rfl own_to_sl ?_
    refine r_p (p_move rfl) rfl ?_
    refine r_p (p_extract rfl rfl) rfl ?_
    refine r_p (p_extract rfl rfl) rfl ?_
    refine r_p (p_extract rfl rfl) rfl ?_
    refine r_p (p_assign rfl) rfl ?_
    refine r_p (p_assign rfl) rfl ?_
    refine r_p (p_assign rfl) rfl ?_
    refine r_nil ?_
    refine r_seq ?_
    refine r_region ?_
    refine r_call (xs := [.const (.string (ByteArray.mk #[37])), .const (.int .u32 7), .const (.int .u32 0)]) (binary_spec oRem 7 0 (by decide) (by decide)) cb14 [] [] [] [] rfl rfl rfl rfl rfl rfl rfl rfl (fun _ _ => rfl) (fun _ _ _ => rfl) rfl (fun _ _ => ?_)
    refine r_p (p_move rfl) rfl ?_
    refine r_p (p_extract rfl rfl) rfl ?_
    refine r_p (p_extract rfl rfl) rfl ?_
    refine r_p (p_assign rfl) rfl ?_
    refine r_p (p_assign rfl) rfl ?_
    refine r_nil ?_
    refine r_seq ?_
    refine r_region ?_
    refine r_call (xs := [.const (.string (ByteArray.mk #[43])), .const (.int .u32 1)]) (unary_spec oAdd 1 (by decide)) cb13 [] [] [] [] rfl rfl rfl rfl rfl rfl rfl rfl (fun _ _ => rfl) (fun _ _ _ => rfl) rfl (fun _ _ => ?_)
    refine r_p (p_move rfl) rfl ?_
    refine r_p (p_extract rfl rfl) rfl ?_
    refine r_p (p_extract rfl rfl) rfl ?_
    refine r_p (p_assign rfl) rfl ?_
    refine r_p (p_assign rfl) rfl ?_
    refine r_nil ?_
    refine r_seq ?_
    refine r_region ?_
    refine r_p (p_move rfl) rfl ?_
    refine r_p (p_bin rfl rfl b_eq) rfl ?_
    refine r_p (p_move rfl) rfl ?_
    refine r_split (t := 45) rfl (fun h1 => ?_) (fun h1 => False.elim (by simp at h1))
    refine r_gyes rfl rfl ?_
    refine r_p (p_move rfl) rfl ?_
    refine r_gyes rfl rfl ?_
    refine r_bslice1 eU 4294967293 Try.underlying35 t22 rfl (by decide) (by decide) rfl rfl rfl rfl fun v47 => ?_
    refine r_gyes rfl rfl ?_
    refine r_freeze 47 95 rfl own_to_sl ?_
    refine r_call (xs := [.tmp 46, .tmp 47]) (rwords_spec ra v47 [4294967293] [4294967293] (by decide)) cb21 [] [(false, 92), (false, 95)] [] [] rfl rfl rfl rfl rfl rfl rfl rfl (fun _ _ => rfl) (fun _ _ _ => rfl) rfl (fun _ _ => ?_)
    refine r_p (p_pick rfl rfl rfl (by first | exact pick_and | exact pick_or |  rfl)) rfl ?_
    refine r_p (p_move rfl) rfl ?_
    refine r_split (t := 50) rfl (fun h2 => ?_) (fun h2 => False.elim (by simp at h2))
    refine r_gyes rfl rfl ?_
    refine r_p (p_move rfl) rfl ?_
    refine r_gyes rfl rfl ?_
    refine r_p (p_bin rfl rfl b_eq) rfl ?_
    refine r_p (p_pick rfl rfl rfl (by first | exact pick_and | exact pick_or |  rfl)) rfl ?_
    refine r_p (p_move rfl) rfl ?_
    refine r_split (t := 54) rfl (fun h3 => ?_) (fun h3 => False.elim (by simp at h3))
    refine r_gyes rfl rfl ?_
    refine r_p (p_move rfl) rfl ?_
    refine r_gyes rfl rfl ?_
    refine r_bslice eU [3, 2, 1] (parts := [(0, .const (.int .u32 3)), (1, .const (.int .u32 2)), (2, .const (.int .u32 1))]) Try.underlying35 t22 rfl (by decide) (by intro _; rfl) rfl (by decide) (by decide) rfl rfl rfl rfl fun v56 => ?_
    refine r_gyes rfl rfl ?_
    refine r_freeze 56 96 rfl own_to_sl ?_
    refine r_call (xs := [.tmp 55, .tmp 56]) (rwords_spec rc v56 [3, 2, 1] [3, 2, 1] (by decide)) cb21 [] [(false, 94), (false, 96)] [] [] rfl rfl rfl rfl rfl rfl rfl rfl (fun _ _ => rfl) (fun _ _ _ => rfl) rfl (fun _ _ => ?_)
    refine r_p (p_pick rfl rfl rfl (by first | exact pick_and | exact pick_or |  rfl)) rfl ?_
    refine r_p (p_move rfl) rfl ?_
    refine r_gp [] rfl rfl trivial (fun hg4 => p_move rfl) rfl ?_
    refine r_gp [(60, _)] rfl rfl ⟨rfl, trivial⟩ (fun hg5 => p_len_sl Try.underlying35 rfl (hs_own (k := 63) rfl)) rfl ?_
    refine r_gp [(60, _), (61, _)] rfl rfl ⟨rfl, rfl, trivial⟩ (fun hg6 => p_bin rfl rfl b_eq) rfl ?_
    refine r_p (p_pick rfl rfl rfl (by first | exact pick_and | exact pick_or |  rfl)) rfl ?_
    refine r_p (p_move rfl) rfl ?_
    refine r_gp [] rfl rfl trivial (fun hg7 => p_move rfl) rfl ?_
    refine r_gp [(65, _)] rfl rfl ⟨rfl, trivial⟩ (fun hg8 => p_bin rfl rfl b_eq) rfl ?_
    refine r_p (p_pick rfl rfl rfl (by first | exact pick_and | exact pick_or |  rfl)) rfl ?_
    refine r_p (p_move rfl) rfl ?_
    refine r_gp [] rfl rfl trivial (fun hg9 => p_move rfl) rfl ?_
    refine r_p (p_pick rfl rfl rfl (by first | exact pick_and | exact pick_or |  rfl)) rfl ?_
    refine r_p (p_move rfl) rfl ?_
    refine r_gp [] rfl rfl trivial (fun hg10 => p_move rfl) rfl ?_
    refine r_gp [(72, _)] rfl rfl ⟨rfl, trivial⟩ (fun hg11 => p_not rfl) rfl ?_
    refine r_p (p_pick rfl rfl rfl (by first | exact pick_and | exact pick_or |  rfl)) rfl ?_
    refine r_p (p_assign rfl) rfl ?_
    refine r_nil ?_
    refine r_cret ?_
    refine r_ret () trivial rfl (rs1 (rv_tmp rfl)) (congrArg Value.bool (by dsimp only; rw [hm3]; rfl)) [] [] rfl rfl rfl

end Go.Proofs.Ytdcbbkpdlcojfaa
