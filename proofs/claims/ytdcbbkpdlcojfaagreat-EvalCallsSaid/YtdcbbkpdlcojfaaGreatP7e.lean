/-
  Part of the proof: the texts AY, B0, C0, KL, C1, C2, BY, C3, R5, R6, S4, D0, D1, V0, VB, VC, VD. Conditions are with the theorems.
-/
import Derived.Test.YtdcbbkpdlcojfaaGreatP7a
import Derived.Test.YtdcbbkpdlcojfaaGreatP7b
import Derived.Test.YtdcbbkpdlcojfaaGreatP7c
import Derived.Test.YtdcbbkpdlcojfaaGreatP7d
namespace Go.Proofs.YtdcbbkpdlcojfaaGreat
set_option linter.unusedSimpArgs false
set_option linter.unusedVariables false
open Go.RowKit
structure Sv6 where
 v0 : SV
 v1 : SV
 v2 : SV
 v3 : SV
 v4 : SV
 b : Nat
theorem nmB_of {s : ByteArray} (h : (s.data.toList.all (fun b => decide (b.toNat < 128)) && decide (s.size ≤ 1000000)) = true) : nmB s := by
 simp only [Bool.and_eq_true, decide_eq_true_eq, List.all_eq_true] at h
 refine ⟨fun i hi => ?_, h.2⟩
 refine h.1 (s[i]'hi) ?_
 have : s[i]'hi = s.data.toList[i]'(by simpa using hi) := by simp [ByteArray.getElem_eq_getElem_data]
 rw [this]
 exact List.getElem_mem _
theorem gx_num {n : Int} (h : oW n) : GX (tNum n) := ⟨h, nmB_of rfl, Nat.zero_le _, trivial⟩
theorem gx_name {s : ByteArray} (h : nmB s) : GX (tName s) := ⟨oW0, h, Nat.zero_le _, trivial⟩
theorem gx_in : GX tIn := ⟨oW0, nmB_of rfl, Nat.zero_le _, trivial⟩
theorem gx_bin {op : ByteArray} {v : SV} {a b : Tx} (h : nmB op) (ha : GX a) (hb : GX b) : GX (tBin op v a b) := ⟨oW0, h, by show 2 ≤ 1000000; decide, ha, hb, trivial⟩
theorem gy_one {k : Int} {nm : ByteArray} {ve : SV} {t : Tx} (h : nmB nm) (ht : GX t) : GY (.mk k nm ve [t] nilS [] nilS []) := ⟨h, ⟨by show 1 ≤ 1000000; decide, ht, trivial⟩, ⟨Nat.zero_le _, trivial⟩, Nat.zero_le _, trivial⟩
theorem gp_main {vb : SV} {l : List Ty} (hl : l.length ≤ 1000000) (hg : GYs l) (hn : nYs l ≤ 1000000) : GP [fMain vb l] := ⟨by show 1 ≤ 1000000; decide, fun f hf => by
 rw [List.mem_singleton.1 hf]
 exact ⟨nmB_of rfl, fun s hs => by simp at hs, Nat.zero_le _, hl, hg, by show 0 + nYs l ≤ 1000000; omega⟩⟩
abbrev sf1 (v0 v1 v2 v3 : SV) : List Tf := [fMain v3 [yOut v2 (tBin oSub v1 tIn (tBin oMul v0 tIn (tNum 2)))]]
theorem sf1_gp (v0 v1 v2 v3 : SV) : GP (sf1 v0 v1 v2 v3) := gp_main (by show 1 ≤ 1000000; decide) ⟨gy_one (nmB_of rfl) (gx_bin (nmB_of rfl) gx_in (gx_bin (nmB_of rfl) gx_in (gx_num (by decide)))), trivial⟩ (by show 6 ≤ 1000000; decide)
theorem sf1_chk (v0 v1 v2 v3 : SV) : chk (sf1 v0 v1 v2 v3) = 0 := by kernel_rfl
theorem sf1_ev (v0 v1 v2 v3 : SV) : evC 40 (sf1 v0 v1 v2 v3) 0 (fMain v3 [yOut v2 (tBin oSub v1 tIn (tBin oMul v0 tIn (tNum 2)))]) [] (ms0 [7, 5] 100) = some (.ok 0 ⟨[], [4294967293], fun _ => 0, 94⟩) := by kernel_rfl
theorem sf1_run (v0 v1 v2 v3 : SV) : RunIs (sf1 v0 v1 v2 v3) [7, 5] 100 ⟨0, [4294967293], (List.range 256).map fun _ => 0⟩ := .run _ 40 _ (sf1_chk v0 v1 v2 v3) rfl (sf1_ev v0 v1 v2 v3)
theorem lp_gp {n : Int} (hn : oW n) (x : Lv) : GP (x.p n) := gp_main (by show 2 ≤ 1000000; decide) ⟨gy_one (nmB_of rfl) (gx_num hn), ⟨nmB_of rfl, ⟨by show 1 ≤ 1000000; decide, gx_name (nmB_of rfl), trivial⟩, ⟨by show 2 ≤ 1000000; decide, gy_one (nmB_of rfl) (gx_name (nmB_of rfl)), gy_one (nmB_of rfl) (gx_bin (nmB_of rfl) (gx_name (nmB_of rfl)) (gx_num (by decide))), trivial⟩, Nat.zero_le _, trivial⟩, trivial⟩ (by show 10 ≤ 1000000; decide)
theorem lp_chk (n : Int) (x : Lv) : chk (x.p n) = 0 := by kernel_rfl
theorem lp3_ev (x : Lv) : ∃ s : Ms, evC 60 (x.p 3) 0 (fMain x.v6 (lpBody 3 x.v0 x.v1 x.v2 x.v3 x.v4 x.v5)) [] (ms0 [] 100) = some (.ok 0 s) ∧ s.out = [3, 2, 1] := ⟨⟨[], [3, 2, 1], fun _ => 0, 75⟩, by kernel_rfl, rfl⟩
theorem lp3_run (x : Lv) : ∃ mem : List Int, mem.length = 256 ∧ RunIs (x.p 3) [] 100 ⟨0, [3, 2, 1], mem⟩ := by
 obtain ⟨s, h1, h2⟩ := lp3_ev x
 have h3 : RunIs (x.p 3) [] 100 (ruOf (.ok 0 s)) := .run _ 60 _ (lp_chk 3 x) rfl h1
 refine ⟨(List.range 256).map s.mem, by simp, ?_⟩
 rw [← h2]
 exact h3
theorem sf1_all {v0 v1 v2 v3 v4 : SV} (w : World) (F : Nat → Prop) (h : AllIn w F [own 48 4 eTx (sv v0) [tIn, tNum 2], own 48 4 eTx (sv v1) [tIn, tBin oMul v0 tIn (tNum 2)], own 48 4 eTx (sv v2) [tBin oSub v1 tIn (tBin oMul v0 tIn (tNum 2))], own 53 5 eTy (sv v3) [yOut v2 (tBin oSub v1 tIn (tBin oMul v0 tIn (tNum 2)))], own 63 3 eTf (sv v4) (sf1 v0 v1 v2 v3)]) : (tfsA v4 (sf1 v0 v1 v2 v3)).pred w F := by
 obtain ⟨⟨_, a0, b0⟩, ⟨_, a1, b1⟩, ⟨_, a2, b2⟩, ⟨_, a3, b3⟩, ⟨_, a4, b4⟩, _⟩ := h
 have hx : TxIn w F tIn := ⟨nil_in, trivial⟩
 have hn : ∀ n, TxIn w F (tNum n) := fun _ => ⟨nil_in, trivial⟩
 have hny : SlIn' w F 5 eTy (sv nilS) [] ∧ TysIn w F [] := ⟨nil_in, trivial⟩
 have e1 : TxIn w F (tBin oMul v0 tIn (tNum 2)) := ⟨own_in a0 b0, hx, hn 2, trivial⟩
 have e2 : TxIn w F (tBin oSub v1 tIn (tBin oMul v0 tIn (tNum 2))) := ⟨own_in a1 b1, hx, e1, trivial⟩
 refine ⟨own_in a4 b4, fun f hf => ?_⟩
 rw [List.mem_singleton.1 hf]
 exact ⟨nil_in, own_in a3 b3, ⟨⟨own_in a2 b2, e2, trivial⟩, hny, hny⟩, trivial⟩
set_option maxHeartbeats 4000000 in
set_option maxRecDepth 100000 in
theorem sanity_spec  :
  Spec Tryz.prog 8 [] [] [] (X := Unit) (fun _ => True) (fun _ => .bool true) (fun _ => []) (fun _ => []) := by
 refine r_enter Tryz.func8 rfl Tryz.ntmps8 rfl fun w0 M H => ?_
 refine r_seq (r_region (r_p (p_assign rfl) rfl (r_nil (r_seq (r_region ?_)))))
 refine r_p (p_build (parts := [(0, .const (.int .i64 5))]) t48 pl48 rfl rfl) rfl ?_
 refine r_alloc t48 rfl rfl fun b1 => ?_
 refine r_store_all (k := 1) t48 rfl rfl rfl rfl rfl rfl ?_
 refine r_nil ?_
 refine r_seq_cut (X := Sv6) (fun _ => True) (fun y => [(2, .pointer (some ⟨y.b, 0, none⟩))]) (fun y => [(2, row y.b 29 [sv y.v4]), (50, tfsA y.v4 (sf1 y.v0 y.v1 y.v2 y.v3))]) (fun y => []) ?_ (fun y _ => ?_)
 ·refine r_draw [14, 15, 16, 17, 18, 19, 20, 21, 2] _ rfl (stg_alts (V := [(0, 14, _), (1, 15, _)]) [0, 1] rfl rfl (prs_cons (pri rfl (p_loadA t48 rfl rfl rfl (g_all (k := 1) rfl))) (prs_cons (pri rfl (p_loadA t48 rfl rfl rfl (g_all (k := 1) rfl))) prs_nil)) rfl [2, 8] rfl rfl (nx_cons (nx_mem 2 [2] [] (fun _ => []) rfl rfl rfl rfl rfl rfl rfl rfl rfl (fun _ _ => rfl) rfl (ms_call (xs := [.const (.int .u32 2)]) (num_spec 2) cb22 [] [] [] [] rfl rfl rfl rfl rfl rfl rfl rfl (fun _ _ => rfl) (fun _ _ _ => rfl)) (fun _ _ => stg_alts [0, 1] rfl rfl (prs_cons (pri rfl (p_loadA t48 rfl rfl rfl (g_all (k := 1) rfl))) (prs_cons (pri rfl (p_loadA t48 rfl rfl rfl (g_all (k := 1) rfl))) prs_nil)) rfl [3, 8] rfl rfl (nx_cons (nx_mem 3 [3, 2, 1] [] (fun v17 => []) rfl rfl rfl rfl rfl rfl rfl rfl rfl (fun _ _ => rfl) rfl (ms_call (xs := [.const (.string (ByteArray.mk #[42])), .tmp 15, .tmp 16]) (binary_spec9 oMul tIn (tNum 2)) cb26 [] [] [17] [] rfl rfl rfl rfl rfl rfl rfl rfl (fun _ _ => rfl) (fun _ _ _ => rfl)) (fun v17 _ => stg_alts [0] rfl rfl (prs_cons (pri rfl (p_loadA t48 rfl rfl rfl (g_all (k := 1) rfl))) prs_nil) rfl [4, 8] rfl rfl (nx_cons (nx_mem 4 [4, 3, 2, 1, 0] [] (fun v18 => []) rfl rfl rfl rfl rfl rfl rfl rfl rfl (fun _ _ => rfl) rfl (ms_call (xs := [.const (.string (ByteArray.mk #[45])), .tmp 14, .tmp 17]) (binary_spec9 oSub tIn (tBin oMul v17 tIn (tNum 2))) cb26 [] [] [18] [] rfl rfl rfl rfl rfl rfl rfl rfl (fun _ _ => rfl) (fun _ _ _ => rfl)) (fun v18 _ => stg_alts [] rfl rfl prs_nil rfl [5, 8] rfl rfl (nx_cons (nx_mem 5 [5, 4, 3, 2, 1, 0] [] (fun v19 => []) rfl rfl rfl rfl rfl rfl rfl rfl rfl (fun _ _ => rfl) rfl (ms_call (xs := [.tmp 18]) (output_spec (tBin oSub v18 tIn (tBin oMul v17 tIn (tNum 2)))) cb19 [] [] [19] [] rfl rfl rfl rfl rfl rfl rfl rfl (fun _ _ => rfl) (fun _ _ _ => rfl)) (fun v19 _ => stg_alts [] rfl rfl prs_nil rfl [6, 8] rfl rfl (nx_cons (nx_mem 6 [6, 5, 4, 3, 2, 1, 0] [] (fun v20 => []) rfl rfl rfl rfl rfl rfl rfl rfl rfl (fun _ _ => rfl) rfl (ms_bslice1 eTy (yOut v19 (tBin oSub v18 tIn (tBin oMul v17 tIn (tNum 2)))) Tryz.underlying51 t53 rfl (by decide) (by decide) rfl rfl rfl) (fun v20 _ => stg_alts [] rfl rfl prs_nil rfl [7, 8] rfl rfl (nx_cons (nx_mem 7 [7, 6, 5, 4, 3, 2, 1, 0] [] (fun v21 => []) rfl rfl rfl rfl rfl rfl rfl rfl rfl (fun _ _ => rfl) rfl (ms_call (xs := [.tmp 20]) (main_spec v20 [yOut v19 (tBin oSub v18 tIn (tBin oMul v17 tIn (tNum 2)))]) cb18 [] [] [21] [] rfl rfl rfl rfl rfl rfl rfl rfl (fun _ _ => rfl) (fun _ _ _ => rfl)) (fun v21 _ => stg_mem [] 8 [8, 7, 6, 5, 4, 3, 2, 1, 0] [] (fun b2 => []) rfl rfl prs_nil rfl rfl rfl rfl rfl rfl rfl rfl rfl rfl rfl (fun _ _ => rfl) rfl (ms_alloc t29 rfl) (fun b2 _ => stg_mem0 [] 9 [9, 8, 7, 6, 5, 4, 3, 2, 1, 0] [] (fun _ => []) rfl rfl prs_nil rfl rfl rfl rfl rfl rfl rfl rfl rfl (fun _ _ => rfl) rfl (ms_store_all (k := 2) t29 rfl rfl rfl rfl rfl rfl) (fun _ _ => stg_end [] rfl rfl prs_nil rfl rfl rfl ?_)))) (nx_cons (nx_mem 8 [8, 6, 5, 4, 3, 2, 1, 0] [] (fun b2 => []) rfl rfl rfl rfl rfl rfl rfl rfl rfl (fun _ _ => rfl) rfl (ms_alloc t29 rfl) (fun b2 _ => stg_mem [] 7 [8, 7, 6, 5, 4, 3, 2, 1, 0] [] (fun v21 => []) rfl rfl prs_nil rfl rfl rfl rfl rfl rfl rfl rfl rfl rfl rfl (fun _ _ => rfl) rfl (ms_call (xs := [.tmp 20]) (main_spec v20 [yOut v19 (tBin oSub v18 tIn (tBin oMul v17 tIn (tNum 2)))]) cb18 [] [] [21] [] rfl rfl rfl rfl rfl rfl rfl rfl (fun _ _ => rfl) (fun _ _ _ => rfl)) (fun v21 _ => stg_mem0 [] 9 [9, 8, 7, 6, 5, 4, 3, 2, 1, 0] [] (fun _ => []) rfl rfl prs_nil rfl rfl rfl rfl rfl rfl rfl rfl rfl (fun _ _ => rfl) rfl (ms_store_all (k := 2) t29 rfl rfl rfl rfl rfl rfl) (fun _ _ => stg_end [] rfl rfl prs_nil rfl rfl rfl ?_)))) nx_nil)))) (nx_cons (nx_mem 8 [8, 5, 4, 3, 2, 1, 0] [] (fun b2 => []) rfl rfl rfl rfl rfl rfl rfl rfl rfl (fun _ _ => rfl) rfl (ms_alloc t29 rfl) (fun b2 _ => stg_mem [] 6 [8, 6, 5, 4, 3, 2, 1, 0] [] (fun v20 => []) rfl rfl prs_nil rfl rfl rfl rfl rfl rfl rfl rfl rfl rfl rfl (fun _ _ => rfl) rfl (ms_bslice1 eTy (yOut v19 (tBin oSub v18 tIn (tBin oMul v17 tIn (tNum 2)))) Tryz.underlying51 t53 rfl (by decide) (by decide) rfl rfl rfl) (fun v20 _ => stg_mem [] 7 [8, 7, 6, 5, 4, 3, 2, 1, 0] [] (fun v21 => []) rfl rfl prs_nil rfl rfl rfl rfl rfl rfl rfl rfl rfl rfl rfl (fun _ _ => rfl) rfl (ms_call (xs := [.tmp 20]) (main_spec v20 [yOut v19 (tBin oSub v18 tIn (tBin oMul v17 tIn (tNum 2)))]) cb18 [] [] [21] [] rfl rfl rfl rfl rfl rfl rfl rfl (fun _ _ => rfl) (fun _ _ _ => rfl)) (fun v21 _ => stg_mem0 [] 9 [9, 8, 7, 6, 5, 4, 3, 2, 1, 0] [] (fun _ => []) rfl rfl prs_nil rfl rfl rfl rfl rfl rfl rfl rfl rfl (fun _ _ => rfl) rfl (ms_store_all (k := 2) t29 rfl rfl rfl rfl rfl rfl) (fun _ _ => stg_end [] rfl rfl prs_nil rfl rfl rfl ?_))))) nx_nil)))) (nx_cons (nx_mem 8 [8, 4, 3, 2, 1, 0] [] (fun b2 => []) rfl rfl rfl rfl rfl rfl rfl rfl rfl (fun _ _ => rfl) rfl (ms_alloc t29 rfl) (fun b2 _ => stg_mem [] 5 [8, 5, 4, 3, 2, 1, 0] [] (fun v19 => []) rfl rfl prs_nil rfl rfl rfl rfl rfl rfl rfl rfl rfl rfl rfl (fun _ _ => rfl) rfl (ms_call (xs := [.tmp 18]) (output_spec (tBin oSub v18 tIn (tBin oMul v17 tIn (tNum 2)))) cb19 [] [] [19] [] rfl rfl rfl rfl rfl rfl rfl rfl (fun _ _ => rfl) (fun _ _ _ => rfl)) (fun v19 _ => stg_mem [] 6 [8, 6, 5, 4, 3, 2, 1, 0] [] (fun v20 => []) rfl rfl prs_nil rfl rfl rfl rfl rfl rfl rfl rfl rfl rfl rfl (fun _ _ => rfl) rfl (ms_bslice1 eTy (yOut v19 (tBin oSub v18 tIn (tBin oMul v17 tIn (tNum 2)))) Tryz.underlying51 t53 rfl (by decide) (by decide) rfl rfl rfl) (fun v20 _ => stg_mem [] 7 [8, 7, 6, 5, 4, 3, 2, 1, 0] [] (fun v21 => []) rfl rfl prs_nil rfl rfl rfl rfl rfl rfl rfl rfl rfl rfl rfl (fun _ _ => rfl) rfl (ms_call (xs := [.tmp 20]) (main_spec v20 [yOut v19 (tBin oSub v18 tIn (tBin oMul v17 tIn (tNum 2)))]) cb18 [] [] [21] [] rfl rfl rfl rfl rfl rfl rfl rfl (fun _ _ => rfl) (fun _ _ _ => rfl)) (fun v21 _ => stg_mem0 [] 9 [9, 8, 7, 6, 5, 4, 3, 2, 1, 0] [] (fun _ => []) rfl rfl prs_nil rfl rfl rfl rfl rfl rfl rfl rfl rfl (fun _ _ => rfl) rfl (ms_store_all (k := 2) t29 rfl rfl rfl rfl rfl rfl) (fun _ _ => stg_end [] rfl rfl prs_nil rfl rfl rfl ?_)))))) nx_nil)))) (nx_cons (nx_mem 8 [8, 3, 2, 1] [] (fun b2 => []) rfl rfl rfl rfl rfl rfl rfl rfl rfl (fun _ _ => rfl) rfl (ms_alloc t29 rfl) (fun b2 _ => stg_mem [0] 4 [8, 4, 3, 2, 1, 0] [] (fun v18 => []) rfl rfl (prs_cons (pri rfl (p_loadA t48 rfl rfl rfl (g_all (k := 1) rfl))) prs_nil) rfl rfl rfl rfl rfl rfl rfl rfl rfl rfl rfl (fun _ _ => rfl) rfl (ms_call (xs := [.const (.string (ByteArray.mk #[45])), .tmp 14, .tmp 17]) (binary_spec9 oSub tIn (tBin oMul v17 tIn (tNum 2))) cb26 [] [] [18] [] rfl rfl rfl rfl rfl rfl rfl rfl (fun _ _ => rfl) (fun _ _ _ => rfl)) (fun v18 _ => stg_mem [] 5 [8, 5, 4, 3, 2, 1, 0] [] (fun v19 => []) rfl rfl prs_nil rfl rfl rfl rfl rfl rfl rfl rfl rfl rfl rfl (fun _ _ => rfl) rfl (ms_call (xs := [.tmp 18]) (output_spec (tBin oSub v18 tIn (tBin oMul v17 tIn (tNum 2)))) cb19 [] [] [19] [] rfl rfl rfl rfl rfl rfl rfl rfl (fun _ _ => rfl) (fun _ _ _ => rfl)) (fun v19 _ => stg_mem [] 6 [8, 6, 5, 4, 3, 2, 1, 0] [] (fun v20 => []) rfl rfl prs_nil rfl rfl rfl rfl rfl rfl rfl rfl rfl rfl rfl (fun _ _ => rfl) rfl (ms_bslice1 eTy (yOut v19 (tBin oSub v18 tIn (tBin oMul v17 tIn (tNum 2)))) Tryz.underlying51 t53 rfl (by decide) (by decide) rfl rfl rfl) (fun v20 _ => stg_mem [] 7 [8, 7, 6, 5, 4, 3, 2, 1, 0] [] (fun v21 => []) rfl rfl prs_nil rfl rfl rfl rfl rfl rfl rfl rfl rfl rfl rfl (fun _ _ => rfl) rfl (ms_call (xs := [.tmp 20]) (main_spec v20 [yOut v19 (tBin oSub v18 tIn (tBin oMul v17 tIn (tNum 2)))]) cb18 [] [] [21] [] rfl rfl rfl rfl rfl rfl rfl rfl (fun _ _ => rfl) (fun _ _ _ => rfl)) (fun v21 _ => stg_mem0 [] 9 [9, 8, 7, 6, 5, 4, 3, 2, 1, 0] [] (fun _ => []) rfl rfl prs_nil rfl rfl rfl rfl rfl rfl rfl rfl rfl (fun _ _ => rfl) rfl (ms_store_all (k := 2) t29 rfl rfl rfl rfl rfl rfl) (fun _ _ => stg_end [] rfl rfl prs_nil rfl rfl rfl ?_))))))) nx_nil)))) (nx_cons (nx_mem 8 [8, 2] [] (fun b2 => []) rfl rfl rfl rfl rfl rfl rfl rfl rfl (fun _ _ => rfl) rfl (ms_alloc t29 rfl) (fun b2 _ => stg_mem [0, 1] 3 [8, 3, 2, 1] [] (fun v17 => []) rfl rfl (prs_cons (pri rfl (p_loadA t48 rfl rfl rfl (g_all (k := 1) rfl))) (prs_cons (pri rfl (p_loadA t48 rfl rfl rfl (g_all (k := 1) rfl))) prs_nil)) rfl rfl rfl rfl rfl rfl rfl rfl rfl rfl rfl (fun _ _ => rfl) rfl (ms_call (xs := [.const (.string (ByteArray.mk #[42])), .tmp 15, .tmp 16]) (binary_spec9 oMul tIn (tNum 2)) cb26 [] [] [17] [] rfl rfl rfl rfl rfl rfl rfl rfl (fun _ _ => rfl) (fun _ _ _ => rfl)) (fun v17 _ => stg_mem [0] 4 [8, 4, 3, 2, 1, 0] [] (fun v18 => []) rfl rfl (prs_cons (pri rfl (p_loadA t48 rfl rfl rfl (g_all (k := 1) rfl))) prs_nil) rfl rfl rfl rfl rfl rfl rfl rfl rfl rfl rfl (fun _ _ => rfl) rfl (ms_call (xs := [.const (.string (ByteArray.mk #[45])), .tmp 14, .tmp 17]) (binary_spec9 oSub tIn (tBin oMul v17 tIn (tNum 2))) cb26 [] [] [18] [] rfl rfl rfl rfl rfl rfl rfl rfl (fun _ _ => rfl) (fun _ _ _ => rfl)) (fun v18 _ => stg_mem [] 5 [8, 5, 4, 3, 2, 1, 0] [] (fun v19 => []) rfl rfl prs_nil rfl rfl rfl rfl rfl rfl rfl rfl rfl rfl rfl (fun _ _ => rfl) rfl (ms_call (xs := [.tmp 18]) (output_spec (tBin oSub v18 tIn (tBin oMul v17 tIn (tNum 2)))) cb19 [] [] [19] [] rfl rfl rfl rfl rfl rfl rfl rfl (fun _ _ => rfl) (fun _ _ _ => rfl)) (fun v19 _ => stg_mem [] 6 [8, 6, 5, 4, 3, 2, 1, 0] [] (fun v20 => []) rfl rfl prs_nil rfl rfl rfl rfl rfl rfl rfl rfl rfl rfl rfl (fun _ _ => rfl) rfl (ms_bslice1 eTy (yOut v19 (tBin oSub v18 tIn (tBin oMul v17 tIn (tNum 2)))) Tryz.underlying51 t53 rfl (by decide) (by decide) rfl rfl rfl) (fun v20 _ => stg_mem [] 7 [8, 7, 6, 5, 4, 3, 2, 1, 0] [] (fun v21 => []) rfl rfl prs_nil rfl rfl rfl rfl rfl rfl rfl rfl rfl rfl rfl (fun _ _ => rfl) rfl (ms_call (xs := [.tmp 20]) (main_spec v20 [yOut v19 (tBin oSub v18 tIn (tBin oMul v17 tIn (tNum 2)))]) cb18 [] [] [21] [] rfl rfl rfl rfl rfl rfl rfl rfl (fun _ _ => rfl) (fun _ _ _ => rfl)) (fun v21 _ => stg_mem0 [] 9 [9, 8, 7, 6, 5, 4, 3, 2, 1, 0] [] (fun _ => []) rfl rfl prs_nil rfl rfl rfl rfl rfl rfl rfl rfl rfl (fun _ _ => rfl) rfl (ms_store_all (k := 2) t29 rfl rfl rfl rfl rfl rfl) (fun _ _ => stg_end [] rfl rfl prs_nil rfl rfl rfl ?_)))))))) nx_nil)))) (nx_cons (nx_mem 8 [8] [] (fun b2 => []) rfl rfl rfl rfl rfl rfl rfl rfl rfl (fun _ _ => rfl) rfl (ms_alloc t29 rfl) (fun b2 _ => stg_mem [0, 1] 2 [8, 2] [] (fun _ => []) rfl rfl (prs_cons (pri rfl (p_loadA t48 rfl rfl rfl (g_all (k := 1) rfl))) (prs_cons (pri rfl (p_loadA t48 rfl rfl rfl (g_all (k := 1) rfl))) prs_nil)) rfl rfl rfl rfl rfl rfl rfl rfl rfl rfl rfl (fun _ _ => rfl) rfl (ms_call (xs := [.const (.int .u32 2)]) (num_spec 2) cb22 [] [] [] [] rfl rfl rfl rfl rfl rfl rfl rfl (fun _ _ => rfl) (fun _ _ _ => rfl)) (fun _ _ => stg_mem [0, 1] 3 [8, 3, 2, 1] [] (fun v17 => []) rfl rfl (prs_cons (pri rfl (p_loadA t48 rfl rfl rfl (g_all (k := 1) rfl))) (prs_cons (pri rfl (p_loadA t48 rfl rfl rfl (g_all (k := 1) rfl))) prs_nil)) rfl rfl rfl rfl rfl rfl rfl rfl rfl rfl rfl (fun _ _ => rfl) rfl (ms_call (xs := [.const (.string (ByteArray.mk #[42])), .tmp 15, .tmp 16]) (binary_spec9 oMul tIn (tNum 2)) cb26 [] [] [17] [] rfl rfl rfl rfl rfl rfl rfl rfl (fun _ _ => rfl) (fun _ _ _ => rfl)) (fun v17 _ => stg_mem [0] 4 [8, 4, 3, 2, 1, 0] [] (fun v18 => []) rfl rfl (prs_cons (pri rfl (p_loadA t48 rfl rfl rfl (g_all (k := 1) rfl))) prs_nil) rfl rfl rfl rfl rfl rfl rfl rfl rfl rfl rfl (fun _ _ => rfl) rfl (ms_call (xs := [.const (.string (ByteArray.mk #[45])), .tmp 14, .tmp 17]) (binary_spec9 oSub tIn (tBin oMul v17 tIn (tNum 2))) cb26 [] [] [18] [] rfl rfl rfl rfl rfl rfl rfl rfl (fun _ _ => rfl) (fun _ _ _ => rfl)) (fun v18 _ => stg_mem [] 5 [8, 5, 4, 3, 2, 1, 0] [] (fun v19 => []) rfl rfl prs_nil rfl rfl rfl rfl rfl rfl rfl rfl rfl rfl rfl (fun _ _ => rfl) rfl (ms_call (xs := [.tmp 18]) (output_spec (tBin oSub v18 tIn (tBin oMul v17 tIn (tNum 2)))) cb19 [] [] [19] [] rfl rfl rfl rfl rfl rfl rfl rfl (fun _ _ => rfl) (fun _ _ _ => rfl)) (fun v19 _ => stg_mem [] 6 [8, 6, 5, 4, 3, 2, 1, 0] [] (fun v20 => []) rfl rfl prs_nil rfl rfl rfl rfl rfl rfl rfl rfl rfl rfl rfl (fun _ _ => rfl) rfl (ms_bslice1 eTy (yOut v19 (tBin oSub v18 tIn (tBin oMul v17 tIn (tNum 2)))) Tryz.underlying51 t53 rfl (by decide) (by decide) rfl rfl rfl) (fun v20 _ => stg_mem [] 7 [8, 7, 6, 5, 4, 3, 2, 1, 0] [] (fun v21 => []) rfl rfl prs_nil rfl rfl rfl rfl rfl rfl rfl rfl rfl rfl rfl (fun _ _ => rfl) rfl (ms_call (xs := [.tmp 20]) (main_spec v20 [yOut v19 (tBin oSub v18 tIn (tBin oMul v17 tIn (tNum 2)))]) cb18 [] [] [21] [] rfl rfl rfl rfl rfl rfl rfl rfl (fun _ _ => rfl) (fun _ _ _ => rfl)) (fun v21 _ => stg_mem0 [] 9 [9, 8, 7, 6, 5, 4, 3, 2, 1, 0] [] (fun _ => []) rfl rfl prs_nil rfl rfl rfl rfl rfl rfl rfl rfl rfl (fun _ _ => rfl) rfl (ms_store_all (k := 2) t29 rfl rfl rfl rfl rfl rfl) (fun _ _ => stg_end [] rfl rfl prs_nil rfl rfl rfl ?_))))))))) nx_nil)))
  ·refine r_collect 50 [17, 18, 19, 20, 21] rfl sf1_all ?_
   refine r_here ⟨v17, v18, v19, v20, v21, b2⟩ trivial rfl rfl rfl
  ·refine r_collect 50 [17, 18, 19, 20, 21] rfl sf1_all ?_
   refine r_here ⟨v17, v18, v19, v20, v21, b2⟩ trivial rfl rfl rfl
  ·refine r_collect 50 [17, 18, 19, 20, 21] rfl sf1_all ?_
   refine r_here ⟨v17, v18, v19, v20, v21, b2⟩ trivial rfl rfl rfl
  ·refine r_collect 50 [17, 18, 19, 20, 21] rfl sf1_all ?_
   refine r_here ⟨v17, v18, v19, v20, v21, b2⟩ trivial rfl rfl rfl
  ·refine r_collect 50 [17, 18, 19, 20, 21] rfl sf1_all ?_
   refine r_here ⟨v17, v18, v19, v20, v21, b2⟩ trivial rfl rfl rfl
  ·refine r_collect 50 [17, 18, 19, 20, 21] rfl sf1_all ?_
   refine r_here ⟨v17, v18, v19, v20, v21, b2⟩ trivial rfl rfl rfl
  ·refine r_collect 50 [17, 18, 19, 20, 21] rfl sf1_all ?_
   refine r_here ⟨v17, v18, v19, v20, v21, b2⟩ trivial rfl rfl rfl
 ·obtain ⟨v17, v18, v19, v20, v21, b2⟩ := y
  dsimp only
  refine r_seq (r_region ?_)
  refine r_p (p_loadA t29 rfl rfl rfl (g_all (k := 2) rfl)) rfl ?_
  refine r_bslice eU [7, 5] (parts := [(0, .const (.int .u32 7)), (1, .const (.int .u32 5))]) Tryz.underlying23 t36 rfl (by decide) (by intro _; rfl) rfl (by decide) (by decide) rfl rfl rfl rfl fun v24 => ?_
  refine r_freeze 24 90 rfl own_to_sl ?_
  refine r_freeze 50 91 rfl (fun _ _ h => h) ?_
  refine r_call (xs := [.tmp 23, .tmp 24, .const (.int .i64 100)]) (run_spec v21 v24 (sf1 v17 v18 v19 v20) [7, 5] 100 (sf1_gp v17 v18 v19 v20) (by intro x hx; simp only [List.mem_cons, List.not_mem_nil, or_false] at hx; rcases hx with rfl | rfl <;> decide) (by simp) (by decide) _ (sf1_run v17 v18 v19 v20)) cb15 [] [(false, 91), (false, 90)] [60, 61] [] rfl rfl rfl rfl rfl rfl rfl rfl (fun _ _ => rfl) (fun _ _ _ => rfl) rfl (fun ⟨ra, rb⟩ _ => ?_)
  refine r_freeze 60 92 rfl own_to_sl ?_
  refine r_p (p_move rfl) rfl ?_
  refine r_p (p_extract rfl rfl) rfl ?_
  refine r_p (p_extract rfl rfl) rfl ?_
  refine r_p (p_extract rfl rfl) rfl ?_
  refine r_p (p_assign rfl) rfl (r_p (p_assign rfl) rfl (r_p (p_assign rfl) rfl (r_nil (r_seq (r_region ?_)))))
  refine r_call (xs := [.const (.int .u32 3)]) (loop_spec 3) cb27 [] [] [51] [] rfl rfl rfl rfl rfl rfl rfl rfl (fun _ _ => rfl) (fun _ _ _ => rfl) rfl (fun lv _ => ?_)
  obtain ⟨mem3, hm3, hr3⟩ := lp3_run lv
  refine r_nilsl 93 (α := Int) (s := 1) (enc := eU) ?_
  refine r_call (xs := [.tmp 30, .const (.slice Option.none 0 0), .const (.int .i64 100)]) (run_spec lv.v7 nilS (lv.p 3) [] 100 (lp_gp (by decide) lv) (by simp) (by simp) (by decide) _ hr3) cb15 [] [(true, 51), (false, 93)] [62, 63] [] rfl rfl rfl rfl rfl rfl rfl rfl (fun _ _ => rfl) (fun _ _ _ => rfl) rfl (fun ⟨rc, rd⟩ _ => ?_)
  refine r_freeze 62 94 rfl own_to_sl ?_
  refine r_p (p_move rfl) rfl ?_
  refine r_p (p_extract rfl rfl) rfl ?_
  refine r_p (p_extract rfl rfl) rfl ?_
  refine r_p (p_extract rfl rfl) rfl ?_
  refine r_p (p_assign rfl) rfl (r_p (p_assign rfl) rfl (r_p (p_assign rfl) rfl (r_nil (r_seq (r_region ?_)))))
  refine r_call (xs := [.const (.string (ByteArray.mk #[37])), .const (.int .u32 7), .const (.int .u32 0)]) (binary_spec oRem 7 0 (by decide) (by decide)) cb28 [] [] [] [] rfl rfl rfl rfl rfl rfl rfl rfl (fun _ _ => rfl) (fun _ _ _ => rfl) rfl (fun _ _ => ?_)
  refine r_p (p_move rfl) rfl ?_
  refine r_p (p_extract rfl rfl) rfl ?_
  refine r_p (p_extract rfl rfl) rfl ?_
  refine r_p (p_assign rfl) rfl (r_p (p_assign rfl) rfl (r_nil (r_seq (r_region ?_))))
  refine r_call (xs := [.const (.string (ByteArray.mk #[43])), .const (.int .u32 1)]) (unary_spec oAdd 1 (by decide)) cb29 [] [] [] [] rfl rfl rfl rfl rfl rfl rfl rfl (fun _ _ => rfl) (fun _ _ _ => rfl) rfl (fun _ _ => ?_)
  refine r_p (p_move rfl) rfl ?_
  refine r_p (p_extract rfl rfl) rfl ?_
  refine r_p (p_extract rfl rfl) rfl ?_
  refine r_p (p_assign rfl) rfl (r_p (p_assign rfl) rfl (r_nil (r_seq (r_region (r_p (p_move rfl) rfl ?_)))))
  refine r_p (p_bin rfl rfl b_eq) rfl ?_
  refine r_p (p_move rfl) rfl ?_
  refine r_split (t := 45) rfl (fun h1 => ?_) (fun h1 => False.elim (by simp at h1))
  refine r_gyes rfl rfl ?_
  refine r_p (p_move rfl) rfl ?_
  refine r_gyes rfl rfl ?_
  refine r_bslice1 eU 4294967293 Tryz.underlying23 t36 rfl (by decide) (by decide) rfl rfl rfl rfl fun v47 => ?_
  refine r_gyes rfl rfl ?_
  refine r_freeze 47 95 rfl own_to_sl ?_
  refine r_call (xs := [.tmp 46, .tmp 47]) (rwords_spec ra v47 [4294967293] [4294967293] (by decide)) cb16 [] [(false, 92), (false, 95)] [] [] rfl rfl rfl rfl rfl rfl rfl rfl (fun _ _ => rfl) (fun _ _ _ => rfl) rfl (fun _ _ => ?_)
  refine r_p (p_pick rfl rfl rfl (by first | exact pick_and | exact pick_or |  rfl)) rfl ?_
  refine r_p (p_move rfl) rfl ?_
  refine r_split (t := 50) rfl (fun h2 => ?_) (fun h2 => False.elim (by simp at h2))
  refine r_gyes rfl rfl ?_
  refine r_p (p_move rfl) rfl ?_
  refine r_gyes rfl rfl ?_
  refine r_p (p_bin rfl rfl b_eq) rfl ?_
  refine r_p (p_pick rfl rfl rfl (by first | exact pick_and | exact pick_or |  rfl)) rfl ?_
  refine r_p (p_move rfl) rfl ?_
  refine r_split (t := 54) rfl (fun h3 => ?_) (fun h3 => False.elim (by simp at h3))
  refine r_gyes rfl rfl ?_
  refine r_p (p_move rfl) rfl ?_
  refine r_gyes rfl rfl ?_
  refine r_bslice eU [3, 2, 1] (parts := [(0, .const (.int .u32 3)), (1, .const (.int .u32 2)), (2, .const (.int .u32 1))]) Tryz.underlying23 t36 rfl (by decide) (by intro _; rfl) rfl (by decide) (by decide) rfl rfl rfl rfl fun v56 => ?_
  refine r_gyes rfl rfl ?_
  refine r_freeze 56 96 rfl own_to_sl ?_
  refine r_call (xs := [.tmp 55, .tmp 56]) (rwords_spec rc v56 [3, 2, 1] [3, 2, 1] (by decide)) cb16 [] [(false, 94), (false, 96)] [] [] rfl rfl rfl rfl rfl rfl rfl rfl (fun _ _ => rfl) (fun _ _ _ => rfl) rfl (fun _ _ => ?_)
  refine r_p (p_pick rfl rfl rfl (by first | exact pick_and | exact pick_or |  rfl)) rfl ?_
  refine r_p (p_move rfl) rfl ?_
  refine r_gp [] rfl rfl trivial (fun hg4 => p_move rfl) rfl ?_
  refine r_gp [(60, _)] rfl rfl ⟨rfl, trivial⟩ (fun hg5 => p_len_sl Tryz.underlying23 rfl (hs_own (k := 63) rfl)) rfl ?_
  refine r_gp [(60, _), (61, _)] rfl rfl ⟨rfl, rfl, trivial⟩ (fun hg6 => p_bin rfl rfl b_eq) rfl ?_
  refine r_p (p_pick rfl rfl rfl (by first | exact pick_and | exact pick_or |  rfl)) rfl ?_
  refine r_p (p_move rfl) rfl ?_
  refine r_gp [] rfl rfl trivial (fun hg7 => p_move rfl) rfl ?_
  refine r_gp [(65, _)] rfl rfl ⟨rfl, trivial⟩ (fun hg8 => p_bin rfl rfl b_eq) rfl ?_
  refine r_p (p_pick rfl rfl rfl (by first | exact pick_and | exact pick_or |  rfl)) rfl ?_
  refine r_p (p_move rfl) rfl ?_
  refine r_gp [] rfl rfl trivial (fun hg9 => p_move rfl) rfl ?_
  refine r_p (p_pick rfl rfl rfl (by first | exact pick_and | exact pick_or |  rfl)) rfl ?_
  refine r_p (p_move rfl) rfl ?_
  refine r_gp [] rfl rfl trivial (fun hg10 => p_move rfl) rfl ?_
  refine r_gp [(72, _)] rfl rfl ⟨rfl, trivial⟩ (fun hg11 => p_not rfl) rfl ?_
  refine r_p (p_pick rfl rfl rfl (by first | exact pick_and | exact pick_or |  rfl)) rfl ?_
  refine r_p (p_assign rfl) rfl (r_nil (r_cret ?_))
  refine r_ret () trivial rfl (rs1 (rv_tmp rfl)) (congrArg Value.bool (by dsimp only; rw [hm3]; rfl)) [] [] rfl rfl rfl
section
variable {v1 v2 v3 v4 v5 : SV} {fs : List Tf} {d : Nat}
end
/-- Trees without addresses. -/
inductive Px where
 | mk (kind n : Int) (name : ByteArray) (kids : List Px)
inductive Py where
 | mk (kind : Int) (name : ByteArray) (es : List Px) (body els : List Py)
structure Pf where
 name : ByteArray
 ps : List ByteArray
 body : List Py
mutual
def erX : Tx → Px
 | .mk k n nm _ kids => .mk k n nm (erXs kids)
def erXs : List Tx → List Px
 | [] => []
 | t :: r => erX t :: erXs r
end
mutual
def erY : Ty → Py
 | .mk k nm _ es _ body _ els => .mk k nm (erXs es) (erYs body) (erYs els)
def erYs : List Ty → List Py
 | [] => []
 | t :: r => erY t :: erYs r
end
/-- What does not change while a function is grown: the numbers, the function's place, the functions' names and parameters. -/
structure Gc where
 l : List Int
 me : Nat
 fs : List (ByteArray × List ByteArray)
/-- What changes. -/
structure Gs where
 at_ : Nat
 left : Int
 nodes : Int
 vars : Int
 names : List ByteArray
def imod (n m : Int) : Int := ((n.tmod m) + m).tmod m
/-- The next number. -/
def gN (l : List Int) (n : Int) (s : Gs) : Int × Gs := match l[s.at_]? with
 | none => (0, s)
 | some x => (imod x n, { s with at_ := s.at_ + 1 })
def cL : List Int := [0, 1, 2, 3, 5, 8, 31, 32, 255, 256, 65535, 131072, 2147483647, 2147483648, 4294967295]
def biL : List ByteArray := [oAdd, oSub, oMul, oQuo, oRem, oAnd, oOr, oXor, oShl, oShr, oLt, oLe, oGt, oGe, oEq, oNe]
/-- What kind of expression is grown. -/
def gK (l : List Int) (d : Nat) (s : Gs) : Int × Gs :=
 let r := gN l 16 { s with nodes := IntKind.i64.wrap (s.nodes - 1) }
 (if d = 0 ∨ r.2.nodes < 1 then r.1 % 4 else r.1, r.2)
mutual
/-- An expression, at most d + 1 deep. -/
inductive GXr (c : Gc) : Nat → Gs → Px → Gs → Prop
 | nam {d : Nat} {s s1 s2 : Gs} {k j : Int} {x : ByteArray} (hk : gK c.l d s = (k, s1)) (h : k = 1 ∨ k = 2) (hn : 0 < s1.names.length) (hj : gN c.l (s1.names.length : Int) s1 = (j, s2)) (hx : s1.names[j.toNat]? = some x) : GXr c d s (.mk 2 0 x []) s2
 | inp {d : Nat} {s s1 : Gs} (hk : gK c.l d s = (3, s1)) : GXr c d s (.mk 5 0 oNil []) s1
 | mem {d : Nat} {s s1 s2 : Gs} {k : Int} {p : Px} (hk : gK c.l (d + 1) s = (k, s1)) (h : k = 4 ∨ k = 5) (hp : GXr c d s1 p s2) : GXr c (d + 1) s (.mk 4 0 oNil [p]) s2
 | una {d : Nat} {s s1 s2 s3 : Gs} {j : Int} {x : ByteArray} {p : Px} (hk : gK c.l (d + 1) s = (6, s1)) (hj : gN c.l 3 s1 = (j, s2)) (hx : unL[j.toNat]? = some x) (hp : GXr c d s2 p s3) : GXr c (d + 1) s (.mk 6 0 x [p]) s3
 | call {d : Nat} {s s1 s2 s3 : Gs} {j : Int} {f : ByteArray × List ByteArray} {ps : List Px} (hk : gK c.l (d + 1) s = (7, s1)) (h : c.me + 1 < c.fs.length) (hj : gN c.l ((c.fs.length : Int) - (c.me : Int) - 1) s1 = (j, s2)) (hx : c.fs[((c.me : Int) + 1 + j).toNat]? = some f) (hp : GKr c d f.2.length s2 ps s3) : GXr c (d + 1) s (.mk 3 0 f.1 ps) s3
 | bin {d : Nat} {s s1 s2 s3 s4 : Gs} {k j : Int} {x : ByteArray} {p q : Px} (hk : gK c.l (d + 1) s = (k, s1)) (h : 7 < k) (hj : gN c.l 16 s1 = (j, s2)) (hx : biL[j.toNat]? = some x) (hp : GXr c d s2 p s3) (hq : GXr c d s3 q s4) : GXr c (d + 1) s (.mk 7 0 x [p, q]) s4
 | con {d : Nat} {s s1 s2 : Gs} {k j : Int} {x : Int} (hk : gK c.l d s = (k, s1)) (h1 : ¬ ((k = 1 ∨ k = 2) ∧ 0 < s1.names.length)) (h3 : k ≠ 3) (h4 : k ≠ 4) (h5 : k ≠ 5) (h6 : k ≠ 6) (h7 : ¬ (k = 7 ∧ c.me + 1 < c.fs.length)) (h8 : ¬ 7 < k) (hj : gN c.l 15 s1 = (j, s2)) (hx : cL[j.toNat]? = some x) : GXr c d s (.mk 1 x oNil []) s2
/-- n expressions. -/
inductive GKr (c : Gc) : Nat → Nat → Gs → List Px → Gs → Prop
 | nil {d : Nat} {s : Gs} : GKr c d 0 s [] s
 | cons {d n : Nat} {s s1 s2 : Gs} {p : Px} {ps : List Px} (hp : GXr c d s p s1) (hq : GKr c d n s1 ps s2) : GKr c d (n + 1) s (p :: ps) s2
end
/-- A call. -/
def GCr (c : Gc) (d : Nat) (f : ByteArray × List ByteArray) (s : Gs) (p : Px) (s' : Gs) : Prop := ∃ ps, GKr c d f.2.length s ps s' ∧ p = .mk 3 0 f.1 ps
def freshL : List ByteArray := [⟨#[97]⟩, ⟨#[98]⟩, ⟨#[99]⟩, ⟨#[100]⟩, ⟨#[101]⟩, ⟨#[120, 49]⟩, ⟨#[121, 50]⟩, ⟨#[108, 111, 111, 112]⟩]
def pNum (n : Int) : Px := .mk 1 n oNil []
def pName (s : ByteArray) : Px := .mk 2 0 s []
/-- The statement that counts a loop's variable down. -/
def pDown (x : ByteArray) : Py := .mk 2 x [.mk 7 0 oSub [pName x, pNum 1]] [] []
mutual
/-- A block; e is how much deeper blocks may lie. -/
inductive GYr (c : Gc) : Nat → Gs → List Py → Gs → Prop
 | mk {e : Nat} {s s1 s2 : Gs} {j : Int} {o : List Py} (hj : gN c.l 5 s = (j, s1)) (h : GLr c e (1 + j).toNat s1 o s2) : GYr c e s o s2
/-- At most n statements. -/
inductive GLr (c : Gc) : Nat → Nat → Gs → List Py → Gs → Prop
 | zero {e : Nat} {s : Gs} : GLr c e 0 s [] s
 | stop {e n : Nat} {s : Gs} (h : s.left ≤ 0) : GLr c e n s [] s
 | step {e n : Nat} {s s1 s2 s3 : Gs} {k : Int} {o r : List Py} (h : 0 < s.left) (hk : gN c.l 12 { s with left := s.left - 1 } = (k, s1)) (h1 : G1r c e k s1 o s2) (h2 : GLr c e n s2 r s3) : GLr c e (n + 1) s (o ++ r) s3
/-- One statement of kind k. -/
inductive G1r (c : Gc) : Nat → Int → Gs → List Py → Gs → Prop
 | var {e : Nat} {s s1 : Gs} {k : Int} {x : ByteArray} {p : Px} (hk : k < 3) (hx : freshL[s.vars.toNat]? = some x) (hv : s.vars < 8) (hp : GXr c 3 { s with vars := s.vars + 1 } p s1) : G1r c e k s [.mk 1 x [p] [] []] { s1 with names := s1.names ++ [x] }
 | set {e : Nat} {s s1 s2 : Gs} {j : Int} {x : ByteArray} {p : Px} (hn : 0 < s.names.length) (hj : gN c.l (s.names.length : Int) s = (j, s1)) (hx : s.names[j.toNat]? = some x) (hp : GXr c 3 s1 p s2) : G1r c e 3 s [.mk 2 x [p] [] []] s2
 | put {e : Nat} {s s1 s2 : Gs} {k : Int} {p q : Px} (hk : k = 4 ∨ k = 5) (hp : GXr c 2 s p s1) (hq : GXr c 3 s1 q s2) : G1r c e k s [.mk 3 oNil [p, q] [] []] s2
 | iff1 {e : Nat} {s s1 s2 s3 s4 : Gs} {p : Px} {a b : List Py} (hp : GXr c 2 s p s1) (ha : GYr c e s1 a s2) (hj : gN c.l 2 s2 = (1, s3)) (hb : GYr c e s3 b s4) : G1r c (e + 1) 6 s [.mk 4 oNil [p] a b] s4
 | iff0 {e : Nat} {s s1 s2 s3 : Gs} {j : Int} {p : Px} {a : List Py} (hp : GXr c 2 s p s1) (ha : GYr c e s1 a s2) (hj : gN c.l 2 s2 = (j, s3)) (hb : j ≠ 1) : G1r c (e + 1) 6 s [.mk 4 oNil [p] a []] s3
 | whi {e : Nat} {s s1 s2 : Gs} {j : Int} {x : ByteArray} {a : List Py} (hx : freshL[s.vars.toNat]? = some x) (hv : s.vars < 8) (hj : gN c.l 5 { s with vars := s.vars + 1 } = (j, s1)) (ha : GYr c (e + 1) s1 a s2) : G1r c (e + 2) 7 s [.mk 1 x [pNum j] [] [], .mk 5 oNil [pName x] (a ++ [pDown x]) []] { s2 with names := s2.names ++ [x] }
 | ret {e : Nat} {s s1 s2 : Gs} {p : Px} (hj : gN c.l 3 s = (0, s1)) (hp : GXr c 3 s1 p s2) : G1r c e 8 s [.mk 6 oNil [p] [] []] s2
 | dos {e : Nat} {s s1 s2 s3 s4 : Gs} {j j2 : Int} {f : ByteArray × List ByteArray} {p : Px} (h : c.me + 1 < c.fs.length) (hj : gN c.l ((c.fs.length : Int) - (c.me : Int) - 1) s = (j, s1)) (hj2 : gN c.l 8 s1 = (j2, s2))
   (hf : (j2 ≠ 7 ∧ c.fs[((c.me : Int) + 1 + j).toNat]? = some f ∧ s3 = s2) ∨ (j2 = 7 ∧ ∃ j3, gN c.l ((c.fs.length : Int) - 1) s2 = (j3, s3) ∧ c.fs[(1 + j3).toNat]? = some f)) (hp : GCr c 1 f s3 p s4) : G1r c e 9 s [.mk 8 oNil [p] [] []] s4
 | out {e : Nat} {s s1 s2 : Gs} {k : Int} {p : Px} (h3 : ¬ (k < 3 ∧ s.vars < 8)) (hs : ¬ (k = 3 ∧ 0 < s.names.length)) (h4 : k ≠ 4) (h5 : k ≠ 5) (h6 : ¬ (k = 6 ∧ 1 ≤ e)) (h7 : ¬ (k = 7 ∧ 2 ≤ e ∧ s.vars < 8)) (h8 : (k ≠ 8 ∧ s1 = s) ∨ (k = 8 ∧ ∃ j, j ≠ 0 ∧ gN c.l 3 s = (j, s1))) (h9 : ¬ (k = 9 ∧ c.me + 1 < c.fs.length)) (hp : GXr c 3 s1 p s2) : G1r c e k s [.mk 7 oNil [p] [] []] s2
end
theorem gN_st {l : List Int} {n j : Int} {s s1 : Gs} (h : gN l n s = (j, s1)) : s1 = { s with at_ := s1.at_ } ∧ (s.at_ ≤ l.length → s1.at_ ≤ l.length) := by
 unfold gN at h
 split at h
 ·cases h; exact ⟨rfl, fun h => h⟩
 ·rename_i x hx
  cases h
  exact ⟨rfl, fun _ => (List.getElem?_eq_some_iff.1 hx).1⟩
section
variable {P : Program} {N : Nat} {w0 : World} {M H : Nat → Prop} {E : Env} {Γ R : Ctx} {Q : Exit → Act → World → Prop}
end
theorem tm_bd (x : Int) {m : Int} (hm : 0 < m) : -m < x.tmod m ∧ x.tmod m < m := by
 have h1 := Int.tmod_lt_of_pos x hm
 have h2 := Int.tmod_lt_of_pos (-x) hm
 rw [Int.neg_tmod] at h2
 omega
theorem gN_keep (l : List Int) (n : Int) (s : Gs) : (gN l n s).2.names = s.names ∧ (gN l n s).2.left = s.left ∧ (gN l n s).2.vars = s.vars := by
 have h := (gN_st (l := l) (n := n) (s := s) (j := (gN l n s).1) (s1 := (gN l n s).2) (by exact Prod.eta _)).1
 rw [h]
 exact ⟨rfl, rfl, rfl⟩
theorem gN_st2 {l : List Int} {n j : Int} {s s1 : Gs} (h : gN l n s = (j, s1)) : s1.names = s.names ∧ s1.left = s.left ∧ s1.vars = s.vars := by
 rw [(gN_st h).1]
 exact ⟨rfl, rfl, rfl⟩
theorem gK_st {l : List Int} {d : Nat} {s s1 : Gs} {k : Int} (h : gK l d s = (k, s1)) : s1.names = s.names ∧ s1.left = s.left ∧ s1.vars = s.vars := by
 unfold gK at h
 have h2 : (gN l 16 { s with nodes := IntKind.i64.wrap (s.nodes - 1) }).2 = s1 := congrArg Prod.snd h
 have h3 := gN_keep l 16 { s with nodes := IntKind.i64.wrap (s.nodes - 1) }
 rw [h2] at h3
 exact h3
/-- What does not change, with where it lies. -/
structure Ge where
 g : Nat
 vl : SV
 vn : SV
 vf : SV
 c : Gc
 F : List Tf
structure Gfine (e : Ge) : Prop where
 hl : e.c.l.length ≤ 1000
 hlo : ∀ x ∈ e.c.l, okI x
 fs : e.c.fs = e.F.map fun f => (f.name, f.ps)
 fl : e.F.length ≤ 100
 me : e.c.me ≤ 100
 ps : ∀ f ∈ e.F, f.ps.length ≤ 100
mutual
theorem GXr.keep {c : Gc} : ∀ {d : Nat} {s s' : Gs} {p : Px}, GXr c d s p s' → s'.names = s.names ∧ s'.left = s.left ∧ s'.vars = s.vars
 | _, s, _, _, .nam (s1 := s1) hk _ _ hj _ => by
  have h1 := gK_st hk; have h2 := (gN_st hj).1
  rw [h2]; exact h1
 | _, _, _, _, .inp hk => gK_st hk
 | _, _, _, _, .mem hk _ hp => by
  have h1 := gK_st hk; have h2 := hp.keep
  exact ⟨h2.1.trans h1.1, h2.2.1.trans h1.2.1, h2.2.2.trans h1.2.2⟩
 | _, _, _, _, .una hk hj _ hp => by
  have h1 := gK_st hk; have h3 := gN_st2 hj; have h2 := hp.keep
  exact ⟨h2.1.trans (h3.1.trans h1.1), h2.2.1.trans (h3.2.1.trans h1.2.1), h2.2.2.trans (h3.2.2.trans h1.2.2)⟩
 | _, _, _, _, .call hk _ hj _ hp => by
  have h1 := gK_st hk; have h3 := gN_st2 hj; have h2 := hp.keep
  exact ⟨h2.1.trans (h3.1.trans h1.1), h2.2.1.trans (h3.2.1.trans h1.2.1), h2.2.2.trans (h3.2.2.trans h1.2.2)⟩
 | _, _, _, _, .bin hk _ hj _ hp hq => by
  have h1 := gK_st hk; have h3 := gN_st2 hj; have h2 := hp.keep; have h4 := hq.keep
  exact ⟨h4.1.trans (h2.1.trans (h3.1.trans h1.1)), h4.2.1.trans (h2.2.1.trans (h3.2.1.trans h1.2.1)), h4.2.2.trans (h2.2.2.trans (h3.2.2.trans h1.2.2))⟩
 | _, _, _, _, .con hk _ _ _ _ _ _ _ hj _ => by
  have h1 := gK_st hk; have h3 := gN_st2 hj
  exact ⟨h3.1.trans h1.1, h3.2.1.trans h1.2.1, h3.2.2.trans h1.2.2⟩
theorem GKr.keep {c : Gc} : ∀ {d n : Nat} {s s' : Gs} {ps : List Px}, GKr c d n s ps s' → s'.names = s.names ∧ s'.left = s.left ∧ s'.vars = s.vars
 | _, _, _, _, _, .nil => ⟨rfl, rfl, rfl⟩
 | _, _, _, _, _, .cons hp hq => by
  have h1 := hp.keep; have h2 := hq.keep
  exact ⟨h2.1.trans h1.1, h2.2.1.trans h1.2.1, h2.2.2.trans h1.2.2⟩
end
theorem Spec.roAll {P : Program} {n : Nat} {vs : List Value} {L R0 R1 : List Asn} {X : Type} {φ : X → Prop} {v : X → Value} {L' R' : X → List Asn} (h : Spec P n vs L R0 φ v L' R') (hAB : ∀ (i : Nat) (A : Asn), R0[i]? = some A → ∃ B : Asn, R1[i]? = some B ∧ ∀ w G, B.pred w G → A.pred w G) : Spec P n vs L R1 φ v L' R' := fun w M H ⟨F, hF⟩ =>
 h w M H ⟨F, hF.touch, hF.has, hF.lt, hF.mine, hF.apart, fun k C hk => by
  obtain ⟨B, h1, h2⟩ := hAB k C hk
  obtain ⟨G, g1, g2⟩ := hF.ro k B h1
  exact ⟨G, h2 _ _ g1, g2⟩⟩
def Ge.at (e : Ge) (v : SV) : Ge := { e with vn := v }
theorem Gfine.at {e : Ge} (he : Gfine e) (v : SV) : Gfine (e.at v) := ⟨he.hl, he.hlo, he.fs, he.fl, he.me, he.ps⟩
/-- What the states keep. -/
structure GInv (s : Gs) : Prop where
 v0 : 0 ≤ s.vars
 v8 : s.vars ≤ 8
 nm : (s.names.length : Int) ≤ 100 + s.vars
 lf : s.left ≤ 1000
theorem GInv.same {s s' : Gs} (h : GInv s) (k : s'.names = s.names ∧ s'.left = s.left ∧ s'.vars = s.vars) : GInv s' := ⟨by rw [k.2.2]; exact h.v0, by rw [k.2.2]; exact h.v8, by rw [k.1, k.2.2]; exact h.nm, by rw [k.2.1]; exact h.lf⟩
theorem GInv.n {s : Gs} (h : GInv s) : s.names.length ≤ 1000 := by have := h.nm; have := h.v8; omega
theorem GCr.keep {c : Gc} {d : Nat} {f : ByteArray × List ByteArray} {s s' : Gs} {p : Px} (h : GCr c d f s p s') : s'.names = s.names ∧ s'.left = s.left ∧ s'.vars = s.vars := by
 obtain ⟨ps, h1, _⟩ := h
 exact h1.keep
theorem keep_tr {a b c : Gs} (h : b.names = a.names ∧ b.left = a.left ∧ b.vars = a.vars) (k : c.names = b.names ∧ c.left = b.left ∧ c.vars = b.vars) : c.names = a.names ∧ c.left = a.left ∧ c.vars = a.vars := ⟨k.1.trans h.1, k.2.1.trans h.2.1, k.2.2.trans h.2.2⟩
/-- What statements keep: names come with variables. -/
structure GKp (s s' : Gs) : Prop where
 inv : GInv s'
 left : s'.left ≤ s.left
 diff : (s'.names.length : Int) - s'.vars = (s.names.length : Int) - s.vars
theorem GKp.of {s s' : Gs} (h : GInv s) (k : s'.names = s.names ∧ s'.left = s.left ∧ s'.vars = s.vars) : GKp s s' := ⟨h.same k, by rw [k.2.1]; exact Int.le_refl _, by rw [k.1, k.2.2]⟩
theorem GKp.trans {a b c : Gs} (h : GKp a b) (k : GKp b c) : GKp a c := ⟨k.inv, Int.le_trans k.left h.left, k.diff.trans h.diff⟩
theorem GInv.var {s : Gs} (h : GInv s) (hv : s.vars < 8) : GInv { s with vars := s.vars + 1 } := ⟨by show 0 ≤ s.vars + 1; have := h.v0; omega, by show s.vars + 1 ≤ 8; omega, by show (s.names.length : Int) ≤ 100 + (s.vars + 1); have := h.nm; omega, h.lf⟩
theorem GKp.more {s s' : Gs} {x : ByteArray} (h : GInv s) (k : GKp { s with vars := s.vars + 1 } s') : GKp s { s' with names := s'.names ++ [x] } := by
 have hd : (s'.names.length : Int) - s'.vars = (s.names.length : Int) - (s.vars + 1) := k.diff
 have hn := h.nm
 have hl : ((s'.names ++ [x]).length : Int) = (s'.names.length : Int) + 1 := by rw [List.length_append, List.length_singleton]; rfl
 exact ⟨⟨k.inv.v0, k.inv.v8, by show ((s'.names ++ [x]).length : Int) ≤ 100 + s'.vars; omega, k.inv.lf⟩, k.left, by show ((s'.names ++ [x]).length : Int) - s'.vars = _; omega⟩
mutual
theorem GYr.inv {c : Gc} : ∀ {e : Nat} {s s' : Gs} {o : List Py}, GYr c e s o s' → GInv s → GKp s s'
 | _, _, _, _, .mk hj h, hi => (GKp.of hi (gN_st2 hj)).trans (h.inv (hi.same (gN_st2 hj)))
theorem GLr.inv {c : Gc} : ∀ {e n : Nat} {s s' : Gs} {o : List Py}, GLr c e n s o s' → GInv s → GKp s s'
 | _, _, _, _, _, .zero, hi => GKp.of hi ⟨rfl, rfl, rfl⟩
 | _, _, _, _, _, .stop _, hi => GKp.of hi ⟨rfl, rfl, rfl⟩
 | _, _, s, _, _, .step hl hk h1 h2, hi => by
  have hi2 : GInv { s with left := s.left - 1 } := ⟨hi.v0, hi.v8, hi.nm, by show s.left - 1 ≤ 1000; have := hi.lf; omega⟩
  have k0 : GKp s { s with left := s.left - 1 } := ⟨hi2, by show s.left - 1 ≤ s.left; omega, rfl⟩
  have k1 := GKp.of hi2 (gN_st2 hk)
  have k2 := h1.inv k1.inv
  exact ((k0.trans k1).trans k2).trans (h2.inv k2.inv)
theorem G1r.inv {c : Gc} : ∀ {e : Nat} {k : Int} {s s' : Gs} {o : List Py}, G1r c e k s o s' → GInv s → GKp s s'
 | _, _, s, _, _, .var _ _ hv hp, hi => GKp.more hi (GKp.of (hi.var hv) hp.keep)
 | _, _, _, _, _, .set _ hj _ hp, hi => GKp.of hi (keep_tr (gN_st2 hj) hp.keep)
 | _, _, _, _, _, .put _ hp hq, hi => GKp.of hi (keep_tr hp.keep hq.keep)
 | _, _, _, _, _, .iff1 hp ha hj hb, hi => by
  have k1 := GKp.of hi hp.keep
  have k2 := ha.inv k1.inv
  have k3 := GKp.of k2.inv (gN_st2 hj)
  exact ((k1.trans k2).trans k3).trans (hb.inv k3.inv)
 | _, _, _, _, _, .iff0 hp ha hj _, hi => by
  have k1 := GKp.of hi hp.keep
  have k2 := ha.inv k1.inv
  exact (k1.trans k2).trans (GKp.of k2.inv (gN_st2 hj))
 | _, _, s, _, _, .whi _ hv hj ha, hi => by
  have k1 := GKp.of (hi.var hv) (gN_st2 hj)
  exact GKp.more hi (k1.trans (ha.inv k1.inv))
 | _, _, _, _, _, .ret hj hp, hi => GKp.of hi (keep_tr (gN_st2 hj) hp.keep)
 | _, _, s, _, _, .dos (s2 := s2) (s3 := s3) _ hj hj2 hf hp, hi => by
  have k1 : s3.names = s2.names ∧ s3.left = s2.left ∧ s3.vars = s2.vars := by
   rcases hf with ⟨_, _, h⟩ | ⟨_, j3, h, _⟩
   ·rw [h]; exact ⟨rfl, rfl, rfl⟩
   ·exact gN_st2 h
  exact GKp.of hi (keep_tr (keep_tr (keep_tr (gN_st2 hj) (gN_st2 hj2)) k1) hp.keep)
 | _, _, s, _, _, .out (s1 := s1) _ _ _ _ _ _ h8 _ hp, hi => by
  have k1 : s1.names = s.names ∧ s1.left = s.left ∧ s1.vars = s.vars := by
   rcases h8 with ⟨_, h⟩ | ⟨_, j, _, h⟩
   ·rw [h]; exact ⟨rfl, rfl, rfl⟩
   ·exact gN_st2 h
  exact GKp.of hi (keep_tr k1 hp.keep)
end
/-- The contract of scope.stmts. -/
def HSs (c : Nat) (vp : SV) (fs : List Tf) (v : SV) (l : List Ty) : Prop := ∀ (vn : SV) (ns : List ByteArray), ns.length + vYs l ≤ 1000000 → Spec Tryz.prog 40 [.pointer (some ⟨c, 0, none⟩), sv v] [row c 90 [sv vp, sv vn], own 9 1 eS (sv vn) ns] [tysA v l, tfsA vp fs] (X := SV × List ByteArray) (fun x => (bYs fs ns l).2 = 0 → x.2 = (bYs fs ns l).1) (fun _ => .int .i64 (bYs fs ns l).2) (fun x => [row c 90 [sv vp, sv x.1], own 9 1 eS (sv x.1) x.2]) (fun _ => [])
theorem own4of4 {A B C D D' : Asn} (h : ∀ w G, D.pred w G → D'.pred w G) : ∀ (i : Nat) (X : Asn), ([A, D', B, C] : List Asn)[i]? = some X → ∃ Y, ([A, D, B, C] : List Asn)[i]? = some Y ∧ ∀ w G, Y.pred w G → X.pred w G
 | 0, X, hX => ⟨A, rfl, by cases hX; exact fun _ _ h => h⟩
 | 1, X, hX => ⟨D, rfl, by cases hX; exact h⟩
 | 2, X, hX => ⟨B, rfl, by cases hX; exact fun _ _ h => h⟩
 | 3, X, hX => ⟨C, rfl, by cases hX; exact fun _ _ h => h⟩
 | i + 4, X, hX => by simp at hX
theorem se_own (c : Nat) (vp vn : SV) (fs : List Tf) (ns : List ByteArray) (hfl : fs.length ≤ 1000000) (hns : ns.length ≤ 1000000) (t : Tx) (ht : GX t) : Spec Tryz.prog 55 [.pointer (some ⟨c, 0, none⟩), xV t] [] [row c 90 [sv vp, sv vn], own 9 1 eS (sv vn) ns, tfsA vp fs, txsA t.v t.kids] (X := Unit) (fun _ => True) (fun _ => .int .i64 (eX fs ns t)) (fun _ => []) (fun _ => []) :=
 Spec.roAll (se_spec c vp vn fs ns hfl hns t ht) (own4of4 own_to_sl)
theorem bYs_stop {fs : List Tf} {ns ns2 : List ByteArray} {l : List Ty} {i : Nat} {st : Ty} {z : Int} (hst : l[i]? = some st) (h : bYs fs ns (l.take i) = (ns2, 0)) (hz : (bY fs ns2 st).2 = z) (hz0 : z ≠ 0) : (bYs fs ns l).2 = z := by
 have h1 := bYs_app fs ns (l.take (i + 1)) (l.drop (i + 1))
 rw [List.take_append_drop, bYs_take hst, h] at h1
 rw [h1]
 show fst (fst 0 (bY fs ns2 st).2) _ = z
 rw [zero_fst, hz, fst_ne hz0]
theorem bYs_go {fs : List Tf} {ns ns2 ns3 : List ByteArray} {l : List Ty} {i : Nat} {st : Ty} (hst : l[i]? = some st) (h : bYs fs ns (l.take i) = (ns2, 0)) (hz : bY fs ns2 st = (ns3, 0)) : bYs fs ns (l.take (i + 1)) = (ns3, 0) := by
 rw [bYs_take hst, h]
 show ((bY fs ns2 st).1, fst 0 (bY fs ns2 st).2) = _
 rw [hz]
 rfl
theorem bY_a {fs : List Tf} {ns : List ByteArray} {st : Ty} (h2 : st.kind = 2) (hm : memB st.name ns = false) : (bY fs ns st).2 = 21 := by
 rw [bY_eq]
 show fst (aE ns st) _ = 21
 have h : aE ns st = 21 := by unfold aE; rw [if_pos h2, hm]; rfl
 rw [h]
 rfl
theorem aE_0 {ns : List ByteArray} {st : Ty} (h : ¬ (st.kind = 2 ∧ memB st.name ns = false)) : aE ns st = 0 := by
 unfold aE
 by_cases h2 : st.kind = 2
 ·rw [if_pos h2]
  by_cases hm : memB st.name ns = true
  ·rw [if_pos hm]
  ·exact absurd ⟨h2, by simpa using hm⟩ h
 ·rw [if_neg h2]
theorem dE_0 {ns : List ByteArray} {st : Ty} (h : ¬ (st.kind = 1 ∧ memB st.name ns = true)) : dE ns st = 0 := by
 unfold dE
 by_cases h2 : st.kind = 1
 ·rw [if_pos h2]
  by_cases hm : memB st.name ns = true
  ·exact absurd ⟨h2, hm⟩ h
  ·rw [if_neg hm]
 ·rw [if_neg h2]
theorem bY_d {fs : List Tf} {ns : List ByteArray} {st : Ty} {e : Tx} (h1 : st.kind = 1) (hm : memB st.name ns = true) (he : st.es = [e]) : (bY fs ns st).2 = fst (eX fs ns e) 22 := by
 rw [bY_eq]
 show fst (aE ns st) (fst (eXs fs ns st.es) (fst (dE ns st) _)) = _
 rw [aE_0 (fun h => by rw [h1] at h; exact absurd h.1 (by decide)), he]
 have h : dE ns st = 22 := by unfold dE; rw [if_pos h1, if_pos hm]
 rw [h]
 show fst 0 (fst (fst (eX fs ns e) 0) (fst 22 _)) = _
 rw [zero_fst, fst_zero]
 rfl
theorem bY_x {fs : List Tf} {ns : List ByteArray} {st : Ty} (ha : ¬ (st.kind = 2 ∧ memB st.name ns = false)) {z : Int} (hz : eXs fs ns st.es = z) (h0 : z ≠ 0) : (bY fs ns st).2 = z := by
 rw [bY_eq]
 show fst (aE ns st) (fst (eXs fs ns st.es) _) = _
 rw [aE_0 ha, zero_fst, hz, fst_ne h0]
theorem bY_b {fs : List Tf} {ns : List ByteArray} {st : Ty} (ha : ¬ (st.kind = 2 ∧ memB st.name ns = false)) (hd : ¬ (st.kind = 1 ∧ memB st.name ns = true)) (hz : eXs fs ns st.es = 0) : bY fs ns st = ((bYs fs (bYs fs (dN ns st) st.body).1 st.els).1, fst (bYs fs (dN ns st) st.body).2 (bYs fs (bYs fs (dN ns st) st.body).1 st.els).2) := by
 rw [bY_eq, aE_0 ha, dE_0 hd, hz]
 rfl
theorem one_of {t : Ty} (h : rY t = true) (hk : t.kind ≠ 3) : ∃ e, t.es = [e] := by
 rw [rY_def] at h
 simp only [Bool.and_eq_true] at h
 have h2 := h.1.1.1
 unfold okY at h2
 simp only [Bool.and_eq_true, decide_eq_true_eq] at h2
 have h3 := h2.1.1.1.2
 rw [if_neg hk] at h3
 exact List.length_eq_one_iff.1 h3
structure Xn where
 i : Nat
 vn : SV
 ns : List ByteArray
set_option maxHeartbeats 8000000 in
set_option maxRecDepth 100000 in
theorem ss_step (c : Nat) (vp : SV) (fs : List Tf) (hfl : fs.length ≤ 1000000) (v : SV) (l : List Ty) (hl : l.length ≤ 1000000) (hg : GYs l) (hr : l.all rY = true) (ih : ∀ u ∈ l, HSs c vp fs u.vb u.body ∧ HSs c vp fs u.vl u.els) (vn : SV) (ns : List ByteArray) (hb : ns.length + vYs l ≤ 1000000) :
  Spec Tryz.prog 40 [.pointer (some ⟨c, 0, none⟩), sv v] [row c 90 [sv vp, sv vn], own 9 1 eS (sv vn) ns] [tysA v l, tfsA vp fs] (X := SV × List ByteArray) (fun x => (bYs fs ns l).2 = 0 → x.2 = (bYs fs ns l).1) (fun _ => .int .i64 (bYs fs ns l).2) (fun x => [row c 90 [sv vp, sv x.1], own 9 1 eS (sv x.1) x.2]) (fun _ => []) := by
 refine r_enter Tryz.func40 rfl Tryz.ntmps40 rfl fun w0 M H => ?_
 refine r_more 0 2 rfl tys_sl ?_
 refine r_seq (r_region (r_p (p_assign rfl) rfl (r_nil (r_seq (r_seq (r_region (r_p (p_assign rfl) rfl (r_nil (r_block ?_)))))))))
 refine r_loop (X := Xn) (fun x => x.i ≤ l.length ∧ bYs fs ns (l.take x.i) = (x.ns, 0)) (fun x => [(0, .pointer (some ⟨c, 0, none⟩)), (1, sv v), (5, .int .i64 (x.i : Int))]) (fun x => [(0, row c 90 [sv vp, sv x.vn]), (1, own 9 1 eS (sv x.vn) x.ns)]) (fun x => [(0, tysA v l), (2, sl 5 eTy (sv v) l), (1, tfsA vp fs)]) (fun x => l.length - x.i) ⟨0, vn, ns⟩ ⟨Nat.zero_le _, rfl⟩ rfl rfl rfl (fun x hx0 => ?_)
 obtain ⟨i, vn2, ns2⟩ := x
 obtain ⟨n1, n2⟩ := hx0
 dsimp only at n1 n2 ⊢
 have hnl2 : ns2.length = ns.length + vYs (l.take i) := by have h := bYs_len fs ns (l.take i); rw [n2] at h; exact h
 have hvl2 := vYs_app (l.take i) (l.drop i)
 rw [List.take_append_drop] at hvl2
 refine r_seq (r_seq (r_region (r_p (p_move rfl) rfl (r_p (p_move rfl) rfl ?_))))
 refine r_p (p_len_sl Tryz.underlying51 rfl (hs_sl (k := 2) rfl)) rfl ?_
 refine r_p (p_bin rfl rfl b_lt) rfl ?_
 refine r_nil ?_
 refine r_cond rfl (fun h1 => ?_) (fun h1 => ?_)
 ·(try simp only [decide_eq_true_eq, decide_eq_false_iff_not, Bool.and_eq_true, Bool.or_eq_true, Bool.and_eq_false_iff, Bool.or_eq_false_iff, Bool.not_eq_true, Bool.not_eq_false, Bool.not_eq_true', Bool.not_eq_false', Bool.not_not, bne_iff_ne, beq_iff_eq] at h1)
  have hi : i < l.length := by omega
  obtain ⟨st, hst⟩ : ∃ k, l[i]? = some k := ⟨_, List.getElem?_eq_getElem hi⟩
  have hsm := List.mem_of_getElem? hst
  have hsg := GY_es (hg.mem st hsm)
  have hry : rY st = true := List.all_eq_true.1 hr st hsm
  have hvb := vYs_app (l.take (i + 1)) (l.drop (i + 1))
  rw [List.take_append_drop, vYs_take hst] at hvb
  have hvs := vY_def st
  refine r_more 0 7 rfl (tys_es hsm) ?_
  refine r_more 0 8 rfl (tys_body hsm) ?_
  refine r_more 0 9 rfl (tys_els hsm) ?_
  refine r_more 7 10 rfl txs_sl ?_
  refine r_skip (r_seq (r_block (r_seq (r_region (r_p (p_move rfl) rfl (r_p (p_move rfl) rfl ?_))))))
  refine r_p (p_idx_sl (j := i) Tryz.underlying51 t53 rfl rfl (hs_sl (k := 2) rfl) (by first | rfl | omega) (by first | omega | (simp; done) | (simp; omega))) rfl ?_
  refine r_p (p_loadA t53 rfl rfl rfl (g_el' (hs_sl (k := 2) rfl) (by intro _; rfl) hst (by rfl))) rfl ?_
  refine r_alloc t53 rfl rfl fun b6 => ?_
  refine r_store_all (k := 6) t53 rfl rfl rfl rfl rfl rfl ?_
  refine r_nil (r_seq ?_)
  refine r_draw [22, 23, 24, 25, 26, 27, 28, 7] _ rfl (stg_mem (V := [(0, 22, _), (1, 23, _), (2, 24, _), (3, 25, _), (4, 26, _), (5, 27, _)]) [0, 1, 2, 3, 4, 5] 6 [6, 5, 4, 3, 2, 1, 0] [7] (fun _ => [(7, 7, _)]) rfl rfl (prs_cons (pri rfl (p_field0 fo53_1 rfl)) (prs_cons (pri rfl (p_load1 t9 rfl rfl (g_row1 (k := 6) rfl rfl))) (prs_cons (pri rfl (p_move rfl)) (prs_cons (pri rfl (p_nilCheck rfl)) (prs_cons (pri rfl (p_field0 fo90_1 rfl)) (prs_cons (pri rfl (p_load1 t58 rfl rfl (g_row1 (k := 0) rfl rfl))) prs_nil)))))) rfl rfl rfl rfl rfl rfl rfl rfl rfl rfl rfl (fun _ _ => rfl) rfl (ms_callN (xs := [.tmp 23, .tmp 27]) (among_own st.name vn2 ns2 (by omega)) cb39 [] [(true, 1)] [] rfl rfl rfl rfl rfl rfl rfl rfl (fun _ _ => rfl) (fun _ _ _ => rfl)) (fun _ _ => stg_end [7] rfl rfl (prs_cons (pri rfl (p_assign rfl)) prs_nil) rfl rfl rfl ?_))
  refine r_seq (r_seq (r_region ?_))
  refine r_p (p_field0 fo53_0 rfl) rfl ?_
  refine r_p (p_load1 t3 rfl rfl (g_row1 (k := 6) rfl rfl)) rfl ?_
  refine r_p (p_bin rfl rfl b_eq) rfl ?_
  refine r_p (p_move rfl) rfl ?_
  refine r_gp [] rfl rfl trivial (fun hg2 => p_move rfl) rfl ?_
  refine r_gp [(33, _)] rfl rfl ⟨rfl, trivial⟩ (fun hg3 => p_not rfl) rfl ?_
  refine r_p (p_pick rfl rfl rfl (by first | exact pick_and | exact pick_or |  rfl)) rfl ?_
  refine r_nil ?_
  refine r_cond rfl (fun h4 => ?_) (fun h4 => ?_)
  ·have q2 : st.kind = 2 ∧ memB st.name ns2 = false := by simpa using h4
   refine r_seq (r_region (r_p (p_assign rfl) rfl (r_nil (r_cret ?_))))
   refine r_ret (vn2, ns2) (fun h => absurd h (by rw [bYs_stop hst n2 (bY_a q2.1 q2.2) (by decide)]; exact (by decide))) rfl (rs1 (rv_tmp rfl)) (by rw [bYs_stop hst n2 (bY_a q2.1 q2.2) (by decide)]) [0, 1] [] rfl rfl rfl
  ·have q2 : ¬ (st.kind = 2 ∧ memB st.name ns2 = false) := by rintro ⟨a, b⟩; rw [decide_eq_true a, b] at h4; exact absurd h4 (by simp)
   refine r_skip (r_seq (r_seq (r_region ?_)))
   refine r_p (p_field0 fo53_0 rfl) rfl ?_
   refine r_p (p_load1 t3 rfl rfl (g_row1 (k := 6) rfl rfl)) rfl ?_
   refine r_p (p_bin rfl rfl b_eq) rfl ?_
   refine r_p (p_move rfl) rfl ?_
   refine r_gp [] rfl rfl trivial (fun hg5 => p_move rfl) rfl ?_
   refine r_p (p_pick rfl rfl rfl (by first | exact pick_and | exact pick_or |  rfl)) rfl ?_
   refine r_nil ?_
   refine r_cond rfl (fun h6 => ?_) (fun h6 => ?_)
   ·have q3 : st.kind = 1 ∧ memB st.name ns2 = true := by simpa using h6
    obtain ⟨e, hes⟩ := one_of hry (by rw [q3.1]; decide)
    have he0 : st.es[0]? = some e := by rw [hes]; rfl
    refine r_seq (r_region (r_p (p_move rfl) rfl ?_))
    refine r_p (p_field0 fo53_2 rfl) rfl ?_
    refine r_p (p_load1 t46 rfl rfl (g_row1 (k := 6) rfl rfl)) rfl ?_
    refine r_p (p_idx_sl (j := 0) Tryz.underlying46 t48 rfl rfl (hs_sl (k := 10) rfl) rfl (by rw [hes]; exact Nat.zero_lt_one)) rfl ?_
    refine r_p (p_loadA t48 rfl rfl rfl (g_el' (hs_sl (k := 10) rfl) (by intro _; rfl) he0 (by rfl))) rfl ?_
    have hum : e ∈ st.es := List.mem_of_getElem? he0
    refine r_more 7 11 rfl (txs_kid hum) ?_
    refine r_callN (xs := [.tmp 42, .tmp 46]) (se_own c vp vn2 fs ns2 hfl (by omega) e (hsg.2.mem e hum)) cb55 [] [(true, 0), (true, 1), (false, 1), (false, 11)] [] rfl rfl rfl rfl rfl rfl rfl rfl (fun _ _ => rfl) (fun _ _ _ => rfl) rfl (fun _ _ => ?_)
    refine r_p (p_assign rfl) rfl (r_nil (r_seq (r_seq (r_region (r_p (p_move rfl) rfl ?_)))))
    refine r_p (p_bin rfl rfl b_ne) rfl ?_
    refine r_nil ?_
    refine r_cond rfl (fun h7 => ?_) (fun h7 => ?_)
    ·(try simp only [decide_eq_true_eq, decide_eq_false_iff_not, Bool.and_eq_true, Bool.or_eq_true, Bool.and_eq_false_iff, Bool.or_eq_false_iff, Bool.not_eq_true, Bool.not_eq_false, Bool.not_eq_true', Bool.not_eq_false', Bool.not_not, bne_iff_ne, beq_iff_eq] at h7)
     have q4 : eX fs ns2 e ≠ 0 := h7
     refine r_seq (r_region (r_p (p_move rfl) rfl (r_p (p_assign rfl) rfl (r_nil (r_cret ?_)))))
     refine r_ret (vn2, ns2) (fun h => absurd h (by rw [bYs_stop hst n2 (z := eX fs ns2 e) (by rw [bY_d q3.1 q3.2 hes, fst_ne q4]) q4]; exact q4)) rfl (rs1 (rv_tmp rfl)) (by rw [bYs_stop hst n2 (z := eX fs ns2 e) (by rw [bY_d q3.1 q3.2 hes, fst_ne q4]) q4]) [0, 1] [] rfl rfl rfl
    ·(try simp only [decide_eq_true_eq, decide_eq_false_iff_not, Bool.and_eq_true, Bool.or_eq_true, Bool.and_eq_false_iff, Bool.or_eq_false_iff, Bool.not_eq_true, Bool.not_eq_false, Bool.not_eq_true', Bool.not_eq_false', Bool.not_not, bne_iff_ne, beq_iff_eq] at h7)
     have q4 : eX fs ns2 e = 0 := h7
     refine r_skip (r_seq (r_region (r_p (p_assign rfl) rfl (r_nil (r_cret ?_)))))
     refine r_ret (vn2, ns2) (fun h => absurd h (by rw [bYs_stop hst n2 (z := 22) (by rw [bY_d q3.1 q3.2 hes, q4]; rfl) (by decide)]; exact (by decide))) rfl (rs1 (rv_tmp rfl)) (by rw [bYs_stop hst n2 (z := 22) (by rw [bY_d q3.1 q3.2 hes, q4]; rfl) (by decide)]) [0, 1] [] rfl rfl rfl
   ·have q3 : ¬ (st.kind = 1 ∧ memB st.name ns2 = true) := by rintro ⟨a, b⟩; rw [decide_eq_true a, b] at h6; exact absurd h6 (by simp)
    refine r_skip (r_seq (r_seq (r_region (r_p (p_assign rfl) rfl (r_nil (r_block ?_))))))
    refine r_loop (X := Nat) (fun j => j ≤ st.es.length ∧ eXs fs ns2 (st.es.take j) = 0) (fun j => [(0, .pointer (some ⟨c, 0, none⟩)), (1, sv v), (5, .int .i64 (i : Int)), (6, .pointer (some ⟨b6, 0, none⟩)), (7, .bool (memB st.name ns2)), (9, .int .i64 (j : Int))]) (fun j => [(0, row c 90 [sv vp, sv vn2]), (1, own 9 1 eS (sv vn2) ns2), (6, row b6 53 (eTy st))]) (fun j => [(0, tysA v l), (2, sl 5 eTy (sv v) l), (1, tfsA vp fs), (7, txsA st.ve st.es), (8, tysA st.vb st.body), (9, tysA st.vl st.els), (10, sl 4 eTx (sv st.ve) st.es)]) (fun j => st.es.length - j) 0 ⟨Nat.zero_le _, rfl⟩ rfl rfl rfl (fun j hy0 => ?_)
    obtain ⟨n3, n4⟩ := hy0
    refine r_seq (r_seq (r_region (r_p (p_move rfl) rfl ?_)))
    refine r_p (p_field0 fo53_2 rfl) rfl ?_
    refine r_p (p_load1 t46 rfl rfl (g_row1 (k := 6) rfl rfl)) rfl ?_
    refine r_p (p_len_sl Tryz.underlying46 rfl (hs_sl (k := 10) rfl)) rfl ?_
    refine r_p (p_bin rfl rfl b_lt) rfl ?_
    refine r_nil ?_
    refine r_cond rfl (fun h8 => ?_) (fun h8 => ?_)
    ·(try simp only [decide_eq_true_eq, decide_eq_false_iff_not, Bool.and_eq_true, Bool.or_eq_true, Bool.and_eq_false_iff, Bool.or_eq_false_iff, Bool.not_eq_true, Bool.not_eq_false, Bool.not_eq_true', Bool.not_eq_false', Bool.not_not, bne_iff_ne, beq_iff_eq] at h8)
     have hj : j < st.es.length := by omega
     obtain ⟨u, hu⟩ : ∃ k, st.es[j]? = some k := ⟨_, List.getElem?_eq_getElem hj⟩
     have hum := List.mem_of_getElem? hu
     refine r_skip (r_seq (r_block (r_seq (r_region (r_p (p_move rfl) rfl ?_)))))
     refine r_p (p_field0 fo53_2 rfl) rfl ?_
     refine r_p (p_load1 t46 rfl rfl (g_row1 (k := 6) rfl rfl)) rfl ?_
     refine r_p (p_move rfl) rfl ?_
     refine r_p (p_idx_sl (j := j) Tryz.underlying46 t48 rfl rfl (hs_sl (k := 10) rfl) (by first | rfl | omega) (by first | omega | (simp; done) | (simp; omega))) rfl ?_
     refine r_p (p_loadA t48 rfl rfl rfl (g_el' (hs_sl (k := 10) rfl) (by intro _; rfl) hu (by rfl))) rfl ?_
     refine r_more 7 11 rfl (txs_kid hum) ?_
     refine r_callN (xs := [.tmp 58, .tmp 63]) (se_own c vp vn2 fs ns2 hfl (by omega) u (hsg.2.mem u hum)) cb55 [] [(true, 0), (true, 1), (false, 1), (false, 11)] [] rfl rfl rfl rfl rfl rfl rfl rfl (fun _ _ => rfl) (fun _ _ _ => rfl) rfl (fun _ _ => ?_)
     refine r_p (p_assign rfl) rfl (r_nil (r_seq (r_region (r_p (p_move rfl) rfl ?_))))
     refine r_p (p_bin rfl rfl b_ne) rfl ?_
     refine r_nil ?_
     refine r_cond rfl (fun h9 => ?_) (fun h9 => ?_)
     ·(try simp only [decide_eq_true_eq, decide_eq_false_iff_not, Bool.and_eq_true, Bool.or_eq_true, Bool.and_eq_false_iff, Bool.or_eq_false_iff, Bool.not_eq_true, Bool.not_eq_false, Bool.not_eq_true', Bool.not_eq_false', Bool.not_not, bne_iff_ne, beq_iff_eq] at h9)
      have q6 : eX fs ns2 u ≠ 0 := h9
      refine r_seq (r_region (r_p (p_move rfl) rfl (r_p (p_assign rfl) rfl (r_nil (r_cret ?_)))))
      refine r_ret (vn2, ns2) (fun h => absurd h (by rw [bYs_stop hst n2 (bY_x q2 (eXs_hit hu n4 q6) q6) q6]; exact q6)) rfl (rs1 (rv_tmp rfl)) (by rw [bYs_stop hst n2 (bY_x q2 (eXs_hit hu n4 q6) q6) q6]) [0, 1] [] rfl rfl rfl
     ·(try simp only [decide_eq_true_eq, decide_eq_false_iff_not, Bool.and_eq_true, Bool.or_eq_true, Bool.and_eq_false_iff, Bool.or_eq_false_iff, Bool.not_eq_true, Bool.not_eq_false, Bool.not_eq_true', Bool.not_eq_false', Bool.not_not, bne_iff_ne, beq_iff_eq] at h9)
      have q6 : eX fs ns2 u = 0 := h9
      refine r_skip (r_region (r_p (p_move rfl) rfl ?_))
      refine r_p (p_bin rfl rfl (b_add (by first | exact w_i64 (by omega) (by omega) | rfl))) rfl ?_
      refine r_p (p_assign rfl) rfl (r_nil ?_)
      refine r_here (j + 1) ⟨⟨by omega, by rw [eXs_take hu, n4, q6]; rfl⟩, by omega⟩ rfl rfl rfl
    ·(try simp only [decide_eq_true_eq, decide_eq_false_iff_not, Bool.and_eq_true, Bool.or_eq_true, Bool.and_eq_false_iff, Bool.or_eq_false_iff, Bool.not_eq_true, Bool.not_eq_false, Bool.not_eq_true', Bool.not_eq_false', Bool.not_not, bne_iff_ne, beq_iff_eq] at h8)
     have hj : j = st.es.length := by omega
     subst hj
     rw [List.take_length] at n4
     refine r_exit ?_
     refine r_seq_cut (X := SV) (fun _ => True) (fun y => [(0, .pointer (some ⟨c, 0, none⟩)), (1, sv v), (5, .int .i64 (i : Int)), (6, .pointer (some ⟨b6, 0, none⟩))]) (fun y => [(0, row c 90 [sv vp, sv y]), (1, own 9 1 eS (sv y) (dN ns2 st)), (6, row b6 53 (eTy st))]) (fun y => [(0, tysA v l), (2, sl 5 eTy (sv v) l), (1, tfsA vp fs), (7, txsA st.ve st.es), (8, tysA st.vb st.body), (9, tysA st.vl st.els), (10, sl 4 eTx (sv st.ve) st.es)]) ?_ (fun vn3 _ => ?_)
     ·refine r_seq (r_region ?_)
      refine r_p (p_field0 fo53_0 rfl) rfl ?_
      refine r_p (p_load1 t3 rfl rfl (g_row1 (k := 6) rfl rfl)) rfl ?_
      refine r_p (p_bin rfl rfl b_eq) rfl ?_
      refine r_nil ?_
      refine r_cond rfl (fun h10 => ?_) (fun h10 => ?_)
      ·have q7 : st.kind = 1 := of_decide_eq_true h10
       refine r_draw [71, 72, 73, 74, 75, 76, 77, 78, 79, 80, 81] _ rfl (stg_mem (V := [(0, 71, _), (1, 72, _), (2, 73, _), (3, 74, _), (4, 75, _), (5, 76, _), (6, 77, _)]) [0, 1, 2, 3, 4, 5, 6] 7 [7, 6, 5] [] (fun v78 => []) rfl rfl (prs_cons (pri rfl (p_move rfl)) (prs_cons (pri rfl (p_move rfl)) (prs_cons (pri rfl (p_nilCheck rfl)) (prs_cons (pri rfl (p_field0 fo90_1 rfl)) (prs_cons (pri rfl (p_load1 t58 rfl rfl (g_row1 (k := 0) rfl rfl))) (prs_cons (pri rfl (p_field0 fo53_1 rfl)) (prs_cons (pri rfl (p_load1 t9 rfl rfl (g_row1 (k := 6) rfl rfl))) prs_nil))))))) rfl rfl rfl rfl rfl rfl rfl rfl rfl rfl rfl (fun _ _ => rfl) rfl (ms_bslice1 eS st.name Tryz.underlying58 t9 rfl (by decide) (by decide) rfl rfl rfl) (fun v78 _ => stg_mem [0, 1, 2, 3, 4] 8 [8, 7, 6, 5, 4, 3, 2, 1] [9, 10] (fun v79 => [(9, 80, _), (10, 81, _)]) rfl rfl (prs_cons (pri rfl (p_move rfl)) (prs_cons (pri rfl (p_move rfl)) (prs_cons (pri rfl (p_nilCheck rfl)) (prs_cons (pri rfl (p_field0 fo90_1 rfl)) (prs_cons (pri rfl (p_load1 t58 rfl rfl (g_row1 (k := 0) rfl rfl))) prs_nil))))) rfl rfl rfl rfl rfl rfl rfl rfl rfl rfl rfl (fun _ _ => rfl) rfl (ms_append 1 Tryz.underlying58 t9 rfl (by decide) (fun _ => rfl) (fun _ => rfl) rfl rfl rfl (hs_own (k := 78) rfl) (by simp only [List.length_singleton]; omega) (by unfold maxLen; simp only [List.length_singleton]; omega)) (fun v79 _ => stg_mem0 [9, 10, 0] 11 [11, 10, 9, 8, 7, 6, 5, 4, 3, 2, 1, 0] [] (fun _ => []) rfl rfl (prs_cons (pri rfl (p_nilCheck rfl)) (prs_cons (pri rfl (p_field0 fo90_1 rfl)) (prs_cons (pri rfl (p_move rfl)) prs_nil))) rfl rfl rfl rfl rfl rfl rfl rfl rfl (fun _ _ => rfl) rfl (ms_store_row (k := 0) t58 rfl rfl rfl rfl rfl rfl rfl rfl) (fun _ _ => stg_end [] rfl rfl prs_nil rfl rfl rfl ?_))))
       refine r_here v79 trivial rfl (by rw [show dN ns2 st = ns2 ++ [st.name] from if_pos q7]; rfl) rfl
      ·have q7 : ¬ st.kind = 1 := of_decide_eq_false h10
       refine r_skip ?_
       refine r_here vn2 trivial rfl (by rw [show dN ns2 st = ns2 from if_neg q7]; rfl) rfl
     ·refine r_seq (r_region (r_p (p_move rfl) rfl ?_))
      refine r_p (p_field0 fo53_3 rfl) rfl ?_
      refine r_p (p_load1 t51 rfl rfl (g_row1 (k := 6) rfl rfl)) rfl ?_
      refine r_callN (xs := [.tmp 82, .tmp 84]) ((ih st hsm).1 vn3 (dN ns2 st) (by rw [dN_len]; omega)) cb40 [0, 1] [(false, 8), (false, 1)] [0, 1] rfl rfl rfl rfl rfl rfl rfl rfl (fun _ _ => rfl) (fun _ _ _ => rfl) rfl (fun ⟨vn4, ns4⟩ h4 => ?_)
      dsimp only at h4 ⊢
      refine r_p (p_assign rfl) rfl (r_nil ?_)
      refine r_seq_cut (X := SV × List ByteArray) (fun y => fst (bYs fs (dN ns2 st) st.body).2 (bYs fs (bYs fs (dN ns2 st) st.body).1 st.els).2 = 0 → y.2 = (bYs fs (bYs fs (dN ns2 st) st.body).1 st.els).1) (fun y => [(0, .pointer (some ⟨c, 0, none⟩)), (1, sv v), (5, .int .i64 (i : Int)), (6, .pointer (some ⟨b6, 0, none⟩)), (11, .int .i64 (fst (bYs fs (dN ns2 st) st.body).2 (bYs fs (bYs fs (dN ns2 st) st.body).1 st.els).2))]) (fun y => [(0, row c 90 [sv vp, sv y.1]), (1, own 9 1 eS (sv y.1) y.2), (6, row b6 53 (eTy st))]) (fun y => [(0, tysA v l), (2, sl 5 eTy (sv v) l), (1, tfsA vp fs), (7, txsA st.ve st.es), (8, tysA st.vb st.body), (9, tysA st.vl st.els), (10, sl 4 eTx (sv st.ve) st.es)]) ?_ (fun y hy => ?_)
      ·refine r_seq (r_region (r_p (p_move rfl) rfl ?_))
       refine r_p (p_bin rfl rfl b_eq) rfl ?_
       refine r_nil ?_
       refine r_cond rfl (fun h11 => ?_) (fun h11 => ?_)
       ·(try simp only [decide_eq_true_eq, decide_eq_false_iff_not, Bool.and_eq_true, Bool.or_eq_true, Bool.and_eq_false_iff, Bool.or_eq_false_iff, Bool.not_eq_true, Bool.not_eq_false, Bool.not_eq_true', Bool.not_eq_false', Bool.not_not, bne_iff_ne, beq_iff_eq] at h11)
        have q8 : (bYs fs (dN ns2 st) st.body).2 = 0 := h11
        refine r_region (r_p (p_move rfl) rfl ?_)
        refine r_p (p_field0 fo53_4 rfl) rfl ?_
        refine r_p (p_load1 t51 rfl rfl (g_row1 (k := 6) rfl rfl)) rfl ?_
        refine r_callN (xs := [.tmp 88, .tmp 90]) ((ih st hsm).2 vn4 ns4 (by rw [h4 q8, bYs_len, dN_len]; omega)) cb40 [0, 1] [(false, 9), (false, 1)] [0, 1] rfl rfl rfl rfl rfl rfl rfl rfl (fun _ _ => rfl) (fun _ _ _ => rfl) rfl (fun ⟨vn5, ns5⟩ h5 => ?_)
        dsimp only at h5 ⊢
        rw [h4 q8] at h5 ⊢
        refine r_p (p_assign rfl) rfl (r_nil ?_)
        refine r_here (vn5, ns5) (fun h => h5 (by rw [q8] at h; exact h)) (by rw [q8, zero_fst]; rfl) rfl rfl
       ·(try simp only [decide_eq_true_eq, decide_eq_false_iff_not, Bool.and_eq_true, Bool.or_eq_true, Bool.and_eq_false_iff, Bool.or_eq_false_iff, Bool.not_eq_true, Bool.not_eq_false, Bool.not_eq_true', Bool.not_eq_false', Bool.not_not, bne_iff_ne, beq_iff_eq] at h11)
        have q8 : (bYs fs (dN ns2 st) st.body).2 ≠ 0 := h11
        refine r_skip ?_
        refine r_here (vn4, ns4) (fun h => absurd h (by rw [fst_ne q8]; exact q8)) (by rw [fst_ne q8]; rfl) rfl rfl
      ·refine r_seq (r_region (r_p (p_move rfl) rfl ?_))
       refine r_p (p_bin rfl rfl b_ne) rfl ?_
       refine r_nil ?_
       refine r_cond rfl (fun h12 => ?_) (fun h12 => ?_)
       ·(try simp only [decide_eq_true_eq, decide_eq_false_iff_not, Bool.and_eq_true, Bool.or_eq_true, Bool.and_eq_false_iff, Bool.or_eq_false_iff, Bool.not_eq_true, Bool.not_eq_false, Bool.not_eq_true', Bool.not_eq_false', Bool.not_not, bne_iff_ne, beq_iff_eq] at h12)
        have q9 : fst (bYs fs (dN ns2 st) st.body).2 (bYs fs (bYs fs (dN ns2 st) st.body).1 st.els).2 ≠ 0 := h12
        refine r_seq (r_region (r_p (p_move rfl) rfl (r_p (p_assign rfl) rfl (r_nil (r_cret ?_)))))
        refine r_ret y (fun h => absurd h (by rw [bYs_stop hst n2 (z := fst (bYs fs (dN ns2 st) st.body).2 (bYs fs (bYs fs (dN ns2 st) st.body).1 st.els).2) (by rw [bY_b q2 q3 n4]) q9]; exact q9)) rfl (rs1 (rv_tmp rfl)) (by rw [bYs_stop hst n2 (z := fst (bYs fs (dN ns2 st) st.body).2 (bYs fs (bYs fs (dN ns2 st) st.body).1 st.els).2) (by rw [bY_b q2 q3 n4]) q9]) [0, 1] [] rfl rfl rfl
       ·(try simp only [decide_eq_true_eq, decide_eq_false_iff_not, Bool.and_eq_true, Bool.or_eq_true, Bool.and_eq_false_iff, Bool.or_eq_false_iff, Bool.not_eq_true, Bool.not_eq_false, Bool.not_eq_true', Bool.not_eq_false', Bool.not_not, bne_iff_ne, beq_iff_eq] at h12)
        have q9 : fst (bYs fs (dN ns2 st) st.body).2 (bYs fs (bYs fs (dN ns2 st) st.body).1 st.els).2 = 0 := h12
        refine r_skip (r_region (r_p (p_move rfl) rfl ?_))
        refine r_p (p_bin rfl rfl (b_add (by first | exact w_i64 (by omega) (by omega) | rfl))) rfl ?_
        refine r_p (p_assign rfl) rfl (r_nil ?_)
        refine r_here ⟨i + 1, y.1, y.2⟩ ⟨⟨by dsimp only; omega, bYs_go hst n2 (by rw [bY_b q2 q3 n4, hy q9, q9])⟩, by dsimp only; omega⟩ rfl rfl rfl
 ·(try simp only [decide_eq_true_eq, decide_eq_false_iff_not, Bool.and_eq_true, Bool.or_eq_true, Bool.and_eq_false_iff, Bool.or_eq_false_iff, Bool.not_eq_true, Bool.not_eq_false, Bool.not_eq_true', Bool.not_eq_false', Bool.not_not, bne_iff_ne, beq_iff_eq] at h1)
  have hi : i = l.length := by omega
  subst hi
  rw [List.take_length] at n2
  refine r_exit (r_seq (r_region (r_p (p_assign rfl) rfl (r_nil (r_cret ?_)))))
  refine r_ret (vn2, ns2) (fun _ => by rw [n2]) rfl (rs1 (rv_tmp rfl)) (by rw [n2]) [0, 1] [] rfl rfl rfl
theorem ss_all (c : Nat) (vp : SV) (fs : List Tf) (hfl : fs.length ≤ 1000000) : ∀ (n : Nat) (v : SV) (l : List Ty), SizeOf.sizeOf l < n → l.length ≤ 1000000 → GYs l → l.all rY = true → HSs c vp fs v l
 | 0, _, _, h, _, _, _ => absurd h (Nat.not_lt_zero _)
 | n + 1, v, l, h, hl, hg, hr => fun vn ns hb => ss_step c vp fs hfl v l hl hg hr (fun u hu => by
  have h1 := List.sizeOf_lt_of_mem hu
  have h2 : SizeOf.sizeOf u.body < SizeOf.sizeOf u ∧ SizeOf.sizeOf u.els < SizeOf.sizeOf u := by
   cases u
   simp only [Ty.mk.sizeOf_spec, Ty.body, Ty.els]
   omega
  have h3 := hg.mem u hu
  have h4 := List.all_eq_true.1 hr u hu
  rw [rY_def] at h4
  simp only [Bool.and_eq_true] at h4
  exact ⟨ss_all c vp fs hfl n u.vb u.body (by omega) (GY_body h3).1 (GY_body h3).2 h4.1.2, ss_all c vp fs hfl n u.vl u.els (by omega) (GY_els h3).1 (GY_els h3).2 h4.2⟩) vn ns hb
theorem ss_spec (c : Nat) (vp : SV) (fs : List Tf) (hfl : fs.length ≤ 1000000) (v : SV) (l : List Ty) (hl : l.length ≤ 1000000) (hg : GYs l) (hr : l.all rY = true) : HSs c vp fs v l := ss_all c vp fs hfl _ v l (Nat.lt_succ_self _) hl hg hr
theorem chkFs_hit {fs l : List Tf} {i : Nat} {f : Tf} {z : Int} (hf : l[i]? = some f) (h0 : chkFs fs (l.take i) = 0) (h : chkF fs f = z) (hz : z ≠ 0) : chkFs fs l = z := by
 have h1 := chkFs_app fs (l.take (i + 1)) (l.drop (i + 1))
 rw [List.take_append_drop, chkFs_take hf, h0, zero_fst, h, fst_ne hz] at h1
 exact h1
theorem chkF_b {fs : List Tf} {f : Tf} (h : big f) : chkF fs f = 2 := by rw [chkF_eq, if_pos h]; rfl
theorem dcl_hit {l : List ByteArray} {i : Nat} {x : ByteArray} (hx : l[i]? = some x) (h0 : dcl [] (l.take i) = 0) (h : memB x (l.take i) = true) : dcl [] l = 22 := by
 have h1 := dcl_app [] (l.take (i + 1)) (l.drop (i + 1))
 rw [List.take_append_drop, dcl_take hx, h0, zero_fst, if_pos h] at h1
 exact h1
theorem chkF_p {fs : List Tf} {f : Tf} (h : ¬ big f) (h2 : dcl [] f.ps = 22) : chkF fs f = 22 := by rw [chkF_eq, if_neg h, h2]; rfl
theorem chkF_s {fs : List Tf} {f : Tf} (h : ¬ big f) (h2 : dcl [] f.ps = 0) : chkF fs f = (bYs fs f.ps f.body).2 := by rw [chkF_eq, if_neg h, h2]; rfl
theorem chk_1z {fs : List Tf} (h : rP fs = false) : chk fs = 1 := by unfold chk; rw [if_pos h]
theorem chk_2z {fs : List Tf} (h : rP fs = true) (h2 : fs.length > 16) : chk fs = 2 := by unfold chk; rw [if_neg (by rw [h]; simp), if_pos h2]
set_option maxHeartbeats 8000000 in
set_option maxRecDepth 100000 in
theorem check8_spec (vp : SV) (fs : List Tf) (hg : GP fs) :
  Spec Tryz.prog 14 [.agg #[sv vp]] [] [tfsA vp fs] (X := Unit) (fun _ => True) (fun _ => .int .i64 (chk fs)) (fun _ => []) (fun _ => []) := by
 refine r_enter Tryz.func14 rfl Tryz.ntmps14 rfl fun w0 M H => ?_
 refine r_more 0 1 rfl tfs_sl ?_
 have hgl := hg.1
 refine r_seq (r_region ?_)
 refine r_boxA rfl rfl fun b1 => ?_
 refine r_p (p_assign rfl) rfl (r_nil (r_seq (r_region ?_)))
 refine r_p (p_loadA t29 rfl rfl rfl (g_all (k := 1) rfl)) rfl ?_
 refine r_callN (xs := [.tmp 13]) (right8_spec vp fs hg) cb36 [] [(false, 0)] [] rfl rfl rfl rfl rfl rfl rfl rfl (fun _ _ => rfl) (fun _ _ _ => rfl) rfl (fun _ _ => ?_)
 refine r_p (p_assign rfl) rfl (r_nil (r_seq (r_seq (r_region (r_p (p_move rfl) rfl ?_)))))
 refine r_p (p_not rfl) rfl ?_
 refine r_nil ?_
 refine r_cond rfl (fun h1 => ?_) (fun h1 => ?_)
 ·have q1 : rP fs = false := by simpa using h1
  refine r_seq (r_region (r_p (p_assign rfl) rfl (r_nil (r_cret ?_))))
  refine r_ret () trivial rfl (rs1 (rv_tmp rfl)) (by rw [chk_1z q1]) [] [] rfl rfl rfl
 ·have q1 : rP fs = true := by simpa using h1
  refine r_skip (r_seq (r_seq (r_region ?_)))
  refine r_p (p_field0 fo29_0 rfl) rfl ?_
  refine r_p (p_load1 t27 rfl rfl (g_row1 (k := 1) rfl rfl)) rfl ?_
  refine r_p (p_len_sl Tryz.underlying27 rfl (hs_sl (k := 1) rfl)) rfl ?_
  refine r_p (p_bin rfl rfl b_gt) rfl ?_
  refine r_nil ?_
  refine r_cond rfl (fun h2 => ?_) (fun h2 => ?_)
  ·(try simp only [decide_eq_true_eq, decide_eq_false_iff_not, Bool.and_eq_true, Bool.or_eq_true, Bool.and_eq_false_iff, Bool.or_eq_false_iff, Bool.not_eq_true, Bool.not_eq_false, Bool.not_eq_true', Bool.not_eq_false', Bool.not_not, bne_iff_ne, beq_iff_eq] at h2)
   have q2 : fs.length > 16 := by omega
   refine r_seq (r_region (r_p (p_assign rfl) rfl (r_nil (r_cret ?_))))
   refine r_ret () trivial rfl (rs1 (rv_tmp rfl)) (by rw [chk_2z q1 q2]) [] [] rfl rfl rfl
  ·(try simp only [decide_eq_true_eq, decide_eq_false_iff_not, Bool.and_eq_true, Bool.or_eq_true, Bool.and_eq_false_iff, Bool.or_eq_false_iff, Bool.not_eq_true, Bool.not_eq_false, Bool.not_eq_true', Bool.not_eq_false', Bool.not_not, bne_iff_ne, beq_iff_eq] at h2)
   have q2 : ¬ fs.length > 16 := by omega
   refine r_skip (r_seq (r_seq (r_region (r_p (p_assign rfl) rfl (r_nil (r_block ?_))))))
   refine r_loop (X := Nat) (fun i => i ≤ fs.length ∧ ∀ j f, j < i → fs[j]? = some f → fix fs f.name = (j : Int)) (fun i => [(1, .pointer (some ⟨b1, 0, none⟩)), (4, .int .i64 (i : Int))]) (fun i => [(1, row b1 29 [sv vp])]) (fun i => [(0, tfsA vp fs), (1, sl 3 eTf (sv vp) fs)]) (fun i => fs.length - i) 0 ⟨Nat.zero_le _, fun j f h => absurd h (Nat.not_lt_zero _)⟩ rfl rfl rfl (fun i hx0 => ?_)
   obtain ⟨n1, n2⟩ := hx0
   refine r_seq (r_seq (r_region (r_p (p_move rfl) rfl ?_)))
   refine r_p (p_field0 fo29_0 rfl) rfl ?_
   refine r_p (p_load1 t27 rfl rfl (g_row1 (k := 1) rfl rfl)) rfl ?_
   refine r_p (p_len_sl Tryz.underlying27 rfl (hs_sl (k := 1) rfl)) rfl ?_
   refine r_p (p_bin rfl rfl b_lt) rfl ?_
   refine r_nil ?_
   refine r_cond rfl (fun h3 => ?_) (fun h3 => ?_)
   ·(try simp only [decide_eq_true_eq, decide_eq_false_iff_not, Bool.and_eq_true, Bool.or_eq_true, Bool.and_eq_false_iff, Bool.or_eq_false_iff, Bool.not_eq_true, Bool.not_eq_false, Bool.not_eq_true', Bool.not_eq_false', Bool.not_not, bne_iff_ne, beq_iff_eq] at h3)
    have hi : i < fs.length := by omega
    obtain ⟨f, hf⟩ : ∃ k, fs[i]? = some k := ⟨_, List.getElem?_eq_getElem hi⟩
    have hfm := List.mem_of_getElem? hf
    refine r_skip (r_seq (r_block (r_seq ?_)))
    refine r_draw [28, 29, 30, 31, 32, 33, 34, 35, 36, 37] _ rfl (stg_mem (V := [(0, 28, _), (1, 29, _), (2, 30, _), (3, 31, _), (4, 32, _), (5, 33, _), (6, 34, _), (8, 36, _)]) [0, 1, 2, 3, 4, 5, 6, 8] 7 [7, 6, 5, 4, 3, 2, 1, 0] [9] (fun _ => [(9, 37, _)]) rfl rfl (prs_cons (pri rfl (p_loadA t29 rfl rfl rfl (g_all (k := 1) rfl))) (prs_cons (pri rfl (p_field0 fo29_0 rfl)) (prs_cons (pri rfl (p_load1 t27 rfl rfl (g_row1 (k := 1) rfl rfl))) (prs_cons (pri rfl (p_move rfl)) (prs_cons (pri rfl (p_idx_sl (j := i) Tryz.underlying27 t63 rfl rfl (hs_sl (k := 1) rfl) (by first | rfl | omega) (by first | omega | (simp; done) | (simp; omega)))) (prs_cons (pri rfl (p_field fo63_0 rfl)) (prs_cons (pri rfl (p_load1 t9 rfl rfl (g_elp (hs_sl (k := 1) rfl) (by intro _; rfl) hf rfl))) (prs_cons (pri rfl (p_move rfl)) prs_nil)))))))) rfl rfl rfl rfl rfl rfl rfl rfl rfl rfl rfl (fun _ _ => rfl) rfl (ms_callN (xs := [.tmp 28, .tmp 34]) (find9_spec f.name vp fs hg.1) cb37 [] [(false, 1)] [] rfl rfl rfl rfl rfl rfl rfl rfl (fun _ _ => rfl) (fun _ _ _ => rfl)) (fun _ _ => stg_end [9, 8] rfl rfl (prs_cons (pri rfl (p_bin rfl rfl b_ne)) (prs_cons (pri rfl (p_move rfl)) prs_nil)) rfl rfl rfl ?_))
    refine r_cond rfl (fun h4 => ?_) (fun h4 => ?_)
    ·(try simp only [decide_eq_true_eq, decide_eq_false_iff_not, Bool.and_eq_true, Bool.or_eq_true, Bool.and_eq_false_iff, Bool.or_eq_false_iff, Bool.not_eq_true, Bool.not_eq_false, Bool.not_eq_true', Bool.not_eq_false', Bool.not_not, bne_iff_ne, beq_iff_eq] at h4)
     have q4 : ¬ fix fs f.name = (i : Int) := h4
     refine r_seq (r_region (r_p (p_assign rfl) rfl (r_nil (r_cret ?_))))
     refine r_ret () trivial rfl (rs1 (rv_tmp rfl)) (by rw [chk_22 q1 q2 (once_no hf q4)]) [] [] rfl rfl rfl
    ·(try simp only [decide_eq_true_eq, decide_eq_false_iff_not, Bool.and_eq_true, Bool.or_eq_true, Bool.and_eq_false_iff, Bool.or_eq_false_iff, Bool.not_eq_true, Bool.not_eq_false, Bool.not_eq_true', Bool.not_eq_false', Bool.not_not, bne_iff_ne, beq_iff_eq] at h4)
     have q4 : fix fs f.name = (i : Int) := h4
     refine r_skip (r_region (r_p (p_move rfl) rfl ?_))
     refine r_p (p_bin rfl rfl (b_add (by first | exact w_i64 (by omega) (by omega) | rfl))) rfl ?_
     refine r_p (p_assign rfl) rfl (r_nil ?_)
     refine r_here (i + 1) ⟨⟨by omega, fun j g hj hgj => by
      by_cases h : j = i
      ·subst h
       rw [hf] at hgj
       cases hgj
       exact q4
      ·exact n2 j g (by omega) hgj⟩, by omega⟩ rfl rfl rfl
   ·(try simp only [decide_eq_true_eq, decide_eq_false_iff_not, Bool.and_eq_true, Bool.or_eq_true, Bool.and_eq_false_iff, Bool.or_eq_false_iff, Bool.not_eq_true, Bool.not_eq_false, Bool.not_eq_true', Bool.not_eq_false', Bool.not_not, bne_iff_ne, beq_iff_eq] at h3)
    have hi : i = fs.length := by omega
    subst hi
    have q3 : once fs = true := once_iff.2 fun j g hgj => n2 j g (List.getElem?_eq_some_iff.1 hgj).1 hgj
    refine r_exit (r_seq (r_region ?_))
    refine r_p (p_loadA t29 rfl rfl rfl (g_all (k := 1) rfl)) rfl ?_
    refine r_callN (xs := [.tmp 38, .const (.string (ByteArray.mk #[109, 97, 105, 110]))]) (find9_spec nMain vp fs hg.1) cb37 [] [(false, 1)] [] rfl rfl rfl rfl rfl rfl rfl rfl (fun _ _ => rfl) (fun _ _ _ => rfl) rfl (fun _ _ => ?_)
    refine r_p (p_assign rfl) rfl (r_nil (r_seq (r_seq (r_region (r_p (p_move rfl) rfl ?_)))))
    refine r_p (p_bin rfl rfl b_lt) rfl ?_
    refine r_nil ?_
    refine r_cond rfl (fun h5 => ?_) (fun h5 => ?_)
    ·have hff : ffind fs nMain = none := ffind_fix.1.1 (of_decide_eq_true h5)
     refine r_seq (r_region (r_p (p_assign rfl) rfl (r_nil (r_cret ?_))))
     refine r_ret () trivial rfl (rs1 (rv_tmp rfl)) (by rw [chk_21 q1 q2 q3 hff]) [] [] rfl rfl rfl
    ·have hq1 : ¬ fix fs nMain < 0 := of_decide_eq_false h5
     obtain ⟨fm, hff⟩ : ∃ f, ffind fs nMain = some f := by
      cases hf : ffind fs nMain with
      | none => exact absurd (ffind_fix.1.2 hf) hq1
      | some f => exact ⟨f, rfl⟩
     obtain ⟨m, hxm, hfx⟩ := ffind_fix.2 fm hff
     have hfmm := List.mem_of_getElem? hfx
     have hml : m < fs.length := (List.getElem?_eq_some_iff.1 hfx).1
     rw [hxm]
     refine r_more 0 11 rfl (tfs_f hfmm) ?_
     refine r_more 11 12 rfl tf_ps ?_
     refine r_skip (r_seq (r_seq (r_region ?_)))
     refine r_p (p_field0 fo29_0 rfl) rfl ?_
     refine r_p (p_load1 t27 rfl rfl (g_row1 (k := 1) rfl rfl)) rfl ?_
     refine r_p (p_move rfl) rfl ?_
     refine r_p (p_idx_sl (j := m) Tryz.underlying27 t63 rfl rfl (hs_sl (k := 1) rfl) rfl hml) rfl ?_
     refine r_p (p_field fo63_1 rfl) rfl ?_
     refine r_p (p_load1 t58 rfl rfl (g_elp (hs_sl (k := 1) rfl) (by intro _; rfl) hfx rfl)) rfl ?_
     refine r_p (p_len_sl Tryz.underlying58 rfl (hs_sl (k := 12) rfl)) rfl ?_
     refine r_p (p_bin rfl rfl b_gt) rfl ?_
     refine r_nil ?_
     refine r_cond rfl (fun h6 => ?_) (fun h6 => ?_)
     ·(try simp only [decide_eq_true_eq, decide_eq_false_iff_not, Bool.and_eq_true, Bool.or_eq_true, Bool.and_eq_false_iff, Bool.or_eq_false_iff, Bool.not_eq_true, Bool.not_eq_false, Bool.not_eq_true', Bool.not_eq_false', Bool.not_not, bne_iff_ne, beq_iff_eq] at h6)
      have q6 : fm.ps.length > 0 := by omega
      refine r_seq (r_region (r_p (p_assign rfl) rfl (r_nil (r_cret ?_))))
      refine r_ret () trivial rfl (rs1 (rv_tmp rfl)) (by rw [chk_23 q1 q2 q3 hff q6]) [] [] rfl rfl rfl
     ·(try simp only [decide_eq_true_eq, decide_eq_false_iff_not, Bool.and_eq_true, Bool.or_eq_true, Bool.and_eq_false_iff, Bool.or_eq_false_iff, Bool.not_eq_true, Bool.not_eq_false, Bool.not_eq_true', Bool.not_eq_false', Bool.not_not, bne_iff_ne, beq_iff_eq] at h6)
      have q6 : ¬ fm.ps.length > 0 := by omega
      refine r_skip (r_seq (r_seq (r_region (r_p (p_assign rfl) rfl (r_nil (r_block ?_))))))
      refine r_loop (X := Nat) (fun i => i ≤ fs.length ∧ chkFs fs (fs.take i) = 0) (fun i => [(1, .pointer (some ⟨b1, 0, none⟩)), (6, .int .i64 (i : Int))]) (fun i => [(1, row b1 29 [sv vp])]) (fun i => [(0, tfsA vp fs), (1, sl 3 eTf (sv vp) fs)]) (fun i => fs.length - i) 0 ⟨Nat.zero_le _, rfl⟩ rfl rfl rfl (fun i hx0 => ?_)
      obtain ⟨n1, n2⟩ := hx0
      refine r_seq (r_seq (r_region (r_p (p_move rfl) rfl ?_)))
      refine r_p (p_field0 fo29_0 rfl) rfl ?_
      refine r_p (p_load1 t27 rfl rfl (g_row1 (k := 1) rfl rfl)) rfl ?_
      refine r_p (p_len_sl Tryz.underlying27 rfl (hs_sl (k := 1) rfl)) rfl ?_
      refine r_p (p_bin rfl rfl b_lt) rfl ?_
      refine r_nil ?_
      refine r_cond rfl (fun h7 => ?_) (fun h7 => ?_)
      ·(try simp only [decide_eq_true_eq, decide_eq_false_iff_not, Bool.and_eq_true, Bool.or_eq_true, Bool.and_eq_false_iff, Bool.or_eq_false_iff, Bool.not_eq_true, Bool.not_eq_false, Bool.not_eq_true', Bool.not_eq_false', Bool.not_not, bne_iff_ne, beq_iff_eq] at h7)
       have hi : i < fs.length := by omega
       obtain ⟨f, hf⟩ : ∃ k, fs[i]? = some k := ⟨_, List.getElem?_eq_getElem hi⟩
       have hfm := List.mem_of_getElem? hf
       have hgf := hg.2 f hfm
       have hpl := hgf.2.2.1
       have hsum := hgf.2.2.2.2.2
       have hvn := vYs_le f.body
       have hdn := dSs_le f.body
       have hbr : f.body.all rY = true := by
        have h := List.all_eq_true.1 q1 f hfm
        rw [rF_def] at h
        simp only [Bool.and_eq_true] at h
        exact h.2
       refine r_more 0 7 rfl (tfs_f hfm) ?_
       refine r_more 7 8 rfl tf_ps ?_
       refine r_more 7 9 rfl tf_body ?_
       refine r_skip (r_seq (r_block (r_seq (r_region ?_))))
       refine r_p (p_field0 fo29_0 rfl) rfl ?_
       refine r_p (p_load1 t27 rfl rfl (g_row1 (k := 1) rfl rfl)) rfl ?_
       refine r_p (p_move rfl) rfl ?_
       refine r_p (p_idx_sl (j := i) Tryz.underlying27 t63 rfl rfl (hs_sl (k := 1) rfl) (by first | rfl | omega) (by first | omega | (simp; done) | (simp; omega))) rfl ?_
       refine r_p (p_loadA t63 rfl rfl rfl (g_el' (hs_sl (k := 1) rfl) (by intro _; rfl) hf (by rfl))) rfl ?_
       refine r_alloc t63 rfl rfl fun b7 => ?_
       refine r_store_all (k := 7) t63 rfl rfl rfl rfl rfl rfl ?_
       refine r_nil (r_seq (r_region ?_))
       refine r_p (p_field0 fo63_2 rfl) rfl ?_
       refine r_p (p_load1 t51 rfl rfl (g_row1 (k := 7) rfl rfl)) rfl ?_
       refine r_callN (xs := [.tmp 63]) (stmtsize_spec f.vb f.body hgf.2.2.2.1 hgf.2.2.2.2.1 (by omega)) cb38 [] [(false, 9)] [] rfl rfl rfl rfl rfl rfl rfl rfl (fun _ _ => rfl) (fun _ _ _ => rfl) rfl (fun _ _ => ?_)
       refine r_alloc t86 rfl rfl fun b8 => ?_
       refine r_store_all (k := 8) t86 rfl rfl rfl rfl rfl rfl ?_
       refine r_nil (r_seq (r_seq (r_region ?_)))
       refine r_p (p_field0 fo63_1 rfl) rfl ?_
       refine r_p (p_load1 t58 rfl rfl (g_row1 (k := 7) rfl rfl)) rfl ?_
       refine r_p (p_len_sl Tryz.underlying58 rfl (hs_sl (k := 8) rfl)) rfl ?_
       refine r_p (p_bin rfl rfl b_gt) rfl ?_
       refine r_p (p_move rfl) rfl ?_
       refine r_gp [] rfl rfl trivial (fun hg8 => p_field0 fo63_1 rfl) rfl ?_
       refine r_gp [(70, _)] rfl rfl ⟨rfl, trivial⟩ (fun hg9 => p_load1 t58 rfl rfl (g_row1 (k := 7) rfl rfl)) rfl ?_
       refine r_gp [(70, _), (71, _)] rfl rfl ⟨rfl, rfl, trivial⟩ (fun hg10 => p_len_sl Tryz.underlying58 rfl (hs_sl (k := 8) rfl)) rfl ?_
       refine r_gp [(70, _), (71, _), (72, _)] rfl rfl ⟨rfl, rfl, rfl, trivial⟩ (fun hg11 => p_field0 fo86_1 rfl) rfl ?_
       refine r_gp [(70, _), (71, _), (72, _), (73, _)] rfl rfl ⟨rfl, rfl, rfl, rfl, trivial⟩ (fun hg12 => p_load1 t3 rfl rfl (g_row1 (k := 8) rfl rfl)) rfl ?_
       refine r_gp [(70, _), (71, _), (72, _), (73, _), (74, _)] rfl rfl ⟨rfl, rfl, rfl, rfl, rfl, trivial⟩ (fun hg13 => p_bin rfl rfl (b_add (by first | exact w_i64 (by omega) (by omega) | rfl))) rfl ?_
       refine r_gp [(70, _), (71, _), (72, _), (73, _), (74, _), (75, _)] rfl rfl ⟨rfl, rfl, rfl, rfl, rfl, rfl, trivial⟩ (fun hg14 => p_bin rfl rfl b_gt) rfl ?_
       refine r_p (p_pick rfl rfl rfl (by first | exact pick_and | exact pick_or |  rfl)) rfl ?_
       refine r_p (p_move rfl) rfl ?_
       refine r_gp [] rfl rfl trivial (fun hg15 => p_field0 fo86_0 rfl) rfl ?_
       refine r_gp [(79, _)] rfl rfl ⟨rfl, trivial⟩ (fun hg16 => p_load1 t3 rfl rfl (g_row1 (k := 8) rfl rfl)) rfl ?_
       refine r_gp [(79, _), (80, _)] rfl rfl ⟨rfl, rfl, trivial⟩ (fun hg17 => p_bin rfl rfl b_gt) rfl ?_
       refine r_p (p_pick rfl rfl rfl (by first | exact pick_and | exact pick_or |  rfl)) rfl ?_
       refine r_p (p_move rfl) rfl ?_
       refine r_gp [] rfl rfl trivial (fun hg18 => p_field0 fo86_2 rfl) rfl ?_
       refine r_gp [(84, _)] rfl rfl ⟨rfl, trivial⟩ (fun hg19 => p_load1 t3 rfl rfl (g_row1 (k := 8) rfl rfl)) rfl ?_
       refine r_gp [(84, _), (85, _)] rfl rfl ⟨rfl, rfl, trivial⟩ (fun hg20 => p_bin rfl rfl b_gt) rfl ?_
       refine r_p (p_pick rfl rfl rfl (by first | exact pick_and | exact pick_or |  rfl)) rfl ?_
       refine r_p (p_move rfl) rfl ?_
       refine r_gp [] rfl rfl trivial (fun hg21 => p_field0 fo86_3 rfl) rfl ?_
       refine r_gp [(89, _)] rfl rfl ⟨rfl, trivial⟩ (fun hg22 => p_load1 t3 rfl rfl (g_row1 (k := 8) rfl rfl)) rfl ?_
       refine r_gp [(89, _), (90, _)] rfl rfl ⟨rfl, rfl, trivial⟩ (fun hg23 => p_bin rfl rfl b_gt) rfl ?_
       refine r_p (p_pick rfl rfl rfl (by first | exact pick_and | exact pick_or |  rfl)) rfl ?_
       refine r_nil ?_
       refine r_cond rfl (fun h24 => ?_) (fun h24 => ?_)
       ·(try simp only [decide_eq_true_eq, decide_eq_false_iff_not, Bool.and_eq_true, Bool.or_eq_true, Bool.and_eq_false_iff, Bool.or_eq_false_iff, Bool.not_eq_true, Bool.not_eq_false, Bool.not_eq_true', Bool.not_eq_false', Bool.not_not, bne_iff_ne, beq_iff_eq] at h24)
        have q8 : big f := by rw [big_iff]; omega
        refine r_seq (r_region (r_p (p_assign rfl) rfl (r_nil (r_cret ?_))))
        refine r_ret () trivial rfl (rs1 (rv_tmp rfl)) (by rw [chk_0 q1 q2 q3 hff q6, chkFs_hit hf n2 (chkF_b q8) (by decide)]) [] [] rfl rfl rfl
       ·(try simp only [decide_eq_true_eq, decide_eq_false_iff_not, Bool.and_eq_true, Bool.or_eq_true, Bool.and_eq_false_iff, Bool.or_eq_false_iff, Bool.not_eq_true, Bool.not_eq_false, Bool.not_eq_true', Bool.not_eq_false', Bool.not_not, bne_iff_ne, beq_iff_eq] at h24)
        have q8 : ¬ big f := by rw [big_iff]; omega
        refine r_skip (r_seq (r_region ?_))
        refine r_p (p_loadA t29 rfl rfl rfl (g_all (k := 1) rfl)) rfl ?_
        refine r_p (p_build (parts := [(0, .tmp 93)]) t90 pl90 rfl rfl) rfl ?_
        refine r_boxA rfl rfl fun b95 => ?_
        refine r_p (p_assign rfl) rfl (r_nil (r_seq (r_seq (r_region (r_p (p_assign rfl) rfl (r_nil (r_block ?_)))))))
        refine r_nilown 20 (α := ByteArray) (S := 9) (s := 1) (enc := eS) ?_
        refine r_loop (X := Nat × SV) (fun x => x.1 ≤ f.ps.length ∧ dcl [] (f.ps.take x.1) = 0) (fun x => [(1, .pointer (some ⟨b1, 0, none⟩)), (6, .int .i64 (i : Int)), (7, .pointer (some ⟨b7, 0, none⟩)), (9, .pointer (some ⟨b95, 0, none⟩)), (10, .int .i64 (x.1 : Int))]) (fun x => [(1, row b1 29 [sv vp]), (7, row b7 63 (eTf f)), (95, row b95 90 [sv vp, sv x.2]), (20, own 9 1 eS (sv x.2) (f.ps.take x.1))]) (fun x => [(0, tfsA vp fs), (1, sl 3 eTf (sv vp) fs), (7, tfA f), (8, sl 1 eS (sv f.vp) f.ps), (9, tysA f.vb f.body)]) (fun x => f.ps.length - x.1) (0, nilS) ⟨Nat.zero_le _, rfl⟩ rfl rfl rfl (fun x hy0 => ?_)
        obtain ⟨j, vn⟩ := x
        obtain ⟨n3, n4⟩ := hy0
        dsimp only at n3 n4 ⊢
        refine r_seq (r_seq (r_region (r_p (p_move rfl) rfl ?_)))
        refine r_p (p_field0 fo63_1 rfl) rfl ?_
        refine r_p (p_load1 t58 rfl rfl (g_row1 (k := 7) rfl rfl)) rfl ?_
        refine r_p (p_len_sl Tryz.underlying58 rfl (hs_sl (k := 8) rfl)) rfl ?_
        refine r_p (p_bin rfl rfl b_lt) rfl ?_
        refine r_nil ?_
        refine r_cond rfl (fun h25 => ?_) (fun h25 => ?_)
        ·(try simp only [decide_eq_true_eq, decide_eq_false_iff_not, Bool.and_eq_true, Bool.or_eq_true, Bool.and_eq_false_iff, Bool.or_eq_false_iff, Bool.not_eq_true, Bool.not_eq_false, Bool.not_eq_true', Bool.not_eq_false', Bool.not_not, bne_iff_ne, beq_iff_eq] at h25)
         have hj : j < f.ps.length := by omega
         obtain ⟨x, hx⟩ : ∃ k, f.ps[j]? = some k := ⟨_, List.getElem?_eq_getElem hj⟩
         refine r_skip (r_seq (r_block (r_seq ?_)))
         refine r_draw [103, 104, 105, 106, 107, 108, 109, 110, 111, 112, 11] _ rfl (stg_mem (V := [(0, 103, _), (1, 104, _), (2, 105, _), (3, 106, _), (4, 107, _), (5, 108, _), (6, 109, _), (7, 110, _), (8, 111, _)]) [0, 1, 2, 3, 4, 5, 6, 7, 8] 9 [9, 8, 7, 6, 5, 4, 3, 2, 1, 0] [10] (fun _ => [(10, 11, _)]) rfl rfl (prs_cons (pri rfl (p_field0 fo63_1 rfl)) (prs_cons (pri rfl (p_load1 t58 rfl rfl (g_row1 (k := 7) rfl rfl))) (prs_cons (pri rfl (p_move rfl)) (prs_cons (pri rfl (p_idx_sl (j := j) Tryz.underlying58 t9 rfl rfl (hs_sl (k := 8) rfl) (by first | rfl | omega) (by first | omega | (simp; done) | (simp; omega)))) (prs_cons (pri rfl (p_load1 t9 rfl rfl (g_el' (hs_sl (k := 8) rfl) (by intro _; rfl) hx (by rfl)))) (prs_cons (pri rfl (p_move rfl)) (prs_cons (pri rfl (p_nilCheck rfl)) (prs_cons (pri rfl (p_field0 fo90_1 rfl)) (prs_cons (pri rfl (p_load1 t58 rfl rfl (g_row1 (k := 95) rfl rfl))) prs_nil))))))))) rfl rfl rfl rfl rfl rfl rfl rfl rfl rfl rfl (fun _ _ => rfl) rfl (ms_callN (xs := [.tmp 107, .tmp 111]) (among_own x vn (f.ps.take j) (by rw [List.length_take]; omega)) cb39 [] [(true, 20)] [] rfl rfl rfl rfl rfl rfl rfl rfl (fun _ _ => rfl) (fun _ _ _ => rfl)) (fun _ _ => stg_end [10] rfl rfl (prs_cons (pri rfl (p_assign rfl)) prs_nil) rfl rfl rfl ?_))
         refine r_seq (r_seq (r_region (r_p (p_move rfl) rfl (r_nil ?_))))
         refine r_cond rfl (fun h26 => ?_) (fun h26 => ?_)
         ·have q10 : memB x (f.ps.take j) = true := h26
          refine r_seq (r_region (r_p (p_assign rfl) rfl (r_nil (r_cret ?_))))
          refine r_ret () trivial rfl (rs1 (rv_tmp rfl)) (by rw [chk_0 q1 q2 q3 hff q6, chkFs_hit hf n2 (chkF_p q8 (dcl_hit hx n4 q10)) (by decide)]) [] [] rfl rfl rfl
         ·have q10 : memB x (f.ps.take j) = false := h26
          refine r_skip ?_
          refine r_draw [114, 115, 116, 117, 118, 119, 120, 121, 122, 123, 124, 125, 126, 127] _ rfl (stg_mem (V := [(0, 114, _), (1, 115, _), (2, 116, _), (3, 117, _), (4, 118, _), (5, 119, _), (6, 120, _), (7, 121, _), (8, 122, _), (9, 123, _)]) [0, 1, 2, 3, 4, 5, 6, 7, 8, 9] 10 [10, 9, 8, 7, 6, 5] [] (fun v124 => []) rfl rfl (prs_cons (pri rfl (p_move rfl)) (prs_cons (pri rfl (p_move rfl)) (prs_cons (pri rfl (p_nilCheck rfl)) (prs_cons (pri rfl (p_field0 fo90_1 rfl)) (prs_cons (pri rfl (p_load1 t58 rfl rfl (g_row1 (k := 95) rfl rfl))) (prs_cons (pri rfl (p_field0 fo63_1 rfl)) (prs_cons (pri rfl (p_load1 t58 rfl rfl (g_row1 (k := 7) rfl rfl))) (prs_cons (pri rfl (p_move rfl)) (prs_cons (pri rfl (p_idx_sl (j := j) Tryz.underlying58 t9 rfl rfl (hs_sl (k := 8) rfl) (by first | rfl | omega) (by first | omega | (simp; done) | (simp; omega)))) (prs_cons (pri rfl (p_load1 t9 rfl rfl (g_el' (hs_sl (k := 8) rfl) (by intro _; rfl) hx (by rfl)))) prs_nil)))))))))) rfl rfl rfl rfl rfl rfl rfl rfl rfl rfl rfl (fun _ _ => rfl) rfl (ms_bslice1 eS x Tryz.underlying58 t9 rfl (by decide) (by decide) rfl rfl rfl) (fun v124 _ => stg_mem [0, 1, 2, 3, 4] 11 [11, 10, 9, 8, 7, 6, 5, 4, 3, 2, 1] [12, 13] (fun v125 => [(12, 126, _), (13, 127, _)]) rfl rfl (prs_cons (pri rfl (p_move rfl)) (prs_cons (pri rfl (p_move rfl)) (prs_cons (pri rfl (p_nilCheck rfl)) (prs_cons (pri rfl (p_field0 fo90_1 rfl)) (prs_cons (pri rfl (p_load1 t58 rfl rfl (g_row1 (k := 95) rfl rfl))) prs_nil))))) rfl rfl rfl rfl rfl rfl rfl rfl rfl rfl rfl (fun _ _ => rfl) rfl (ms_append 20 Tryz.underlying58 t9 rfl (by decide) (fun _ => rfl) (fun _ => rfl) rfl rfl rfl (hs_own (k := 124) rfl) (by rw [List.length_take]; simp only [List.length_singleton]; omega) (by unfold maxLen; rw [List.length_take]; simp only [List.length_singleton]; omega)) (fun v125 _ => stg_mem0 [12, 13, 0] 14 [14, 13, 12, 11, 10, 9, 8, 7, 6, 5, 4, 3, 2, 1, 0] [] (fun _ => []) rfl rfl (prs_cons (pri rfl (p_nilCheck rfl)) (prs_cons (pri rfl (p_field0 fo90_1 rfl)) (prs_cons (pri rfl (p_move rfl)) prs_nil))) rfl rfl rfl rfl rfl rfl rfl rfl rfl (fun _ _ => rfl) rfl (ms_store_row (k := 95) t58 rfl rfl rfl rfl rfl rfl rfl rfl) (fun _ _ => stg_end [] rfl rfl prs_nil rfl rfl rfl ?_))))
          refine r_region (r_p (p_move rfl) rfl ?_)
          refine r_p (p_bin rfl rfl (b_add (by first | exact w_i64 (by omega) (by omega) | rfl))) rfl ?_
          refine r_p (p_assign rfl) rfl (r_nil ?_)
          refine r_here (j + 1, v125) ⟨⟨by dsimp only; omega, by dsimp only; rw [dcl_take hx, n4, if_neg (by rw [q10]; simp)]; rfl⟩, by dsimp only; omega⟩ rfl (by dsimp only; rw [take_snoc hx]; rfl) rfl
        ·(try simp only [decide_eq_true_eq, decide_eq_false_iff_not, Bool.and_eq_true, Bool.or_eq_true, Bool.and_eq_false_iff, Bool.or_eq_false_iff, Bool.not_eq_true, Bool.not_eq_false, Bool.not_eq_true', Bool.not_eq_false', Bool.not_not, bne_iff_ne, beq_iff_eq] at h25)
         have hj : j = f.ps.length := by omega
         subst hj
         rw [List.take_length] at n4
         rw [List.take_length]
         refine r_exit (r_seq (r_region (r_p (p_move rfl) rfl ?_)))
         refine r_p (p_field0 fo63_2 rfl) rfl ?_
         refine r_p (p_load1 t51 rfl rfl (g_row1 (k := 7) rfl rfl)) rfl ?_
         refine r_callN (xs := [.tmp 128, .tmp 130]) (ss_spec b95 vp fs hg.1 f.vb f.body hgf.2.2.2.1 hgf.2.2.2.2.1 hbr vn f.ps (by omega)) cb40 [95, 20] [(false, 9), (false, 0)] [95, 20] rfl rfl rfl rfl rfl rfl rfl rfl (fun _ _ => rfl) (fun _ _ _ => rfl) rfl (fun ⟨vn2, ns2⟩ _ => ?_)
         dsimp only
         refine r_p (p_assign rfl) rfl (r_nil (r_seq (r_region (r_p (p_move rfl) rfl ?_))))
         refine r_p (p_bin rfl rfl b_ne) rfl ?_
         refine r_nil ?_
         refine r_cond rfl (fun h27 => ?_) (fun h27 => ?_)
         ·(try simp only [decide_eq_true_eq, decide_eq_false_iff_not, Bool.and_eq_true, Bool.or_eq_true, Bool.and_eq_false_iff, Bool.or_eq_false_iff, Bool.not_eq_true, Bool.not_eq_false, Bool.not_eq_true', Bool.not_eq_false', Bool.not_not, bne_iff_ne, beq_iff_eq] at h27)
          have q11 : (bYs fs f.ps f.body).2 ≠ 0 := h27
          refine r_seq (r_region (r_p (p_move rfl) rfl (r_p (p_assign rfl) rfl (r_nil (r_cret ?_)))))
          refine r_ret () trivial rfl (rs1 (rv_tmp rfl)) (by rw [chk_0 q1 q2 q3 hff q6, chkFs_hit hf n2 (chkF_s q8 n4) q11]) [] [] rfl rfl rfl
         ·(try simp only [decide_eq_true_eq, decide_eq_false_iff_not, Bool.and_eq_true, Bool.or_eq_true, Bool.and_eq_false_iff, Bool.or_eq_false_iff, Bool.not_eq_true, Bool.not_eq_false, Bool.not_eq_true', Bool.not_eq_false', Bool.not_not, bne_iff_ne, beq_iff_eq] at h27)
          have q11 : (bYs fs f.ps f.body).2 = 0 := h27
          refine r_skip (r_region (r_p (p_move rfl) rfl ?_))
          refine r_p (p_bin rfl rfl (b_add (by first | exact w_i64 (by omega) (by omega) | rfl))) rfl ?_
          refine r_p (p_assign rfl) rfl (r_nil ?_)
          refine r_here (i + 1) ⟨⟨by omega, by rw [chkFs_take hf, n2, chkF_s q8 n4, q11]; rfl⟩, by omega⟩ rfl rfl rfl
      ·(try simp only [decide_eq_true_eq, decide_eq_false_iff_not, Bool.and_eq_true, Bool.or_eq_true, Bool.and_eq_false_iff, Bool.or_eq_false_iff, Bool.not_eq_true, Bool.not_eq_false, Bool.not_eq_true', Bool.not_eq_false', Bool.not_not, bne_iff_ne, beq_iff_eq] at h7)
       have hi : i = fs.length := by omega
       subst hi
       rw [List.take_length] at n2
       refine r_exit (r_seq (r_region (r_p (p_assign rfl) rfl (r_nil (r_cret ?_)))))
       refine r_ret () trivial rfl (rs1 (rv_tmp rfl)) (by rw [chk_0 q1 q2 q3 hff q6, n2]) [] [] rfl rfl rfl
theorem xC_sl {vp vi vo : SV} {mem : Nat → Int} {fuel used er : Int} : ((xC vp vi vo mem fuel used er).drop 3).take (((List.range 256).map mem).flatMap eU).length = ((List.range 256).map mem).flatMap eU := by
 rw [flat_eU, List.map_map]
 show List.take _ ((List.range 256).map (fun i => Value.int .u32 (mem i)) ++ _) = _
 rw [List.take_append_of_le_length (by simp), List.take_of_length_le (by simp)]
 rfl
theorem row_sl2 {α : Type} {b o n : Nat} {S : TypeId} {c : List Value} {enc : α → List Value} {s : Nat} {l : List α} (hl : l.length = n) (hn : n ≤ maxLen) (hc : (c.drop o).take (l.flatMap enc).length = l.flatMap enc) : ∀ w G, (row b S c).pred w G → (sl s enc (sv ⟨some ⟨b, o, none⟩, n, n⟩) l).pred w G := fun w G h => by
 refine ⟨n, by omega, hn, .inr ⟨b, o, by rw [hl]; rfl, (h.1 b).2 rfl, fun j u hj => ?_⟩⟩
 simp only [World.cell?, h.2]
 rw [← hc, List.getElem?_take] at hj
 split at hj
 ·rw [List.getElem?_drop] at hj
  simpa using hj
 ·simp at hj
theorem xRow_0 (m : Nat) (vin vp : SV) (ins : List Int) (fs : List Tf) (fuel : Int) : xRow ⟨⟨m, 0, 0, 0, vin, ins, fs⟩, vp, fuel⟩ (xS ⟨⟨m, 0, 0, 0, vin, ins, fs⟩, vp, fuel⟩ (ms0 ins fuel) nilS) = xC vp vin nilS (fun _ => 0) fuel 0 0 := by
 unfold xRow xS ms0
 dsimp only
 rw [Nat.sub_self, Int.sub_self]
 rfl
set_option maxHeartbeats 16000000 in
set_option maxRecDepth 100000 in
theorem run8_bad (vp vin : SV) (fs : List Tf) (ins : List Int) (fuel : Int) (hg : GP fs) (hi : ∀ x ∈ ins, oW x) (hil : ins.length ≤ 1000000) (hf : -1000000000000000000 ≤ fuel ∧ fuel ≤ 1000000000000) (hc : chk fs ≠ 0) :
  Spec Tryz.prog 30 [.agg #[sv vp], sv vin, .int .i64 fuel] [] [tfsA vp fs, sl 1 eU (sv vin) ins] (X := SV × SV) (fun _ => True) (fun x => .agg #[sv x.1, sv x.2, .int .i64 (⟨chk fs, [], []⟩ : Ru).err]) (fun x => [sl 1 eU (sv x.1) (⟨chk fs, [], []⟩ : Ru).out, sl 1 eU (sv x.2) (⟨chk fs, [], []⟩ : Ru).mem]) (fun _ => []) := by
 refine r_enter Tryz.func30 rfl Tryz.ntmps30 rfl fun w0 M H => ?_
 refine r_seq (r_region ?_)
 refine r_boxA rfl rfl fun b3 => ?_
 refine r_alloc t72 rfl rfl fun b6 => ?_
 refine r_nil (r_seq (r_region ?_))
 refine r_p (p_loadA t29 rfl rfl rfl (g_all (k := 3) rfl)) rfl ?_
 refine r_callN (xs := [.tmp 9]) (check8_spec vp fs hg) cb14 [] [(false, 0)] [] rfl rfl rfl rfl rfl rfl rfl rfl (fun _ _ => rfl) (fun _ _ _ => rfl) rfl (fun _ _ => ?_)
 refine r_p (p_assign rfl) rfl (r_nil (r_seq (r_seq (r_region (r_p (p_move rfl) rfl ?_)))))
 refine r_p (p_bin rfl rfl b_ne) rfl ?_
 refine r_nil ?_
 refine r_cond rfl (fun h1 => ?_) (fun h1 => ?_)
 ·(try simp only [decide_eq_true_eq, decide_eq_false_iff_not, Bool.and_eq_true, Bool.or_eq_true, Bool.and_eq_false_iff, Bool.or_eq_false_iff, Bool.not_eq_true, Bool.not_eq_false, Bool.not_eq_true', Bool.not_eq_false', Bool.not_not, bne_iff_ne, beq_iff_eq] at h1)
  refine r_seq (r_region (r_p (p_move rfl) rfl ?_))
  refine r_p (p_build (parts := [(2, .tmp 13)]) t72 pl72 rfl rfl) rfl ?_
  refine r_store_all (k := 6) t72 rfl rfl rfl rfl rfl rfl ?_
  refine r_nil (r_cret ?_)
  refine r_nilown 20 (α := Int) (S := 36) (s := 1) (enc := eU) ?_
  refine r_nilown 21 (α := Int) (S := 36) (s := 1) (enc := eU) ?_
  refine r_conva (k := 20) (A' := sl 1 eU (sv nilS) []) rfl own_to_sl ?_
  refine r_conva (k := 21) (A' := sl 1 eU (sv nilS) []) rfl own_to_sl ?_
  refine r_ret (nilS, nilS) trivial rfl (rs1 (rv_cellA t72 rfl rfl rfl (g_all (k := 6) rfl))) rfl [20, 21] [] rfl rfl rfl
 ·exact absurd (by simpa using h1) hc
set_option maxHeartbeats 16000000 in
set_option maxRecDepth 100000 in
theorem run8_ok (vp vin : SV) (fs : List Tf) (ins : List Int) (fuel : Int) (hg : GP fs) (hi : ∀ x ∈ ins, oW x) (hil : ins.length ≤ 1000000) (hf : -1000000000000000000 ≤ fuel ∧ fuel ≤ 1000000000000) (hc : chk fs = 0) (f : Tf) (hm : Fine fs f) (g : Nat) (r : Re Int) (hr : evC g fs 0 f [] (ms0 ins fuel) = some r) :
  Spec Tryz.prog 30 [.agg #[sv vp], sv vin, .int .i64 fuel] [] [tfsA vp fs, sl 1 eU (sv vin) ins] (X := SV × SV) (fun _ => True) (fun x => .agg #[sv x.1, sv x.2, .int .i64 (ruOf r).err]) (fun x => [sl 1 eU (sv x.1) (ruOf r).out, sl 1 eU (sv x.2) (ruOf r).mem]) (fun _ => []) := by
 refine r_enter Tryz.func30 rfl Tryz.ntmps30 rfl fun w0 M H => ?_
 refine r_seq (r_region ?_)
 refine r_boxA rfl rfl fun b3 => ?_
 refine r_alloc t72 rfl rfl fun b6 => ?_
 refine r_nil (r_seq (r_region ?_))
 refine r_p (p_loadA t29 rfl rfl rfl (g_all (k := 3) rfl)) rfl ?_
 refine r_callN (xs := [.tmp 9]) (check8_spec vp fs hg) cb14 [] [(false, 0)] [] rfl rfl rfl rfl rfl rfl rfl rfl (fun _ _ => rfl) (fun _ _ _ => rfl) rfl (fun _ _ => ?_)
 refine r_p (p_assign rfl) rfl (r_nil (r_seq (r_seq (r_region (r_p (p_move rfl) rfl ?_)))))
 refine r_p (p_bin rfl rfl b_ne) rfl ?_
 refine r_nil ?_
 refine r_cond rfl (fun h1 => ?_) (fun h1 => ?_)
 ·exact absurd hc (by simpa using h1)
 ·(try simp only [decide_eq_true_eq, decide_eq_false_iff_not, Bool.and_eq_true, Bool.or_eq_true, Bool.and_eq_false_iff, Bool.or_eq_false_iff, Bool.not_eq_true, Bool.not_eq_false, Bool.not_eq_true', Bool.not_eq_false', Bool.not_not, bne_iff_ne, beq_iff_eq] at h1)
  refine r_skip (r_seq (r_region ?_))
  refine r_p (p_loadA t29 rfl rfl rfl (g_all (k := 3) rfl)) rfl ?_
  refine r_p (p_move rfl) rfl (r_p (p_move rfl) rfl ?_)
  refine r_p (p_build (cs := (xC vp vin nilS (fun _ => 0) fuel 0 0).toArray) (parts := [(0, .tmp 15), (1, .tmp 16), (4, .tmp 17)]) t117 pl117 rfl (by kernel_rfl)) rfl ?_
  refine r_boxA rfl rfl fun b19 => ?_
  refine r_p (p_assign rfl) rfl (r_nil (r_seq (r_region (r_p (p_move rfl) rfl ?_))))
  refine r_nilown 1 (α := Int) (S := 36) (s := 1) (enc := eU) ?_
  refine r_nilsl 3 (α := Int) (s := 1) (enc := eU) ?_
  refine r_conva (k := 19) (A' := row b19 117 (xRow (⟨⟨b19, 0, 0, 0, vin, ins, fs⟩, vp, fuel⟩ : Rn) (xS (⟨⟨b19, 0, 0, 0, vin, ins, fs⟩, vp, fuel⟩ : Rn) (ms0 ins fuel) nilS))) rfl (fun _ _ h => by rw [xRow_0]; exact h) ?_
  refine r_callN (xs := [.tmp 20, .const (.string (ByteArray.mk #[109, 97, 105, 110])), .const (.slice Option.none 0 0), .const (.int .i64 1)]) (hc8_all (e := (⟨⟨b19, 0, 0, 0, vin, ins, fs⟩, vp, fuel⟩ : Rn)) hm.vf hf.1 (by show fuel ≤ _; omega) (by have := hm.len; show fs.length ≤ _; omega) g nMain f 0 nilS [] (ms0 ins fuel) nilS r hm.main (by simp) (by simp) (by omega) ⟨ms0_ok hi hf.2, ⟨0, Nat.zero_le _, rfl⟩⟩ hr) cb48 [19, 1] [(false, 3), (false, 0), (false, 1)] [19, 1] rfl rfl rfl rfl rfl rfl rfl rfl (fun _ _ => rfl) (fun _ _ _ => rfl) rfl (fun y hy => ?_)
  obtain ⟨a, x⟩ := y
  dsimp only at hy ⊢
  refine r_nil (r_seq (r_seq (r_region (r_p (p_move rfl) rfl (r_p (p_nilCheck rfl) rfl ?_)))))
  refine r_p (p_field0 fo117_6 rfl) rfl ?_
  refine r_p (p_load1 t40 rfl rfl (g_row1 (k := 19) rfl xC_er)) rfl ?_
  refine r_p (p_bin rfl rfl b_ne) rfl ?_
  refine r_nil ?_
  refine r_cond rfl (fun h2 => ?_) (fun h2 => ?_)
  ·(try simp only [decide_eq_true_eq, decide_eq_false_iff_not, Bool.and_eq_true, Bool.or_eq_true, Bool.and_eq_false_iff, Bool.or_eq_false_iff, Bool.not_eq_true, Bool.not_eq_false, Bool.not_eq_true', Bool.not_eq_false', Bool.not_not, bne_iff_ne, beq_iff_eq] at h2)
   have hz : r = .err x.er := by
    rcases hy with ⟨s2, vo2, z1, z2⟩ | ⟨z1, z2⟩
    ·dsimp only at z2
     rw [z2] at h2
     exact absurd rfl h2
    ·exact z2
   subst hz
   refine r_seq (r_region (r_p (p_move rfl) rfl (r_p (p_nilCheck rfl) rfl ?_)))
   refine r_p (p_field0 fo117_6 rfl) rfl ?_
   refine r_p (p_load1 t40 rfl rfl (g_row1 (k := 19) rfl xC_er)) rfl ?_
   refine r_p (p_build (parts := [(2, .tmp 30)]) t72 pl72 rfl rfl) rfl ?_
   refine r_store_all (k := 6) t72 rfl rfl rfl rfl rfl rfl ?_
   refine r_nil (r_cret ?_)
   refine r_nilown 20 (α := Int) (S := 36) (s := 1) (enc := eU) ?_
   refine r_nilown 21 (α := Int) (S := 36) (s := 1) (enc := eU) ?_
   refine r_conva (k := 20) (A' := sl 1 eU (sv nilS) []) rfl own_to_sl ?_
   refine r_conva (k := 21) (A' := sl 1 eU (sv nilS) []) rfl own_to_sl ?_
   refine r_ret (nilS, nilS) trivial rfl (rs1 (rv_cellA t72 rfl rfl rfl (g_all (k := 6) rfl))) rfl [20, 21] [] rfl rfl rfl
  ·(try simp only [decide_eq_true_eq, decide_eq_false_iff_not, Bool.and_eq_true, Bool.or_eq_true, Bool.and_eq_false_iff, Bool.or_eq_false_iff, Bool.not_eq_true, Bool.not_eq_false, Bool.not_eq_true', Bool.not_eq_false', Bool.not_not, bne_iff_ne, beq_iff_eq] at h2)
   obtain ⟨s2, vo2, hz, hx1⟩ : ∃ s2 vo2, r = .ok a s2 ∧ x = xS (⟨⟨b19, 0, 0, 0, vin, ins, fs⟩, vp, fuel⟩ : Rn) s2 vo2 := by
    rcases hy with h | ⟨z1, z2⟩
    ·exact h
    ·exact absurd h2 z1
   subst hz hx1
   refine r_skip (r_seq ?_)
   refine r_draw [32, 33, 34, 35, 36, 37, 38, 39, 40] _ rfl (stg_mem0 (V := [(0, 32, _), (1, 33, _), (2, 34, _), (3, 35, _), (4, 36, _), (5, 37, _), (6, 38, _), (7, 39, _), (8, 40, _)]) [0, 1, 2, 3, 4, 5, 6, 7, 8] 9 [9, 8, 7, 6, 5, 4, 3, 2, 1, 0] [] (fun _ => []) rfl rfl (prs_cons (pri rfl (p_move rfl)) (prs_cons (pri rfl (p_nilCheck rfl)) (prs_cons (pri rfl (p_field0 fo117_2 rfl)) (prs_cons (pri rfl (p_load1 t23 rfl rfl (g_row1 (k := 19) rfl rfl))) (prs_cons (pri rfl (p_move rfl)) (prs_cons (pri rfl (p_nilCheck rfl)) (prs_cons (pri rfl (p_field0 fo117_3 rfl)) (prs_cons (pri rfl (p_slice_arr Tryz.underlying99 t36 rfl (by decide))) (prs_cons (pri rfl (p_build (parts := [(0, .tmp 35), (1, .tmp 39)]) t72 pl72 rfl rfl)) prs_nil))))))))) rfl rfl rfl rfl rfl rfl rfl rfl rfl (fun _ _ => rfl) rfl (ms_store_all (k := 6) t72 rfl rfl rfl rfl rfl rfl) (fun _ _ => stg_end [] rfl rfl prs_nil rfl rfl rfl ?_))
   refine r_cret ?_
   refine r_conva (k := 19) (A' := sl 1 eU (sv ⟨some ⟨b19, 3, none⟩, 256, 256⟩) ((List.range 256).map s2.mem)) rfl (row_sl2 (by simp) (by unfold maxLen; omega) xC_sl) ?_
   refine r_conva (k := 1) (A' := sl 1 eU (sv vo2) s2.out) rfl own_to_sl ?_
   refine r_ret (vo2, ⟨some ⟨b19, 3, none⟩, 256, 256⟩) trivial rfl (rs1 (rv_cellA t72 rfl rfl rfl (g_all (k := 6) rfl))) rfl [1, 19] [] rfl rfl rfl
theorem run8_spec (vp vin : SV) (fs : List Tf) (ins : List Int) (fuel : Int) (hg : GP fs) (hi : ∀ x ∈ ins, oW x) (hil : ins.length ≤ 1000000) (hf : -1000000000000000000 ≤ fuel ∧ fuel ≤ 1000000000000) (ru : Ru) (hru : RunIs fs ins fuel ru) :
  Spec Tryz.prog 30 [.agg #[sv vp], sv vin, .int .i64 fuel] [] [tfsA vp fs, sl 1 eU (sv vin) ins] (X := SV × SV) (fun _ => True) (fun x => .agg #[sv x.1, sv x.2, .int .i64 ru.err]) (fun x => [sl 1 eU (sv x.1) ru.out, sl 1 eU (sv x.2) ru.mem]) (fun _ => []) := by
 cases hru with
 | bad h => exact run8_bad vp vin fs ins fuel hg hi hil hf h
 | run f g r h hfm he =>
  obtain ⟨f2, hf2⟩ := chk_fine hg h
  have : f2 = f := by
   have := hf2.main
   rw [hfm] at this
   exact (Option.some.inj this).symm
  subst this
  exact run8_ok vp vin fs ins fuel hg hi hil hf h f2 hf2 g r he
theorem runIs_err {fs : List Tf} {ins : List Int} {fuel : Int} {r : Ru} (h : RunIs fs ins fuel r) : r.err ≠ 0 → r.out = [] ∧ r.mem = [] := by
 intro h0
 cases h with
 | bad h => exact ⟨rfl, rfl⟩
 | run f g r h hf he =>
  cases r with
  | ok a s => exact absurd rfl h0
  | err z => exact ⟨rfl, rfl⟩
set_option maxHeartbeats 4000000 in
set_option maxRecDepth 100000 in
theorem agrees_spec (vp vin : SV) (fs : List Tf) (ins : List Int) (fuel : Int) (hg : GP fs) (hi : ∀ x ∈ ins, oW x) (hil : ins.length ≤ 1000000) (hf : -1000000000000000000 ≤ fuel ∧ fuel ≤ 1000000000000) (e : Int) (o m : List Int) (hru : RunIs fs ins fuel ⟨e, o, m⟩) (hol : o.length ≤ 1000000 ∧ m.length ≤ 1000000) :
  Spec Tryz.prog 9 [.agg #[sv vp], sv vin, .int .i64 fuel] [] [tfsA vp fs, sl 1 eU (sv vin) ins] (X := Unit) (fun _ => True) (fun _ => .bool true) (fun _ => []) (fun _ => []) := by
 refine r_enter Tryz.func9 rfl Tryz.ntmps9 rfl fun w0 M H => ?_
 refine r_seq (r_region ?_)
 refine r_boxA rfl rfl fun b3 => ?_
 refine r_p (p_assign rfl) rfl (r_nil (r_seq (r_region ?_)))
 refine r_p (p_loadA t29 rfl rfl rfl (g_all (k := 3) rfl)) rfl ?_
 refine r_p (p_move rfl) rfl (r_p (p_move rfl) rfl ?_)
 refine r_callN (xs := [.tmp 12, .tmp 13, .tmp 14]) (run_spec vp vin fs ins fuel hg hi hil (by omega) _ hru) cb15 [] [(false, 0), (false, 1)] [40, 41] rfl rfl rfl rfl rfl rfl rfl rfl (fun _ _ => rfl) (fun _ _ _ => rfl) rfl (fun ⟨ra, rb⟩ _ => ?_)
 dsimp only
 refine r_p (p_move rfl) rfl ?_
 refine r_p (p_extract rfl rfl) rfl ?_
 refine r_p (p_extract rfl rfl) rfl ?_
 refine r_p (p_extract rfl rfl) rfl ?_
 refine r_p (p_assign rfl) rfl (r_p (p_assign rfl) rfl (r_p (p_assign rfl) rfl (r_nil (r_seq (r_region ?_)))))
 refine r_p (p_loadA t29 rfl rfl rfl (g_all (k := 3) rfl)) rfl ?_
 refine r_p (p_move rfl) rfl (r_p (p_move rfl) rfl ?_)
 refine r_callN (xs := [.tmp 19, .tmp 20, .tmp 21]) (run8_spec vp vin fs ins fuel hg hi hil hf _ hru) cb30 [] [(false, 0), (false, 1)] [42, 43] rfl rfl rfl rfl rfl rfl rfl rfl (fun _ _ => rfl) (fun _ _ _ => rfl) rfl (fun ⟨rc, rd⟩ _ => ?_)
 dsimp only
 refine r_alloc t72 rfl rfl fun b10 => ?_
 refine r_store_all (k := 10) t72 rfl rfl rfl rfl rfl rfl ?_
 refine r_nil (r_seq (r_seq (r_region ?_)))
 refine r_p (p_field0 fo72_2 rfl) rfl ?_
 refine r_p (p_load1 t40 rfl rfl (g_row1 (k := 10) rfl rfl)) rfl ?_
 refine r_p (p_bin rfl rfl b_ne) rfl ?_
 refine r_nil ?_
 refine r_cond rfl (fun h1 => ?_) (fun h1 => ?_)
 ·(try simp only [decide_eq_true_eq, decide_eq_false_iff_not, Bool.and_eq_true, Bool.or_eq_true, Bool.and_eq_false_iff, Bool.or_eq_false_iff, Bool.not_eq_true, Bool.not_eq_false, Bool.not_eq_true', Bool.not_eq_false', Bool.not_not, bne_iff_ne, beq_iff_eq] at h1)
  obtain ⟨ho, hm⟩ := runIs_err hru h1
  dsimp only at ho hm
  subst ho hm
  refine r_seq (r_region (r_p (p_move rfl) rfl ?_))
  refine r_p (p_field0 fo72_2 rfl) rfl ?_
  refine r_p (p_load1 t40 rfl rfl (g_row1 (k := 10) rfl rfl)) rfl ?_
  refine r_p (p_bin rfl rfl b_eq) rfl ?_
  with_reducible rw [decide_eq_true (rfl : e = e)]
  refine r_p (p_move rfl) rfl ?_
  refine r_gyes rfl rfl ?_
  refine r_p (p_move rfl) rfl ?_
  refine r_gyes rfl rfl ?_
  refine r_p (p_len_sl Tryz.underlying23 rfl (hs_own (k := 40) rfl)) rfl ?_
  refine r_gyes rfl rfl ?_
  refine r_p (p_bin rfl rfl b_eq) rfl ?_
  with_reducible rw [decide_eq_true (show ((([] : List Int).length : Nat) : Int) = 0 from rfl)]
  refine r_p (p_pick rfl rfl rfl (pick_t rfl)) rfl ?_
  refine r_p (p_move rfl) rfl ?_
  refine r_gyes rfl rfl ?_
  refine r_p (p_move rfl) rfl ?_
  refine r_gyes rfl rfl ?_
  refine r_p (p_len_sl Tryz.underlying23 rfl (hs_own (k := 41) rfl)) rfl ?_
  refine r_gyes rfl rfl ?_
  refine r_p (p_bin rfl rfl b_eq) rfl ?_
  with_reducible rw [decide_eq_true (show ((([] : List Int).length : Nat) : Int) = 0 from rfl)]
  refine r_p (p_pick rfl rfl rfl (pick_t rfl)) rfl ?_
  refine r_p (p_assign rfl) rfl (r_nil (r_cret ?_))
  refine r_ret () trivial rfl (rs1 (rv_tmp rfl)) rfl [] [] rfl rfl rfl
 ·(try simp only [decide_eq_true_eq, decide_eq_false_iff_not, Bool.and_eq_true, Bool.or_eq_true, Bool.and_eq_false_iff, Bool.or_eq_false_iff, Bool.not_eq_true, Bool.not_eq_false, Bool.not_eq_true', Bool.not_eq_false', Bool.not_not, bne_iff_ne, beq_iff_eq] at h1)
  have h0 : e = 0 := h1
  subst h0
  refine r_skip (r_seq (r_region (r_p (p_move rfl) rfl ?_)))
  refine r_p (p_bin rfl rfl b_eq) rfl ?_
  with_reducible rw [decide_eq_true (rfl : (0 : Int) = (0 : Int))]
  refine r_p (p_move rfl) rfl ?_
  refine r_gyes rfl rfl ?_
  refine r_p (p_move rfl) rfl ?_
  refine r_gyes rfl rfl ?_
  refine r_p (p_field0 fo72_0 rfl) rfl ?_
  refine r_gyes rfl rfl ?_
  refine r_p (p_load1 t23 rfl rfl (g_row1 (k := 10) rfl rfl)) rfl ?_
  refine r_gyes rfl rfl ?_
  refine r_freeze 40 44 rfl own_to_sl ?_
  refine r_callN (xs := [.tmp 43, .tmp 45]) (rwords_spec ra rc o o hol.1) cb16 [] [(false, 44), (true, 42)] [] rfl rfl rfl rfl rfl rfl rfl rfl (fun _ _ => rfl) (fun _ _ _ => rfl) rfl (fun _ _ => ?_)
  with_reducible rw [decide_eq_true (rfl : o = o)]
  refine r_p (p_pick rfl rfl rfl (pick_t rfl)) rfl ?_
  refine r_p (p_move rfl) rfl ?_
  refine r_gyes rfl rfl ?_
  refine r_p (p_move rfl) rfl ?_
  refine r_gyes rfl rfl ?_
  refine r_p (p_field0 fo72_1 rfl) rfl ?_
  refine r_gyes rfl rfl ?_
  refine r_p (p_load1 t23 rfl rfl (g_row1 (k := 10) rfl rfl)) rfl ?_
  refine r_gyes rfl rfl ?_
  refine r_freeze 41 45 rfl own_to_sl ?_
  refine r_callN (xs := [.tmp 49, .tmp 51]) (rwords_spec rb rd m m hol.2) cb16 [] [(false, 45), (true, 43)] [] rfl rfl rfl rfl rfl rfl rfl rfl (fun _ _ => rfl) (fun _ _ _ => rfl) rfl (fun _ _ => ?_)
  with_reducible rw [decide_eq_true (rfl : m = m)]
  refine r_p (p_pick rfl rfl rfl (pick_t rfl)) rfl ?_
  refine r_p (p_assign rfl) rfl (r_nil (r_cret ?_))
  refine r_ret () trivial rfl (rs1 (rv_tmp rfl)) rfl [] [] rfl rfl rfl
mutual
/-- All calls are of functions whose names satisfy A. -/
def aX (A : ByteArray → Prop) : Tx → Prop
 | .mk k _ nm _ kids => (k ≠ 1 → k ≠ 2 → k ≠ 4 → k ≠ 5 → k ≠ 6 → k ≠ 7 → A nm) ∧ aXs A kids
def aXs (A : ByteArray → Prop) : List Tx → Prop
 | [] => True
 | t :: r => aX A t ∧ aXs A r
end
mutual
def aY (A : ByteArray → Prop) : Ty → Prop
 | .mk _ _ _ es _ b _ l => aXs A es ∧ aYs A b ∧ aYs A l
def aYs (A : ByteArray → Prop) : List Ty → Prop
 | [] => True
 | t :: r => aY A t ∧ aYs A r
end
mutual
theorem aX_all {A : ByteArray → Prop} (h : ∀ x, A x) : ∀ t, aX A t
 | .mk k n nm v kids => ⟨fun _ _ _ _ _ _ => h nm, aXs_all h kids⟩
theorem aXs_all {A : ByteArray → Prop} (h : ∀ x, A x) : ∀ l, aXs A l
 | [] => trivial
 | t :: r => ⟨aX_all h t, aXs_all h r⟩
end
mutual
theorem aY_all {A : ByteArray → Prop} (h : ∀ x, A x) : ∀ t, aY A t
 | .mk _ _ _ es _ b _ l => ⟨aXs_all h es, aYs_all h b, aYs_all h l⟩
theorem aYs_all {A : ByteArray → Prop} (h : ∀ x, A x) : ∀ l, aYs A l
 | [] => trivial
 | t :: r => ⟨aY_all h t, aYs_all h r⟩
end
/-- What is read from the inputs. -/
def rdI (s : Ms) : Int × Ms := match s.inp with
 | [] => (0, s)
 | a :: r => (a, { s with inp := r })
/-- States that agree, with functions that agree. -/
structure Smr (A : ByteArray → Prop) (Rl : Ms → Ms → Prop) (fs fs' : List Tf) : Prop where
 mem : ∀ s s', Rl s s' → s'.mem = s.mem
 pay : ∀ s s', Rl s s' → 0 < s.fuel → 0 < s'.fuel ∧ Rl { s with fuel := s.fuel - 1 } { s' with fuel := s'.fuel - 1 }
 inp : ∀ s s', Rl s s' → (rdI s).1 = (rdI s').1 ∧ Rl (rdI s).2 (rdI s').2
 put : ∀ s s' i v, Rl s s' → Rl { s with mem := mput s.mem i v } { s' with mem := mput s'.mem i v }
 out : ∀ s s' v, Rl s s' → Rl { s with out := s.out ++ [v] } { s' with out := s'.out ++ [v] }
 fn : ∀ nm f, A nm → ffind fs nm = some f → ∃ f', ffind fs' nm = some f' ∧ f'.ps = f.ps ∧ f'.body = f.body ∧ aYs A f.body
/-- Results that agree. -/
inductive RR (Rl : Ms → Ms → Prop) {α : Type} : Re α → Re α → Prop
 | ok (a : α) (s s' : Ms) (h : Rl s s') : RR Rl (.ok a s) (.ok a s')
 | err (z : Int) : RR Rl (.err z) (.err z)
structure Sm (A : ByteArray → Prop) (Rl : Ms → Ms → Prop) (fs fs' : List Tf) (g : Nat) : Prop where
 x : ∀ d vs t s s' r, aX A t → Rl s s' → evX g fs d vs t s = some r → r ≠ .err 25 → ∃ r', evX g fs' d vs t s' = some r' ∧ RR Rl r r'
 k : ∀ d vs acc l s s' r, aXs A l → Rl s s' → evK g fs d vs acc l s = some r → r ≠ .err 25 → ∃ r', evK g fs' d vs acc l s' = some r' ∧ RR Rl r r'
 c : ∀ d f f' al s s' r, f'.ps = f.ps → f'.body = f.body → aYs A f.body → Rl s s' → evC g fs d f al s = some r → r ≠ .err 25 → ∃ r', evC g fs' d f' al s' = some r' ∧ RR Rl r r'
 b : ∀ d vs l s s' r, aYs A l → Rl s s' → evB g fs d vs l s = some r → r ≠ .err 25 → ∃ r', evB g fs' d vs l s' = some r' ∧ RR Rl r r'
 s : ∀ d vs t s s' r, aY A t → Rl s s' → evS g fs d vs t s = some r → r ≠ .err 25 → ∃ r', evS g fs' d vs t s' = some r' ∧ RR Rl r r'
 w : ∀ d vs e l v s s' r, aX A e → aYs A l → Rl s s' → evW g fs d vs e l v s = some r → r ≠ .err 25 → ∃ r', evW g fs' d vs e l v s' = some r' ∧ RR Rl r r'
theorem runIs_len {fs : List Tf} {ins : List Int} {fuel : Int} {r : Ru} (hg : GP fs) (hi : ∀ x ∈ ins, oW x) (hf : fuel ≤ 1000000) (h : RunIs fs ins fuel r) : r.out.length ≤ 1000000 ∧ r.mem.length ≤ 1000000 := by
 cases h with
 | bad h => exact ⟨Nat.zero_le _, Nat.zero_le _⟩
 | run f g q h hfm he =>
  cases q with
  | err z => exact ⟨Nat.zero_le _, Nat.zero_le _⟩
  | ok v s =>
   obtain ⟨f2, hf2⟩ := chk_fine hg h
   have hk := ((ev_ok hf2.vf g).c 0 f [] (ms0 ins fuel) v s (ffind_mem hfm) (by simp) (ms0_ok hi (by omega)) he).2
   have h1 := hk.sum
   have h2 : ((ms0 ins fuel).out.length : Int) = 0 := rfl
   have h3 : (ms0 ins fuel).fuel = fuel := rfl
   refine ⟨?_, by show ((List.range 256).map s.mem).length ≤ _; simp⟩
   show s.out.length ≤ 1000000
   omega
theorem agrees_all (vp vin : SV) (fs : List Tf) (ins : List Int) (fuel : Int) (hg : GP fs) (hi : ∀ x ∈ ins, oW x) (hil : ins.length ≤ 1000000) (hf : -1000000000000000000 ≤ fuel ∧ fuel ≤ 1000000) :
  Spec Tryz.prog 9 [.agg #[sv vp], sv vin, .int .i64 fuel] [] [tfsA vp fs, sl 1 eU (sv vin) ins] (X := Unit) (fun _ => True) (fun _ => .bool true) (fun _ => []) (fun _ => []) := by
 obtain ⟨⟨e, o, m⟩, hr⟩ := runIs_ex (fuel := fuel) hg hi (by omega)
 exact agrees_spec vp vin fs ins fuel hg hi hil (by omega) e o m hr (runIs_len hg hi hf.2 hr)
set_option maxRecDepth 100000 in
theorem units_spec (n : Int) (hn : 0 ≤ n ∧ n < 65536) :
  Spec Tryz.prog 11 [.int .u16 n] [] [] (X := Unit) (fun _ => True) (fun _ => .int .i64 (n % 4004 - 3)) (fun _ => []) (fun _ => []) := by
 refine r_enter Tryz.func11 rfl Tryz.ntmps11 rfl fun w0 M H => ?_
 refine r_seq (r_region (r_p (p_assign rfl) rfl (r_nil (r_seq (r_region (r_p (p_move rfl) rfl ?_))))))
 refine r_p (p_bin rfl rfl (b_rem (c := n % 4004) (by decide) (Int.tmod_eq_emod_of_nonneg hn.1))) rfl ?_
 refine r_p (p_conv Tryz.underlying24 Tryz.underlying3 rfl (by first | exact w_i64 (by omega) (by omega) | rfl)) rfl ?_
 refine r_p (p_bin rfl rfl (b_sub (by first | exact w_i64 (by omega) (by omega) | rfl))) rfl ?_
 refine r_p (p_assign rfl) rfl (r_nil (r_cret ?_))
 refine r_ret () trivial rfl (rs1 (rv_tmp rfl)) rfl [] [] rfl rfl rfl
/-- An expression that can be read. -/
def txA1 (t : Tx) : Asn := ⟨fun w F => TxIn w F t, fun h hs => TxIn.mono (fun _ hb => hb) hs _ h⟩
theorem tx0 {w : World} {F : Nat → Prop} {k n : Int} {s : ByteArray} : TxIn w F (.mk k n s nilS []) := ⟨nil_in, trivial⟩
/-- The operators of the second grower. -/
def sgL : List ByteArray := [oSub, oCom, oNot]
def opL : List ByteArray := [oAdd, oSub, oMul, oQuo, oRem, oAnd, oOr, oXor, oShl, oShr, oLt, oLe, oGt, oGe, oEq, oNe]
/-- Expressions over constants and names. -/
inductive KE (ns : List ByteArray) : Tx → Prop where
 | num (n : Int) (hn : oW n) : KE ns (.mk 1 n oNil nilS [])
 | name (x : ByteArray) (hx : x ∈ ns) : KE ns (.mk 2 0 x nilS [])
 | un (op : ByteArray) (v : SV) (t : Tx) (ho : op ∈ sgL) (h : KE ns t) : KE ns (.mk 6 0 op v [t])
 | bin (op : ByteArray) (v : SV) (a b : Tx) (ho : op ∈ opL) (ha : KE ns a) (hb : KE ns b) : KE ns (.mk 7 0 op v [a, b])
mutual
/-- The value of an expression. -/
def valX (vs : Vs) : Tx → Int
 | .mk k n nm _ kids => if k = 2 then vget vs nm else if k = 6 then (unF nm ((valXs vs kids).getD 0 0)).getD 0 else if k = 7 then (biF nm ((valXs vs kids).getD 0 0) ((valXs vs kids).getD 1 0)).getD 0 else n
def valXs (vs : Vs) : List Tx → List Int
 | [] => []
 | t :: r => valX vs t :: valXs vs r
end
theorem KE.oW {ns : List ByteArray} {vs : Vs} (hv : okVs vs) {t : Tx} (h : KE ns t) : oW (valX vs t) := by
 induction h with
 | num n hn => exact hn
 | name x hx => exact hv.get x
 | un op v t ho h ih => exact oW_un ih
 | bin op v a b ho ha hb iha ihb => exact oW_bi iha ihb
theorem sg_nm : ∀ x ∈ sgL, nmB x := by
 intro x hx
 simp only [sgL, List.mem_cons, List.not_mem_nil, or_false] at hx
 rcases hx with rfl | rfl | rfl <;> exact nmB_of rfl
theorem op_nm : ∀ x ∈ opL, nmB x := by
 intro x hx
 simp only [opL, List.mem_cons, List.not_mem_nil, or_false] at hx
 rcases hx with rfl | rfl | rfl | rfl | rfl | rfl | rfl | rfl | rfl | rfl | rfl | rfl | rfl | rfl | rfl | rfl <;> exact nmB_of rfl
theorem KE.gx {ns : List ByteArray} (hn : ∀ x ∈ ns, nmB x) {t : Tx} (h : KE ns t) : GX t := by
 induction h with
 | num n h => exact gx_num h
 | name x hx => exact gx_name (hn x hx)
 | un op v t ho h ih => exact ⟨oW0, sg_nm op ho, by show 1 ≤ 1000000; decide, ih, trivial⟩
 | bin op v a b ho ha hb iha ihb => exact ⟨oW0, op_nm op ho, by show 2 ≤ 1000000; decide, iha, ihb, trivial⟩
theorem KE.un_inv {ns : List ByteArray} {t : Tx} (h : KE ns t) (hk : t.kind = 6) : ∃ op v u, t = .mk 6 0 op v [u] ∧ KE ns u := by
 cases h with
 | un op v t ho h => exact ⟨op, v, t, rfl, h⟩
 | _ => simp [Tx.kind] at hk
theorem KE.bin_inv {ns : List ByteArray} {t : Tx} (h : KE ns t) (hk : t.kind = 7) : ∃ op v a b, t = .mk 7 0 op v [a, b] ∧ KE ns a ∧ KE ns b := by
 cases h with
 | bin op v a b ho ha hb => exact ⟨op, v, a, b, rfl, ha, hb⟩
 | _ => simp [Tx.kind] at hk
theorem KE.num_inv {t : Tx} (h : KE [] t) (h6 : ¬ t.kind = 6) (h7 : ¬ t.kind = 7) : valX [] t = t.n := by
 cases h with
 | num n hn => rfl
 | name x hx => simp at hx
 | un op v t ho h => exact absurd rfl h6
 | bin op v a b ho ha hb => exact absurd rfl h7
def HVal (t : Tx) : Prop := Spec Tryz.prog 21 [xV t] [] [txsA t.v t.kids] (X := Unit) (fun _ => True) (fun _ => .int .u32 (valX [] t)) (fun _ => []) (fun _ => [])
def HSi (t : Tx) : Prop := Spec Tryz.prog 20 [xV t] [] [txsA t.v t.kids] (X := Unit) (fun _ => True) (fun _ => .int .i64 (nX t : Int)) (fun _ => []) (fun _ => [])
theorem sg_at {z : Int} (h : 0 ≤ z ∧ z < 3) : sgL[z.toNat]? = some (sgL.getD z.toNat oNil) := by
 have h2 : z.toNat < sgL.length := by show _ < 3; omega
 rw [List.getD_eq_getElem?_getD, List.getElem?_eq_getElem h2]
 rfl
theorem sg_mem {z : Int} (h : 0 ≤ z ∧ z < 3) : sgL.getD z.toNat oNil ∈ sgL := List.mem_of_getElem? (sg_at h)
theorem and3 {b : Int} (hb : 0 ≤ b ∧ b < 4294967296) : bits .and .u32 b 3 = b % 4 := by
 have h1 : bits .and .u32 b 3 = IntKind.u32.wrap (((BitVec.ofInt 32 b &&& BitVec.ofInt 32 3).toNat : Nat) : Int) := rfl
 have h2 : (BitVec.ofInt 32 b).toNat = b.toNat := by
  rw [BitVec.toNat_ofInt, Int.emod_eq_of_lt hb.1 (by omega)]
 have h3 : (BitVec.ofInt 32 3).toNat = 2 ^ 2 - 1 := by decide
 rw [h1, BitVec.toNat_and, h2, h3, Nat.and_two_pow_sub_one_eq_mod, w_u32 (by omega) (by omega)]
 omega
theorem and1 {z : Int} (h0 : 0 ≤ z) (h1 : z < 7) : bits .and .i64 z 1 = z % 2 := by
 have h : z = 0 ∨ z = 1 ∨ z = 2 ∨ z = 3 ∨ z = 4 ∨ z = 5 ∨ z = 6 := by omega
 rcases h with rfl | rfl | rfl | rfl | rfl | rfl | rfl <;> decide
set_option maxHeartbeats 2000000 in
set_option maxRecDepth 100000 in
theorem take9_spec (b : Nat) (vl : SV) (l : List Int) (at_ : Nat) (hat : at_ ≤ 1000000) (hlo : ∀ x ∈ l, okI x) (n : Int) (hn : 0 < n ∧ n ≤ 1000000) :
  Spec Tryz.prog 81 [.pointer (some ⟨b, 0, none⟩), .int .i64 n] [row b 109 [sv vl, .int .i64 (at_ : Int)]] [sl 1 eI (sv vl) l] (X := Int) (fun z => 0 ≤ z ∧ z < n) (fun z => .int .i64 z) (fun _ => [row b 109 [sv vl, .int .i64 ((at_ + 1 : Nat) : Int)]]) (fun _ => []) := by
 refine r_enter Tryz.func81 rfl Tryz.ntmps81 rfl fun w0 M H => ?_
 refine r_seq (r_region (r_p (p_assign rfl) rfl (r_nil (r_seq (r_region (r_p (p_assign rfl) rfl (r_nil (r_seq (r_seq ?_)))))))))
 refine r_draw [6, 7, 8, 9, 10, 11, 12, 13, 14, 15] _ rfl (stg_end (V := [(0, 6, _), (1, 7, _), (2, 8, _), (3, 9, _), (4, 10, _), (5, 11, _), (6, 12, _), (7, 13, _), (8, 14, _), (9, 15, _)]) [0, 1, 2, 3, 4, 5, 6, 7, 8, 9] rfl rfl (prs_cons (pri rfl (p_move rfl)) (prs_cons (pri rfl (p_nilCheck rfl)) (prs_cons (pri rfl (p_field0 fo109_1 rfl)) (prs_cons (pri rfl (p_load1 t3 rfl rfl (g_row1 (k := 0) rfl rfl))) (prs_cons (pri rfl (p_move rfl)) (prs_cons (pri rfl (p_nilCheck rfl)) (prs_cons (pri rfl (p_field0 fo109_0 rfl)) (prs_cons (pri rfl (p_load1 t22 rfl rfl (g_row1 (k := 0) rfl rfl))) (prs_cons (pri rfl (p_len_sl Tryz.underlying22 rfl (hs_sl (k := 0) rfl))) (prs_cons (pri rfl (p_bin rfl rfl b_lt)) prs_nil)))))))))) rfl rfl rfl ?_)
 refine r_cond rfl (fun h1 => ?_) (fun h1 => ?_)
 ·(try simp only [decide_eq_true_eq, decide_eq_false_iff_not, Bool.and_eq_true, Bool.or_eq_true, Bool.and_eq_false_iff, Bool.or_eq_false_iff, Bool.not_eq_true, Bool.not_eq_false, Bool.not_eq_true', Bool.not_eq_false', Bool.not_not, bne_iff_ne, beq_iff_eq] at h1)
  have hi : at_ < l.length := by omega
  obtain ⟨x, hx⟩ : ∃ x, l[at_]? = some x := ⟨_, List.getElem?_eq_getElem hi⟩
  have hxo := hlo x (List.mem_of_getElem? hx)
  have htm := tm_bd x hn.1
  have htm2 := Int.tmod_nonneg (a := x.tmod n + n) n (by omega)
  have htm3 := Int.tmod_lt_of_pos (x.tmod n + n) hn.1
  refine r_draw [16, 17, 18, 19, 20, 21, 22, 23, 24, 25, 5] _ rfl (stg_end (V := [(0, 16, _), (1, 17, _), (2, 18, _), (3, 19, _), (4, 20, _), (5, 21, _), (6, 22, _), (7, 23, _), (8, 24, _), (9, 25, _), (10, 5, _)]) [0, 1, 2, 3, 4, 5, 6, 7, 8, 9, 10] rfl rfl (prs_cons (pri rfl (p_move rfl)) (prs_cons (pri rfl (p_nilCheck rfl)) (prs_cons (pri rfl (p_field0 fo109_0 rfl)) (prs_cons (pri rfl (p_load1 t22 rfl rfl (g_row1 (k := 0) rfl rfl))) (prs_cons (pri rfl (p_move rfl)) (prs_cons (pri rfl (p_nilCheck rfl)) (prs_cons (pri rfl (p_field0 fo109_1 rfl)) (prs_cons (pri rfl (p_load1 t3 rfl rfl (g_row1 (k := 0) rfl rfl))) (prs_cons (pri rfl (p_idx_sl (j := at_) Tryz.underlying22 t3 rfl rfl (hs_sl (k := 0) rfl) (by first | rfl | omega) (by first | omega | (simp; done) | (simp; omega)))) (prs_cons (pri rfl (p_load1 t3 rfl rfl (g_el' (hs_sl (k := 0) rfl) (by intro _; rfl) hx (by rfl)))) (prs_cons (pri rfl (p_assign rfl)) prs_nil))))))))))) rfl rfl rfl ?_)
  refine r_seq (r_region (r_p (p_move rfl) rfl (r_p (p_nilCheck rfl) rfl ?_)))
  refine r_p (p_field0 fo109_1 rfl) rfl ?_
  refine r_p (p_load1 t3 rfl rfl (g_row1 (k := 0) rfl rfl)) rfl ?_
  refine r_p (p_bin rfl rfl (b_add (by first | exact w_i64 (by omega) (by omega) | rfl))) rfl ?_
  refine r_p (p_nilCheck rfl) rfl ?_
  refine r_p (p_field0 fo109_1 rfl) rfl ?_
  refine r_store_row (k := 0) t3 rfl rfl rfl rfl rfl rfl rfl rfl ?_
  refine r_nil (r_seq (r_region (r_p (p_move rfl) rfl (r_p (p_move rfl) rfl ?_))))
  refine r_p (p_bin rfl rfl (b_rem (by omega) rfl)) rfl ?_
  refine r_p (p_move rfl) rfl ?_
  refine r_p (p_bin rfl rfl (b_add (by first | exact w_i64 (by omega) (by omega) | rfl))) rfl ?_
  refine r_p (p_move rfl) rfl ?_
  refine r_p (p_bin rfl rfl (b_rem (by omega) rfl)) rfl ?_
  refine r_p (p_assign rfl) rfl (r_nil (r_cret ?_))
  refine r_ret ((x.tmod n + n).tmod n) ⟨htm2, htm3⟩ rfl (rs1 (rv_tmp rfl)) rfl [0] [] rfl rfl rfl
 ·(try simp only [decide_eq_true_eq, decide_eq_false_iff_not, Bool.and_eq_true, Bool.or_eq_true, Bool.and_eq_false_iff, Bool.or_eq_false_iff, Bool.not_eq_true, Bool.not_eq_false, Bool.not_eq_true', Bool.not_eq_false', Bool.not_not, bne_iff_ne, beq_iff_eq] at h1)
  have htm := tm_bd (0 : Int) hn.1
  have htm2 := Int.tmod_nonneg (a := (0 : Int).tmod n + n) n (by omega)
  have htm3 := Int.tmod_lt_of_pos ((0 : Int).tmod n + n) hn.1
  refine r_skip (r_seq (r_region (r_p (p_move rfl) rfl (r_p (p_nilCheck rfl) rfl ?_))))
  refine r_p (p_field0 fo109_1 rfl) rfl ?_
  refine r_p (p_load1 t3 rfl rfl (g_row1 (k := 0) rfl rfl)) rfl ?_
  refine r_p (p_bin rfl rfl (b_add (by first | exact w_i64 (by omega) (by omega) | rfl))) rfl ?_
  refine r_p (p_nilCheck rfl) rfl ?_
  refine r_p (p_field0 fo109_1 rfl) rfl ?_
  refine r_store_row (k := 0) t3 rfl rfl rfl rfl rfl rfl rfl rfl ?_
  refine r_nil (r_seq (r_region (r_p (p_move rfl) rfl (r_p (p_move rfl) rfl ?_))))
  refine r_p (p_bin rfl rfl (b_rem (by omega) rfl)) rfl ?_
  refine r_p (p_move rfl) rfl ?_
  refine r_p (p_bin rfl rfl (b_add (by first | exact w_i64 (by omega) (by omega) | rfl))) rfl ?_
  refine r_p (p_move rfl) rfl ?_
  refine r_p (p_bin rfl rfl (b_rem (by omega) rfl)) rfl ?_
  refine r_p (p_assign rfl) rfl (r_nil (r_cret ?_))
  refine r_ret (((0 : Int).tmod n + n).tmod n) ⟨htm2, htm3⟩ rfl (rs1 (rv_tmp rfl)) rfl [0] [] rfl rfl rfl
set_option maxRecDepth 100000 in
theorem signs_spec  :
  Spec Tryz.prog 82 [] [] [] (X := SV) (fun _ => True) (fun v => sv v) (fun v => [own 9 1 eS (sv v) sgL]) (fun _ => []) := by
 refine r_enter Tryz.func82 rfl Tryz.ntmps82 rfl fun w0 M H => ?_
 refine r_seq (r_region (r_p (p_assign rfl) rfl (r_nil (r_seq (r_region ?_)))))
 refine r_bslice eS sgL (parts := [(0, .const (.string (ByteArray.mk #[45]))), (1, .const (.string (ByteArray.mk #[126]))), (2, .const (.string (ByteArray.mk #[33])))]) Tryz.underlying58 t9 rfl (by decide) (by intro _; rfl) rfl (by decide) (by decide) rfl rfl rfl rfl fun v1 => ?_
 refine r_p (p_assign rfl) rfl (r_nil (r_cret ?_))
 refine r_ret v1 trivial rfl (rs1 (rv_tmp rfl)) rfl [1] [] rfl rfl rfl
set_option maxRecDepth 100000 in
theorem operators_spec  :
  Spec Tryz.prog 83 [] [] [] (X := SV) (fun _ => True) (fun v => sv v) (fun v => [own 9 1 eS (sv v) opL]) (fun _ => []) := by
 refine r_enter Tryz.func83 rfl Tryz.ntmps83 rfl fun w0 M H => ?_
 refine r_seq (r_region (r_p (p_assign rfl) rfl (r_nil (r_seq (r_region ?_)))))
 refine r_bslice eS opL (parts := [(0, .const (.string (ByteArray.mk #[43]))), (1, .const (.string (ByteArray.mk #[45]))), (2, .const (.string (ByteArray.mk #[42]))), (3, .const (.string (ByteArray.mk #[47]))), (4, .const (.string (ByteArray.mk #[37]))), (5, .const (.string (ByteArray.mk #[38]))), (6, .const (.string (ByteArray.mk #[124]))), (7, .const (.string (ByteArray.mk #[94]))), (8, .const (.string (ByteArray.mk #[60, 60]))), (9, .const (.string (ByteArray.mk #[62, 62]))), (10, .const (.string (ByteArray.mk #[60]))), (11, .const (.string (ByteArray.mk #[60, 61]))), (12, .const (.string (ByteArray.mk #[62]))), (13, .const (.string (ByteArray.mk #[62, 61]))), (14, .const (.string (ByteArray.mk #[61, 61]))), (15, .const (.string (ByteArray.mk #[33, 61])))]) Tryz.underlying58 t9 rfl (by decide) (by intro _; rfl) rfl (by decide) (by decide) rfl rfl rfl rfl fun v1 => ?_
 refine r_p (p_assign rfl) rfl (r_nil (r_cret ?_))
 refine r_ret v1 trivial rfl (rs1 (rv_tmp rfl)) rfl [1] [] rfl rfl rfl
/-- The contract of the second grower, at a depth. -/
def HGr (d : Nat) : Prop := ∀ (b : Nat) (vl : SV) (l : List Int) (at_ : Nat) (vn : SV) (ns : List ByteArray), ns.length ≤ 1000 → (∀ x ∈ l, okI x) → at_ + 4 ^ d ≤ 1000000 →
 Spec Tryz.prog 47 [.pointer (some ⟨b, 0, none⟩), sv vn, .int .i64 (d : Int)] [row b 109 [sv vl, .int .i64 (at_ : Int)]] [sl 1 eI (sv vl) l, sl 1 eS (sv vn) ns] (X := Tx × Nat) (fun x => KE ns x.1 ∧ nX x.1 + 1 ≤ 2 ^ d ∧ x.2 ≤ at_ + 4 ^ d) (fun x => xV x.1) (fun x => [row b 109 [sv vl, .int .i64 (x.2 : Int)], txA1 x.1]) (fun _ => [])
theorem d1 {d : Nat} (hd : 1 ≤ d) : 4 ≤ 4 ^ d ∧ 2 ≤ 2 ^ d := by
 obtain ⟨e, rfl⟩ : ∃ e, d = e + 1 := ⟨d - 1, by omega⟩
 rw [Nat.pow_succ, Nat.pow_succ]
 have := Nat.pow_pos (n := e) (show 0 < 4 by decide)
 have := Nat.pow_pos (n := e) (show 0 < 2 by decide)
 omega
set_option maxHeartbeats 8000000 in
set_option maxRecDepth 100000 in
theorem gr9_step (d : Nat) (hd : 1 ≤ d) (hd2 : d ≤ 100) (ih : ∀ e, 1 ≤ e → e < d → HGr e) (b : Nat) (vl : SV) (l : List Int) (at_ : Nat) (vn : SV) (ns : List ByteArray) (hnl : ns.length ≤ 1000) (hlo : ∀ x ∈ l, okI x) (hat : at_ + 4 ^ d ≤ 1000000) :
  Spec Tryz.prog 47 [.pointer (some ⟨b, 0, none⟩), sv vn, .int .i64 (d : Int)] [row b 109 [sv vl, .int .i64 (at_ : Int)]] [sl 1 eI (sv vl) l, sl 1 eS (sv vn) ns] (X := Tx × Nat) (fun x => KE ns x.1 ∧ nX x.1 + 1 ≤ 2 ^ d ∧ x.2 ≤ at_ + 4 ^ d) (fun x => xV x.1) (fun x => [row b 109 [sv vl, .int .i64 (x.2 : Int)], txA1 x.1]) (fun _ => []) := by
 refine r_enter Tryz.func47 rfl Tryz.ntmps47 rfl fun w0 M H => ?_
 have hdd := d1 hd
 refine r_seq (r_region ?_)
 refine r_alloc t48 rfl rfl fun b6 => ?_
 refine r_nil (r_seq (r_region (r_p (p_move rfl) rfl ?_)))
 refine r_callN (xs := [.tmp 14, .const (.int .i64 7)]) (take9_spec b vl l at_ (by omega) hlo 7 ⟨by omega, by omega⟩) cb81 [0] [(false, 0)] [0] rfl rfl rfl rfl rfl rfl rfl rfl (fun _ _ => rfl) (fun _ _ _ => rfl) rfl (fun z1 hz1 => ?_)
 refine r_p (p_assign rfl) rfl (r_nil ?_)
 refine r_seq_cut (X := Int) (fun k => 0 ≤ k ∧ k < 7 ∧ ((d : Int) ≤ 1 → k ≤ 1)) (fun k => [(0, .pointer (some ⟨b, 0, none⟩)), (1, sv vn), (2, .int .i64 (d : Int)), (6, .pointer (some ⟨b6, 0, none⟩)), (7, .int .i64 k)]) (fun k => [(0, row b 109 [sv vl, .int .i64 ((at_ + 1 : Nat) : Int)]), (6, row b6 48 [.int .i64 0, .int .u32 0, .string oNil, .slice none 0 0])]) (fun k => [(0, sl 1 eI (sv vl) l), (1, sl 1 eS (sv vn) ns)]) ?_ (fun k hk => ?_)
 ·refine r_seq (r_region (r_p (p_move rfl) rfl ?_))
  refine r_p (p_bin rfl rfl b_le) rfl ?_
  refine r_nil ?_
  refine r_cond rfl (fun h1 => ?_) (fun h1 => ?_)
  ·(try simp only [decide_eq_true_eq, decide_eq_false_iff_not, Bool.and_eq_true, Bool.or_eq_true, Bool.and_eq_false_iff, Bool.or_eq_false_iff, Bool.not_eq_true, Bool.not_eq_false, Bool.not_eq_true', Bool.not_eq_false', Bool.not_not, bne_iff_ne, beq_iff_eq] at h1)
   have hdl : (d : Int) ≤ 1 := h1
   refine r_region (r_p (p_move rfl) rfl ?_)
   refine r_p (p_bin rfl rfl (b_and (and1 hz1.1 hz1.2))) rfl ?_
   refine r_p (p_assign rfl) rfl (r_nil ?_)
   refine r_here (z1 % 2) ⟨by omega, by omega, fun _ => by omega⟩ rfl rfl rfl
  ·(try simp only [decide_eq_true_eq, decide_eq_false_iff_not, Bool.and_eq_true, Bool.or_eq_true, Bool.and_eq_false_iff, Bool.or_eq_false_iff, Bool.not_eq_true, Bool.not_eq_false, Bool.not_eq_true', Bool.not_eq_false', Bool.not_not, bne_iff_ne, beq_iff_eq] at h1)
   have hdl : ¬ (d : Int) ≤ 1 := by omega
   refine r_skip ?_
   refine r_here z1 ⟨hz1.1, hz1.2, fun h => by omega⟩ rfl rfl rfl
 ·refine r_seq (r_seq (r_region (r_p (p_move rfl) rfl (r_nil (r_block (r_seq (r_seq (r_region ?_))))))))
  refine r_p (p_bin rfl rfl b_eq) rfl ?_
  refine r_p (p_assign rfl) rfl (r_nil ?_)
  refine r_cond rfl (fun h2 => ?_) (fun h2 => ?_)
  ·have w0 : k = 0 := of_decide_eq_true h2
   refine r_skip ?_
   refine r_cond rfl (fun h3 => ?_) (fun h3 => ?_)
   ·(try simp only [decide_eq_true_eq, decide_eq_false_iff_not, Bool.and_eq_true, Bool.or_eq_true, Bool.and_eq_false_iff, Bool.or_eq_false_iff, Bool.not_eq_true, Bool.not_eq_false, Bool.not_eq_true', Bool.not_eq_false', Bool.not_not, bne_iff_ne, beq_iff_eq] at h3)
    refine r_seq (r_region (r_p (p_move rfl) rfl ?_))
    refine r_callN (xs := [.tmp 24, .const (.int .i64 65536)]) (take9_spec b vl l (at_ + 1) (by omega) hlo 65536 ⟨by omega, by omega⟩) cb81 [0] [(false, 0)] [0] rfl rfl rfl rfl rfl rfl rfl rfl (fun _ _ => rfl) (fun _ _ _ => rfl) rfl (fun z2 hz2 => ?_)
    refine r_p (p_conv Tryz.underlying3 Tryz.underlying36 rfl (by first | exact w_u32 (by omega) (by omega) | rfl)) rfl ?_
    refine r_p (p_assign rfl) rfl (r_nil (r_seq (r_seq (r_region (r_p (p_move rfl) rfl ?_)))))
    refine r_p (p_bin rfl rfl (b_and rfl)) rfl ?_
    refine r_p (p_bin rfl rfl b_eq) rfl ?_
    refine r_nil ?_
    refine r_cond rfl (fun h4 => ?_) (fun h4 => ?_)
    ·(try simp only [decide_eq_true_eq, decide_eq_false_iff_not, Bool.and_eq_true, Bool.or_eq_true, Bool.and_eq_false_iff, Bool.or_eq_false_iff, Bool.not_eq_true, Bool.not_eq_false, Bool.not_eq_true', Bool.not_eq_false', Bool.not_not, bne_iff_ne, beq_iff_eq] at h4)
     refine r_region (r_p (p_move rfl) rfl ?_)
     refine r_p (p_bin rfl rfl (b_mul rfl)) rfl ?_
     refine r_p (p_assign rfl) rfl (r_nil (r_seq (r_region (r_p (p_move rfl) rfl (r_p (p_move rfl) rfl ?_)))))
     refine r_p (p_bin rfl rfl (b_and (and3 (by first | exact oW_wU _ | exact ⟨by omega, by omega⟩)))) rfl ?_
     refine r_p (p_bin rfl rfl (b_mul (by first | exact w_u32 (by omega) (by omega) | rfl))) rfl ?_
     refine r_p (p_conv Tryz.underlying36 Tryz.underlying135 rfl (by first | exact w_u64 (by omega) (by omega) | rfl)) rfl ?_
     refine r_p (p_bin rfl rfl (b_shr (by omega) (by first | decide | (simp [IntKind.bits]; omega)) rfl)) rfl ?_
     refine r_p (p_build (parts := [(0, .const (.int .i64 1)), (1, .tmp 37)]) t48 pl48 rfl rfl) rfl ?_
     refine r_store_all (k := 6) t48 rfl rfl rfl rfl rfl rfl ?_
     refine r_nil (r_cret ?_)
     refine r_collect 60 [] (L := []) (C := txA1 (.mk 1 (((IntKind.u32.wrap (z2 * 2654435761)) / 2 ^ (IntKind.u32.wrap (z2 * 2654435761) % 4 * 4).toNat)) oNil nilS [])) rfl (fun w F _ => show TxIn w F (.mk 1 (((IntKind.u32.wrap (z2 * 2654435761)) / 2 ^ (IntKind.u32.wrap (z2 * 2654435761) % 4 * 4).toNat)) oNil nilS []) from tx0) ?_
     refine r_ret ((.mk 1 (((IntKind.u32.wrap (z2 * 2654435761)) / 2 ^ (IntKind.u32.wrap (z2 * 2654435761) % 4 * 4).toNat)) oNil nilS []), at_ + 1 + 1) ⟨.num _ (oW_shr (oW_wU _) _), by show 1 + 1 ≤ 2 ^ d; omega, by dsimp only; omega⟩ rfl (rs1 (rv_cellA t48 rfl rfl rfl (g_all (k := 6) rfl))) rfl [0, 60] [] rfl rfl rfl
    ·(try simp only [decide_eq_true_eq, decide_eq_false_iff_not, Bool.and_eq_true, Bool.or_eq_true, Bool.and_eq_false_iff, Bool.or_eq_false_iff, Bool.not_eq_true, Bool.not_eq_false, Bool.not_eq_true', Bool.not_eq_false', Bool.not_not, bne_iff_ne, beq_iff_eq] at h4)
     refine r_skip (r_seq (r_region (r_p (p_move rfl) rfl (r_p (p_move rfl) rfl ?_))))
     refine r_p (p_bin rfl rfl (b_and (and3 (by first | exact oW_wU _ | exact ⟨by omega, by omega⟩)))) rfl ?_
     refine r_p (p_bin rfl rfl (b_mul (by first | exact w_u32 (by omega) (by omega) | rfl))) rfl ?_
     refine r_p (p_conv Tryz.underlying36 Tryz.underlying135 rfl (by first | exact w_u64 (by omega) (by omega) | rfl)) rfl ?_
     refine r_p (p_bin rfl rfl (b_shr (by omega) (by first | decide | (simp [IntKind.bits]; omega)) rfl)) rfl ?_
     refine r_p (p_build (parts := [(0, .const (.int .i64 1)), (1, .tmp 37)]) t48 pl48 rfl rfl) rfl ?_
     refine r_store_all (k := 6) t48 rfl rfl rfl rfl rfl rfl ?_
     refine r_nil (r_cret ?_)
     refine r_collect 60 [] (L := []) (C := txA1 (.mk 1 (z2 / 2 ^ (z2 % 4 * 4).toNat) oNil nilS [])) rfl (fun w F _ => show TxIn w F (.mk 1 (z2 / 2 ^ (z2 % 4 * 4).toNat) oNil nilS []) from tx0) ?_
     refine r_ret ((.mk 1 (z2 / 2 ^ (z2 % 4 * 4).toNat) oNil nilS []), at_ + 1 + 1) ⟨.num _ (oW_shr ⟨by omega, by omega⟩ _), by show 1 + 1 ≤ 2 ^ d; omega, by dsimp only; omega⟩ rfl (rs1 (rv_cellA t48 rfl rfl rfl (g_all (k := 6) rfl))) rfl [0, 60] [] rfl rfl rfl
   ·exact absurd (decide_eq_true w0) (by rw [h3]; simp)
  ·have w0 : ¬ k = 0 := of_decide_eq_false h2
   refine r_region ?_
   refine r_p (p_bin rfl rfl b_eq) rfl ?_
   refine r_p (p_assign rfl) rfl (r_nil ?_)
   refine r_cond rfl (fun h5 => ?_) (fun h5 => ?_)
   ·have w6 : k = 6 := of_decide_eq_true h5
    refine r_seq (r_region (r_p (p_move rfl) rfl ?_))
    refine r_callN (xs := [.tmp 24, .const (.int .i64 65536)]) (take9_spec b vl l (at_ + 1) (by omega) hlo 65536 ⟨by omega, by omega⟩) cb81 [0] [(false, 0)] [0] rfl rfl rfl rfl rfl rfl rfl rfl (fun _ _ => rfl) (fun _ _ _ => rfl) rfl (fun z2 hz2 => ?_)
    refine r_p (p_conv Tryz.underlying3 Tryz.underlying36 rfl (by first | exact w_u32 (by omega) (by omega) | rfl)) rfl ?_
    refine r_p (p_assign rfl) rfl (r_nil (r_seq (r_seq (r_region (r_p (p_move rfl) rfl ?_)))))
    refine r_p (p_bin rfl rfl (b_and rfl)) rfl ?_
    refine r_p (p_bin rfl rfl b_eq) rfl ?_
    refine r_nil ?_
    refine r_cond rfl (fun h6 => ?_) (fun h6 => ?_)
    ·(try simp only [decide_eq_true_eq, decide_eq_false_iff_not, Bool.and_eq_true, Bool.or_eq_true, Bool.and_eq_false_iff, Bool.or_eq_false_iff, Bool.not_eq_true, Bool.not_eq_false, Bool.not_eq_true', Bool.not_eq_false', Bool.not_not, bne_iff_ne, beq_iff_eq] at h6)
     refine r_region (r_p (p_move rfl) rfl ?_)
     refine r_p (p_bin rfl rfl (b_mul rfl)) rfl ?_
     refine r_p (p_assign rfl) rfl (r_nil (r_seq (r_region (r_p (p_move rfl) rfl (r_p (p_move rfl) rfl ?_)))))
     refine r_p (p_bin rfl rfl (b_and (and3 (by first | exact oW_wU _ | exact ⟨by omega, by omega⟩)))) rfl ?_
     refine r_p (p_bin rfl rfl (b_mul (by first | exact w_u32 (by omega) (by omega) | rfl))) rfl ?_
     refine r_p (p_conv Tryz.underlying36 Tryz.underlying135 rfl (by first | exact w_u64 (by omega) (by omega) | rfl)) rfl ?_
     refine r_p (p_bin rfl rfl (b_shr (by omega) (by first | decide | (simp [IntKind.bits]; omega)) rfl)) rfl ?_
     refine r_p (p_build (parts := [(0, .const (.int .i64 1)), (1, .tmp 37)]) t48 pl48 rfl rfl) rfl ?_
     refine r_store_all (k := 6) t48 rfl rfl rfl rfl rfl rfl ?_
     refine r_nil (r_cret ?_)
     refine r_collect 60 [] (L := []) (C := txA1 (.mk 1 (((IntKind.u32.wrap (z2 * 2654435761)) / 2 ^ (IntKind.u32.wrap (z2 * 2654435761) % 4 * 4).toNat)) oNil nilS [])) rfl (fun w F _ => show TxIn w F (.mk 1 (((IntKind.u32.wrap (z2 * 2654435761)) / 2 ^ (IntKind.u32.wrap (z2 * 2654435761) % 4 * 4).toNat)) oNil nilS []) from tx0) ?_
     refine r_ret ((.mk 1 (((IntKind.u32.wrap (z2 * 2654435761)) / 2 ^ (IntKind.u32.wrap (z2 * 2654435761) % 4 * 4).toNat)) oNil nilS []), at_ + 1 + 1) ⟨.num _ (oW_shr (oW_wU _) _), by show 1 + 1 ≤ 2 ^ d; omega, by dsimp only; omega⟩ rfl (rs1 (rv_cellA t48 rfl rfl rfl (g_all (k := 6) rfl))) rfl [0, 60] [] rfl rfl rfl
    ·(try simp only [decide_eq_true_eq, decide_eq_false_iff_not, Bool.and_eq_true, Bool.or_eq_true, Bool.and_eq_false_iff, Bool.or_eq_false_iff, Bool.not_eq_true, Bool.not_eq_false, Bool.not_eq_true', Bool.not_eq_false', Bool.not_not, bne_iff_ne, beq_iff_eq] at h6)
     refine r_skip (r_seq (r_region (r_p (p_move rfl) rfl (r_p (p_move rfl) rfl ?_))))
     refine r_p (p_bin rfl rfl (b_and (and3 (by first | exact oW_wU _ | exact ⟨by omega, by omega⟩)))) rfl ?_
     refine r_p (p_bin rfl rfl (b_mul (by first | exact w_u32 (by omega) (by omega) | rfl))) rfl ?_
     refine r_p (p_conv Tryz.underlying36 Tryz.underlying135 rfl (by first | exact w_u64 (by omega) (by omega) | rfl)) rfl ?_
     refine r_p (p_bin rfl rfl (b_shr (by omega) (by first | decide | (simp [IntKind.bits]; omega)) rfl)) rfl ?_
     refine r_p (p_build (parts := [(0, .const (.int .i64 1)), (1, .tmp 37)]) t48 pl48 rfl rfl) rfl ?_
     refine r_store_all (k := 6) t48 rfl rfl rfl rfl rfl rfl ?_
     refine r_nil (r_cret ?_)
     refine r_collect 60 [] (L := []) (C := txA1 (.mk 1 (z2 / 2 ^ (z2 % 4 * 4).toNat) oNil nilS [])) rfl (fun w F _ => show TxIn w F (.mk 1 (z2 / 2 ^ (z2 % 4 * 4).toNat) oNil nilS []) from tx0) ?_
     refine r_ret ((.mk 1 (z2 / 2 ^ (z2 % 4 * 4).toNat) oNil nilS []), at_ + 1 + 1) ⟨.num _ (oW_shr ⟨by omega, by omega⟩ _), by show 1 + 1 ≤ 2 ^ d; omega, by dsimp only; omega⟩ rfl (rs1 (rv_cellA t48 rfl rfl rfl (g_all (k := 6) rfl))) rfl [0, 60] [] rfl rfl rfl
   ·have w6 : ¬ k = 6 := of_decide_eq_false h5
    refine r_seq (r_region ?_)
    refine r_p (p_bin rfl rfl b_eq) rfl ?_
    refine r_p (p_assign rfl) rfl (r_nil ?_)
    refine r_cond rfl (fun h7 => ?_) (fun h7 => ?_)
    ·have w1 : k = 1 := of_decide_eq_true h7
     refine r_seq (r_seq (r_region (r_p (p_move rfl) rfl ?_)))
     refine r_p (p_len_sl Tryz.underlying58 rfl (hs_sl (k := 1) rfl)) rfl ?_
     refine r_p (p_bin rfl rfl b_eq) rfl ?_
     refine r_nil ?_
     refine r_cond rfl (fun h8 => ?_) (fun h8 => ?_)
     ·(try simp only [decide_eq_true_eq, decide_eq_false_iff_not, Bool.and_eq_true, Bool.or_eq_true, Bool.and_eq_false_iff, Bool.or_eq_false_iff, Bool.not_eq_true, Bool.not_eq_false, Bool.not_eq_true', Bool.not_eq_false', Bool.not_not, bne_iff_ne, beq_iff_eq] at h8)
      have hn0 : ns.length = 0 := by omega
      refine r_seq (r_region (r_p (p_move rfl) rfl ?_))
      refine r_callN (xs := [.tmp 44, .const (.int .i64 40)]) (take9_spec b vl l (at_ + 1) (by omega) hlo 40 ⟨by omega, by omega⟩) cb81 [0] [(false, 0)] [0] rfl rfl rfl rfl rfl rfl rfl rfl (fun _ _ => rfl) (fun _ _ _ => rfl) rfl (fun z3 hz3 => ?_)
      refine r_p (p_conv Tryz.underlying3 Tryz.underlying36 rfl (by first | exact w_u32 (by omega) (by omega) | rfl)) rfl ?_
      refine r_p (p_build (parts := [(0, .const (.int .i64 1)), (1, .tmp 46)]) t48 pl48 rfl rfl) rfl ?_
      refine r_store_all (k := 6) t48 rfl rfl rfl rfl rfl rfl ?_
      refine r_nil (r_cret ?_)
      refine r_collect 60 [] (L := []) (C := txA1 (.mk 1 z3 oNil nilS [])) rfl (fun w F _ => show TxIn w F (.mk 1 z3 oNil nilS []) from tx0) ?_
      refine r_ret ((.mk 1 z3 oNil nilS []), at_ + 1 + 1) ⟨.num _ ⟨by omega, by omega⟩, by show 1 + 1 ≤ 2 ^ d; omega, by dsimp only; omega⟩ rfl (rs1 (rv_cellA t48 rfl rfl rfl (g_all (k := 6) rfl))) rfl [0, 60] [] rfl rfl rfl
     ·(try simp only [decide_eq_true_eq, decide_eq_false_iff_not, Bool.and_eq_true, Bool.or_eq_true, Bool.and_eq_false_iff, Bool.or_eq_false_iff, Bool.not_eq_true, Bool.not_eq_false, Bool.not_eq_true', Bool.not_eq_false', Bool.not_not, bne_iff_ne, beq_iff_eq] at h8)
      have hn0 : 0 < ns.length := by omega
      refine r_skip (r_seq (r_region (r_p (p_move rfl) rfl (r_p (p_move rfl) rfl (r_p (p_move rfl) rfl ?_)))))
      refine r_p (p_len_sl Tryz.underlying58 rfl (hs_sl (k := 1) rfl)) rfl ?_
      refine r_callN (xs := [.tmp 49, .tmp 51]) (take9_spec b vl l (at_ + 1) (by omega) hlo (ns.length : Int) ⟨by omega, by omega⟩) cb81 [0] [(false, 0)] [0] rfl rfl rfl rfl rfl rfl rfl rfl (fun _ _ => rfl) (fun _ _ _ => rfl) rfl (fun z4 hz4 => ?_)
      obtain ⟨y, hy⟩ : ∃ y, ns[z4.toNat]? = some y := ⟨_, List.getElem?_eq_getElem (by omega)⟩
      have hym := List.mem_of_getElem? hy
      refine r_p (p_idx_sl (j := z4.toNat) Tryz.underlying58 t9 rfl rfl (hs_sl (k := 1) rfl) (by omega) (by omega)) rfl ?_
      refine r_p (p_load1 t9 rfl rfl (g_el' (hs_sl (k := 1) rfl) (by intro _; rfl) hy (by rfl))) rfl ?_
      refine r_p (p_build (parts := [(0, .const (.int .i64 2)), (2, .tmp 54)]) t48 pl48 rfl rfl) rfl ?_
      refine r_store_all (k := 6) t48 rfl rfl rfl rfl rfl rfl ?_
      refine r_nil (r_cret ?_)
      refine r_collect 60 [] (L := []) (C := txA1 (.mk 2 0 y nilS [])) rfl (fun w F _ => show TxIn w F (.mk 2 0 y nilS []) from tx0) ?_
      refine r_ret ((.mk 2 0 y nilS []), at_ + 1 + 1) ⟨.name y hym, by show 1 + 1 ≤ 2 ^ d; omega, by dsimp only; omega⟩ rfl (rs1 (rv_cellA t48 rfl rfl rfl (g_all (k := 6) rfl))) rfl [0, 60] [] rfl rfl rfl
    ·have w1 : ¬ k = 1 := of_decide_eq_false h7
     have hdl : ¬ (d : Int) ≤ 1 := fun h => by have := hk.2.2 h; omega
     obtain ⟨e, he⟩ : ∃ e, d = e + 1 := ⟨d - 1, by omega⟩
     have hp4 : 4 ^ d = 4 * 4 ^ (d - 1) := by rw [he, Nat.pow_succ, Nat.mul_comm]; rfl
     have hp2 : 2 ^ d = 2 * 2 ^ (d - 1) := by rw [he, Nat.pow_succ, Nat.mul_comm]; rfl
     have hde : (d : Int) - 1 = ((d - 1 : Nat) : Int) := by omega
     have hd1 := d1 (d := d - 1) (by omega)
     refine r_seq (r_region ?_)
     refine r_p (p_bin rfl rfl b_eq) rfl ?_
     refine r_p (p_assign rfl) rfl (r_nil ?_)
     refine r_cond rfl (fun h9 => ?_) (fun h9 => ?_)
     ·have w2 : k = 2 := of_decide_eq_true h9
      refine r_seq (r_region ?_)
      refine r_callN (xs := []) signs_spec cb82 [] [] [58] rfl rfl rfl rfl rfl rfl rfl rfl (fun _ _ => rfl) (fun _ _ _ => rfl) rfl (fun v58 _ => ?_)
      refine r_p (p_assign rfl) rfl (r_nil (r_seq ?_))
      refine r_draw [59, 60, 61, 62, 63, 64, 65, 66, 67, 68, 69, 70, 71, 72] _ rfl (stg_mem (V := [(0, 59, _), (1, 60, _), (2, 61, _), (3, 62, _), (7, 66, _), (8, 67, _), (9, 68, _), (10, 69, _)]) [0, 1, 2, 3, 7, 8, 9, 10] 4 [4, 3, 2, 1] [5, 6] (fun v63 => [(5, 64, _), (6, 65, _)]) rfl rfl (prs_cons (pri rfl (p_move rfl)) (prs_cons (pri rfl (p_move rfl)) (prs_cons (pri rfl (p_move rfl)) (prs_cons (pri rfl (p_len_sl Tryz.underlying58 rfl (hs_own (k := 58) rfl))) (prs_cons (pri rfl (p_move rfl)) (prs_cons (pri rfl (p_move rfl)) (prs_cons (pri rfl (p_move rfl)) (prs_cons (pri rfl (p_bin rfl rfl (b_sub (c := ((d - 1 : Nat) : Int)) (by rw [hde]; exact w_i64 (by omega) (by omega))))) prs_nil)))))))) rfl rfl rfl rfl rfl rfl rfl rfl rfl rfl rfl (fun _ _ => rfl) rfl (ms_callN (xs := [.tmp 60, .tmp 62]) (take9_spec b vl l (at_ + 1) (by omega) hlo 3 (by omega)) cb81 [0] [(false, 0)] [0] rfl rfl rfl rfl rfl rfl rfl rfl (fun _ _ => rfl) (fun _ _ _ => rfl)) (fun v63 hv63 => stg_mem [5, 6, 0, 7, 8, 9, 10] 11 [11, 10, 9, 8, 7, 4, 3, 2, 1] [] (fun x70 => []) rfl rfl (prs_cons (pri rfl (p_idx_sl (j := v63.toNat) Tryz.underlying58 t9 rfl rfl (hs_own (k := 58) rfl) (by omega) (by show _ < 3; omega))) (prs_cons (pri rfl (p_load1 t9 rfl rfl (g_el' (hs_own (k := 58) rfl) (by intro _; rfl) (sg_at hv63) (by rfl)))) (prs_cons (pri rfl (p_move rfl)) (prs_cons (pri rfl (p_move rfl)) (prs_cons (pri rfl (p_move rfl)) (prs_cons (pri rfl (p_move rfl)) (prs_cons (pri rfl (p_bin rfl rfl (b_sub (c := ((d - 1 : Nat) : Int)) (by rw [hde]; exact w_i64 (by omega) (by omega))))) prs_nil))))))) rfl rfl rfl rfl rfl rfl rfl rfl rfl rfl rfl (fun _ _ => rfl) rfl (ms_callN (xs := [.tmp 66, .tmp 67, .tmp 69]) (ih (d - 1) (by omega) (by omega) b vl l (at_ + 1 + 1) vn ns hnl hlo (by omega)) cb47 [0] [(false, 0), (false, 1)] [0, 60] rfl rfl rfl rfl rfl rfl rfl rfl (fun _ _ => rfl) (fun _ _ _ => rfl)) (fun x70 hx70 => stg_mem [5, 6, 0] 12 [12, 11, 10, 9, 8, 7, 4, 3, 2, 1] [13] (fun v71 => [(13, 72, _)]) rfl rfl (prs_cons (pri rfl (p_idx_sl (j := v63.toNat) Tryz.underlying58 t9 rfl rfl (hs_own (k := 58) rfl) (by omega) (by show _ < 3; omega))) (prs_cons (pri rfl (p_load1 t9 rfl rfl (g_el' (hs_own (k := 58) rfl) (by intro _; rfl) (sg_at hv63) (by rfl)))) (prs_cons (pri rfl (p_move rfl)) prs_nil))) rfl rfl rfl rfl rfl rfl rfl rfl rfl rfl rfl (fun _ _ => rfl) rfl (ms_bslice1 eTx x70.1 Tryz.underlying46 t48 rfl (by decide) (by decide) rfl rfl rfl) (fun v71 _ => stg_mem0 [13, 5, 6, 0] 14 [14, 13, 12, 11, 10, 9, 8, 7, 6, 5, 4, 3, 2, 1, 0] [] (fun _ => []) rfl rfl (prs_cons (pri rfl (p_build (parts := [(0, .const (.int .i64 6)), (2, .tmp 65), (3, .tmp 71)]) t48 pl48 rfl rfl)) (prs_cons (pri rfl (p_idx_sl (j := v63.toNat) Tryz.underlying58 t9 rfl rfl (hs_own (k := 58) rfl) (by omega) (by show _ < 3; omega))) (prs_cons (pri rfl (p_load1 t9 rfl rfl (g_el' (hs_own (k := 58) rfl) (by intro _; rfl) (sg_at hv63) (by rfl)))) (prs_cons (pri rfl (p_move rfl)) prs_nil)))) rfl rfl rfl rfl rfl rfl rfl rfl rfl (fun _ _ => rfl) rfl (ms_store_all (k := 6) t48 rfl rfl rfl rfl rfl rfl) (fun _ _ => stg_end [] rfl rfl prs_nil rfl rfl rfl ?_)))))
      refine r_cret ?_
      refine r_collect 61 [60, 71] (L := [txA1 x70.1, own 48 4 eTx (sv v71) [x70.1]]) (C := txA1 (.mk 6 0 (sgL.getD v63.toNat oNil) v71 [x70.1])) rfl (fun w F h => by
       obtain ⟨⟨_, a0, b0⟩, ⟨_, a1, b1⟩, _⟩ := h
       exact ⟨own_in a1 b1, TxIn.mono b0 (fun _ _ => rfl) _ a0, trivial⟩) ?_
      refine r_ret (.mk 6 0 (sgL.getD v63.toNat oNil) v71 [x70.1], x70.2) ⟨.un _ v71 _ (sg_mem hv63) hx70.1, by have := hx70.2.1; show nX x70.1 + 0 + 1 + 1 ≤ _; omega, by have := hx70.2.2; dsimp only; omega⟩ rfl (rs1 (rv_cellA t48 rfl rfl rfl (g_all (k := 6) rfl))) rfl [0, 61] [] rfl rfl rfl
     ·have w2 : ¬ k = 2 := of_decide_eq_false h9
      refine r_skip (r_seq (r_region ?_))
      refine r_callN (xs := []) operators_spec cb83 [] [] [73] rfl rfl rfl rfl rfl rfl rfl rfl (fun _ _ => rfl) (fun _ _ _ => rfl) rfl (fun v73 _ => ?_)
      refine r_p (p_assign rfl) rfl (r_nil (r_seq (r_region (r_p (p_move rfl) rfl (r_p (p_move rfl) rfl (r_p (p_move rfl) rfl ?_))))))
      refine r_p (p_len_sl Tryz.underlying58 rfl (hs_own (k := 73) rfl)) rfl ?_
      refine r_callN (xs := [.tmp 75, .tmp 77]) (take9_spec b vl l (at_ + 1) (by omega) hlo 16 ⟨by omega, by omega⟩) cb81 [0] [(false, 0)] [0] rfl rfl rfl rfl rfl rfl rfl rfl (fun _ _ => rfl) (fun _ _ _ => rfl) rfl (fun z5 hz5 => ?_)
      obtain ⟨op, hop0⟩ : ∃ op, opL[z5.toNat]? = some op := ⟨_, List.getElem?_eq_getElem (by show _ < 16; omega)⟩
      have hop := List.mem_of_getElem? hop0
      refine r_p (p_idx_sl (j := z5.toNat) Tryz.underlying58 t9 rfl rfl (hs_own (k := 73) rfl) (by omega) (by show _ < 16; omega)) rfl ?_
      refine r_p (p_load1 t9 rfl rfl (g_el' (hs_own (k := 73) rfl) (by intro _; rfl) hop0 (by rfl))) rfl ?_
      refine r_p (p_assign rfl) rfl (r_nil (r_seq (r_region (r_p (p_move rfl) rfl (r_p (p_move rfl) rfl (r_p (p_move rfl) rfl ?_))))))
      refine r_p (p_bin rfl rfl (b_sub (c := ((d - 1 : Nat) : Int)) (by rw [hde]; exact w_i64 (by omega) (by omega)))) rfl ?_
      refine r_callN (xs := [.tmp 81, .tmp 82, .tmp 84]) (ih (d - 1) (by omega) (by omega) b vl l (at_ + 1 + 1) vn ns hnl hlo (by omega)) cb47 [0] [(false, 0), (false, 1)] [0, 60] rfl rfl rfl rfl rfl rfl rfl rfl (fun _ _ => rfl) (fun _ _ _ => rfl) rfl (fun ⟨ta, at1⟩ hta => ?_)
      dsimp only at hta ⊢
      refine r_alloc t48 rfl rfl fun b12 => ?_
      refine r_store_all (k := 12) t48 rfl rfl rfl rfl rfl rfl ?_
      refine r_nil (r_seq (r_region (r_p (p_move rfl) rfl (r_p (p_move rfl) rfl (r_p (p_move rfl) rfl ?_)))))
      refine r_p (p_bin rfl rfl (b_sub (c := ((d - 1 : Nat) : Int)) (by rw [hde]; exact w_i64 (by omega) (by omega)))) rfl ?_
      refine r_callN (xs := [.tmp 86, .tmp 87, .tmp 89]) (ih (d - 1) (by omega) (by omega) b vl l at1 vn ns hnl hlo (by omega)) cb47 [0] [(false, 0), (false, 1)] [0, 62] rfl rfl rfl rfl rfl rfl rfl rfl (fun _ _ => rfl) (fun _ _ _ => rfl) rfl (fun ⟨tb, at2⟩ htb => ?_)
      dsimp only at htb ⊢
      refine r_alloc t48 rfl rfl fun b13 => ?_
      refine r_store_all (k := 13) t48 rfl rfl rfl rfl rfl rfl ?_
      refine r_nil (r_seq (r_region (r_p (p_move rfl) rfl ?_)))
      refine r_p (p_loadA t48 rfl rfl rfl (g_all (k := 12) rfl)) rfl ?_
      refine r_p (p_loadA t48 rfl rfl rfl (g_all (k := 13) rfl)) rfl ?_
      refine r_bslice eTx [ta, tb] (parts := [(0, .tmp 92), (1, .tmp 93)]) Tryz.underlying46 t48 rfl (by decide) (by intro _; rfl) rfl (by decide) (by decide) rfl rfl rfl rfl fun v94 => ?_
      refine r_p (p_build (parts := [(0, .const (.int .i64 7)), (2, .tmp 91), (3, .tmp 94)]) t48 pl48 rfl rfl) rfl ?_
      refine r_store_all (k := 6) t48 rfl rfl rfl rfl rfl rfl ?_
      refine r_nil (r_cret ?_)
      refine r_collect 61 [60, 62, 94] (L := [txA1 ta, txA1 tb, own 48 4 eTx (sv v94) [ta, tb]]) (C := txA1 (.mk 7 0 op v94 [ta, tb])) rfl (fun w F h => by
       obtain ⟨⟨_, a0, b0⟩, ⟨_, a1, b1⟩, ⟨_, a2, b2⟩, _⟩ := h
       exact ⟨own_in a2 b2, TxIn.mono b0 (fun _ _ => rfl) _ a0, TxIn.mono b1 (fun _ _ => rfl) _ a1, trivial⟩) ?_
      refine r_ret (.mk 7 0 op v94 [ta, tb], at2) ⟨.bin op v94 _ _ hop hta.1 htb.1, by have := hta.2.1; have := htb.2.1; dsimp only at *; show nX ta + (nX tb + 0) + 1 + 1 ≤ _; omega, by have := hta.2.2; have := htb.2.2; dsimp only at *; omega⟩ rfl (rs1 (rv_cellA t48 rfl rfl rfl (g_all (k := 6) rfl))) rfl [0, 61] [] rfl rfl rfl
theorem gr9_all : ∀ (n d : Nat), d ≤ n → 1 ≤ d → d ≤ 100 → HGr d
 | 0, d, h, h1, _ => by omega
 | n + 1, d, h, h1, h2 => fun b vl l at_ vn ns hnl hlo hat => gr9_step d h1 h2 (fun e he1 he2 => gr9_all n e (by omega) he1 (by omega)) b vl l at_ vn ns hnl hlo hat
set_option maxRecDepth 100000 in
theorem expr9_spec (vl : SV) (l : List Int) (hlo : ∀ x ∈ l, okI x) (vn : SV) (ns : List ByteArray) (hnl : ns.length ≤ 1000) (d : Nat) (hd : 1 ≤ d) (hd2 : d ≤ 8) :
  Spec Tryz.prog 17 [sv vl, sv vn, .int .i64 (d : Int)] [] [sl 1 eI (sv vl) l, sl 1 eS (sv vn) ns] (X := Tx) (fun t => KE ns t ∧ nX t + 1 ≤ 2 ^ d) (fun t => xV t) (fun t => [txA1 t]) (fun _ => []) := by
 refine r_enter Tryz.func17 rfl Tryz.ntmps17 rfl fun w0 M H => ?_
 refine r_seq (r_region ?_)
 refine r_alloc t48 rfl rfl fun b6 => ?_
 refine r_nil (r_seq (r_region (r_p (p_move rfl) rfl ?_)))
 refine r_p (p_build (parts := [(0, .tmp 8)]) t109 pl109 rfl rfl) rfl ?_
 refine r_boxA rfl rfl fun b10 => ?_
 refine r_p (p_assign rfl) rfl (r_nil (r_seq (r_region (r_p (p_move rfl) rfl (r_p (p_move rfl) rfl (r_p (p_move rfl) rfl ?_))))))
 have hp8 : 4 ^ d ≤ 4 ^ 8 := Nat.pow_le_pow_right (by decide) hd2
 have hp9 : (4 : Nat) ^ 8 = 65536 := by decide
 refine r_callN (xs := [.tmp 11, .tmp 12, .tmp 13]) (gr9_all d d (Nat.le_refl d) hd (by omega) b10 vl l 0 vn ns hnl hlo (by omega)) cb47 [10] [(false, 0), (false, 1)] [10, 60] rfl rfl rfl rfl rfl rfl rfl rfl (fun _ _ => rfl) (fun _ _ _ => rfl) rfl (fun x hx => ?_)
 refine r_store_all (k := 6) t48 rfl rfl rfl rfl rfl rfl ?_
 refine r_nil (r_cret ?_)
 refine r_ret x.1 ⟨hx.1, hx.2.1⟩ rfl (rs1 (rv_cellA t48 rfl rfl rfl (g_all (k := 6) rfl))) rfl [60] [] rfl rfl rfl
set_option maxHeartbeats 2000000 in
set_option maxRecDepth 100000 in
theorem size_step (t : Tx) (hn : nX t ≤ 1000000) (hkl : t.kids.length ≤ 1000000) (ih : ∀ u ∈ t.kids, HSi u) :
  Spec Tryz.prog 20 [xV t] [] [txsA t.v t.kids] (X := Unit) (fun _ => True) (fun _ => .int .i64 (nX t : Int)) (fun _ => []) (fun _ => []) := by
 refine r_enter Tryz.func20 rfl Tryz.ntmps20 rfl fun w0 M H => ?_
 refine r_more 0 1 rfl txs_sl ?_
 obtain ⟨hn1, hn2⟩ := nX_def t
 refine r_seq (r_region ?_)
 refine r_boxA rfl rfl fun b1 => ?_
 refine r_p (p_assign rfl) rfl (r_nil (r_seq (r_region (r_p (p_assign rfl) rfl (r_nil (r_seq (r_seq (r_region ?_))))))))
 refine r_p (p_field0 fo48_3 rfl) rfl ?_
 refine r_p (p_load1 t46 rfl rfl (g_row1 (k := 1) rfl rfl)) rfl ?_
 refine r_p (p_len_sl Tryz.underlying46 rfl (hs_sl (k := 1) rfl)) rfl ?_
 refine r_p (p_move rfl) rfl (r_nil (r_block ?_))
 refine r_loop (X := Nat) (fun i => i ≤ t.kids.length) (fun i => [(1, .pointer (some ⟨b1, 0, none⟩)), (3, .int .i64 (1 + (nXs (t.kids.take i) : Int))), (7, sv t.v), (8, .int .i64 (t.kids.length : Int)), (9, .int .i64 (i : Int))]) (fun i => [(1, row b1 48 (eTx t))]) (fun i => [(0, txsA t.v t.kids), (1, sl 4 eTx (sv t.v) t.kids)]) (fun i => t.kids.length - i) 0 (Nat.zero_le _) rfl rfl rfl (fun i n1 => ?_)
 refine r_seq (r_region ?_)
 refine r_p (p_bin rfl rfl b_lt) rfl ?_
 refine r_nil (r_seq ?_)
 refine r_cond rfl (fun h1 => ?_) (fun h1 => ?_)
 ·(try simp only [decide_eq_true_eq, decide_eq_false_iff_not, Bool.and_eq_true, Bool.or_eq_true, Bool.and_eq_false_iff, Bool.or_eq_false_iff, Bool.not_eq_true, Bool.not_eq_false, Bool.not_eq_true', Bool.not_eq_false', Bool.not_not, bne_iff_ne, beq_iff_eq] at h1)
  have hi : i < t.kids.length := by omega
  obtain ⟨u, hu⟩ : ∃ u, t.kids[i]? = some u := ⟨_, List.getElem?_eq_getElem hi⟩
  have hum := List.mem_of_getElem? hu
  refine r_more 0 7 rfl (txs_kid hum) ?_
  have hle := nXs_le t.kids (i + 1)
  rw [nXs_take hu] at hle
  refine r_skip (r_seq (r_block (r_seq (r_region ?_))))
  refine r_p (p_idx_sl (j := i) Tryz.underlying46 t48 rfl rfl (hs_sl (k := 1) rfl) (by first | rfl | omega) (by first | omega | (simp; done) | (simp; omega))) rfl ?_
  refine r_p (p_loadA t48 rfl rfl rfl (g_el' (hs_sl (k := 1) rfl) (by intro _; rfl) hu (by rfl))) rfl ?_
  refine r_alloc t48 rfl rfl fun b5 => ?_
  refine r_store_all (k := 5) t48 rfl rfl rfl rfl rfl rfl ?_
  refine r_nil (r_region (r_p (p_move rfl) rfl ?_))
  refine r_p (p_loadA t48 rfl rfl rfl (g_all (k := 5) rfl)) rfl ?_
  refine r_callN (xs := [.tmp 14]) (ih u hum) cb20 [] [(false, 7)] [] rfl rfl rfl rfl rfl rfl rfl rfl (fun _ _ => rfl) (fun _ _ _ => rfl) rfl (fun _ _ => ?_)
  refine r_p (p_bin rfl rfl (b_add (by first | exact w_i64 (by omega) (by omega) | rfl))) rfl ?_
  refine r_p (p_assign rfl) rfl (r_nil (r_region ?_))
  refine r_p (p_bin rfl rfl (b_add (by first | exact w_i64 (by omega) (by omega) | rfl))) rfl ?_
  refine r_p (p_move rfl) rfl (r_nil ?_)
  refine r_here (i + 1) ⟨by omega, by omega⟩ (by rw [nXs_take hu, Int.natCast_add, ← Int.add_assoc]; rfl) rfl rfl
 ·(try simp only [decide_eq_true_eq, decide_eq_false_iff_not, Bool.and_eq_true, Bool.or_eq_true, Bool.and_eq_false_iff, Bool.or_eq_false_iff, Bool.not_eq_true, Bool.not_eq_false, Bool.not_eq_true', Bool.not_eq_false', Bool.not_not, bne_iff_ne, beq_iff_eq] at h1)
  have hi : i = t.kids.length := by omega
  subst hi
  rw [List.take_length]
  refine r_exit (r_seq (r_region (r_p (p_move rfl) rfl (r_p (p_assign rfl) rfl (r_nil (r_cret ?_))))))
  refine r_ret () trivial rfl (rs1 (rv_tmp rfl)) (by rw [hn1, Int.natCast_add, Int.add_comm]; rfl) [] [] rfl rfl rfl
theorem size_all : ∀ (n : Nat) (t : Tx), SizeOf.sizeOf t < n → GX t → nX t ≤ 1000000 → HSi t
 | 0, _, h, _, _ => absurd h (Nat.not_lt_zero _)
 | n + 1, t, h, ht, hn => size_step t hn (GX_len ht) fun u hu => size_all n u (by have := tx_lt hu; omega) ((GX_kids ht).mem u hu) (by
  obtain ⟨i, hi⟩ := List.getElem?_of_mem hu
  have hle := nXs_le t.kids (i + 1)
  rw [nXs_take hi] at hle
  have := (nX_def t).1
  omega)
theorem size_spec (t : Tx) (ht : GX t) (hn : nX t ≤ 1000000) : HSi t := size_all _ t (Nat.lt_succ_self _) ht hn
theorem ok0 : okVs [] := fun p hp => by simp at hp
set_option maxHeartbeats 4000000 in
set_option maxRecDepth 100000 in
theorem value_step (t : Tx) (h : KE [] t) (ih : ∀ u ∈ t.kids, KE [] u → HVal u) :
  Spec Tryz.prog 21 [xV t] [] [txsA t.v t.kids] (X := Unit) (fun _ => True) (fun _ => .int .u32 (valX [] t)) (fun _ => []) (fun _ => []) := by
 refine r_enter Tryz.func21 rfl Tryz.ntmps21 rfl fun w0 M H => ?_
 refine r_seq (r_region ?_)
 refine r_boxA rfl rfl fun b1 => ?_
 refine r_p (p_assign rfl) rfl (r_nil (r_seq (r_seq (r_region ?_))))
 refine r_p (p_field0 fo48_0 rfl) rfl ?_
 refine r_p (p_load1 t3 rfl rfl (g_row1 (k := 1) rfl rfl)) rfl ?_
 refine r_nil (r_block (r_seq (r_region ?_)))
 refine r_p (p_bin rfl rfl b_eq) rfl ?_
 refine r_p (p_assign rfl) rfl (r_nil ?_)
 refine r_cond rfl (fun h1 => ?_) (fun h1 => ?_)
 ·have q6 : t.kind = 6 := of_decide_eq_true h1
  obtain ⟨op, v, u, rfl, hu⟩ := h.un_inv q6
  have hvu := ih u (List.mem_cons_self ..) hu
  unfold HVal at hvu
  refine r_more 0 1 rfl txs_sl ?_
  refine r_more 0 7 rfl (txs_kid (List.mem_cons_self ..)) ?_
  refine r_seq ?_
  refine r_drawM [0, 1, 2, 3, 4, 5, 6, 7, 8, 9, 10, 11, 12] [0, 1, 2, 3, 4, 5, 6, 7, 8, 9, 11, 10, 12] [12, 13, 14, 15, 16, 17, 18, 19, 11, 20, 21, 3, 4] _ rfl rfl rfl (stg_mem (V := [(0, 12, _), (1, 13, _), (2, 14, _), (3, 15, _), (4, 16, _), (5, 17, _)]) [0, 1, 2, 3, 4, 5] 6 [6, 5, 4, 3, 2] [] (fun _ => []) rfl rfl (prs_cons (pri rfl (p_field0 fo48_2 rfl)) (prs_cons (pri rfl (p_load1 t9 rfl rfl (g_row1 (k := 1) rfl rfl))) (prs_cons (pri rfl (p_field0 fo48_3 rfl)) (prs_cons (pri rfl (p_load1 t46 rfl rfl (g_row1 (k := 1) rfl rfl))) (prs_cons (pri rfl (p_idx_sl (j := 0) Tryz.underlying46 t48 rfl rfl (hs_sl (k := 1) rfl) rfl (by show 0 < 1; decide))) (prs_cons (pri rfl (p_loadA t48 rfl rfl rfl (g_el' (hs_sl (k := 1) rfl) (by intro _; rfl) (show [u][0]? = some u from rfl) (by rfl)))) prs_nil)))))) rfl rfl rfl rfl rfl rfl rfl rfl rfl rfl rfl (fun _ _ => rfl) rfl (ms_callN (xs := [.tmp 17]) hvu cb21 [] [(false, 7)] [] rfl rfl rfl rfl rfl rfl rfl rfl (fun _ _ => rfl) (fun _ _ _ => rfl)) (fun _ _ => stg_mem [0, 1] 7 [7, 6, 5, 4, 3, 2, 1, 0] [8, 9, 10, 11, 12] (fun _ => [(8, 11, _), (9, 20, _), (10, 21, _), (11, 3, _), (12, 4, _)]) rfl rfl (prs_cons (pri rfl (p_field0 fo48_2 rfl)) (prs_cons (pri rfl (p_load1 t9 rfl rfl (g_row1 (k := 1) rfl rfl))) prs_nil)) rfl rfl rfl rfl rfl rfl rfl rfl rfl rfl rfl (fun _ _ => rfl) rfl (ms_callN (xs := [.tmp 13, .tmp 18]) (unary_spec op (valX [] u) (hu.oW ok0)) cb29 [] [] [] rfl rfl rfl rfl rfl rfl rfl rfl (fun _ _ => rfl) (fun _ _ _ => rfl)) (fun _ _ => stg_end [8, 9, 10, 11, 12] rfl rfl (prs_cons (pri rfl (p_move rfl)) (prs_cons (pri rfl (p_extract rfl rfl)) (prs_cons (pri rfl (p_extract rfl rfl)) (prs_cons (pri rfl (p_assign rfl)) (prs_cons (pri rfl (p_assign rfl)) prs_nil))))) rfl rfl rfl ?_)))
  refine r_seq (r_region (r_p (p_move rfl) rfl (r_p (p_assign rfl) rfl (r_nil (r_cret ?_)))))
  refine r_ret () trivial rfl (rs1 (rv_tmp rfl)) rfl [] [] rfl rfl rfl
 ·have q6 : ¬ t.kind = 6 := of_decide_eq_false h1
  refine r_seq (r_region ?_)
  refine r_p (p_bin rfl rfl b_eq) rfl ?_
  refine r_p (p_assign rfl) rfl (r_nil ?_)
  refine r_cond rfl (fun h2 => ?_) (fun h2 => ?_)
  ·have q7 : t.kind = 7 := of_decide_eq_true h2
   obtain ⟨op, v, a, b, rfl, ha, hb⟩ := h.bin_inv q7
   have hva := ih a (List.mem_cons_self ..) ha
   have hvb := ih b (List.mem_cons_of_mem _ (List.mem_cons_self ..)) hb
   unfold HVal at hva hvb
   refine r_more 0 1 rfl txs_sl ?_
   refine r_more 0 7 rfl (txs_kid (List.mem_cons_self ..)) ?_
   refine r_more 0 8 rfl (txs_kid (List.mem_cons_of_mem _ (List.mem_cons_self ..))) ?_
   refine r_seq ?_
   refine r_drawM [0, 1, 2, 3, 4, 5, 6, 7, 8, 9, 10, 11, 12, 13, 14, 15, 16, 17] [0, 1, 2, 3, 4, 5, 6, 7, 8, 9, 10, 11, 12, 13, 14, 16, 15, 17] [26, 27, 28, 29, 30, 31, 32, 33, 34, 35, 36, 37, 38, 25, 39, 40, 5, 6] _ rfl rfl rfl (stg_mem (V := [(0, 26, _), (1, 27, _), (2, 28, _), (3, 29, _), (4, 30, _), (5, 31, _), (7, 33, _), (8, 34, _), (9, 35, _), (10, 36, _)]) [0, 1, 2, 3, 4, 5, 7, 8, 9, 10] 6 [6, 5, 4, 3, 2] [] (fun _ => []) rfl rfl (prs_cons (pri rfl (p_field0 fo48_2 rfl)) (prs_cons (pri rfl (p_load1 t9 rfl rfl (g_row1 (k := 1) rfl rfl))) (prs_cons (pri rfl (p_field0 fo48_3 rfl)) (prs_cons (pri rfl (p_load1 t46 rfl rfl (g_row1 (k := 1) rfl rfl))) (prs_cons (pri rfl (p_idx_sl (j := 0) Tryz.underlying46 t48 rfl rfl (hs_sl (k := 1) rfl) rfl (by show 0 < 2; decide))) (prs_cons (pri rfl (p_loadA t48 rfl rfl rfl (g_el' (hs_sl (k := 1) rfl) (by intro _; rfl) (show [a, b][0]? = some a from rfl) (by rfl)))) (prs_cons (pri rfl (p_field0 fo48_3 rfl)) (prs_cons (pri rfl (p_load1 t46 rfl rfl (g_row1 (k := 1) rfl rfl))) (prs_cons (pri rfl (p_idx_sl (j := 1) Tryz.underlying46 t48 rfl rfl (hs_sl (k := 1) rfl) rfl (by show 1 < 2; decide))) (prs_cons (pri rfl (p_loadA t48 rfl rfl rfl (g_el' (hs_sl (k := 1) rfl) (by intro _; rfl) (show [a, b][1]? = some b from rfl) (by rfl)))) prs_nil)))))))))) rfl rfl rfl rfl rfl rfl rfl rfl rfl rfl rfl (fun _ _ => rfl) rfl (ms_callN (xs := [.tmp 31]) hva cb21 [] [(false, 7)] [] rfl rfl rfl rfl rfl rfl rfl rfl (fun _ _ => rfl) (fun _ _ _ => rfl)) (fun _ _ => stg_mem [0, 1, 7, 8, 9, 10] 11 [11, 10, 9, 8, 7, 6, 5, 4, 3, 2] [] (fun _ => []) rfl rfl (prs_cons (pri rfl (p_field0 fo48_2 rfl)) (prs_cons (pri rfl (p_load1 t9 rfl rfl (g_row1 (k := 1) rfl rfl))) (prs_cons (pri rfl (p_field0 fo48_3 rfl)) (prs_cons (pri rfl (p_load1 t46 rfl rfl (g_row1 (k := 1) rfl rfl))) (prs_cons (pri rfl (p_idx_sl (j := 1) Tryz.underlying46 t48 rfl rfl (hs_sl (k := 1) rfl) rfl (by show 1 < 2; decide))) (prs_cons (pri rfl (p_loadA t48 rfl rfl rfl (g_el' (hs_sl (k := 1) rfl) (by intro _; rfl) (show [a, b][1]? = some b from rfl) (by rfl)))) prs_nil)))))) rfl rfl rfl rfl rfl rfl rfl rfl rfl rfl rfl (fun _ _ => rfl) rfl (ms_callN (xs := [.tmp 36]) hvb cb21 [] [(false, 8)] [] rfl rfl rfl rfl rfl rfl rfl rfl (fun _ _ => rfl) (fun _ _ _ => rfl)) (fun _ _ => stg_mem [0, 1] 12 [12, 11, 10, 9, 8, 7, 6, 5, 4, 3, 2, 1, 0] [13, 14, 15, 16, 17] (fun _ => [(13, 25, _), (14, 39, _), (15, 40, _), (16, 5, _), (17, 6, _)]) rfl rfl (prs_cons (pri rfl (p_field0 fo48_2 rfl)) (prs_cons (pri rfl (p_load1 t9 rfl rfl (g_row1 (k := 1) rfl rfl))) prs_nil)) rfl rfl rfl rfl rfl rfl rfl rfl rfl rfl rfl (fun _ _ => rfl) rfl (ms_callN (xs := [.tmp 27, .tmp 32, .tmp 37]) (binary_spec op (valX [] a) (valX [] b) (ha.oW ok0) (hb.oW ok0)) cb28 [] [] [] rfl rfl rfl rfl rfl rfl rfl rfl (fun _ _ => rfl) (fun _ _ _ => rfl)) (fun _ _ => stg_end [13, 14, 15, 16, 17] rfl rfl (prs_cons (pri rfl (p_move rfl)) (prs_cons (pri rfl (p_extract rfl rfl)) (prs_cons (pri rfl (p_extract rfl rfl)) (prs_cons (pri rfl (p_assign rfl)) (prs_cons (pri rfl (p_assign rfl)) prs_nil))))) rfl rfl rfl ?_))))
   refine r_seq (r_region (r_p (p_move rfl) rfl (r_p (p_assign rfl) rfl (r_nil (r_cret ?_)))))
   refine r_ret () trivial rfl (rs1 (rv_tmp rfl)) rfl [] [] rfl rfl rfl
  ·have q7 : ¬ t.kind = 7 := of_decide_eq_false h2
   refine r_skip (r_seq (r_region ?_))
   refine r_p (p_field0 fo48_1 rfl) rfl ?_
   refine r_p (p_load1 t36 rfl rfl (g_row1 (k := 1) rfl rfl)) rfl ?_
   refine r_p (p_assign rfl) rfl (r_nil (r_cret ?_))
   refine r_ret () trivial rfl (rs1 (rv_tmp rfl)) (by rw [h.num_inv q6 q7]) [] [] rfl rfl rfl
theorem value_all : ∀ (n : Nat) (t : Tx), SizeOf.sizeOf t < n → KE [] t → HVal t
 | 0, _, h, _ => absurd h (Nat.not_lt_zero _)
 | n + 1, t, h, ht => value_step t ht fun u hu hk => value_all n u (by have := tx_lt hu; omega) hk
theorem value_spec (t : Tx) (h : KE [] t) : HVal t := value_all _ t (Nat.lt_succ_self _) h
theorem nX_pos (t : Tx) : 1 ≤ nX t := by have := (nX_def t).1; omega
theorem fuel_sub (s : Ms) (a b : Int) : ({ ({ s with fuel := s.fuel - a } : Ms) with fuel := ({ s with fuel := s.fuel - a } : Ms).fuel - b } : Ms) = { s with fuel := s.fuel - (a + b) } := by
 show ({ s with fuel := s.fuel - a - b } : Ms) = _
 rw [show s.fuel - a - b = s.fuel - (a + b) by omega]
/-- What an expression over constants and names computes, and what it costs. -/
theorem ke_ev {fs : List Tf} {d : Nat} {vs : Vs} {ns : List ByteArray} {t : Tx} (h : KE ns t) : ∀ (g : Nat) (s : Ms), 4 * nX t ≤ g → (nX t : Int) ≤ s.fuel → evX g fs d vs t s = some (.ok (valX vs t) { s with fuel := s.fuel - (nX t : Int) }) := by
 induction h with
 | num n hn =>
  intro g s hg hf
  have h1 : nX (.mk 1 n oNil nilS []) = 1 := rfl
  rw [h1] at hg hf ⊢
  obtain ⟨g2, rfl⟩ : ∃ g2, g = g2 + 2 := ⟨g - 2, by omega⟩
  rw [evX, if_neg (by omega)]
  show (match evK (g2 + 1) fs d vs [] [] _ with | none => none | some (.err e) => _ | some (.ok ks s1) => _) = _
  rw [evK]
  rfl
 | name x hx =>
  intro g s hg hf
  have h1 : nX (.mk 2 0 x nilS []) = 1 := rfl
  rw [h1] at hg hf ⊢
  obtain ⟨g2, rfl⟩ : ∃ g2, g = g2 + 2 := ⟨g - 2, by omega⟩
  rw [evX, if_neg (by omega)]
  show (match evK (g2 + 1) fs d vs [] [] _ with | none => none | some (.err e) => _ | some (.ok ks s1) => _) = _
  rw [evK]
  rfl
 | un op v u ho h ih =>
  intro g s hg hf
  have h1 : nX (.mk 6 0 op v [u]) = nX u + 1 := rfl
  rw [h1] at hg hf ⊢
  obtain ⟨g2, rfl⟩ : ∃ g2, g = g2 + 3 := ⟨g - 3, by omega⟩
  rw [evX, if_neg (by omega)]
  show (match evK (g2 + 2) fs d vs [] [u] _ with | none => none | some (.err e) => _ | some (.ok ks s1) => _) = _
  rw [evK, ih (g2 + 1) _ (by omega) (by show (nX u : Int) ≤ s.fuel - 1; omega)]
  dsimp only
  rw [evK]
  show some (Re.ok (valX vs (.mk 6 0 op v [u])) _) = _
  rw [show s.fuel - 1 - (nX u : Int) = s.fuel - ((nX u + 1 : Nat) : Int) by omega]
 | bin op v a b ho ha hb iha ihb =>
  intro g s hg hf
  have h1 : nX (.mk 7 0 op v [a, b]) = nX a + (nX b + 0) + 1 := rfl
  rw [h1] at hg hf ⊢
  obtain ⟨g2, rfl⟩ : ∃ g2, g = g2 + 4 := ⟨g - 4, by omega⟩
  rw [evX, if_neg (by omega)]
  show (match evK (g2 + 3) fs d vs [] [a, b] _ with | none => none | some (.err e) => _ | some (.ok ks s1) => _) = _
  rw [evK, iha (g2 + 2) _ (by omega) (by show (nX a : Int) ≤ s.fuel - 1; omega)]
  dsimp only
  rw [evK, ihb (g2 + 1) _ (by omega) (by show (nX b : Int) ≤ s.fuel - 1 - (nX a : Int); omega)]
  dsimp only
  rw [evK]
  show some (Re.ok (valX vs (.mk 7 0 op v [a, b])) _) = _
  rw [show s.fuel - 1 - (nX a : Int) - (nX b : Int) = s.fuel - ((nX a + (nX b + 0) + 1 : Nat) : Int) by omega]
theorem ke_short {fs : List Tf} {d : Nat} {vs : Vs} {ns : List ByteArray} {t : Tx} (h : KE ns t) : ∀ (g : Nat) (s : Ms), 4 * nX t ≤ g → s.fuel < (nX t : Int) → evX g fs d vs t s = some (.err 25) := by
 induction h with
 | num n hn =>
  intro g s hg hf
  have h1 : nX (.mk 1 n oNil nilS []) = 1 := rfl
  rw [h1] at hg hf
  obtain ⟨g2, rfl⟩ : ∃ g2, g = g2 + 2 := ⟨g - 2, by omega⟩
  rw [evX, if_pos (by omega)]
 | name x hx =>
  intro g s hg hf
  have h1 : nX (.mk 2 0 x nilS []) = 1 := rfl
  rw [h1] at hg hf
  obtain ⟨g2, rfl⟩ : ∃ g2, g = g2 + 2 := ⟨g - 2, by omega⟩
  rw [evX, if_pos (by omega)]
 | un op v u ho h ih =>
  intro g s hg hf
  have h1 : nX (.mk 6 0 op v [u]) = nX u + 1 := rfl
  rw [h1] at hg hf
  obtain ⟨g2, rfl⟩ : ∃ g2, g = g2 + 3 := ⟨g - 3, by omega⟩
  rw [evX]
  by_cases h0 : s.fuel ≤ 0
  ·rw [if_pos h0]
  rw [if_neg h0]
  show (match evK (g2 + 2) fs d vs [] [u] _ with | none => none | some (.err e) => _ | some (.ok ks s1) => _) = _
  rw [evK, ih (g2 + 1) _ (by omega) (by show s.fuel - 1 < (nX u : Int); omega)]
 | bin op v a b ho ha hb iha ihb =>
  intro g s hg hf
  have h1 : nX (.mk 7 0 op v [a, b]) = nX a + (nX b + 0) + 1 := rfl
  rw [h1] at hg hf
  obtain ⟨g2, rfl⟩ : ∃ g2, g = g2 + 4 := ⟨g - 4, by omega⟩
  rw [evX]
  by_cases h0 : s.fuel ≤ 0
  ·rw [if_pos h0]
  rw [if_neg h0]
  show (match evK (g2 + 3) fs d vs [] [a, b] _ with | none => none | some (.err e) => _ | some (.ok ks s1) => _) = _
  rw [evK]
  by_cases h2 : s.fuel - 1 < (nX a : Int)
  ·rw [iha (g2 + 2) _ (by omega) h2]
  ·rw [ke_ev ha (g2 + 2) _ (by omega) (by show (nX a : Int) ≤ s.fuel - 1; omega)]
   dsimp only
   rw [evK, ihb (g2 + 1) _ (by omega) (by show s.fuel - 1 - (nX a : Int) < (nX b : Int); omega)]
/-- The program that outputs an expression. -/
abbrev cProg (v27 v28 : SV) (e : Tx) : List Tf := [fMain v28 [yOut v27 e]]
theorem evS_1 {fs : List Tf} {d : Nat} {vs : Vs} {t : Ty} {e : Tx} {es : List Tx} {g : Nat} {s s1 : Ms} {v : Int} (hes : t.es = e :: es) (hf : 0 < s.fuel) (hx : evX g fs d vs e { s with fuel := s.fuel - 1 } = some (.ok v s1)) :
  (t.kind = 7 → evS (g + 1) fs d vs t s = some (.ok (vs, none) { s1 with out := s1.out ++ [v] })) ∧ (t.kind = 6 → evS (g + 1) fs d vs t s = some (.ok (vs, some v) s1)) ∧ (t.kind = 1 → evS (g + 1) fs d vs t s = some (.ok (vput vs t.name v, none) s1)) := by
 rw [evS, if_neg (by omega), hes]
 dsimp only
 rw [hx]
 dsimp only
 refine ⟨fun h => ?_, fun h => ?_, fun h => ?_⟩
 ·rw [if_neg (by omega), if_neg (by omega), if_neg (by omega), if_neg (by omega), if_neg (by omega), if_pos h]
 ·rw [if_neg (by omega), if_neg (by omega), if_neg (by omega), if_neg (by omega), if_pos h]
 ·rw [if_pos (.inl h)]
/-- A statement whose execution goes on. -/
theorem evB_go {fs : List Tf} {d : Nat} {vs vs1 : Vs} {t : Ty} {l : List Ty} {g : Nat} {s s1 : Ms} {r : Re (Vs × Option Int)} (h : evS g fs d vs t s = some (.ok (vs1, none) s1)) (h2 : evB g fs d vs1 l s1 = some r) : evB (g + 1) fs d vs (t :: l) s = some r := by
 rw [evB, h]
 exact h2
theorem evB_ret {fs : List Tf} {d : Nat} {vs vs1 : Vs} {t : Ty} {l : List Ty} {g : Nat} {s s1 : Ms} {x : Int} (h : evS g fs d vs t s = some (.ok (vs1, some x) s1)) : evB (g + 1) fs d vs (t :: l) s = some (.ok (vs1, some x) s1) := by rw [evB, h]
theorem evB_e {fs : List Tf} {d : Nat} {vs : Vs} {g : Nat} {s : Ms} : evB (g + 1) fs d vs [] s = some (.ok (vs, none) s) := by rw [evB]
theorem evC_of {fs : List Tf} {d : Nat} {f : Tf} {al : List Int} {g : Nat} {s s1 : Ms} {vs1 : Vs} {ro : Option Int} (hd : ¬ d = 12) (h : evB g fs (d + 1) (vbind [] f.ps al) f.body s = some (.ok (vs1, ro) s1)) : evC (g + 1) fs d f al s = some (.ok (ro.getD 0) s1) := by
 rw [evC, if_neg hd, h]
theorem c_run {v27 v28 : SV} {e : Tx} {ns : List ByteArray} (hk : KE ns e) (hc : chk (cProg v27 v28 e) = 0) : RunIs (cProg v27 v28 e) [] (1 + (nX e : Int)) ⟨0, [valX [] e], (List.range 256).map fun _ => 0⟩ := by
 refine .run (fMain v28 [yOut v27 e]) (4 * nX e + 4) (.ok 0 { ms0 [] (1 + (nX e : Int)) with out := [valX [] e], fuel := 1 + (nX e : Int) - 1 - (nX e : Int) }) hc rfl ?_
 have hb : evB (4 * nX e + 3) (cProg v27 v28 e) 1 [] [yOut v27 e] (ms0 [] (1 + (nX e : Int))) = some (.ok ([], none) { ms0 [] (1 + (nX e : Int)) with out := [valX [] e], fuel := 1 + (nX e : Int) - 1 - (nX e : Int) }) :=
  evB_go ((evS_1 (s := ms0 [] (1 + (nX e : Int))) (t := yOut v27 e) (es := []) rfl (by show (0 : Int) < 1 + (nX e : Int); omega) (ke_ev hk (4 * nX e + 1) _ (by omega) (by show (nX e : Int) ≤ 1 + (nX e : Int) - 1; omega))).1 rfl) evB_e
 exact evC_of (f := fMain v28 [yOut v27 e]) (al := []) (ro := none) (by decide) hb
theorem c_short {v27 v28 : SV} {e : Tx} {ns : List ByteArray} (hk : KE ns e) (hc : chk (cProg v27 v28 e) = 0) : RunIs (cProg v27 v28 e) [] (1 + (nX e : Int) - 1) ⟨25, [], []⟩ := by
 refine .run (fMain v28 [yOut v27 e]) (4 * nX e + 4) (.err 25) hc rfl ?_
 have hp := nX_pos e
 rw [evC, if_neg (by decide)]
 show (match evB (4 * nX e + 3) _ 1 [] [yOut v27 e] _ with | none => none | some (.err e) => _ | some (.ok (_, r) s1) => _) = _
 rw [evB, evS, if_neg (by show ¬ (1 + (nX e : Int) - 1) ≤ 0; omega)]
 rw [show (yOut v27 e).es = [e] from rfl]
 dsimp only
 rw [ke_short hk (4 * nX e + 1) _ (by omega) (by show 1 + (nX e : Int) - 1 - 1 < (nX e : Int); omega)]
/-- A program and an expression can be read. -/
def pxA (v : SV) (l : List Tf) (e : Tx) : Asn := ⟨fun w F => (tfsA v l).pred w F ∧ TxIn w F e, fun h hs => ⟨(tfsA _ _).stable h.1 hs, TxIn.mono (fun _ hb => hb) hs _ h.2⟩⟩
theorem px_p {v : SV} {l : List Tf} {e : Tx} : ∀ w G, (pxA v l e).pred w G → (∀ b, G b → b < w.heap.size) → ∃ G', (tfsA v l).pred w G' ∧ ∀ b, G' b → G b := fun w G h _ => ⟨G, h.1, fun _ h => h⟩
theorem px_e {v : SV} {l : List Tf} {e : Tx} : ∀ w G, (pxA v l e).pred w G → (∀ b, G b → b < w.heap.size) → ∃ G', (txsA e.v e.kids).pred w G' ∧ ∀ b, G' b → G b := fun w G h _ => ⟨G, by cases e; exact h.2, fun _ h => h⟩
theorem px_all {T1 T2 T3 : Nat} {v27 v28 v29 : SV} {e : Tx} (w : World) (F : Nat → Prop) (h : AllIn w F [txA1 e, own T1 4 eTx (sv v27) [e], own T2 5 eTy (sv v28) [yOut v27 e], own T3 3 eTf (sv v29) (cProg v27 v28 e)]) : (pxA v29 (cProg v27 v28 e) e).pred w F := by
 obtain ⟨⟨_, a0, b0⟩, ⟨_, a1, b1⟩, ⟨_, a2, b2⟩, ⟨_, a3, b3⟩, _⟩ := h
 have he : TxIn w F e := TxIn.mono b0 (fun _ _ => rfl) _ a0
 have hny : SlIn' w F 5 eTy (sv nilS) [] ∧ TysIn w F [] := ⟨nil_in, trivial⟩
 refine ⟨⟨own_in a3 b3, fun f hf => ?_⟩, he⟩
 rw [List.mem_singleton.1 hf]
 exact ⟨nil_in, own_in a2 b2, ⟨⟨own_in a1 b1, he, trivial⟩, hny, hny⟩, trivial⟩
theorem zeros_len : ((List.range 256).map fun _ => (0 : Int)).length ≤ 1000000 := by rw [List.length_map, List.length_range]; decide
set_option maxHeartbeats 8000000 in
set_option maxRecDepth 100000 in
theorem constants_law (x0 : SV) (s : List Int) (b0 : ∀ n ∈ s, okI n) (n : Int) (hn : 0 ≤ n ∧ n < 256) :
  Spec Tryz.prog 6 [sv x0, .int .u8 n] [] [sl 1 eI (sv x0) s] (X := Unit) (fun _ => True) (fun _ => .bool true) (fun _ => []) (fun _ => []) := by
 refine r_enter Tryz.func6 rfl Tryz.ntmps6 rfl fun w0 M H => ?_
 obtain ⟨dp, hdp, hdp8⟩ : ∃ dp : Nat, n % 8 = (dp : Int) ∧ dp < 8 := ⟨(n % 8).toNat, by omega, by omega⟩
 refine r_nilsl 64 (α := Int) (s := 1) (enc := eU) ?_
 refine r_seq (r_region (r_p (p_assign rfl) rfl (r_nil (r_seq (r_region ?_)))))
 refine r_callN (xs := []) sanity_spec cb8 [] [] [] rfl rfl rfl rfl rfl rfl rfl rfl (fun _ _ => rfl) (fun _ _ _ => rfl) rfl (fun _ _ => ?_)
 refine r_p (p_assign rfl) rfl (r_nil (r_seq (r_region (r_p (p_move rfl) rfl (r_p (p_move rfl) rfl ?_)))))
 refine r_p (p_len_sl Tryz.underlying22 rfl (hs_sl (k := 0) rfl)) rfl ?_
 refine r_p (p_min rfl rfl rfl) rfl ?_
 refine r_slice_hi (j := (min s.length 100)) 0 20 Tryz.underlying22 t3 (by intro _; rfl) rfl rfl (by omega) (by omega) rfl rfl fun v20 => ?_
 refine r_p (p_move rfl) rfl ?_
 refine r_p (p_bin rfl rfl (b_rem (c := n % 8) (by decide) (Int.tmod_eq_emod_of_nonneg hn.1))) rfl ?_
 refine r_p (p_conv Tryz.underlying5 Tryz.underlying3 rfl (by first | exact w_i64 (by omega) (by omega) | rfl)) rfl ?_
 refine r_p (p_bin rfl rfl (b_add (c := ((dp + 1 : Nat) : Int)) (by rw [hdp, show 1 + (dp : Int) = ((dp + 1 : Nat) : Int) by omega]; exact w_i64 (by omega) (by omega)))) rfl ?_
 refine r_nilsl 65 (α := ByteArray) (s := 1) (enc := eS) ?_
 refine r_callN (xs := [.tmp 20, .const (.slice Option.none 0 0), .tmp 24]) (expr9_spec v20 (s.take (min s.length 100)) (fun x hx => b0 x (List.mem_of_mem_take hx)) nilS [] (by simp) (dp + 1) (by omega) (by omega)) cb17 [] [(false, 20), (false, 65)] [60] rfl rfl rfl rfl rfl rfl rfl rfl (fun _ _ => rfl) (fun _ _ _ => rfl) rfl (fun e he => ?_)
 obtain ⟨hke, hnx⟩ := he
 have hp8 : 2 ^ (dp + 1) ≤ 2 ^ 8 := Nat.pow_le_pow_right (by decide) (by omega)
 have hp9 : (2 : Nat) ^ 8 = 256 := by decide
 have hge := hke.gx (fun x hx => by simp at hx)
 refine r_alloc t48 rfl rfl fun b6 => ?_
 refine r_store_all (k := 6) t48 rfl rfl rfl rfl rfl rfl ?_
 refine r_nil (r_seq (r_region ?_))
 refine r_p (p_loadA t48 rfl rfl rfl (g_all (k := 6) rfl)) rfl ?_
 refine r_callN (xs := [.tmp 26]) (output_spec e) cb19 [] [] [27] rfl rfl rfl rfl rfl rfl rfl rfl (fun _ _ => rfl) (fun _ _ _ => rfl) rfl (fun v27 _ => ?_)
 refine r_bslice1 eTy (yOut v27 e) Tryz.underlying51 t53 rfl (by decide) (by decide) rfl rfl rfl rfl fun v28 => ?_
 refine r_callN (xs := [.tmp 28]) (main_spec v28 [yOut v27 e]) cb18 [] [] [29] rfl rfl rfl rfl rfl rfl rfl rfl (fun _ _ => rfl) (fun _ _ _ => rfl) rfl (fun v29 _ => ?_)
 refine r_collect 61 [60, 27, 28, 29] (C := pxA v29 (cProg v27 v28 e) e) rfl px_all ?_
 refine r_freeze 61 61 rfl (fun _ _ h => h) ?_
 refine r_more 61 62 rfl px_p ?_
 refine r_more 61 63 rfl px_e ?_
 have hgp : GP (cProg v27 v28 e) := gp_main (by show 1 ≤ 1000000; decide) ⟨gy_one (nmB_of rfl) hge, trivial⟩ (by show 1 + (nX e + 0) + 0 + 0 + 0 ≤ 1000000; omega)
 refine r_alloc t29 rfl rfl fun b7 => ?_
 refine r_store_all (k := 7) t29 rfl rfl rfl rfl rfl rfl ?_
 refine r_nil (r_seq (r_region ?_))
 refine r_p (p_loadA t48 rfl rfl rfl (g_all (k := 6) rfl)) rfl ?_
 refine r_callN (xs := [.tmp 30]) (size_spec e hge (by omega)) cb20 [] [(false, 63)] [] rfl rfl rfl rfl rfl rfl rfl rfl (fun _ _ => rfl) (fun _ _ _ => rfl) rfl (fun _ _ => ?_)
 refine r_p (p_bin rfl rfl (b_add (by first | exact w_i64 (by omega) (by omega) | rfl))) rfl ?_
 refine r_p (p_assign rfl) rfl (r_nil (r_seq (r_seq (r_region ?_))))
 refine r_p (p_loadA t29 rfl rfl rfl (g_all (k := 7) rfl)) rfl ?_
 refine r_callN (xs := [.tmp 33]) (check8_spec v29 (cProg v27 v28 e) hgp) cb14 [] [(false, 62)] [] rfl rfl rfl rfl rfl rfl rfl rfl (fun _ _ => rfl) (fun _ _ _ => rfl) rfl (fun _ _ => ?_)
 refine r_p (p_bin rfl rfl b_ne) rfl ?_
 refine r_nil ?_
 refine r_cond rfl (fun h1 => ?_) (fun h1 => ?_)
 ·(try simp only [decide_eq_true_eq, decide_eq_false_iff_not, Bool.and_eq_true, Bool.or_eq_true, Bool.and_eq_false_iff, Bool.or_eq_false_iff, Bool.not_eq_true, Bool.not_eq_false, Bool.not_eq_true', Bool.not_eq_false', Bool.not_not, bne_iff_ne, beq_iff_eq] at h1)
  refine r_seq (r_region (r_p (p_move rfl) rfl (r_p (p_assign rfl) rfl (r_nil (r_cret ?_)))))
  refine r_ret () trivial rfl (rs1 (rv_tmp rfl)) rfl [] [] rfl rfl rfl
 ·(try simp only [decide_eq_true_eq, decide_eq_false_iff_not, Bool.and_eq_true, Bool.or_eq_true, Bool.and_eq_false_iff, Bool.or_eq_false_iff, Bool.not_eq_true, Bool.not_eq_false, Bool.not_eq_true', Bool.not_eq_false', Bool.not_not, bne_iff_ne, beq_iff_eq] at h1)
  have hc : chk (cProg v27 v28 e) = 0 := by simpa using h1
  refine r_skip (r_seq (r_region ?_))
  refine r_p (p_loadA t29 rfl rfl rfl (g_all (k := 7) rfl)) rfl ?_
  refine r_p (p_move rfl) rfl ?_
  refine r_callN (xs := [.tmp 38, .const (.slice Option.none 0 0), .tmp 39]) (run_spec v29 nilS (cProg v27 v28 e) [] (1 + (nX e : Int)) hgp (by simp) (by simp) (by omega) _ (c_run hke hc)) cb15 [] [(false, 62), (false, 64)] [70, 71] rfl rfl rfl rfl rfl rfl rfl rfl (fun _ _ => rfl) (fun _ _ _ => rfl) rfl (fun ⟨ra, rb⟩ _ => ?_)
  dsimp only
  refine r_p (p_move rfl) rfl ?_
  refine r_p (p_extract rfl rfl) rfl ?_
  refine r_p (p_extract rfl rfl) rfl ?_
  refine r_p (p_extract rfl rfl) rfl ?_
  refine r_p (p_assign rfl) rfl (r_p (p_assign rfl) rfl (r_p (p_assign rfl) rfl (r_nil (r_seq (r_region ?_)))))
  refine r_p (p_loadA t29 rfl rfl rfl (g_all (k := 7) rfl)) rfl ?_
  refine r_p (p_move rfl) rfl ?_
  refine r_p (p_bin rfl rfl (b_sub (by first | exact w_i64 (by omega) (by omega) | rfl))) rfl ?_
  refine r_callN (xs := [.tmp 45, .const (.slice Option.none 0 0), .tmp 47]) (run_spec v29 nilS (cProg v27 v28 e) [] (1 + (nX e : Int) - 1) hgp (by simp) (by simp) (by omega) _ (c_short hke hc)) cb15 [] [(false, 62), (false, 64)] [72, 73] rfl rfl rfl rfl rfl rfl rfl rfl (fun _ _ => rfl) (fun _ _ _ => rfl) rfl (fun ⟨rc, rd⟩ _ => ?_)
  dsimp only
  refine r_p (p_move rfl) rfl ?_
  refine r_p (p_extract rfl rfl) rfl ?_
  refine r_p (p_extract rfl rfl) rfl ?_
  refine r_p (p_extract rfl rfl) rfl ?_
  refine r_p (p_assign rfl) rfl (r_p (p_assign rfl) rfl (r_p (p_assign rfl) rfl (r_nil (r_seq (r_region (r_p (p_move rfl) rfl (r_p (p_move rfl) rfl ?_)))))))
  refine r_gyes rfl rfl ?_
  refine r_p (p_move rfl) rfl ?_
  refine r_gyes rfl rfl ?_
  refine r_p (p_bin rfl rfl b_eq) rfl ?_
  with_reducible rw [decide_eq_true (rfl : (0 : Int) = (0 : Int))]
  refine r_p (p_pick rfl rfl rfl (pick_t rfl)) rfl ?_
  refine r_p (p_move rfl) rfl ?_
  refine r_gyes rfl rfl ?_
  refine r_p (p_move rfl) rfl ?_
  refine r_gyes rfl rfl ?_
  refine r_p (p_loadA t48 rfl rfl rfl (g_all (k := 6) rfl)) rfl ?_
  refine r_gyes rfl rfl ?_
  refine r_callN (xs := [.tmp 59]) (value_spec e hke) cb21 [] [(false, 63)] [] rfl rfl rfl rfl rfl rfl rfl rfl (fun _ _ => rfl) (fun _ _ _ => rfl) rfl (fun _ _ => ?_)
  refine r_gyes rfl rfl ?_
  refine r_bslice1 eU (valX [] e) Tryz.underlying23 t36 rfl (by decide) (by decide) rfl rfl rfl rfl fun v61 => ?_
  refine r_gyes rfl rfl ?_
  refine r_freeze 70 94 rfl own_to_sl ?_
  refine r_freeze 61 95 rfl own_to_sl ?_
  refine r_callN (xs := [.tmp 58, .tmp 61]) (rwords_spec ra v61 [valX [] e] [valX [] e] (by show 1 ≤ 1000000; decide)) cb16 [] [(false, 94), (false, 95)] [] rfl rfl rfl rfl rfl rfl rfl rfl (fun _ _ => rfl) (fun _ _ _ => rfl) rfl (fun _ _ => ?_)
  with_reducible rw [decide_eq_true (rfl : ([valX [] e] : List Int) = ([valX [] e] : List Int))]
  refine r_p (p_pick rfl rfl rfl (pick_t rfl)) rfl ?_
  refine r_p (p_move rfl) rfl ?_
  refine r_gyes rfl rfl ?_
  refine r_p (p_move rfl) rfl ?_
  refine r_gyes rfl rfl ?_
  refine r_p (p_bin rfl rfl b_eq) rfl ?_
  with_reducible rw [decide_eq_true (rfl : (25 : Int) = (25 : Int))]
  refine r_p (p_pick rfl rfl rfl (pick_t rfl)) rfl ?_
  refine r_p (p_assign rfl) rfl (r_nil (r_cret ?_))
  refine r_ret () trivial rfl (rs1 (rv_tmp rfl)) rfl [] [] rfl rfl rfl
/-- The contract of Put. -/
def HPut (vs : Vs) (vn : SV) (ns : List ByteArray) (vv : SV) (us : List Int) (t : Tx) : Prop := Spec Tryz.prog 25 [xV t, sv vn, sv vv] [] [txsA t.v t.kids, sl 1 eS (sv vn) ns, sl 1 eU (sv vv) us] (X := Tx) (fun u => KE [] u ∧ valX [] u = valX vs t) (fun u => xV u) (fun u => [txA1 u]) (fun _ => [])
/-- Each name has its value at the place where it is found first. -/
def Fnd (vs : Vs) (ns : List ByteArray) (us : List Int) : Prop := ∀ x ∈ ns, ∃ i : Nat, ns[i]? = some x ∧ us[i]? = some (vget vs x) ∧ ∀ j, j < i → ns[j]? ≠ some x
theorem KE.kid {ns : List ByteArray} {t : Tx} (h : KE ns t) : ∀ u ∈ t.kids, KE ns u := by
 cases h with
 | num n hn => exact fun u hu => by simp [Tx.kids] at hu
 | name x hx => exact fun u hu => by simp [Tx.kids] at hu
 | un op v t ho h =>
  intro u hu
  rw [List.mem_singleton.1 hu]
  exact h
 | bin op v a b ho ha hb =>
  intro u hu
  rcases List.mem_cons.1 hu with rfl | hu
  ·exact ha
  ·rw [List.mem_singleton.1 hu]
   exact hb
theorem KE.name_inv {ns : List ByteArray} {t : Tx} (h : KE ns t) (hk : t.kind = 2) : t.name ∈ ns ∧ ∀ vs, valX vs t = vget vs t.name := by
 cases h with
 | name x hx => exact ⟨hx, fun vs => rfl⟩
 | _ => simp [Tx.kind] at hk
/-- Expressions that can be read. -/
def txLA (l : List Tx) : Asn := ⟨fun w F => TxsIn w F l, fun h hs => TxsIn.mono (fun _ hb => hb) hs _ h⟩
theorem txl_snoc {w : World} {F : Nat → Prop} : ∀ {l : List Tx} {t : Tx}, TxsIn w F l → TxIn w F t → TxsIn w F (l ++ [t])
 | [], _, _, h => ⟨h, trivial⟩
 | _ :: _, _, h, h2 => ⟨h.1, txl_snoc h.2 h2⟩
def PutR (vs : Vs) (t k : Tx) : Prop := KE [] k ∧ valX [] k = valX vs t
theorem put_mk {vs : Vs} {ns : List ByteArray} {t : Tx} (h : KE ns t) (hk : ¬ t.kind = 2) {v : SV} {ks : List Tx} (hl : ks.length = t.kids.length) (hv : ks = [] → v = nilS) (hr : ∀ (j : Nat) (u k : Tx), t.kids[j]? = some u → ks[j]? = some k → PutR vs u k) : PutR vs t (.mk t.kind t.n t.name v ks) := by
 cases h with
 | num n hn =>
  have : ks = [] := List.eq_nil_of_length_eq_zero hl
  subst this
  rw [hv rfl]
  exact ⟨.num n hn, rfl⟩
 | name x hx => exact absurd rfl hk
 | un op w t ho h =>
  obtain ⟨k, rfl⟩ : ∃ k, ks = [k] := by
   cases ks with
   | nil => cases hl
   | cons a r =>
    cases r with
    | nil => exact ⟨a, rfl⟩
    | cons b r => cases hl
  obtain ⟨h1, h2⟩ := hr 0 t k rfl rfl
  refine ⟨.un op v k ho h1, ?_⟩
  show (unF op (valX [] k)).getD 0 = (unF op (valX vs t)).getD 0
  rw [h2]
 | bin op w a b ho ha hb =>
  obtain ⟨k1, k2, rfl⟩ : ∃ k1 k2, ks = [k1, k2] := by
   cases ks with
   | nil => cases hl
   | cons a r =>
    cases r with
    | nil => cases hl
    | cons b r =>
     cases r with
     | nil => exact ⟨a, b, rfl⟩
     | cons c r => cases hl
  obtain ⟨h1, h2⟩ := hr 0 a k1 rfl rfl
  obtain ⟨h3, h4⟩ := hr 1 b k2 rfl rfl
  refine ⟨.bin op v k1 k2 ho h1 h3, ?_⟩
  show (biF op (valX [] k1) (valX [] k2)).getD 0 = (biF op (valX vs a) (valX vs b)).getD 0
  rw [h2, h4]
structure Pk where
 i : Nat
 v : SV
 ks : List Tx
theorem get_last {α : Type} {l : List α} {x y : α} {k : Nat} (h : (l ++ [x])[k]? = some y) : (k < l.length ∧ l[k]? = some y) ∨ (k = l.length ∧ y = x) := by
 rw [List.getElem?_append] at h
 split at h
 ·rename_i hk
  exact .inl ⟨hk, h⟩
 ·rename_i hk
  have : k - l.length = 0 := by
   cases hq : k - l.length with
   | zero => rfl
   | succ q => rw [hq] at h; simp at h
  rw [this] at h
  exact .inr ⟨by omega, (Option.some.inj h).symm⟩
set_option maxHeartbeats 4000000 in
set_option maxRecDepth 100000 in
theorem put_step (vs : Vs) (vn : SV) (ns : List ByteArray) (vv : SV) (us : List Int) (hnl : ns.length ≤ 1000) (hul : us.length ≤ 1000) (hfd : Fnd vs ns us) (hvs : okVs vs) (t : Tx) (h : KE ns t) (hgx : GX t) (ih : ∀ u ∈ t.kids, HPut vs vn ns vv us u) :
  Spec Tryz.prog 25 [xV t, sv vn, sv vv] [] [txsA t.v t.kids, sl 1 eS (sv vn) ns, sl 1 eU (sv vv) us] (X := Tx) (fun u => KE [] u ∧ valX [] u = valX vs t) (fun u => xV u) (fun u => [txA1 u]) (fun _ => []) := by
 refine r_enter Tryz.func25 rfl Tryz.ntmps25 rfl fun w0 M H => ?_
 refine r_more 0 3 rfl txs_sl ?_
 have hkl := GX_len hgx
 refine r_seq (r_region ?_)
 refine r_boxA rfl rfl fun b3 => ?_
 refine r_alloc t48 rfl rfl fun b6 => ?_
 refine r_nil (r_seq (r_seq (r_region ?_)))
 refine r_p (p_field0 fo48_0 rfl) rfl ?_
 refine r_p (p_load1 t3 rfl rfl (g_row1 (k := 3) rfl rfl)) rfl ?_
 refine r_p (p_bin rfl rfl b_eq) rfl ?_
 refine r_nil ?_
 refine r_cond rfl (fun h1 => ?_) (fun h1 => ?_)
 ·have q2 : t.kind = 2 := of_decide_eq_true h1
  obtain ⟨hin, hnv⟩ := h.name_inv q2
  obtain ⟨i0, f1, f2, f3⟩ := hfd t.name hin
  have f4 := (List.getElem?_eq_some_iff.1 f1).1
  have f5 := (List.getElem?_eq_some_iff.1 f2).1
  refine r_seq (r_region (r_p (p_assign rfl) rfl (r_nil (r_block ?_))))
  refine r_loop (X := Nat) (fun i => i ≤ ns.length ∧ ∀ j, j < i → ns[j]? ≠ some t.name) (fun i => [(1, sv vn), (2, sv vv), (3, .pointer (some ⟨b3, 0, none⟩)), (6, .pointer (some ⟨b6, 0, none⟩)), (7, .int .i64 (i : Int))]) (fun i => [(3, row b3 48 (eTx t)), (6, row b6 48 [.int .i64 0, .int .u32 0, .string oNil, .slice none 0 0])]) (fun i => [(0, txsA t.v t.kids), (1, sl 1 eS (sv vn) ns), (2, sl 1 eU (sv vv) us), (3, sl 4 eTx (sv t.v) t.kids)]) (fun i => ns.length - i) 0 ⟨Nat.zero_le _, fun j h => absurd h (Nat.not_lt_zero _)⟩ rfl rfl rfl (fun i hx0 => ?_)
  obtain ⟨n1, n2⟩ := hx0
  refine r_seq (r_seq (r_region (r_p (p_move rfl) rfl (r_p (p_move rfl) rfl ?_))))
  refine r_p (p_len_sl Tryz.underlying58 rfl (hs_sl (k := 1) rfl)) rfl ?_
  refine r_p (p_bin rfl rfl b_lt) rfl ?_
  refine r_p (p_move rfl) rfl ?_
  refine r_gp [] rfl rfl trivial (fun hg2 => p_move rfl) rfl ?_
  refine r_gp [(18, _)] rfl rfl ⟨rfl, trivial⟩ (fun hg3 => p_move rfl) rfl ?_
  refine r_gp [(18, _), (19, _)] rfl rfl ⟨rfl, rfl, trivial⟩ (fun hg4 => p_len_sl Tryz.underlying23 rfl (hs_sl (k := 2) rfl)) rfl ?_
  refine r_gp [(18, _), (19, _), (20, _)] rfl rfl ⟨rfl, rfl, rfl, trivial⟩ (fun hg5 => p_bin rfl rfl b_lt) rfl ?_
  refine r_p (p_pick rfl rfl rfl (by first | exact pick_and | exact pick_or |  rfl)) rfl ?_
  refine r_nil ?_
  refine r_cond rfl (fun h6 => ?_) (fun h6 => ?_)
  ·(try simp only [decide_eq_true_eq, decide_eq_false_iff_not, Bool.and_eq_true, Bool.or_eq_true, Bool.and_eq_false_iff, Bool.or_eq_false_iff, Bool.not_eq_true, Bool.not_eq_false, Bool.not_eq_true', Bool.not_eq_false', Bool.not_not, bne_iff_ne, beq_iff_eq] at h6)
   have hi : i < ns.length := by omega
   have hi2 : i < us.length := by omega
   obtain ⟨nm, hnm⟩ : ∃ k, ns[i]? = some k := ⟨_, List.getElem?_eq_getElem hi⟩
   obtain ⟨uu, hus⟩ : ∃ k, us[i]? = some k := ⟨_, List.getElem?_eq_getElem hi2⟩
   refine r_skip (r_seq (r_block (r_seq ?_)))
   refine r_draw [25, 26, 27, 28, 29, 30, 31] _ rfl (stg_end (V := [(0, 25, _), (1, 26, _), (2, 27, _), (3, 28, _), (4, 29, _), (5, 30, _), (6, 31, _)]) [0, 1, 2, 3, 4, 5, 6] rfl rfl (prs_cons (pri rfl (p_move rfl)) (prs_cons (pri rfl (p_move rfl)) (prs_cons (pri rfl (p_idx_sl (j := i) Tryz.underlying58 t9 rfl rfl (hs_sl (k := 1) rfl) (by first | rfl | omega) (by first | omega | (simp; done) | (simp; omega)))) (prs_cons (pri rfl (p_load1 t9 rfl rfl (g_el' (hs_sl (k := 1) rfl) (by intro _; rfl) hnm (by rfl)))) (prs_cons (pri rfl (p_field0 fo48_2 rfl)) (prs_cons (pri rfl (p_load1 t9 rfl rfl (g_row1 (k := 3) rfl rfl))) (prs_cons (pri rfl (p_bin rfl rfl b_seq)) prs_nil))))))) rfl rfl rfl ?_)
   refine r_cond rfl (fun h7 => ?_) (fun h7 => ?_)
   ·have heq : nm = t.name := of_decide_eq_true (by rw [← ba_eq]; exact h7)
    obtain rfl : i = i0 := by
     rcases Nat.lt_trichotomy i i0 with hl | hl | hl
     ·exact absurd (heq ▸ hnm) (f3 i hl)
     ·exact hl
     ·exact absurd f1 (n2 i0 hl)
    have huv := Option.some.inj (hus.symm.trans f2)
    subst huv
    refine r_seq (r_region (r_p (p_move rfl) rfl (r_p (p_move rfl) rfl ?_)))
    refine r_p (p_idx_sl (j := i) Tryz.underlying23 t36 rfl rfl (hs_sl (k := 2) rfl) (by first | rfl | omega) (by first | omega | (simp; done) | (simp; omega))) rfl ?_
    refine r_p (p_load1 t36 rfl rfl (g_el' (hs_sl (k := 2) rfl) (by intro _; rfl) hus (by rfl))) rfl ?_
    refine r_p (p_build (parts := [(0, .const (.int .i64 1)), (1, .tmp 35)]) t48 pl48 rfl rfl) rfl ?_
    refine r_store_all (k := 6) t48 rfl rfl rfl rfl rfl rfl ?_
    refine r_nil (r_cret ?_)
    refine r_collect 60 [] (L := []) (C := txA1 (.mk 1 (vget vs t.name) oNil nilS [])) rfl (fun w F _ => show TxIn w F (.mk 1 (vget vs t.name) oNil nilS []) from tx0) ?_
    refine r_ret (.mk 1 (vget vs t.name) oNil nilS []) ⟨.num _ (hvs.get _), by rw [hnv vs]; rfl⟩ rfl (rs1 (rv_cellA t48 rfl rfl rfl (g_all (k := 6) rfl))) rfl [60] [] rfl rfl rfl
   ·have hne : ¬ nm = t.name := of_decide_eq_false (by rw [← ba_eq]; exact h7)
    refine r_skip (r_region (r_p (p_move rfl) rfl ?_))
    refine r_p (p_bin rfl rfl (b_add (by first | exact w_i64 (by omega) (by omega) | rfl))) rfl ?_
    refine r_p (p_assign rfl) rfl (r_nil ?_)
    refine r_here (i + 1) ⟨⟨by omega, fun j hj => by
     by_cases hji : j = i
     ·subst hji; rw [hnm]; exact fun h => hne (Option.some.inj h)
     ·exact n2 j (by omega)⟩, by omega⟩ rfl rfl rfl
  ·(try simp only [decide_eq_true_eq, decide_eq_false_iff_not, Bool.and_eq_true, Bool.or_eq_true, Bool.and_eq_false_iff, Bool.or_eq_false_iff, Bool.not_eq_true, Bool.not_eq_false, Bool.not_eq_true', Bool.not_eq_false', Bool.not_not, bne_iff_ne, beq_iff_eq] at h6)
   exfalso
   have hle : ¬ i0 < i := fun hlt => n2 i0 hlt f1
   rcases h6 with h | h
   ·omega
   ·omega
 ·have q2 : ¬ t.kind = 2 := of_decide_eq_false h1
  refine r_skip (r_seq (r_region (r_p (p_assign rfl) rfl (r_nil (r_seq (r_seq (r_region (r_p (p_assign rfl) rfl (r_nil (r_block ?_))))))))))
  refine r_nilown 70 (α := Tx) (S := 48) (s := 4) (enc := eTx) ?_
  refine r_collect 60 [] (L := []) (C := txLA []) rfl (fun w F _ => trivial) ?_
  refine r_loop (X := Pk) (fun x => x.i ≤ t.kids.length ∧ x.ks.length = x.i ∧ (x.ks = [] → x.v = nilS) ∧ ∀ (j : Nat) (u k : Tx), t.kids[j]? = some u → x.ks[j]? = some k → PutR vs u k) (fun x => [(1, sv vn), (2, sv vv), (3, .pointer (some ⟨b3, 0, none⟩)), (6, .pointer (some ⟨b6, 0, none⟩)), (8, sv x.v), (9, .int .i64 (x.i : Int))]) (fun x => [(3, row b3 48 (eTx t)), (6, row b6 48 [.int .i64 0, .int .u32 0, .string oNil, .slice none 0 0]), (70, own 48 4 eTx (sv x.v) x.ks), (60, txLA x.ks)]) (fun x => [(0, txsA t.v t.kids), (1, sl 1 eS (sv vn) ns), (2, sl 1 eU (sv vv) us), (3, sl 4 eTx (sv t.v) t.kids)]) (fun x => t.kids.length - x.i) ⟨0, nilS, []⟩ ⟨Nat.zero_le _, rfl, fun _ => rfl, fun j u k _ h => by simp at h⟩ rfl rfl rfl (fun x hx0 => ?_)
  obtain ⟨i, v8, ks⟩ := x
  obtain ⟨n1, n2, n3, n4⟩ := hx0
  dsimp only at n1 n2 n3 n4 ⊢
  refine r_seq (r_seq (r_region (r_p (p_move rfl) rfl ?_)))
  refine r_p (p_field0 fo48_3 rfl) rfl ?_
  refine r_p (p_load1 t46 rfl rfl (g_row1 (k := 3) rfl rfl)) rfl ?_
  refine r_p (p_len_sl Tryz.underlying46 rfl (hs_sl (k := 3) rfl)) rfl ?_
  refine r_p (p_bin rfl rfl b_lt) rfl ?_
  refine r_nil ?_
  refine r_cond rfl (fun h8 => ?_) (fun h8 => ?_)
  ·(try simp only [decide_eq_true_eq, decide_eq_false_iff_not, Bool.and_eq_true, Bool.or_eq_true, Bool.and_eq_false_iff, Bool.or_eq_false_iff, Bool.not_eq_true, Bool.not_eq_false, Bool.not_eq_true', Bool.not_eq_false', Bool.not_not, bne_iff_ne, beq_iff_eq] at h8)
   have hi : i < t.kids.length := by omega
   obtain ⟨u, hu⟩ : ∃ u, t.kids[i]? = some u := ⟨_, List.getElem?_eq_getElem hi⟩
   have hum := List.mem_of_getElem? hu
   refine r_skip (r_seq (r_block (r_region (r_p (p_move rfl) rfl ?_))))
   refine r_p (p_field0 fo48_3 rfl) rfl ?_
   refine r_p (p_load1 t46 rfl rfl (g_row1 (k := 3) rfl rfl)) rfl ?_
   refine r_p (p_move rfl) rfl ?_
   refine r_p (p_idx_sl (j := i) Tryz.underlying46 t48 rfl rfl (hs_sl (k := 3) rfl) (by first | rfl | omega) (by first | omega | (simp; done) | (simp; omega))) rfl ?_
   refine r_p (p_loadA t48 rfl rfl rfl (g_el' (hs_sl (k := 3) rfl) (by intro _; rfl) hu (by rfl))) rfl ?_
   refine r_p (p_move rfl) rfl (r_p (p_move rfl) rfl ?_)
   refine r_more 0 7 rfl (txs_kid hum) ?_
   have hiu := ih u hum
   unfold HPut at hiu
   refine r_callN (xs := [.tmp 49, .tmp 50, .tmp 51]) hiu cb25 [] [(false, 7), (false, 1), (false, 2)] [62] rfl rfl rfl rfl rfl rfl rfl rfl (fun _ _ => rfl) (fun _ _ _ => rfl) rfl (fun u2 hu2 => ?_)
   refine r_bslice1 eTx u2 Tryz.underlying46 t48 rfl (by decide) (by decide) rfl rfl rfl rfl fun v53 => ?_
   refine r_append 70 Tryz.underlying46 t48 rfl (by decide) (fun _ => rfl) (fun _ => rfl) rfl rfl rfl (hs_own (k := 53) rfl) (by rw [List.length_singleton]; omega) (by unfold maxLen; rw [List.length_singleton]; omega) rfl fun v54 => ?_
   refine r_p (p_assign rfl) rfl (r_nil (r_region (r_p (p_move rfl) rfl ?_)))
   refine r_p (p_bin rfl rfl (b_add (by first | exact w_i64 (by omega) (by omega) | rfl))) rfl ?_
   refine r_p (p_assign rfl) rfl (r_nil ?_)
   refine r_collect 60 [60, 62] (L := [txLA ks, txA1 u2]) (C := txLA (ks ++ [u2])) rfl (fun w F h => by
    obtain ⟨⟨_, a0, b0⟩, ⟨_, a1, b1⟩, _⟩ := h
    exact txl_snoc (TxsIn.mono b0 (fun _ _ => rfl) _ a0) (TxIn.mono b1 (fun _ _ => rfl) _ a1)) ?_
   refine r_here ⟨i + 1, v54, ks ++ [u2]⟩ ⟨⟨by dsimp only; omega, by dsimp only; rw [List.length_append, List.length_singleton]; omega, fun h => by simp at h, fun j u3 k3 h3 h4 => by
    rcases get_last h4 with ⟨_, h4⟩ | ⟨e1, e2⟩
    ·exact n4 j u3 k3 h3 h4
    ·rw [e1, n2, hu] at h3
     cases h3
     rw [e2]
     exact hu2⟩, by dsimp only; omega⟩ rfl rfl rfl
  ·(try simp only [decide_eq_true_eq, decide_eq_false_iff_not, Bool.and_eq_true, Bool.or_eq_true, Bool.and_eq_false_iff, Bool.or_eq_false_iff, Bool.not_eq_true, Bool.not_eq_false, Bool.not_eq_true', Bool.not_eq_false', Bool.not_not, bne_iff_ne, beq_iff_eq] at h8)
   have hi : i = t.kids.length := by omega
   subst hi
   refine r_exit (r_seq (r_region (r_p (p_move rfl) rfl ?_)))
   refine r_p (p_field0 fo48_3 rfl) rfl ?_
   refine r_store_row (k := 3) t46 rfl rfl rfl rfl rfl rfl rfl rfl ?_
   refine r_nil (r_seq (r_region ?_))
   refine r_p (p_loadA t48 rfl rfl rfl (g_all (k := 3) rfl)) rfl ?_
   refine r_store_all (k := 6) t48 rfl rfl rfl rfl rfl rfl ?_
   refine r_nil (r_cret ?_)
   have hres := put_mk h q2 (v := v8) (ks := ks) n2 n3 n4
   refine r_collect 61 [60, 70] (L := [txLA ks, own 48 4 eTx (sv v8) ks]) (C := txA1 (.mk t.kind t.n t.name v8 ks)) rfl (fun w F h => by
    obtain ⟨⟨_, a0, b0⟩, ⟨_, a1, b1⟩, _⟩ := h
    exact ⟨own_in a1 b1, TxsIn.mono b0 (fun _ _ => rfl) _ a0⟩) ?_
   refine r_ret (.mk t.kind t.n t.name v8 ks) hres rfl (rs1 (rv_cellA t48 rfl rfl rfl (g_all (k := 6) rfl))) rfl [61] [] rfl rfl rfl
theorem put_all {vs : Vs} {vn : SV} {ns : List ByteArray} {vv : SV} {us : List Int} (hnl : ns.length ≤ 1000) (hul : us.length ≤ 1000) (hfd : Fnd vs ns us) (hvs : okVs vs) (hnn : ∀ x ∈ ns, nmB x) : ∀ (n : Nat) (t : Tx), SizeOf.sizeOf t < n → KE ns t → HPut vs vn ns vv us t
 | 0, _, h, _ => absurd h (Nat.not_lt_zero _)
 | n + 1, t, h, ht => put_step vs vn ns vv us hnl hul hfd hvs t ht (ht.gx hnn) fun u hu => put_all hnl hul hfd hvs hnn n u (by have := tx_lt hu; omega) (ht.kid u hu)
theorem Spec.roL {P : Program} {n : Nat} {vs : List Value} {L R0 R1 : List Asn} {X : Type} {φ : X → Prop} {v : X → Value} {L' R' : X → List Asn} (h : Spec P n vs L R0 φ v L' R') (hAB : ∀ (k : Nat) (A : Asn), R0[k]? = some A → ∃ B, R1[k]? = some B ∧ ∀ w G, B.pred w G → A.pred w G) : Spec P n vs L R1 φ v L' R' := fun w M H ⟨F, hF⟩ =>
 h w M H ⟨F, hF.touch, hF.has, hF.lt, hF.mine, hF.apart, fun k C hk => by
  obtain ⟨B, h1, h2⟩ := hAB k C hk
  obtain ⟨G, h3, h4⟩ := hF.ro k B h1
  exact ⟨G, h2 _ _ h3, h4⟩⟩
theorem expr9_own (vl : SV) (l : List Int) (hlo : ∀ x ∈ l, okI x) (vn : SV) (ns : List ByteArray) (hnl : ns.length ≤ 1000) (d : Nat) (hd : 1 ≤ d) (hd2 : d ≤ 8) :
  Spec Tryz.prog 17 [sv vl, sv vn, .int .i64 (d : Int)] [] [sl 1 eI (sv vl) l, own 9 1 eS (sv vn) ns] (X := Tx) (fun t => KE ns t ∧ nX t + 1 ≤ 2 ^ d) (fun t => xV t) (fun t => [txA1 t]) (fun _ => []) :=
 (expr9_spec vl l hlo vn ns hnl d hd hd2).roL fun k A hk => by
  match k, hk with
  | 0, hk => exact ⟨_, rfl, fun w G h => by cases hk; exact h⟩
  | 1, hk => exact ⟨_, rfl, fun w G h => by cases hk; exact own_sl h⟩
  | k + 2, hk => simp at hk
theorem txA1_txs {t : Tx} : ∀ w G, (txA1 t).pred w G → (txsA t.v t.kids).pred w G := fun w G h => by cases t; exact h
abbrev nP : ByteArray := ⟨#[112]⟩
abbrev nQ : ByteArray := ⟨#[113]⟩
abbrev nF : ByteArray := ⟨#[102]⟩
abbrev nG : ByteArray := ⟨#[103]⟩
abbrev tCall (nm : ByteArray) (v : SV) (a b : Tx) : Tx := .mk 3 0 nm v [a, b]
abbrev yRet (v : SV) (t : Tx) : Ty := .mk 6 oNil v [t] nilS [] nilS []
abbrev ySet (nm : ByteArray) (v : SV) (t : Tx) : Ty := .mk 1 nm v [t] nilS [] nilS []
/-- The lists of the program of EvalCalls. -/
structure Vw where
 v20 : SV
 v32 : SV
 v36 : SV
 v42 : SV
 v45 : SV
 v48 : SV
 v51 : SV
 v53 : SV
 v55 : SV
 v57 : SV
 v58 : SV
 v64 : SV
 v67 : SV
 v68 : SV
 v77 : SV
 v79 : SV
abbrev tC (q : Vw) (x y : Int) : Tx := tCall nF q.v32 (tNum x) (tNum y)
abbrev tN (q : Vw) : Tx := tCall nF q.v36 (tName nQ) (tName nP)
abbrev tO (q : Vw) (x y : Int) : Tx := tCall nG q.v42 (tNum y) (tNum x)
abbrev mB (q : Vw) (x y : Int) : List Ty := [yOut q.v45 (tC q x y), ySet nQ q.v48 (tNum x), ySet nP q.v51 (tNum y), yOut q.v53 (tN q), yOut q.v55 (tO q x y), yOut q.v57 (tName nP)]
abbrev fF (q : Vw) (e : Tx) : Tf := ⟨nF, q.v20, [nP, nQ], q.v68, [yRet q.v64 e, yOut q.v67 (tNum 1)]⟩
abbrev fG (q : Vw) : Tf := ⟨nG, q.v20, [nP, nQ], q.v79, [yRet q.v77 (tN q)]⟩
abbrev cP (q : Vw) (e : Tx) (x y : Int) : List Tf := [fMain q.v58 (mB q x y)] ++ [fF q e] ++ [fG q]
def vsf (x y : Int) : Vs := vput (vput [] nP x) nQ y
theorem vsf_p (x y : Int) : vget (vsf x y) nP = x := by
 unfold vsf
 rw [vget_vput, if_neg (by decide), vget_vput, if_pos rfl]
theorem vsf_q (x y : Int) : vget (vsf x y) nQ = y := by
 unfold vsf
 rw [vget_vput, if_pos rfl]
theorem fnd_pq (x y : Int) : Fnd (vsf x y) [nP, nQ] [x, y] := fun z hz => by
 simp only [List.mem_cons, List.not_mem_nil, or_false] at hz
 rcases hz with rfl | rfl
 ·exact ⟨0, rfl, by rw [vsf_p]; rfl, fun j h => absurd h (Nat.not_lt_zero _)⟩
 ·refine ⟨1, rfl, by rw [vsf_q]; rfl, fun j h => ?_⟩
  obtain rfl : j = 0 := by omega
  intro h
  exact absurd (Option.some.inj h) (by decide)
theorem ok_vsf {x y : Int} (hx : oW x) (hy : oW y) : okVs (vsf x y) := (okVs.put (okVs.put ok0 nP hx) nQ hy)
/-- A call of a function with two parameters. -/
theorem ev_call2 {fs : List Tf} {d : Nat} {vs : Vs} {ns : List ByteArray} {nm : ByteArray} {v : SV} {a b : Tx} {f : Tf} {g : Nat} {s s2 : Ms} {w : Int} (ha : KE ns a) (hb : KE ns b) (hf : ffind fs nm = some f) (hg : 4 * (nX a + nX b) + 4 ≤ g) (hfu : 1 + (nX a : Int) + (nX b : Int) ≤ s.fuel)
  (hc : evC g fs d f [valX vs a, valX vs b] { s with fuel := s.fuel - 1 - (nX a : Int) - (nX b : Int) } = some (.ok w s2)) : evX (g + 1) fs d vs (tCall nm v a b) s = some (.ok w s2) := by
 obtain ⟨g2, rfl⟩ : ∃ g2, g = g2 + 3 := ⟨g - 3, by omega⟩
 rw [evX, if_neg (by omega)]
 show (match evK (g2 + 3) fs d vs [] [a, b] _ with | none => none | some (.err e) => _ | some (.ok ks s1) => _) = _
 rw [evK, ke_ev ha (g2 + 2) _ (by omega) (by show (nX a : Int) ≤ s.fuel - 1; omega)]
 dsimp only
 rw [evK, ke_ev hb (g2 + 1) _ (by omega) (by show (nX b : Int) ≤ s.fuel - 1 - (nX a : Int); omega)]
 dsimp only
 rw [evK]
 dsimp only
 show (match ffind fs nm with | none => none | some f => evC (g2 + 3) fs d f [valX vs a, valX vs b] _) = _
 rw [hf]
 exact hc
section
variable {q : Vw} {e : Tx} {x y : Int} (hk : KE [nP, nQ] e)
include hk
theorem f_call {d : Nat} (hd : ¬ d = 12) {g : Nat} {s : Ms} {p r : Int} (hg : 4 * nX e + 3 ≤ g) (hf : 1 + (nX e : Int) ≤ s.fuel) : evC (g + 1) (cP q e x y) d (fF q e) [p, r] s = some (.ok (valX (vsf p r) e) { s with fuel := s.fuel - 1 - (nX e : Int) }) := by
 obtain ⟨g2, rfl⟩ : ∃ g2, g = g2 + 2 := ⟨g - 2, by omega⟩
 have hb : evB (g2 + 2) (cP q e x y) (d + 1) (vsf p r) [yRet q.v64 e, yOut q.v67 (tNum 1)] s = some (.ok (vsf p r, some (valX (vsf p r) e)) { s with fuel := s.fuel - 1 - (nX e : Int) }) :=
  evB_ret ((evS_1 (t := yRet q.v64 e) (es := []) rfl (by omega) (ke_ev hk g2 _ (by omega) (by show (nX e : Int) ≤ s.fuel - 1; omega))).2.1 rfl)
 exact evC_of (f := fF q e) (al := [p, r]) (ro := some (valX (vsf p r) e)) hd hb
theorem c_call {d : Nat} (hd : ¬ d = 12) {ns : List ByteArray} {vs : Vs} {v : SV} {a b : Tx} (ha : KE ns a) (hb : KE ns b) (h1 : nX a = 1) (h2 : nX b = 1) {g : Nat} {s : Ms} (hg : 4 * nX e + 12 ≤ g) (hf : 4 + (nX e : Int) ≤ s.fuel) : evX (g + 1) (cP q e x y) d vs (tCall nF v a b) s = some (.ok (valX (vsf (valX vs a) (valX vs b)) e) { s with fuel := s.fuel - 4 - (nX e : Int) }) := by
 obtain ⟨g2, rfl⟩ : ∃ g2, g = g2 + 1 := ⟨g - 1, by omega⟩
 refine ev_call2 ha hb (f := fF q e) rfl (by omega) (by omega) ?_
 rw [f_call hk hd (by omega) (by show 1 + (nX e : Int) ≤ s.fuel - 1 - (nX a : Int) - (nX b : Int); omega)]
 show some (Re.ok _ ({ s with fuel := s.fuel - 1 - (nX a : Int) - (nX b : Int) - 1 - (nX e : Int) } : Ms)) = _
 rw [show s.fuel - 1 - (nX a : Int) - (nX b : Int) - 1 - (nX e : Int) = s.fuel - 4 - (nX e : Int) by omega]
theorem g_call {d : Nat} (hd : d < 11) {g : Nat} {s : Ms} {p r : Int} (hg : 4 * nX e + 15 ≤ g) (hf : 5 + (nX e : Int) ≤ s.fuel) : evC (g + 1) (cP q e x y) d (fG q) [p, r] s = some (.ok (valX (vsf r p) e) { s with fuel := s.fuel - 5 - (nX e : Int) }) := by
 obtain ⟨g2, rfl⟩ : ∃ g2, g = g2 + 3 := ⟨g - 3, by omega⟩
 have hx := c_call (x := x) (y := y) (q := q) hk (d := d + 1) (by omega) (ns := [nP, nQ]) (vs := vsf p r) (v := q.v36) (.name nQ (by simp)) (.name nP (by simp)) rfl rfl (g := g2) (s := { s with fuel := s.fuel - 1 }) (by omega) (by show 4 + (nX e : Int) ≤ s.fuel - 1; omega)
 have e1 : valX (vsf p r) (tName nQ) = r := vsf_q p r
 have e2 : valX (vsf p r) (tName nP) = p := vsf_p p r
 rw [e1, e2] at hx
 have hb : evB (g2 + 3) (cP q e x y) (d + 1) (vsf p r) [yRet q.v77 (tN q)] s = some (.ok (vsf p r, some (valX (vsf r p) e)) { s with fuel := s.fuel - 1 - 4 - (nX e : Int) }) :=
  evB_ret ((evS_1 (t := yRet q.v77 (tN q)) (es := []) rfl (by omega) hx).2.1 rfl)
 have h := evC_of (f := fG q) (al := [p, r]) (ro := some (valX (vsf r p) e)) (by omega : ¬ d = 12) hb
 rw [h]
 show some (Re.ok _ ({ s with fuel := s.fuel - 1 - 4 - (nX e : Int) } : Ms)) = _
 rw [show s.fuel - 1 - 4 - (nX e : Int) = s.fuel - 5 - (nX e : Int) by omega]
 rfl
/-- What the program of EvalCalls outputs. -/
theorem calls_run (hx : oW x) (hy : oW y) (hn : nX e ≤ 100) (hc : chk (cP q e x y) = 0) : RunIs (cP q e x y) [] 5000 ⟨0, [valX (vsf x y) e, valX (vsf x y) e, valX (vsf x y) e, y], (List.range 256).map fun _ => 0⟩ := by
 obtain ⟨N, hN⟩ : ∃ N : Nat, nX e = N := ⟨_, rfl⟩
 obtain ⟨w, hw⟩ : ∃ w, valX (vsf x y) e = w := ⟨_, rfl⟩
 have st : ∀ (F : Int) (o : List Int), ∃ s : Ms, s = ⟨[], o, fun _ => 0, F⟩ := fun F o => ⟨_, rfl⟩
 have hk1 : KE [nP, nQ] (tNum x) := .num x hx
 have hk2 : KE [nP, nQ] (tNum y) := .num y hy
 have hkp : KE [nP, nQ] (tName nP) := .name nP (by simp)
 have hkq : KE [nP, nQ] (tName nQ) := .name nQ (by simp)
 have vs2 : ∀ nm, vget (vput (vput [] nQ x) nP y) nm = if nP = nm then y else if nQ = nm then x else 0 := fun nm => by
  rw [vget_vput, vget_vput]
  rfl
 -- the statements
 have s1 : ∀ (g : Nat) (o : List Int) (F : Int), 4 * N + 12 ≤ g → 5 + (N : Int) ≤ F → evS (g + 2) (cP q e x y) 1 [] (yOut q.v45 (tC q x y)) ⟨[], o, fun _ => 0, F⟩ = some (.ok ([], none) ⟨[], o ++ [w], fun _ => 0, F - 1 - 4 - (N : Int)⟩) := fun g o F hg hF => by
  have hx := c_call (q := q) (x := x) (y := y) hk (d := 1) (by decide) (vs := []) (v := q.v32) hk1 hk2 rfl rfl (g := g) (s := ⟨[], o, fun _ => 0, F - 1⟩) (by omega) (by show _ ≤ F - 1; omega)
  rw [show valX [] (tNum x) = x from rfl, show valX [] (tNum y) = y from rfl, hw, hN] at hx
  exact (evS_1 (s := ⟨[], o, fun _ => 0, F⟩) (t := yOut q.v45 (tC q x y)) (es := []) rfl (by show 0 < F; omega) hx).1 rfl
 have s2 : ∀ (g : Nat) (o : List Int) (F : Int), 4 ≤ g → 2 ≤ F → evS (g + 1) (cP q e x y) 1 [] (ySet nQ q.v48 (tNum x)) ⟨[], o, fun _ => 0, F⟩ = some (.ok (vput [] nQ x, none) ⟨[], o, fun _ => 0, F - 1 - 1⟩) := fun g o F hg hF =>
  (evS_1 (s := ⟨[], o, fun _ => 0, F⟩) (t := ySet nQ q.v48 (tNum x)) (es := []) rfl (by show 0 < F; omega) (ke_ev hk1 g ⟨[], o, fun _ => 0, F - 1⟩ hg (by show (1 : Int) ≤ F - 1; omega))).2.2 rfl
 have s3 : ∀ (g : Nat) (o : List Int) (F : Int), 4 ≤ g → 2 ≤ F → evS (g + 1) (cP q e x y) 1 (vput [] nQ x) (ySet nP q.v51 (tNum y)) ⟨[], o, fun _ => 0, F⟩ = some (.ok (vput (vput [] nQ x) nP y, none) ⟨[], o, fun _ => 0, F - 1 - 1⟩) := fun g o F hg hF =>
  (evS_1 (s := ⟨[], o, fun _ => 0, F⟩) (t := ySet nP q.v51 (tNum y)) (es := []) rfl (by show 0 < F; omega) (ke_ev hk2 g ⟨[], o, fun _ => 0, F - 1⟩ hg (by show (1 : Int) ≤ F - 1; omega))).2.2 rfl
 have s4 : ∀ (g : Nat) (o : List Int) (F : Int), 4 * N + 12 ≤ g → 5 + (N : Int) ≤ F → evS (g + 2) (cP q e x y) 1 (vput (vput [] nQ x) nP y) (yOut q.v53 (tN q)) ⟨[], o, fun _ => 0, F⟩ = some (.ok (vput (vput [] nQ x) nP y, none) ⟨[], o ++ [w], fun _ => 0, F - 1 - 4 - (N : Int)⟩) := fun g o F hg hF => by
  have hx := c_call (q := q) (x := x) (y := y) hk (d := 1) (by decide) (vs := vput (vput [] nQ x) nP y) (v := q.v36) hkq hkp rfl rfl (g := g) (s := ⟨[], o, fun _ => 0, F - 1⟩) (by omega) (by show _ ≤ F - 1; omega)
  rw [show valX (vput (vput [] nQ x) nP y) (tName nQ) = x from vs2 nQ, show valX (vput (vput [] nQ x) nP y) (tName nP) = y from vs2 nP, hw, hN] at hx
  exact (evS_1 (s := ⟨[], o, fun _ => 0, F⟩) (t := yOut q.v53 (tN q)) (es := []) rfl (by show 0 < F; omega) hx).1 rfl
 have s5 : ∀ (g : Nat) (o : List Int) (F : Int), 4 * N + 17 ≤ g → 9 + (N : Int) ≤ F → evS (g + 2) (cP q e x y) 1 (vput (vput [] nQ x) nP y) (yOut q.v55 (tO q x y)) ⟨[], o, fun _ => 0, F⟩ = some (.ok (vput (vput [] nQ x) nP y, none) ⟨[], o ++ [w], fun _ => 0, F - 1 - 1 - 1 - 1 - 5 - (N : Int)⟩) := fun g o F hg hF => by
  obtain ⟨g2, rfl⟩ : ∃ g2, g = g2 + 1 := ⟨g - 1, by omega⟩
  have hc := g_call (q := q) (x := x) (y := y) hk (d := 1) (by decide) (g := g2) (s := ⟨[], o, fun _ => 0, F - 1 - 1 - 1 - 1⟩) (p := y) (r := x) (by omega) (by show _ ≤ F - 1 - 1 - 1 - 1; omega)
  rw [hw, hN] at hc
  exact (evS_1 (s := ⟨[], o, fun _ => 0, F⟩) (t := yOut q.v55 (tO q x y)) (es := []) rfl (by show 0 < F; omega) (ev_call2 (s := ⟨[], o, fun _ => 0, F - 1⟩) hk2 hk1 (f := fG q) rfl (by show 4 * (1 + 1) + 4 ≤ _; omega) (by show 1 + (1 : Int) + 1 ≤ F - 1; omega) hc)).1 rfl
 have s6 : ∀ (g : Nat) (o : List Int) (F : Int), 4 ≤ g → 2 ≤ F → evS (g + 1) (cP q e x y) 1 (vput (vput [] nQ x) nP y) (yOut q.v57 (tName nP)) ⟨[], o, fun _ => 0, F⟩ = some (.ok (vput (vput [] nQ x) nP y, none) ⟨[], o ++ [y], fun _ => 0, F - 1 - 1⟩) := fun g o F hg hF => by
  have h := (evS_1 (s := ⟨[], o, fun _ => 0, F⟩) (t := yOut q.v57 (tName nP)) (es := []) rfl (by show 0 < F; omega) (ke_ev (fs := cP q e x y) (d := 1) (vs := vput (vput [] nQ x) nP y) hkp g ⟨[], o, fun _ => 0, F - 1⟩ hg (by show (1 : Int) ≤ F - 1; omega))).1 rfl
  rw [show valX (vput (vput [] nQ x) nP y) (tName nP) = y from vs2 nP] at h
  exact h
 have hb : ∃ F, evB (4 * N + 40 + 7) (cP q e x y) 1 [] (mB q x y) (ms0 [] 5000) = some (.ok (vput (vput [] nQ x) nP y, none) ⟨[], [w, w, w, y], fun _ => 0, F⟩) := by
  refine ⟨_, evB_go (s1 (4 * N + 40 + 4) [] 5000 (by omega) (by omega)) (evB_go (s2 (4 * N + 40 + 4) _ _ (by omega) (by omega)) (evB_go (s3 (4 * N + 40 + 3) _ _ (by omega) (by omega)) (evB_go (s4 (4 * N + 40 + 1) _ _ (by omega) (by omega)) (evB_go (s5 (4 * N + 40) _ _ (by omega) (by omega)) (evB_go (s6 (4 * N + 40) _ _ (by omega) (by omega)) evB_e)))))⟩
 obtain ⟨F, hb⟩ := hb
 rw [hw]
 exact .run (fMain q.v58 (mB q x y)) (4 * N + 40 + 8) (.ok 0 ⟨[], [w, w, w, y], fun _ => 0, F⟩) hc rfl (evC_of (f := fMain q.v58 (mB q x y)) (al := []) (ro := none) (by decide) hb)
end
/-- The program, the expression and the names can be read. -/
def pcA (v : SV) (l : List Tf) (e : Tx) (vn : SV) (ns : List ByteArray) : Asn := ⟨fun w F => (tfsA v l).pred w F ∧ TxIn w F e ∧ SlIn' w F 1 eS (sv vn) ns, fun h hs => ⟨(tfsA _ _).stable h.1 hs, TxIn.mono (fun _ hb => hb) hs _ h.2.1, h.2.2.stable hs⟩⟩
theorem pc_p {v vn : SV} {l : List Tf} {e : Tx} {ns : List ByteArray} : ∀ w G, (pcA v l e vn ns).pred w G → (∀ b, G b → b < w.heap.size) → ∃ G', (tfsA v l).pred w G' ∧ ∀ b, G' b → G b := fun w G h _ => ⟨G, h.1, fun _ h => h⟩
theorem pc_e {v vn : SV} {l : List Tf} {e : Tx} {ns : List ByteArray} : ∀ w G, (pcA v l e vn ns).pred w G → (∀ b, G b → b < w.heap.size) → ∃ G', (txsA e.v e.kids).pred w G' ∧ ∀ b, G' b → G b := fun w G h _ => ⟨G, by cases e; exact h.2.1, fun _ h => h⟩
theorem pc_n {v vn : SV} {l : List Tf} {e : Tx} {ns : List ByteArray} : ∀ w G, (pcA v l e vn ns).pred w G → (∀ b, G b → b < w.heap.size) → ∃ G', (sl 1 eS (sv vn) ns).pred w G' ∧ ∀ b, G' b → G b := fun w G h _ => h.2.2
theorem pc_all {q : Vw} {v71 : SV} {e : Tx} {x y : Int} (w : World) (F : Nat → Prop) (h : AllIn w F [txA1 e, own 9 1 eS (sv q.v20) [nP, nQ], own 48 4 eTx (sv q.v32) [tNum x, tNum y], own 48 4 eTx (sv q.v36) [tName nQ, tName nP], own 48 4 eTx (sv q.v42) [tNum y, tNum x],
  own 48 4 eTx (sv q.v45) [tC q x y], own 48 4 eTx (sv q.v48) [tNum x], own 48 4 eTx (sv q.v51) [tNum y], own 48 4 eTx (sv q.v53) [tN q], own 48 4 eTx (sv q.v55) [tO q x y], own 48 4 eTx (sv q.v57) [tName nP], own 53 5 eTy (sv q.v58) (mB q x y), own 48 4 eTx (sv q.v64) [e], own 48 4 eTx (sv q.v67) [tNum 1],
  own 53 5 eTy (sv q.v68) [yRet q.v64 e, yOut q.v67 (tNum 1)], own 48 4 eTx (sv q.v77) [tN q], own 53 5 eTy (sv q.v79) [yRet q.v77 (tN q)], own 63 3 eTf (sv v71) (cP q e x y)]) : (pcA v71 (cP q e x y) e q.v20 [nP, nQ]).pred w F := by
 obtain ⟨⟨_, a0, b0⟩, ⟨_, a1, b1⟩, ⟨_, a2, b2⟩, ⟨_, a3, b3⟩, ⟨_, a4, b4⟩, ⟨_, a5, b5⟩, ⟨_, a6, b6⟩, ⟨_, a7, b7⟩, ⟨_, a8, b8⟩, ⟨_, a9, b9⟩, ⟨_, c0, d0⟩, ⟨_, c1, d1⟩, ⟨_, c2, d2⟩, ⟨_, c3, d3⟩, ⟨_, c4, d4⟩, ⟨_, c5, d5⟩, ⟨_, c6, d6⟩, ⟨_, c7, d7⟩, _⟩ := h
 have he : TxIn w F e := TxIn.mono b0 (fun _ _ => rfl) _ a0
 have hny : SlIn' w F 5 eTy (sv nilS) [] ∧ TysIn w F [] := ⟨nil_in, trivial⟩
 have t1 : TxIn w F (tC q x y) := ⟨own_in a2 b2, tx0, tx0, trivial⟩
 have t2 : TxIn w F (tN q) := ⟨own_in a3 b3, tx0, tx0, trivial⟩
 have t3 : TxIn w F (tO q x y) := ⟨own_in a4 b4, tx0, tx0, trivial⟩
 refine ⟨⟨own_in c7 d7, fun f hf => ?_⟩, he, own_in a1 b1⟩
 simp only [cP, List.cons_append, List.nil_append, List.mem_cons, List.not_mem_nil, or_false] at hf
 rcases hf with rfl | rfl | rfl
 ·exact ⟨nil_in, own_in c1 d1, ⟨⟨own_in a5 b5, t1, trivial⟩, hny, hny⟩, ⟨⟨own_in a6 b6, tx0, trivial⟩, hny, hny⟩, ⟨⟨own_in a7 b7, tx0, trivial⟩, hny, hny⟩, ⟨⟨own_in a8 b8, t2, trivial⟩, hny, hny⟩, ⟨⟨own_in a9 b9, t3, trivial⟩, hny, hny⟩, ⟨⟨own_in c0 d0, tx0, trivial⟩, hny, hny⟩, trivial⟩
 ·exact ⟨own_in a1 b1, own_in c4 d4, ⟨⟨own_in c2 d2, he, trivial⟩, hny, hny⟩, ⟨⟨own_in c3 d3, tx0, trivial⟩, hny, hny⟩, trivial⟩
 ·exact ⟨own_in a1 b1, own_in c6 d6, ⟨⟨own_in c5 d5, t2, trivial⟩, hny, hny⟩, trivial⟩
theorem gx_call {nm : ByteArray} {v : SV} {a b : Tx} (h : nmB nm) (ha : GX a) (hb : GX b) : GX (tCall nm v a b) := ⟨oW0, h, by show 2 ≤ 1000000; decide, ha, hb, trivial⟩
theorem cP_gp {q : Vw} {e : Tx} {x y : Int} (hx : oW x) (hy : oW y) (he : GX e) (hn : nX e ≤ 1000) : GP (cP q e x y) := by
 have g1 : GX (tC q x y) := gx_call (nmB_of rfl) (gx_num hx) (gx_num hy)
 have g2 : GX (tN q) := gx_call (nmB_of rfl) (gx_name (nmB_of rfl)) (gx_name (nmB_of rfl))
 have g3 : GX (tO q x y) := gx_call (nmB_of rfl) (gx_num hy) (gx_num hx)
 refine ⟨by show 3 ≤ 1000000; decide, fun f hf => ?_⟩
 have hpq : ∀ s ∈ [nP, nQ], nmB s := fun s hs => by
  simp only [List.mem_cons, List.not_mem_nil, or_false] at hs
  rcases hs with rfl | rfl <;> exact nmB_of rfl
 simp only [cP, List.cons_append, List.nil_append, List.mem_cons, List.not_mem_nil, or_false] at hf
 rcases hf with rfl | rfl | rfl
 ·exact ⟨nmB_of rfl, fun s hs => by simp at hs, Nat.zero_le _, by show 6 ≤ 1000000; decide, ⟨gy_one (nmB_of rfl) g1, gy_one (nmB_of rfl) (gx_num hx), gy_one (nmB_of rfl) (gx_num hy), gy_one (nmB_of rfl) g2, gy_one (nmB_of rfl) g3, gy_one (nmB_of rfl) (gx_name (nmB_of rfl)), trivial⟩, Nat.le_of_ble_eq_true rfl⟩
 ·exact ⟨nmB_of rfl, hpq, by show 2 ≤ 1000000; decide, by show 2 ≤ 1000000; decide, ⟨gy_one (nmB_of rfl) he, gy_one (nmB_of rfl) (gx_num (by decide)), trivial⟩, by show 2 + ((1 + (nX e + 0) + 0 + 0) + (2 + 0)) ≤ 1000000; omega⟩
 ·exact ⟨nmB_of rfl, hpq, by show 2 ≤ 1000000; decide, by show 1 ≤ 1000000; decide, ⟨gy_one (nmB_of rfl) g2, trivial⟩, Nat.le_of_ble_eq_true rfl⟩
set_option maxRecDepth 100000 in
theorem set9_spec (s : ByteArray) (n : Int) :
  Spec Tryz.prog 24 [.string s, .int .u32 n] [] [] (X := SV) (fun _ => True) (fun v => yV (ySet s v (tNum n))) (fun v => [own 48 4 eTx (sv v) [tNum n]]) (fun _ => []) := by
 refine r_enter Tryz.func24 rfl Tryz.ntmps24 rfl fun w0 M H => ?_
 refine r_seq (r_region ?_)
 refine r_alloc t53 rfl rfl fun b4 => ?_
 refine r_nil (r_seq (r_region (r_p (p_move rfl) rfl (r_p (p_move rfl) rfl ?_))))
 refine r_callN (xs := [.tmp 6]) (num_spec n) cb22 [] [] [] rfl rfl rfl rfl rfl rfl rfl rfl (fun _ _ => rfl) (fun _ _ _ => rfl) rfl (fun _ _ => ?_)
 refine r_bslice1 eTx (tNum n) Tryz.underlying46 t48 rfl (by decide) (by decide) rfl rfl rfl rfl fun v8 => ?_
 refine r_p (p_build (parts := [(0, .const (.int .i64 1)), (1, .tmp 5), (2, .tmp 8)]) t53 pl53 rfl rfl) rfl ?_
 refine r_store_all (k := 4) t53 rfl rfl rfl rfl rfl rfl ?_
 refine r_nil (r_cret ?_)
 refine r_ret v8 trivial rfl (rs1 (rv_cellA t53 rfl rfl rfl (g_all (k := 4) rfl))) rfl [8] [] rfl rfl rfl
structure W8 where
 p : Nat
 a : SV
 b : SV
 c : SV
 d : SV
 e : SV
 f : SV
 g : SV
 h : SV
structure W9 where
 a : SV
 b : SV
 c : SV
 d : SV
theorem runIs_bad {fs : List Tf} {ins : List Int} {fuel : Int} {r : Ru} (h : RunIs fs ins fuel r) (hc : chk fs ≠ 0) : r.err = chk fs := by
 cases h with
 | bad h => rfl
 | run f g r h _ _ => exact absurd h hc
set_option maxHeartbeats 16000000 in
set_option maxRecDepth 100000 in
theorem calls_law (x0 : SV) (s : List Int) (b0 : ∀ n ∈ s, okI n) (x : Int) (hx : oW x) (y : Int) (hy : oW y) :
  Spec Tryz.prog 7 [sv x0, .int .u32 x, .int .u32 y] [] [sl 1 eI (sv x0) s] (X := Unit) (fun _ => True) (fun _ => .bool true) (fun _ => []) (fun _ => []) := by
 refine r_enter Tryz.func7 rfl Tryz.ntmps7 rfl fun w0 M H => ?_
 refine r_seq (r_region (r_p (p_assign rfl) rfl (r_nil (r_seq (r_region ?_)))))
 refine r_callN (xs := []) sanity_spec cb8 [] [] [] rfl rfl rfl rfl rfl rfl rfl rfl (fun _ _ => rfl) (fun _ _ _ => rfl) rfl (fun _ _ => ?_)
 refine r_p (p_assign rfl) rfl (r_nil (r_seq (r_region ?_)))
 refine r_bslice eS [nP, nQ] (parts := [(0, .const (.string (ByteArray.mk #[112]))), (1, .const (.string (ByteArray.mk #[113])))]) Tryz.underlying58 t9 rfl (by decide) (by intro _; rfl) rfl (by decide) (by decide) rfl rfl rfl rfl fun v20 => ?_
 refine r_p (p_assign rfl) rfl (r_nil (r_seq (r_region (r_p (p_move rfl) rfl (r_p (p_move rfl) rfl ?_)))))
 refine r_p (p_len_sl Tryz.underlying22 rfl (hs_sl (k := 0) rfl)) rfl ?_
 refine r_p (p_min rfl rfl rfl) rfl ?_
 refine r_slice_hi (j := (min s.length 100)) 0 25 Tryz.underlying22 t3 (by intro _; rfl) rfl rfl (by omega) (by omega) rfl rfl fun v25 => ?_
 refine r_p (p_move rfl) rfl ?_
 refine r_callN (xs := [.tmp 25, .tmp 26, .const (.int .i64 6)]) (expr9_own v25 (s.take (min s.length 100)) (fun x hx => b0 x (List.mem_of_mem_take hx)) v20 [nP, nQ] (by show 2 ≤ 1000; decide) 6 (by decide) (by decide)) cb17 [] [(false, 25), (true, 20)] [60] rfl rfl rfl rfl rfl rfl rfl rfl (fun _ _ => rfl) (fun _ _ _ => rfl) rfl (fun e he => ?_)
 obtain ⟨hke, hnx⟩ := he
 have hp9 : (2 : Nat) ^ 6 = 64 := by decide
 have hpq : ∀ s ∈ [nP, nQ], nmB s := fun s hs => by
  simp only [List.mem_cons, List.not_mem_nil, or_false] at hs
  rcases hs with rfl | rfl <;> exact nmB_of rfl
 have hge := hke.gx hpq
 refine r_alloc t48 rfl rfl fun b9 => ?_
 refine r_store_all (k := 9) t48 rfl rfl rfl rfl rfl rfl ?_
 refine r_nil (r_seq (r_region (r_p (p_move rfl) rfl ?_)))
 refine r_callN (xs := [.tmp 28]) (num_spec x) cb22 [] [] [] rfl rfl rfl rfl rfl rfl rfl rfl (fun _ _ => rfl) (fun _ _ _ => rfl) rfl (fun _ _ => ?_)
 refine r_p (p_move rfl) rfl ?_
 refine r_callN (xs := [.tmp 30]) (num_spec y) cb22 [] [] [] rfl rfl rfl rfl rfl rfl rfl rfl (fun _ _ => rfl) (fun _ _ _ => rfl) rfl (fun _ _ => ?_)
 refine r_bslice eTx [tNum x, tNum y] (parts := [(0, .tmp 29), (1, .tmp 31)]) Tryz.underlying46 t48 rfl (by decide) (by intro _; rfl) rfl (by decide) (by decide) rfl rfl rfl rfl fun v32 => ?_
 refine r_p (p_build (parts := [(0, .const (.int .i64 3)), (2, .const (.string (ByteArray.mk #[102]))), (3, .tmp 32)]) t48 pl48 rfl rfl) rfl ?_
 refine r_alloc t48 rfl rfl fun b10 => ?_
 refine r_store_all (k := 10) t48 rfl rfl rfl rfl rfl rfl ?_
 refine r_nil (r_seq (r_region ?_))
 refine r_callN (xs := [.const (.string (ByteArray.mk #[113]))]) (name_spec nQ) cb23 [] [] [] rfl rfl rfl rfl rfl rfl rfl rfl (fun _ _ => rfl) (fun _ _ _ => rfl) rfl (fun _ _ => ?_)
 refine r_callN (xs := [.const (.string (ByteArray.mk #[112]))]) (name_spec nP) cb23 [] [] [] rfl rfl rfl rfl rfl rfl rfl rfl (fun _ _ => rfl) (fun _ _ _ => rfl) rfl (fun _ _ => ?_)
 refine r_bslice eTx [tName nQ, tName nP] (parts := [(0, .tmp 34), (1, .tmp 35)]) Tryz.underlying46 t48 rfl (by decide) (by intro _; rfl) rfl (by decide) (by decide) rfl rfl rfl rfl fun v36 => ?_
 refine r_p (p_build (parts := [(0, .const (.int .i64 3)), (2, .const (.string (ByteArray.mk #[102]))), (3, .tmp 36)]) t48 pl48 rfl rfl) rfl ?_
 refine r_alloc t48 rfl rfl fun b11 => ?_
 refine r_store_all (k := 11) t48 rfl rfl rfl rfl rfl rfl ?_
 refine r_nil (r_seq (r_region (r_p (p_move rfl) rfl ?_)))
 refine r_callN (xs := [.tmp 38]) (num_spec y) cb22 [] [] [] rfl rfl rfl rfl rfl rfl rfl rfl (fun _ _ => rfl) (fun _ _ _ => rfl) rfl (fun _ _ => ?_)
 refine r_p (p_move rfl) rfl ?_
 refine r_callN (xs := [.tmp 40]) (num_spec x) cb22 [] [] [] rfl rfl rfl rfl rfl rfl rfl rfl (fun _ _ => rfl) (fun _ _ _ => rfl) rfl (fun _ _ => ?_)
 refine r_bslice eTx [tNum y, tNum x] (parts := [(0, .tmp 39), (1, .tmp 41)]) Tryz.underlying46 t48 rfl (by decide) (by intro _; rfl) rfl (by decide) (by decide) rfl rfl rfl rfl fun v42 => ?_
 refine r_p (p_build (parts := [(0, .const (.int .i64 3)), (2, .const (.string (ByteArray.mk #[103]))), (3, .tmp 42)]) t48 pl48 rfl rfl) rfl ?_
 refine r_alloc t48 rfl rfl fun b12 => ?_
 refine r_store_all (k := 12) t48 rfl rfl rfl rfl rfl rfl ?_
 refine r_nil (r_seq (r_region (r_p (p_assign rfl) rfl (r_nil ?_))))
 refine r_seq_cut (X := W8) (fun _ => True) (fun z => [(1, .int .u32 x), (2, .int .u32 y), (7, .bool true), (8, sv v20), (9, .pointer (some ⟨b9, 0, none⟩)), (11, .pointer (some ⟨b11, 0, none⟩)), (14, .pointer (some ⟨z.p, 0, none⟩))]) (fun z => [(9, row b9 48 (eTx e)), (11, row b11 48 (eTx (tCall nF v36 (tName nQ) (tName nP)))), (60, txA1 e), (20, own 9 1 eS (sv v20) [nP, nQ]), (32, own 48 4 eTx (sv v32) [tNum x, tNum y]), (36, own 48 4 eTx (sv v36) [tName nQ, tName nP]), (42, own 48 4 eTx (sv v42) [tNum y, tNum x]), (14, row z.p 29 [sv z.h]), (45, own 48 4 eTx (sv z.a) [tCall nF v32 (tNum x) (tNum y)]), (48, own 48 4 eTx (sv z.b) [tNum x]), (51, own 48 4 eTx (sv z.c) [tNum y]), (53, own 48 4 eTx (sv z.d) [tCall nF v36 (tName nQ) (tName nP)]), (55, own 48 4 eTx (sv z.e) [tCall nG v42 (tNum y) (tNum x)]), (57, own 48 4 eTx (sv z.f) [tName nP]), (58, own 53 5 eTy (sv z.g) ([yOut z.a (tCall nF v32 (tNum x) (tNum y)), ySet nQ z.b (tNum x), ySet nP z.c (tNum y), yOut z.d (tCall nF v36 (tName nQ) (tName nP)), yOut z.e (tCall nG v42 (tNum y) (tNum x)), yOut z.f (tName nP)])), (59, own 63 3 eTf (sv z.h) ([fMain z.g ([yOut z.a (tCall nF v32 (tNum x) (tNum y)), ySet nQ z.b (tNum x), ySet nP z.c (tNum y), yOut z.d (tCall nF v36 (tName nQ) (tName nP)), yOut z.e (tCall nG v42 (tNum y) (tNum x)), yOut z.f (tName nP)])]))]) (fun z => []) ?_ (fun ⟨b14, v45, v48, v51, v53, v55, v57, v58, v59⟩ _ => ?_)
 ·refine r_draw [44, 45, 46, 47, 48, 49, 50, 51, 52, 53, 54, 55, 56, 57, 58, 59, 14] _ rfl (stg_altsJ (V := [(0, 44, _), (2, 46, _), (3, 47, _), (5, 49, _), (6, 50, _), (8, 52, _), (10, 54, _)]) [0, 2, 3, 5, 6, 8, 10] rfl rfl (prs_cons (pri rfl (p_loadA t48 rfl rfl rfl (g_all (k := 10) rfl))) (prs_cons (pri rfl (p_move rfl)) (prs_cons (pri rfl (p_move rfl)) (prs_cons (pri rfl (p_move rfl)) (prs_cons (pri rfl (p_move rfl)) (prs_cons (pri rfl (p_loadA t48 rfl rfl rfl (g_all (k := 11) rfl))) (prs_cons (pri rfl (p_loadA t48 rfl rfl rfl (g_all (k := 12) rfl))) prs_nil))))))) rfl [1, 16] rfl rfl (nx_cons (nx_memJ 1 [1, 0] [] (fun v45 => []) rfl rfl rfl rfl rfl rfl rfl rfl rfl (fun _ _ => rfl) rfl (ms_callN (xs := [.tmp 44]) (output_spec (tCall nF v32 (tNum x) (tNum y))) cb19 [] [] [45] rfl rfl rfl rfl rfl rfl rfl rfl (fun _ _ => rfl) (fun _ _ _ => rfl)) (fun v45 _ => prs_nil) (fun v45 _ => ?_)) (nx_cons (nx_memJ 16 [16] [] (fun b14 => []) rfl rfl rfl rfl rfl rfl rfl rfl rfl (fun _ _ => rfl) rfl (ms_alloc t29 rfl) (fun b14 _ => prs_nil) (fun b14 _ => ?_)) nx_nil)))
  all_goals first | refine stg_is [1, 0] (stg_altsJ [2, 3, 5, 6, 8, 10] rfl rfl (prs_cons (pri rfl (p_move rfl)) (prs_cons (pri rfl (p_move rfl)) (prs_cons (pri rfl (p_move rfl)) (prs_cons (pri rfl (p_move rfl)) (prs_cons (pri rfl (p_loadA t48 rfl rfl rfl (g_all (k := 11) rfl))) (prs_cons (pri rfl (p_loadA t48 rfl rfl rfl (g_all (k := 12) rfl))) prs_nil)))))) rfl [4, 16] rfl rfl (nx_cons (nx_memJ 4 [4, 3, 2, 1, 0] [] (fun v48 => []) rfl rfl rfl rfl rfl rfl rfl rfl rfl (fun _ _ => rfl) rfl (ms_callN (xs := [.const (.string (ByteArray.mk #[113])), .tmp 47]) (set9_spec nQ x) cb24 [] [] [48] rfl rfl rfl rfl rfl rfl rfl rfl (fun _ _ => rfl) (fun _ _ _ => rfl)) (fun v48 _ => prs_nil) (fun v48 _ => ?_)) (nx_cons (nx_memJ 16 [16, 1, 0] [] (fun b14 => []) rfl rfl rfl rfl rfl rfl rfl rfl rfl (fun _ _ => rfl) rfl (ms_alloc t29 rfl) (fun b14 _ => prs_nil) (fun b14 _ => ?_)) nx_nil))) | refine stg_is [16] (stg_memJ [0, 2, 3, 5, 6, 8, 10] 1 [16, 1, 0] [] (fun v45 => []) rfl rfl (prs_cons (pri rfl (p_loadA t48 rfl rfl rfl (g_all (k := 10) rfl))) (prs_cons (pri rfl (p_move rfl)) (prs_cons (pri rfl (p_move rfl)) (prs_cons (pri rfl (p_move rfl)) (prs_cons (pri rfl (p_move rfl)) (prs_cons (pri rfl (p_loadA t48 rfl rfl rfl (g_all (k := 11) rfl))) (prs_cons (pri rfl (p_loadA t48 rfl rfl rfl (g_all (k := 12) rfl))) prs_nil))))))) rfl rfl rfl rfl rfl rfl rfl rfl rfl rfl rfl (fun _ _ => rfl) rfl (ms_callN (xs := [.tmp 44]) (output_spec (tCall nF v32 (tNum x) (tNum y))) cb19 [] [] [45] rfl rfl rfl rfl rfl rfl rfl rfl (fun _ _ => rfl) (fun _ _ _ => rfl)) (fun v45 _ => prs_nil) (fun v45 _ => ?_))
  all_goals first | refine stg_is [4, 3, 2, 1, 0] (stg_altsJ [5, 6, 8, 10] rfl rfl (prs_cons (pri rfl (p_move rfl)) (prs_cons (pri rfl (p_move rfl)) (prs_cons (pri rfl (p_loadA t48 rfl rfl rfl (g_all (k := 11) rfl))) (prs_cons (pri rfl (p_loadA t48 rfl rfl rfl (g_all (k := 12) rfl))) prs_nil)))) rfl [7, 16] rfl rfl (nx_cons (nx_memJ 7 [7, 6, 5, 4, 3, 2, 1, 0] [] (fun v51 => []) rfl rfl rfl rfl rfl rfl rfl rfl rfl (fun _ _ => rfl) rfl (ms_callN (xs := [.const (.string (ByteArray.mk #[112])), .tmp 50]) (set9_spec nP y) cb24 [] [] [51] rfl rfl rfl rfl rfl rfl rfl rfl (fun _ _ => rfl) (fun _ _ _ => rfl)) (fun v51 _ => prs_nil) (fun v51 _ => ?_)) (nx_cons (nx_memJ 16 [16, 4, 3, 2, 1, 0] [] (fun b14 => []) rfl rfl rfl rfl rfl rfl rfl rfl rfl (fun _ _ => rfl) rfl (ms_alloc t29 rfl) (fun b14 _ => prs_nil) (fun b14 _ => ?_)) nx_nil))) | refine stg_is [16, 1, 0] (stg_memJ [2, 3, 5, 6, 8, 10] 4 [16, 4, 3, 2, 1, 0] [] (fun v48 => []) rfl rfl (prs_cons (pri rfl (p_move rfl)) (prs_cons (pri rfl (p_move rfl)) (prs_cons (pri rfl (p_move rfl)) (prs_cons (pri rfl (p_move rfl)) (prs_cons (pri rfl (p_loadA t48 rfl rfl rfl (g_all (k := 11) rfl))) (prs_cons (pri rfl (p_loadA t48 rfl rfl rfl (g_all (k := 12) rfl))) prs_nil)))))) rfl rfl rfl rfl rfl rfl rfl rfl rfl rfl rfl (fun _ _ => rfl) rfl (ms_callN (xs := [.const (.string (ByteArray.mk #[113])), .tmp 47]) (set9_spec nQ x) cb24 [] [] [48] rfl rfl rfl rfl rfl rfl rfl rfl (fun _ _ => rfl) (fun _ _ _ => rfl)) (fun v48 _ => prs_nil) (fun v48 _ => ?_))
  all_goals first | refine stg_is [7, 6, 5, 4, 3, 2, 1, 0] (stg_altsJ [8, 10] rfl rfl (prs_cons (pri rfl (p_loadA t48 rfl rfl rfl (g_all (k := 11) rfl))) (prs_cons (pri rfl (p_loadA t48 rfl rfl rfl (g_all (k := 12) rfl))) prs_nil)) rfl [9, 16] rfl rfl (nx_cons (nx_memJ 9 [9, 8, 7, 6, 5, 4, 3, 2, 1, 0] [] (fun v53 => []) rfl rfl rfl rfl rfl rfl rfl rfl rfl (fun _ _ => rfl) rfl (ms_callN (xs := [.tmp 52]) (output_spec (tCall nF v36 (tName nQ) (tName nP))) cb19 [] [] [53] rfl rfl rfl rfl rfl rfl rfl rfl (fun _ _ => rfl) (fun _ _ _ => rfl)) (fun v53 _ => prs_nil) (fun v53 _ => ?_)) (nx_cons (nx_memJ 16 [16, 7, 6, 5, 4, 3, 2, 1, 0] [] (fun b14 => []) rfl rfl rfl rfl rfl rfl rfl rfl rfl (fun _ _ => rfl) rfl (ms_alloc t29 rfl) (fun b14 _ => prs_nil) (fun b14 _ => ?_)) nx_nil))) | refine stg_is [16, 4, 3, 2, 1, 0] (stg_memJ [5, 6, 8, 10] 7 [16, 7, 6, 5, 4, 3, 2, 1, 0] [] (fun v51 => []) rfl rfl (prs_cons (pri rfl (p_move rfl)) (prs_cons (pri rfl (p_move rfl)) (prs_cons (pri rfl (p_loadA t48 rfl rfl rfl (g_all (k := 11) rfl))) (prs_cons (pri rfl (p_loadA t48 rfl rfl rfl (g_all (k := 12) rfl))) prs_nil)))) rfl rfl rfl rfl rfl rfl rfl rfl rfl rfl rfl (fun _ _ => rfl) rfl (ms_callN (xs := [.const (.string (ByteArray.mk #[112])), .tmp 50]) (set9_spec nP y) cb24 [] [] [51] rfl rfl rfl rfl rfl rfl rfl rfl (fun _ _ => rfl) (fun _ _ _ => rfl)) (fun v51 _ => prs_nil) (fun v51 _ => ?_))
  all_goals first | refine stg_is [9, 8, 7, 6, 5, 4, 3, 2, 1, 0] (stg_altsJ [10] rfl rfl (prs_cons (pri rfl (p_loadA t48 rfl rfl rfl (g_all (k := 12) rfl))) prs_nil) rfl [11, 16] rfl rfl (nx_cons (nx_memJ 11 [11, 10, 9, 8, 7, 6, 5, 4, 3, 2, 1, 0] [] (fun v55 => []) rfl rfl rfl rfl rfl rfl rfl rfl rfl (fun _ _ => rfl) rfl (ms_callN (xs := [.tmp 54]) (output_spec (tCall nG v42 (tNum y) (tNum x))) cb19 [] [] [55] rfl rfl rfl rfl rfl rfl rfl rfl (fun _ _ => rfl) (fun _ _ _ => rfl)) (fun v55 _ => prs_nil) (fun v55 _ => ?_)) (nx_cons (nx_memJ 16 [16, 9, 8, 7, 6, 5, 4, 3, 2, 1, 0] [] (fun b14 => []) rfl rfl rfl rfl rfl rfl rfl rfl rfl (fun _ _ => rfl) rfl (ms_alloc t29 rfl) (fun b14 _ => prs_nil) (fun b14 _ => ?_)) nx_nil))) | refine stg_is [16, 7, 6, 5, 4, 3, 2, 1, 0] (stg_memJ [8, 10] 9 [16, 9, 8, 7, 6, 5, 4, 3, 2, 1, 0] [] (fun v53 => []) rfl rfl (prs_cons (pri rfl (p_loadA t48 rfl rfl rfl (g_all (k := 11) rfl))) (prs_cons (pri rfl (p_loadA t48 rfl rfl rfl (g_all (k := 12) rfl))) prs_nil)) rfl rfl rfl rfl rfl rfl rfl rfl rfl rfl rfl (fun _ _ => rfl) rfl (ms_callN (xs := [.tmp 52]) (output_spec (tCall nF v36 (tName nQ) (tName nP))) cb19 [] [] [53] rfl rfl rfl rfl rfl rfl rfl rfl (fun _ _ => rfl) (fun _ _ _ => rfl)) (fun v53 _ => prs_nil) (fun v53 _ => ?_))
  all_goals first | refine stg_is [11, 10, 9, 8, 7, 6, 5, 4, 3, 2, 1, 0] (stg_altsJ [] rfl rfl prs_nil rfl [12, 16] rfl rfl (nx_cons (nx_memJ 12 [12, 11, 10, 9, 8, 7, 6, 5, 4, 3, 2, 1, 0] [] (fun _ => []) rfl rfl rfl rfl rfl rfl rfl rfl rfl (fun _ _ => rfl) rfl (ms_callN (xs := [.const (.string (ByteArray.mk #[112]))]) (name_spec nP) cb23 [] [] [] rfl rfl rfl rfl rfl rfl rfl rfl (fun _ _ => rfl) (fun _ _ _ => rfl)) (fun _ _ => prs_nil) (fun _ _ => ?_)) (nx_cons (nx_memJ 16 [16, 11, 10, 9, 8, 7, 6, 5, 4, 3, 2, 1, 0] [] (fun b14 => []) rfl rfl rfl rfl rfl rfl rfl rfl rfl (fun _ _ => rfl) rfl (ms_alloc t29 rfl) (fun b14 _ => prs_nil) (fun b14 _ => ?_)) nx_nil))) | refine stg_is [16, 9, 8, 7, 6, 5, 4, 3, 2, 1, 0] (stg_memJ [10] 11 [16, 11, 10, 9, 8, 7, 6, 5, 4, 3, 2, 1, 0] [] (fun v55 => []) rfl rfl (prs_cons (pri rfl (p_loadA t48 rfl rfl rfl (g_all (k := 12) rfl))) prs_nil) rfl rfl rfl rfl rfl rfl rfl rfl rfl rfl rfl (fun _ _ => rfl) rfl (ms_callN (xs := [.tmp 54]) (output_spec (tCall nG v42 (tNum y) (tNum x))) cb19 [] [] [55] rfl rfl rfl rfl rfl rfl rfl rfl (fun _ _ => rfl) (fun _ _ _ => rfl)) (fun v55 _ => prs_nil) (fun v55 _ => ?_))
  all_goals first | refine stg_is [12, 11, 10, 9, 8, 7, 6, 5, 4, 3, 2, 1, 0] (stg_altsJ [] rfl rfl prs_nil rfl [13, 16] rfl rfl (nx_cons (nx_memJ 13 [13, 12, 11, 10, 9, 8, 7, 6, 5, 4, 3, 2, 1, 0] [] (fun v57 => []) rfl rfl rfl rfl rfl rfl rfl rfl rfl (fun _ _ => rfl) rfl (ms_callN (xs := [.tmp 56]) (output_spec (tName nP)) cb19 [] [] [57] rfl rfl rfl rfl rfl rfl rfl rfl (fun _ _ => rfl) (fun _ _ _ => rfl)) (fun v57 _ => prs_nil) (fun v57 _ => ?_)) (nx_cons (nx_memJ 16 [16, 12, 11, 10, 9, 8, 7, 6, 5, 4, 3, 2, 1, 0] [] (fun b14 => []) rfl rfl rfl rfl rfl rfl rfl rfl rfl (fun _ _ => rfl) rfl (ms_alloc t29 rfl) (fun b14 _ => prs_nil) (fun b14 _ => ?_)) nx_nil))) | refine stg_is [16, 11, 10, 9, 8, 7, 6, 5, 4, 3, 2, 1, 0] (stg_memJ [] 12 [16, 12, 11, 10, 9, 8, 7, 6, 5, 4, 3, 2, 1, 0] [] (fun _ => []) rfl rfl prs_nil rfl rfl rfl rfl rfl rfl rfl rfl rfl rfl rfl (fun _ _ => rfl) rfl (ms_callN (xs := [.const (.string (ByteArray.mk #[112]))]) (name_spec nP) cb23 [] [] [] rfl rfl rfl rfl rfl rfl rfl rfl (fun _ _ => rfl) (fun _ _ _ => rfl)) (fun _ _ => prs_nil) (fun _ _ => ?_))
  all_goals first | refine stg_is [13, 12, 11, 10, 9, 8, 7, 6, 5, 4, 3, 2, 1, 0] (stg_altsJ [] rfl rfl prs_nil rfl [14, 16] rfl rfl (nx_cons (nx_memJ 14 [14, 13, 12, 11, 10, 9, 8, 7, 6, 5, 4, 3, 2, 1, 0] [] (fun v58 => []) rfl rfl rfl rfl rfl rfl rfl rfl rfl (fun _ _ => rfl) rfl (ms_bslice eTy [yOut v45 (tCall nF v32 (tNum x) (tNum y)), ySet nQ v48 (tNum x), ySet nP v51 (tNum y), yOut v53 (tCall nF v36 (tName nQ) (tName nP)), yOut v55 (tCall nG v42 (tNum y) (tNum x)), yOut v57 (tName nP)] (parts := [(0, .tmp 45), (1, .tmp 48), (2, .tmp 51), (3, .tmp 53), (4, .tmp 55), (5, .tmp 57)]) Tryz.underlying51 t53 rfl (by decide) (by intro _; rfl) rfl (by decide) (by decide) rfl rfl rfl) (fun v58 _ => prs_nil) (fun v58 _ => ?_)) (nx_cons (nx_memJ 16 [16, 13, 12, 11, 10, 9, 8, 7, 6, 5, 4, 3, 2, 1, 0] [] (fun b14 => []) rfl rfl rfl rfl rfl rfl rfl rfl rfl (fun _ _ => rfl) rfl (ms_alloc t29 rfl) (fun b14 _ => prs_nil) (fun b14 _ => ?_)) nx_nil))) | refine stg_is [16, 12, 11, 10, 9, 8, 7, 6, 5, 4, 3, 2, 1, 0] (stg_memJ [] 13 [16, 13, 12, 11, 10, 9, 8, 7, 6, 5, 4, 3, 2, 1, 0] [] (fun v57 => []) rfl rfl prs_nil rfl rfl rfl rfl rfl rfl rfl rfl rfl rfl rfl (fun _ _ => rfl) rfl (ms_callN (xs := [.tmp 56]) (output_spec (tName nP)) cb19 [] [] [57] rfl rfl rfl rfl rfl rfl rfl rfl (fun _ _ => rfl) (fun _ _ _ => rfl)) (fun v57 _ => prs_nil) (fun v57 _ => ?_))
  all_goals first | refine stg_is [14, 13, 12, 11, 10, 9, 8, 7, 6, 5, 4, 3, 2, 1, 0] (stg_altsJ [] rfl rfl prs_nil rfl [15, 16] rfl rfl (nx_cons (nx_memJ 15 [15, 14, 13, 12, 11, 10, 9, 8, 7, 6, 5, 4, 3, 2, 1, 0] [] (fun v59 => []) rfl rfl rfl rfl rfl rfl rfl rfl rfl (fun _ _ => rfl) rfl (ms_callN (xs := [.tmp 58]) (main_spec v58 ([yOut v45 (tCall nF v32 (tNum x) (tNum y)), ySet nQ v48 (tNum x), ySet nP v51 (tNum y), yOut v53 (tCall nF v36 (tName nQ) (tName nP)), yOut v55 (tCall nG v42 (tNum y) (tNum x)), yOut v57 (tName nP)])) cb18 [] [] [59] rfl rfl rfl rfl rfl rfl rfl rfl (fun _ _ => rfl) (fun _ _ _ => rfl)) (fun v59 _ => prs_nil) (fun v59 _ => ?_)) (nx_cons (nx_memJ 16 [16, 14, 13, 12, 11, 10, 9, 8, 7, 6, 5, 4, 3, 2, 1, 0] [] (fun b14 => []) rfl rfl rfl rfl rfl rfl rfl rfl rfl (fun _ _ => rfl) rfl (ms_alloc t29 rfl) (fun b14 _ => prs_nil) (fun b14 _ => ?_)) nx_nil))) | refine stg_is [16, 13, 12, 11, 10, 9, 8, 7, 6, 5, 4, 3, 2, 1, 0] (stg_memJ [] 14 [16, 14, 13, 12, 11, 10, 9, 8, 7, 6, 5, 4, 3, 2, 1, 0] [] (fun v58 => []) rfl rfl prs_nil rfl rfl rfl rfl rfl rfl rfl rfl rfl rfl rfl (fun _ _ => rfl) rfl (ms_bslice eTy [yOut v45 (tCall nF v32 (tNum x) (tNum y)), ySet nQ v48 (tNum x), ySet nP v51 (tNum y), yOut v53 (tCall nF v36 (tName nQ) (tName nP)), yOut v55 (tCall nG v42 (tNum y) (tNum x)), yOut v57 (tName nP)] (parts := [(0, .tmp 45), (1, .tmp 48), (2, .tmp 51), (3, .tmp 53), (4, .tmp 55), (5, .tmp 57)]) Tryz.underlying51 t53 rfl (by decide) (by intro _; rfl) rfl (by decide) (by decide) rfl rfl rfl) (fun v58 _ => prs_nil) (fun v58 _ => ?_))
  all_goals first | refine stg_is [15, 14, 13, 12, 11, 10, 9, 8, 7, 6, 5, 4, 3, 2, 1, 0] (stg_memJ [] 16 [16, 15, 14, 13, 12, 11, 10, 9, 8, 7, 6, 5, 4, 3, 2, 1, 0] [] (fun b14 => []) rfl rfl prs_nil rfl rfl rfl rfl rfl rfl rfl rfl rfl rfl rfl (fun _ _ => rfl) rfl (ms_alloc t29 rfl) (fun b14 _ => prs_nil) (fun b14 _ => ?_)) | refine stg_is [16, 14, 13, 12, 11, 10, 9, 8, 7, 6, 5, 4, 3, 2, 1, 0] (stg_memJ [] 15 [16, 15, 14, 13, 12, 11, 10, 9, 8, 7, 6, 5, 4, 3, 2, 1, 0] [] (fun v59 => []) rfl rfl prs_nil rfl rfl rfl rfl rfl rfl rfl rfl rfl rfl rfl (fun _ _ => rfl) rfl (ms_callN (xs := [.tmp 58]) (main_spec v58 ([yOut v45 (tCall nF v32 (tNum x) (tNum y)), ySet nQ v48 (tNum x), ySet nP v51 (tNum y), yOut v53 (tCall nF v36 (tName nQ) (tName nP)), yOut v55 (tCall nG v42 (tNum y) (tNum x)), yOut v57 (tName nP)])) cb18 [] [] [59] rfl rfl rfl rfl rfl rfl rfl rfl (fun _ _ => rfl) (fun _ _ _ => rfl)) (fun v59 _ => prs_nil) (fun v59 _ => ?_))
  all_goals first | refine stg_is [16, 15, 14, 13, 12, 11, 10, 9, 8, 7, 6, 5, 4, 3, 2, 1, 0] (stg_mem0J [] 17 [17, 16, 15, 14, 13, 12, 11, 10, 9, 8, 7, 6, 5, 4, 3, 2, 1, 0] [] (fun _ => []) rfl rfl prs_nil rfl rfl rfl rfl rfl rfl rfl rfl rfl (fun _ _ => rfl) rfl (ms_store_all (k := 14) t29 rfl rfl rfl rfl rfl rfl) (fun _ _ => prs_nil) (fun _ _ => ?_))
  all_goals first | refine stg_is [17, 16, 15, 14, 13, 12, 11, 10, 9, 8, 7, 6, 5, 4, 3, 2, 1, 0] (stg_endJ [] rfl rfl prs_nil rfl rfl rfl ?_)
  all_goals
   refine r_here ⟨b14, v45, v48, v51, v53, v55, v57, v58, v59⟩ trivial rfl rfl rfl
 ·dsimp only
  refine r_seq_cut (X := W9) (fun _ => True) (fun z => [(1, .int .u32 x), (2, .int .u32 y), (7, .bool true), (8, sv v20), (9, .pointer (some ⟨b9, 0, none⟩)), (11, .pointer (some ⟨b11, 0, none⟩)), (14, .pointer (some ⟨b14, 0, none⟩))]) (fun z => [(9, row b9 48 (eTx e)), (11, row b11 48 (eTx (tCall nF v36 (tName nQ) (tName nP)))), (60, txA1 e), (20, own 9 1 eS (sv v20) [nP, nQ]), (32, own 48 4 eTx (sv v32) [tNum x, tNum y]), (36, own 48 4 eTx (sv v36) [tName nQ, tName nP]), (42, own 48 4 eTx (sv v42) [tNum y, tNum x]), (14, row b14 29 [sv z.d]), (45, own 48 4 eTx (sv v45) [tCall nF v32 (tNum x) (tNum y)]), (48, own 48 4 eTx (sv v48) [tNum x]), (51, own 48 4 eTx (sv v51) [tNum y]), (53, own 48 4 eTx (sv v53) [tCall nF v36 (tName nQ) (tName nP)]), (55, own 48 4 eTx (sv v55) [tCall nG v42 (tNum y) (tNum x)]), (57, own 48 4 eTx (sv v57) [tName nP]), (58, own 53 5 eTy (sv v58) ([yOut v45 (tCall nF v32 (tNum x) (tNum y)), ySet nQ v48 (tNum x), ySet nP v51 (tNum y), yOut v53 (tCall nF v36 (tName nQ) (tName nP)), yOut v55 (tCall nG v42 (tNum y) (tNum x)), yOut v57 (tName nP)])), (59, own 63 3 eTf (sv z.d) ([fMain v58 ([yOut v45 (tCall nF v32 (tNum x) (tNum y)), ySet nQ v48 (tNum x), ySet nP v51 (tNum y), yOut v53 (tCall nF v36 (tName nQ) (tName nP)), yOut v55 (tCall nG v42 (tNum y) (tNum x)), yOut v57 (tName nP)])] ++ [⟨nF, v20, [nP, nQ], z.c, [yRet z.a e, yOut z.b (tNum 1)]⟩])), (64, own 48 4 eTx (sv z.a) [e]), (67, own 48 4 eTx (sv z.b) [tNum 1]), (68, own 53 5 eTy (sv z.c) [yRet z.a e, yOut z.b (tNum 1)])]) (fun z => []) ?_ (fun ⟨v64, v67, v68, v71⟩ _ => ?_)
  ·refine r_draw [60, 61, 62, 63, 64, 65, 66, 67, 68, 69, 70, 71, 72] _ rfl (stg_altsJ (V := [(0, 60, _), (1, 61, _), (2, 62, _), (3, 63, _)]) [0, 1, 2, 3] rfl rfl (prs_cons (pri rfl (p_field0 fo29_0 rfl)) (prs_cons (pri rfl (p_load1 t27 rfl rfl (g_row1 (k := 14) rfl rfl))) (prs_cons (pri rfl (p_move rfl)) (prs_cons (pri rfl (p_loadA t48 rfl rfl rfl (g_all (k := 9) rfl))) prs_nil)))) rfl [4, 6] rfl rfl (nx_cons (nx_memJ 4 [4, 3] [5] (fun v64 => [(5, 65, _)]) rfl rfl rfl rfl rfl rfl rfl rfl rfl (fun _ _ => rfl) rfl (ms_bslice1 eTx e Tryz.underlying46 t48 rfl (by decide) (by decide) rfl rfl rfl) (fun v64 _ => (prs_cons (pri rfl (p_build (parts := [(0, .const (.int .i64 6)), (2, .tmp 64)]) t53 pl53 rfl rfl)) prs_nil)) (fun v64 _ => ?_)) (nx_cons (nx_memJ 6 [6] [] (fun _ => []) rfl rfl rfl rfl rfl rfl rfl rfl rfl (fun _ _ => rfl) rfl (ms_callN (xs := [.const (.int .u32 1)]) (num_spec 1) cb22 [] [] [] rfl rfl rfl rfl rfl rfl rfl rfl (fun _ _ => rfl) (fun _ _ _ => rfl)) (fun _ _ => prs_nil) (fun _ _ => ?_)) nx_nil)))
   all_goals first | refine stg_is [4, 3] (stg_memJ [0, 1, 2, 5] 6 [6, 4, 3] [] (fun _ => []) rfl rfl (prs_cons (pri rfl (p_field0 fo29_0 rfl)) (prs_cons (pri rfl (p_load1 t27 rfl rfl (g_row1 (k := 14) rfl rfl))) (prs_cons (pri rfl (p_move rfl)) (prs_cons (pri rfl (p_build (parts := [(0, .const (.int .i64 6)), (2, .tmp 64)]) t53 pl53 rfl rfl)) prs_nil)))) rfl rfl rfl rfl rfl rfl rfl rfl rfl rfl rfl (fun _ _ => rfl) rfl (ms_callN (xs := [.const (.int .u32 1)]) (num_spec 1) cb22 [] [] [] rfl rfl rfl rfl rfl rfl rfl rfl (fun _ _ => rfl) (fun _ _ _ => rfl)) (fun _ _ => prs_nil) (fun _ _ => ?_)) | refine stg_is [6] (stg_altsJ [0, 1, 2, 3] rfl rfl (prs_cons (pri rfl (p_field0 fo29_0 rfl)) (prs_cons (pri rfl (p_load1 t27 rfl rfl (g_row1 (k := 14) rfl rfl))) (prs_cons (pri rfl (p_move rfl)) (prs_cons (pri rfl (p_loadA t48 rfl rfl rfl (g_all (k := 9) rfl))) prs_nil)))) rfl [4, 7] rfl rfl (nx_cons (nx_memJ 4 [6, 4, 3] [5] (fun v64 => [(5, 65, _)]) rfl rfl rfl rfl rfl rfl rfl rfl rfl (fun _ _ => rfl) rfl (ms_bslice1 eTx e Tryz.underlying46 t48 rfl (by decide) (by decide) rfl rfl rfl) (fun v64 _ => (prs_cons (pri rfl (p_build (parts := [(0, .const (.int .i64 6)), (2, .tmp 64)]) t53 pl53 rfl rfl)) prs_nil)) (fun v64 _ => ?_)) (nx_cons (nx_memJ 7 [7, 6] [] (fun v67 => []) rfl rfl rfl rfl rfl rfl rfl rfl rfl (fun _ _ => rfl) rfl (ms_callN (xs := [.tmp 66]) (output_spec (tNum 1)) cb19 [] [] [67] rfl rfl rfl rfl rfl rfl rfl rfl (fun _ _ => rfl) (fun _ _ _ => rfl)) (fun v67 _ => prs_nil) (fun v67 _ => ?_)) nx_nil)))
   all_goals first | refine stg_is [6, 4, 3] (stg_memJ [0, 1, 2, 5] 7 [7, 6, 4, 3] [] (fun v67 => []) rfl rfl (prs_cons (pri rfl (p_field0 fo29_0 rfl)) (prs_cons (pri rfl (p_load1 t27 rfl rfl (g_row1 (k := 14) rfl rfl))) (prs_cons (pri rfl (p_move rfl)) (prs_cons (pri rfl (p_build (parts := [(0, .const (.int .i64 6)), (2, .tmp 64)]) t53 pl53 rfl rfl)) prs_nil)))) rfl rfl rfl rfl rfl rfl rfl rfl rfl rfl rfl (fun _ _ => rfl) rfl (ms_callN (xs := [.tmp 66]) (output_spec (tNum 1)) cb19 [] [] [67] rfl rfl rfl rfl rfl rfl rfl rfl (fun _ _ => rfl) (fun _ _ _ => rfl)) (fun v67 _ => prs_nil) (fun v67 _ => ?_)) | refine stg_is [7, 6] (stg_memJ [0, 1, 2, 3] 4 [7, 6, 4, 3] [5] (fun v64 => [(5, 65, _)]) rfl rfl (prs_cons (pri rfl (p_field0 fo29_0 rfl)) (prs_cons (pri rfl (p_load1 t27 rfl rfl (g_row1 (k := 14) rfl rfl))) (prs_cons (pri rfl (p_move rfl)) (prs_cons (pri rfl (p_loadA t48 rfl rfl rfl (g_all (k := 9) rfl))) prs_nil)))) rfl rfl rfl rfl rfl rfl rfl rfl rfl rfl rfl (fun _ _ => rfl) rfl (ms_bslice1 eTx e Tryz.underlying46 t48 rfl (by decide) (by decide) rfl rfl rfl) (fun v64 _ => (prs_cons (pri rfl (p_build (parts := [(0, .const (.int .i64 6)), (2, .tmp 64)]) t53 pl53 rfl rfl)) prs_nil)) (fun v64 _ => ?_))
   all_goals first | refine stg_is [7, 6, 4, 3] (stg_memJ [0, 1, 2, 5] 8 [8, 7, 6, 5, 4, 3] [9] (fun v68 => [(9, 69, _)]) rfl rfl (prs_cons (pri rfl (p_field0 fo29_0 rfl)) (prs_cons (pri rfl (p_load1 t27 rfl rfl (g_row1 (k := 14) rfl rfl))) (prs_cons (pri rfl (p_move rfl)) (prs_cons (pri rfl (p_build (parts := [(0, .const (.int .i64 6)), (2, .tmp 64)]) t53 pl53 rfl rfl)) prs_nil)))) rfl rfl rfl rfl rfl rfl rfl rfl rfl rfl rfl (fun _ _ => rfl) rfl (ms_bslice eTy [yRet v64 e, yOut v67 (tNum 1)] (parts := [(0, .tmp 65), (1, .tmp 67)]) Tryz.underlying51 t53 rfl (by decide) (by intro _; rfl) rfl (by decide) (by decide) rfl rfl rfl) (fun v68 _ => (prs_cons (pri rfl (p_build (parts := [(0, .const (.string (ByteArray.mk #[102]))), (1, .tmp 62), (2, .tmp 68)]) t63 pl63 rfl rfl)) prs_nil)) (fun v68 _ => ?_))
   all_goals first | refine stg_is [8, 7, 6, 5, 4, 3] (stg_memJ [0, 1, 2, 9] 10 [10, 9, 8, 7, 6, 5, 4, 3, 2] [] (fun v70 => []) rfl rfl (prs_cons (pri rfl (p_field0 fo29_0 rfl)) (prs_cons (pri rfl (p_load1 t27 rfl rfl (g_row1 (k := 14) rfl rfl))) (prs_cons (pri rfl (p_move rfl)) (prs_cons (pri rfl (p_build (parts := [(0, .const (.string (ByteArray.mk #[102]))), (1, .tmp 62), (2, .tmp 68)]) t63 pl63 rfl rfl)) prs_nil)))) rfl rfl rfl rfl rfl rfl rfl rfl rfl rfl rfl (fun _ _ => rfl) rfl (ms_bslice1 eTf (⟨nF, v20, [nP, nQ], v68, [yRet v64 e, yOut v67 (tNum 1)]⟩ : Tf) Tryz.underlying27 t63 rfl (by decide) (by decide) rfl rfl rfl) (fun v70 _ => prs_nil) (fun v70 _ => ?_))
   all_goals first | refine stg_is [10, 9, 8, 7, 6, 5, 4, 3, 2] (stg_memJ [0, 1] 11 [11, 10, 9, 8, 7, 6, 5, 4, 3, 2, 1, 0] [12] (fun v71 => [(12, 72, _)]) rfl rfl (prs_cons (pri rfl (p_field0 fo29_0 rfl)) (prs_cons (pri rfl (p_load1 t27 rfl rfl (g_row1 (k := 14) rfl rfl))) prs_nil)) rfl rfl rfl rfl rfl rfl rfl rfl rfl rfl rfl (fun _ _ => rfl) rfl (ms_append 59 Tryz.underlying27 t63 rfl (by decide) (fun _ => rfl) (fun _ => rfl) rfl rfl rfl (hs_own (k := 70) rfl) (by show (1 + 1) * _ ≤ _; decide) (by unfold maxLen; show 1 + 1 ≤ _; omega)) (fun v71 _ => (prs_cons (pri rfl (p_field0 fo29_0 rfl)) prs_nil)) (fun v71 _ => ?_))
   all_goals first | refine stg_is [11, 10, 9, 8, 7, 6, 5, 4, 3, 2, 1, 0] (stg_mem0J [12] 13 [13, 12, 11, 10, 9, 8, 7, 6, 5, 4, 3, 2, 1, 0] [] (fun _ => []) rfl rfl (prs_cons (pri rfl (p_field0 fo29_0 rfl)) prs_nil) rfl rfl rfl rfl rfl rfl rfl rfl rfl (fun _ _ => rfl) rfl (ms_store_row (k := 14) t27 rfl rfl rfl rfl rfl rfl rfl rfl) (fun _ _ => prs_nil) (fun _ _ => ?_))
   all_goals first | refine stg_is [13, 12, 11, 10, 9, 8, 7, 6, 5, 4, 3, 2, 1, 0] (stg_endJ [] rfl rfl prs_nil rfl rfl rfl ?_)
   all_goals
    refine r_here ⟨v64, v67, v68, v71⟩ trivial rfl rfl rfl
  ·dsimp only
   refine r_seq (r_region ?_)
   refine r_p (p_field0 fo29_0 rfl) rfl ?_
   refine r_p (p_load1 t27 rfl rfl (g_row1 (k := 14) rfl rfl)) rfl ?_
   refine r_p (p_move rfl) rfl ?_
   refine r_p (p_loadA t48 rfl rfl rfl (g_all (k := 11) rfl)) rfl ?_
   refine r_bslice1 eTx (tCall nF v36 (tName nQ) (tName nP)) Tryz.underlying46 t48 rfl (by decide) (by decide) rfl rfl rfl rfl fun v77 => ?_
   refine r_p (p_build (parts := [(0, .const (.int .i64 6)), (2, .tmp 77)]) t53 pl53 rfl rfl) rfl ?_
   refine r_bslice1 eTy (yRet v77 (tCall nF v36 (tName nQ) (tName nP))) Tryz.underlying51 t53 rfl (by decide) (by decide) rfl rfl rfl rfl fun v79 => ?_
   refine r_p (p_build (parts := [(0, .const (.string (ByteArray.mk #[103]))), (1, .tmp 75), (2, .tmp 79)]) t63 pl63 rfl rfl) rfl ?_
   refine r_bslice1 eTf (⟨nG, v20, [nP, nQ], v79, [yRet v77 (tCall nF v36 (tName nQ) (tName nP))]⟩ : Tf) Tryz.underlying27 t63 rfl (by decide) (by decide) rfl rfl rfl rfl fun v81 => ?_
   refine r_append 59 Tryz.underlying27 t63 rfl (by decide) (fun _ => rfl) (fun _ => rfl) rfl rfl rfl (hs_own (k := 81) rfl) (by show (2 + 1) * _ ≤ _; decide) (by unfold maxLen; show 2 + 1 ≤ _; omega) rfl fun v82 => ?_
   refine r_p (p_field0 fo29_0 rfl) rfl ?_
   refine r_store_row (k := 14) t27 rfl rfl rfl rfl rfl rfl rfl rfl ?_
   refine r_nil (r_seq (r_region ?_))
   refine r_p (p_loadA t29 rfl rfl rfl (g_all (k := 14) rfl)) rfl ?_
   obtain ⟨q, hq⟩ : ∃ q : Vw, q = ⟨v20, v32, v36, v42, v45, v48, v51, v53, v55, v57, v58, v64, v67, v68, v77, v79⟩ := ⟨_, rfl⟩
   have hgp := cP_gp (q := ⟨v20, v32, v36, v42, v45, v48, v51, v53, v55, v57, v58, v64, v67, v68, v77, v79⟩) (e := e) (x := x) (y := y) hx hy hge (by omega)
   refine r_collect 61 [60, 20, 32, 36, 42, 45, 48, 51, 53, 55, 57, 58, 64, 67, 68, 77, 79, 59] (C := pcA v82 (cP ⟨v20, v32, v36, v42, v45, v48, v51, v53, v55, v57, v58, v64, v67, v68, v77, v79⟩ e x y) e v20 [nP, nQ]) rfl (fun w F h => pc_all (q := ⟨v20, v32, v36, v42, v45, v48, v51, v53, v55, v57, v58, v64, v67, v68, v77, v79⟩) w F h) ?_
   refine r_freeze 61 61 rfl (fun _ _ h => h) ?_
   refine r_more 61 62 rfl pc_p ?_
   refine r_more 61 63 rfl pc_e ?_
   refine r_more 61 65 rfl pc_n ?_
   refine r_nilsl 64 (α := Int) (s := 1) (enc := eU) ?_
   obtain ⟨⟨er, o1, m1⟩, hr1⟩ := runIs_ex (fuel := 5000) (ins := []) hgp (by simp) (by omega)
   refine r_callN (xs := [.tmp 85, .const (.slice Option.none 0 0), .const (.int .i64 5000)]) (run_spec v82 nilS (cP ⟨v20, v32, v36, v42, v45, v48, v51, v53, v55, v57, v58, v64, v67, v68, v77, v79⟩ e x y) [] 5000 hgp (by simp) (by simp) (by omega) _ hr1) cb15 [] [(false, 62), (false, 64)] [80, 81] rfl rfl rfl rfl rfl rfl rfl rfl (fun _ _ => rfl) (fun _ _ _ => rfl) rfl (fun ⟨ra, rb⟩ _ => ?_)
   dsimp only
   refine r_p (p_move rfl) rfl ?_
   refine r_p (p_extract rfl rfl) rfl ?_
   refine r_p (p_extract rfl rfl) rfl ?_
   refine r_p (p_extract rfl rfl) rfl ?_
   refine r_p (p_assign rfl) rfl (r_p (p_assign rfl) rfl (r_p (p_assign rfl) rfl (r_nil (r_seq (r_seq (r_region ?_))))))
   refine r_p (p_loadA t29 rfl rfl rfl (g_all (k := 14) rfl)) rfl ?_
   refine r_callN (xs := [.tmp 90]) (check8_spec v82 (cP ⟨v20, v32, v36, v42, v45, v48, v51, v53, v55, v57, v58, v64, v67, v68, v77, v79⟩ e x y) hgp) cb14 [] [(false, 62)] [] rfl rfl rfl rfl rfl rfl rfl rfl (fun _ _ => rfl) (fun _ _ _ => rfl) rfl (fun _ _ => ?_)
   refine r_p (p_bin rfl rfl b_ne) rfl ?_
   refine r_nil ?_
   refine r_cond rfl (fun h1 => ?_) (fun h1 => ?_)
   ·(try simp only [decide_eq_true_eq, decide_eq_false_iff_not, Bool.and_eq_true, Bool.or_eq_true, Bool.and_eq_false_iff, Bool.or_eq_false_iff, Bool.not_eq_true, Bool.not_eq_false, Bool.not_eq_true', Bool.not_eq_false', Bool.not_not, bne_iff_ne, beq_iff_eq] at h1)
    have hc : chk (cP ⟨v20, v32, v36, v42, v45, v48, v51, v53, v55, v57, v58, v64, v67, v68, v77, v79⟩ e x y) ≠ 0 := h1
    have her : er = chk (cP ⟨v20, v32, v36, v42, v45, v48, v51, v53, v55, v57, v58, v64, v67, v68, v77, v79⟩ e x y) := runIs_bad hr1 hc
    have her0 : ¬ er = 0 := by rw [her]; exact hc
    refine r_seq (r_region (r_p (p_move rfl) rfl (r_p (p_move rfl) rfl ?_)))
    refine r_gyes rfl rfl ?_
    refine r_p (p_move rfl) rfl ?_
    refine r_gyes rfl rfl ?_
    refine r_p (p_bin rfl rfl b_ne) rfl ?_
    with_reducible rw [show (!decide (er = 0)) = true from by simp [her0]]
    refine r_p (p_pick rfl rfl rfl (pick_t rfl)) rfl ?_
    refine r_p (p_assign rfl) rfl (r_nil (r_cret ?_))
    refine r_ret () trivial rfl (rs1 (rv_tmp rfl)) rfl [] [] rfl rfl rfl
   ·(try simp only [decide_eq_true_eq, decide_eq_false_iff_not, Bool.and_eq_true, Bool.or_eq_true, Bool.and_eq_false_iff, Bool.or_eq_false_iff, Bool.not_eq_true, Bool.not_eq_false, Bool.not_eq_true', Bool.not_eq_false', Bool.not_not, bne_iff_ne, beq_iff_eq] at h1)
    have hc : chk (cP ⟨v20, v32, v36, v42, v45, v48, v51, v53, v55, v57, v58, v64, v67, v68, v77, v79⟩ e x y) = 0 := by simpa using h1
    have hru := runIs_fun hr1 (calls_run hke hx hy (by omega) hc)
    cases hru
    refine r_skip (r_seq (r_region ?_))
    refine r_p (p_loadA t48 rfl rfl rfl (g_all (k := 9) rfl)) rfl ?_
    refine r_p (p_move rfl) rfl (r_p (p_move rfl) rfl (r_p (p_move rfl) rfl ?_))
    refine r_bslice eU [x, y] (parts := [(0, .tmp 100), (1, .tmp 101)]) Tryz.underlying23 t36 rfl (by decide) (by intro _; rfl) rfl (by decide) (by decide) rfl rfl rfl rfl fun v102 => ?_
    have hput := put_all (vs := vsf x y) (vn := v20) (ns := [nP, nQ]) (vv := v102) (us := [x, y]) (by show 2 ≤ 1000; decide) (by show 2 ≤ 1000; decide) (fnd_pq x y) (ok_vsf hx hy) hpq _ e (Nat.lt_succ_self _) hke
    unfold HPut at hput
    refine r_freeze 102 66 rfl own_to_sl ?_
    refine r_callN (xs := [.tmp 98, .tmp 99, .tmp 102]) hput cb25 [] [(false, 63), (false, 65), (false, 66)] [90] rfl rfl rfl rfl rfl rfl rfl rfl (fun _ _ => rfl) (fun _ _ _ => rfl) rfl (fun e2 he2 => ?_)
    refine r_freeze 90 67 rfl (txA1_txs (t := e2)) ?_
    refine r_callN (xs := [.tmp 103]) (value_spec e2 he2.1) cb21 [] [(false, 67)] [] rfl rfl rfl rfl rfl rfl rfl rfl (fun _ _ => rfl) (fun _ _ _ => rfl) rfl (fun _ _ => ?_)
    rw [he2.2]
    refine r_p (p_assign rfl) rfl (r_nil (r_seq (r_region (r_p (p_move rfl) rfl (r_p (p_move rfl) rfl ?_)))))
    refine r_gyes rfl rfl ?_
    refine r_p (p_move rfl) rfl ?_
    refine r_gyes rfl rfl ?_
    refine r_p (p_bin rfl rfl b_eq) rfl ?_
    with_reducible rw [decide_eq_true (rfl : (0 : Int) = (0 : Int))]
    refine r_p (p_pick rfl rfl rfl (pick_t rfl)) rfl ?_
    refine r_p (p_move rfl) rfl ?_
    refine r_gyes rfl rfl ?_
    refine r_p (p_move rfl) rfl ?_
    refine r_gyes rfl rfl ?_
    refine r_p (p_move rfl) rfl ?_
    refine r_gyes rfl rfl ?_
    refine r_p (p_move rfl) rfl ?_
    refine r_gyes rfl rfl ?_
    refine r_p (p_move rfl) rfl ?_
    refine r_gyes rfl rfl ?_
    refine r_p (p_move rfl) rfl ?_
    refine r_gyes rfl rfl ?_
    refine r_bslice eU [valX (vsf x y) e, valX (vsf x y) e, valX (vsf x y) e, y] (parts := [(0, .tmp 112), (1, .tmp 113), (2, .tmp 114), (3, .tmp 115)]) Tryz.underlying23 t36 rfl (by decide) (by intro _; rfl) rfl (by decide) (by decide) rfl rfl rfl rfl fun v116 => ?_
    refine r_gyes rfl rfl ?_
    refine r_freeze 80 94 rfl own_to_sl ?_
    refine r_freeze 116 95 rfl own_to_sl ?_
    refine r_callN (xs := [.tmp 111, .tmp 116]) (rwords_spec ra v116 [valX (vsf x y) e, valX (vsf x y) e, valX (vsf x y) e, y] [valX (vsf x y) e, valX (vsf x y) e, valX (vsf x y) e, y] (by show 4 ≤ 1000000; decide)) cb16 [] [(false, 94), (false, 95)] [] rfl rfl rfl rfl rfl rfl rfl rfl (fun _ _ => rfl) (fun _ _ _ => rfl) rfl (fun _ _ => ?_)
    with_reducible rw [decide_eq_true (rfl : ([valX (vsf x y) e, valX (vsf x y) e, valX (vsf x y) e, y] : List Int) = ([valX (vsf x y) e, valX (vsf x y) e, valX (vsf x y) e, y] : List Int))]
    refine r_p (p_pick rfl rfl rfl (pick_t rfl)) rfl ?_
    refine r_p (p_assign rfl) rfl (r_nil (r_cret ?_))
    refine r_ret () trivial rfl (rs1 (rv_tmp rfl)) rfl [] [] rfl rfl rfl
end Go.Proofs.YtdcbbkpdlcojfaaGreat
