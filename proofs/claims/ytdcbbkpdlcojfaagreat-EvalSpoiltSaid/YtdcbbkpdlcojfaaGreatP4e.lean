/-
  Part of the proof: the texts AX, AY, B0, C0, KL, C1, C2, BY, C3, R5, R6, S4, D0, D1, V0. Conditions are with the theorems.
-/
import Derived.Test.YtdcbbkpdlcojfaaGreatP4a
import Derived.Test.YtdcbbkpdlcojfaaGreatP4b
import Derived.Test.YtdcbbkpdlcojfaaGreatP4c
import Derived.Test.YtdcbbkpdlcojfaaGreatP4d
namespace Go.Proofs.YtdcbbkpdlcojfaaGreat
set_option linter.unusedSimpArgs false
set_option linter.unusedVariables false
open Go.RowKit
abbrev tNum (n : Int) : Tx := .mk 1 n oNil nilS []
abbrev tName (s : ByteArray) : Tx := .mk 2 0 s nilS []
abbrev tIn : Tx := .mk 5 0 oNil nilS []
abbrev tBin (op : ByteArray) (v : SV) (a b : Tx) : Tx := .mk 7 0 op v [a, b]
abbrev yOut (v : SV) (t : Tx) : Ty := .mk 7 oNil v [t] nilS [] nilS []
abbrev fMain (vb : SV) (l : List Ty) : Tf := ⟨nMain, nilS, [], vb, l⟩
def nX1 : ByteArray := ⟨#[120]⟩
set_option maxRecDepth 100000 in
theorem num_spec (n : Int) :
  Spec Tryz.prog 22 [.int .u32 n] [] [] (X := Unit) (fun _ => True) (fun _ => xV (tNum n)) (fun _ => []) (fun _ => []) := by
 refine r_enter Tryz.func22 rfl Tryz.ntmps22 rfl fun w0 M H => ?_
 refine r_seq (r_region ?_)
 refine r_alloc t48 rfl rfl fun b2 => ?_
 refine r_nil (r_seq (r_region (r_p (p_move rfl) rfl ?_)))
 refine r_p (p_build (parts := [(0, .const (.int .i64 1)), (1, .tmp 3)]) t48 pl48 rfl rfl) rfl ?_
 refine r_store_all (k := 2) t48 rfl rfl rfl rfl rfl rfl ?_
 refine r_nil (r_cret ?_)
 refine r_ret () trivial rfl (rs1 (rv_cellA t48 rfl rfl rfl (g_all (k := 2) rfl))) rfl [] [] rfl rfl rfl
set_option maxRecDepth 100000 in
theorem name_spec (s : ByteArray) :
  Spec Tryz.prog 23 [.string s] [] [] (X := Unit) (fun _ => True) (fun _ => xV (tName s)) (fun _ => []) (fun _ => []) := by
 refine r_enter Tryz.func23 rfl Tryz.ntmps23 rfl fun w0 M H => ?_
 refine r_seq (r_region ?_)
 refine r_alloc t48 rfl rfl fun b2 => ?_
 refine r_nil (r_seq (r_region (r_p (p_move rfl) rfl ?_)))
 refine r_p (p_build (parts := [(0, .const (.int .i64 2)), (2, .tmp 3)]) t48 pl48 rfl rfl) rfl ?_
 refine r_store_all (k := 2) t48 rfl rfl rfl rfl rfl rfl ?_
 refine r_nil (r_cret ?_)
 refine r_ret () trivial rfl (rs1 (rv_cellA t48 rfl rfl rfl (g_all (k := 2) rfl))) rfl [] [] rfl rfl rfl
set_option maxRecDepth 100000 in
theorem output_spec (t : Tx) :
  Spec Tryz.prog 19 [xV t] [] [] (X := SV) (fun _ => True) (fun v => yV (yOut v t)) (fun v => [own 48 4 eTx (sv v) [t]]) (fun _ => []) := by
 refine r_enter Tryz.func19 rfl Tryz.ntmps19 rfl fun w0 M H => ?_
 refine r_seq (r_region ?_)
 refine r_boxA rfl rfl fun b1 => ?_
 refine r_alloc t53 rfl rfl fun b2 => ?_
 refine r_nil (r_seq (r_region ?_))
 refine r_p (p_loadA t48 rfl rfl rfl (g_all (k := 1) rfl)) rfl ?_
 refine r_bslice1 eTx t Tryz.underlying46 t48 rfl (by decide) (by decide) rfl rfl rfl rfl fun v4 => ?_
 refine r_p (p_build (parts := [(0, .const (.int .i64 7)), (2, .tmp 4)]) t53 pl53 rfl rfl) rfl ?_
 refine r_store_all (k := 2) t53 rfl rfl rfl rfl rfl rfl ?_
 refine r_nil (r_cret ?_)
 refine r_ret v4 trivial rfl (rs1 (rv_cellA t53 rfl rfl rfl (g_all (k := 2) rfl))) rfl [4] [] rfl rfl rfl
set_option maxRecDepth 100000 in
theorem main_spec (vb : SV) (l : List Ty) :
  Spec Tryz.prog 18 [sv vb] [] [] (X := SV) (fun _ => True) (fun v => .agg #[sv v]) (fun v => [own 63 3 eTf (sv v) [fMain vb l]]) (fun _ => []) := by
 refine r_enter Tryz.func18 rfl Tryz.ntmps18 rfl fun w0 M H => ?_
 refine r_seq (r_region ?_)
 refine r_alloc t29 rfl rfl fun b2 => ?_
 refine r_nil (r_seq (r_region (r_p (p_move rfl) rfl ?_)))
 refine r_p (p_build (parts := [(0, .const (.string (ByteArray.mk #[109, 97, 105, 110]))), (2, .tmp 3)]) t63 pl63 rfl rfl) rfl ?_
 refine r_bslice1 eTf (fMain vb l) Tryz.underlying27 t63 rfl (by decide) (by decide) rfl rfl rfl rfl fun v5 => ?_
 refine r_p (p_build (parts := [(0, .tmp 5)]) t29 pl29 rfl rfl) rfl ?_
 refine r_store_all (k := 2) t29 rfl rfl rfl rfl rfl rfl ?_
 refine r_nil (r_cret ?_)
 refine r_ret v5 trivial rfl (rs1 (rv_cellA t29 rfl rfl rfl (g_all (k := 2) rfl))) rfl [5] [] rfl rfl rfl
set_option maxRecDepth 100000 in
theorem binary_spec9 (op : ByteArray) (a b : Tx) :
  Spec Tryz.prog 26 [.string op, xV a, xV b] [] [] (X := SV) (fun _ => True) (fun v => xV (tBin op v a b)) (fun v => [own 48 4 eTx (sv v) [a, b]]) (fun _ => []) := by
 refine r_enter Tryz.func26 rfl Tryz.ntmps26 rfl fun w0 M H => ?_
 refine r_seq (r_region ?_)
 refine r_boxA rfl rfl fun b4 => ?_
 refine r_boxA rfl rfl fun b5 => ?_
 refine r_alloc t48 rfl rfl fun b6 => ?_
 refine r_nil (r_seq (r_region (r_p (p_move rfl) rfl ?_)))
 refine r_p (p_loadA t48 rfl rfl rfl (g_all (k := 4) rfl)) rfl ?_
 refine r_p (p_loadA t48 rfl rfl rfl (g_all (k := 5) rfl)) rfl ?_
 refine r_bslice eTx [a, b] (parts := [(0, .tmp 8), (1, .tmp 9)]) Tryz.underlying46 t48 rfl (by decide) (by intro _; rfl) rfl (by decide) (by decide) rfl rfl rfl rfl fun v10 => ?_
 refine r_p (p_build (parts := [(0, .const (.int .i64 7)), (2, .tmp 7), (3, .tmp 10)]) t48 pl48 rfl rfl) rfl ?_
 refine r_store_all (k := 6) t48 rfl rfl rfl rfl rfl rfl ?_
 refine r_nil (r_cret ?_)
 refine r_ret v10 trivial rfl (rs1 (rv_cellA t48 rfl rfl rfl (g_all (k := 6) rfl))) rfl [10] [] rfl rfl rfl
/-- The program that counts down. -/
abbrev lpWhile (v1 v2 v3 v4 v5 : SV) : Ty := .mk 5 oNil v1 [tName nX1] v2 [yOut v3 (tName nX1), .mk 2 nX1 v4 [tBin oSub v5 (tName nX1) (tNum 1)] nilS [] nilS []] nilS []
abbrev lpBody (n : Int) (v0 v1 v2 v3 v4 v5 : SV) : List Ty := [.mk 1 nX1 v0 [tNum n] nilS [] nilS [], lpWhile v1 v2 v3 v4 v5]
abbrev lpP (n : Int) (v0 v1 v2 v3 v4 v5 v6 : SV) : List Tf := [fMain v6 (lpBody n v0 v1 v2 v3 v4 v5)]
structure Lv where
 v0 : SV
 v1 : SV
 v2 : SV
 v3 : SV
 v4 : SV
 v5 : SV
 v6 : SV
 v7 : SV
abbrev Lv.p (x : Lv) (n : Int) : List Tf := lpP n x.v0 x.v1 x.v2 x.v3 x.v4 x.v5 x.v6
theorem loop_all {n : Int} {v0 v1 v2 v3 v4 v5 v6 v7 : SV} (w : World) (F : Nat → Prop) (h : AllIn w F [own 48 4 eTx (sv v0) [tNum n], own 48 4 eTx (sv v1) [tName nX1], own 53 5 eTy (sv v2) [yOut v3 (tName nX1), .mk 2 nX1 v4 [tBin oSub v5 (tName nX1) (tNum 1)] nilS [] nilS []], own 48 4 eTx (sv v3) [tName nX1],
   own 48 4 eTx (sv v4) [tBin oSub v5 (tName nX1) (tNum 1)], own 48 4 eTx (sv v5) [tName nX1, tNum 1], own 53 5 eTy (sv v6) (lpBody n v0 v1 v2 v3 v4 v5), own 63 3 eTf (sv v7) (lpP n v0 v1 v2 v3 v4 v5 v6)]) : (tfsA v7 (lpP n v0 v1 v2 v3 v4 v5 v6)).pred w F := by
 obtain ⟨⟨_, a0, b0⟩, ⟨_, a1, b1⟩, ⟨_, a2, b2⟩, ⟨_, a3, b3⟩, ⟨_, a4, b4⟩, ⟨_, a5, b5⟩, ⟨_, a6, b6⟩, ⟨_, a7, b7⟩, _⟩ := h
 have hx : TxIn w F (tName nX1) := ⟨nil_in, trivial⟩
 have hn : ∀ n, TxIn w F (tNum n) := fun _ => ⟨nil_in, trivial⟩
 have hb : TxIn w F (tBin oSub v5 (tName nX1) (tNum 1)) := ⟨own_in a5 b5, hx, hn 1, trivial⟩
 have hny : SlIn' w F 5 eTy (sv nilS) [] ∧ TysIn w F [] := ⟨nil_in, trivial⟩
 have y1 : TyIn w F (.mk 1 nX1 v0 [tNum n] nilS [] nilS []) := ⟨⟨own_in a0 b0, hn n, trivial⟩, hny, hny⟩
 have y2 : TyIn w F (yOut v3 (tName nX1)) := ⟨⟨own_in a3 b3, hx, trivial⟩, hny, hny⟩
 have y3 : TyIn w F (.mk 2 nX1 v4 [tBin oSub v5 (tName nX1) (tNum 1)] nilS [] nilS []) := ⟨⟨own_in a4 b4, hb, trivial⟩, hny, hny⟩
 have y4 : TyIn w F (lpWhile v1 v2 v3 v4 v5) := ⟨⟨own_in a1 b1, hx, trivial⟩, ⟨own_in a2 b2, y2, y3, trivial⟩, hny⟩
 refine ⟨own_in a7 b7, fun f hf => ?_⟩
 rw [List.mem_singleton.1 hf]
 exact ⟨nil_in, own_in a6 b6, y1, y4, trivial⟩
set_option maxHeartbeats 4000000 in
set_option maxRecDepth 100000 in
theorem loop_spec (n : Int) :
  Spec Tryz.prog 27 [.int .u32 n] [] [] (X := Lv) (fun _ => True) (fun x => .agg #[sv x.v7]) (fun x => [tfsA x.v7 (x.p n)]) (fun _ => []) := by
 refine r_enter Tryz.func27 rfl Tryz.ntmps27 rfl fun w0 M H => ?_
 refine r_seq (r_region ?_)
 refine r_alloc t29 rfl rfl fun b2 => ?_
 refine r_nil (r_seq (r_region ?_))
 refine r_call (xs := [.const (.string (ByteArray.mk #[120]))]) (name_spec nX1) cb23 [] [] [] [] rfl rfl rfl rfl rfl rfl rfl rfl (fun _ _ => rfl) (fun _ _ _ => rfl) rfl (fun _ _ => ?_)
 refine r_alloc t48 rfl rfl fun b3 => ?_
 refine r_store_all (k := 3) t48 rfl rfl rfl rfl rfl rfl ?_
 refine r_nil ?_
 refine r_seq_cut (X := Nat × SV × SV) (fun _ => True) (fun y => [(0, .int .u32 n), (2, .pointer (some ⟨b2, 0, none⟩)), (3, .pointer (some ⟨b3, 0, none⟩)), (4, .pointer (some ⟨y.1, 0, none⟩))]) (fun y => [(2, row b2 29 [.slice none 0 0]), (3, row b3 48 (eTx (tName nX1))), (4, row y.1 53 (eTy (.mk 2 nX1 y.2.2 [tBin oSub y.2.1 (tName nX1) (tNum 1)] nilS [] nilS []))), (8, own 48 4 eTx (sv y.2.1) [tName nX1, tNum 1]), (9, own 48 4 eTx (sv y.2.2) [tBin oSub y.2.1 (tName nX1) (tNum 1)])]) (fun y => []) ?_ (fun ⟨b4, v8, v9⟩ _ => ?_)
 ·refine r_draw [6, 7, 8, 9, 10, 4] _ rfl (stg_alts (V := [(0, 6, _)]) [0] rfl rfl (prs_cons (pri rfl (p_loadA t48 rfl rfl rfl (g_all (k := 3) rfl))) prs_nil) rfl [1, 5] rfl rfl (nx_cons (nx_mem 1 [1] [] (fun _ => []) rfl rfl rfl rfl rfl rfl rfl rfl rfl (fun _ _ => rfl) rfl (ms_call (xs := [.const (.int .u32 1)]) (num_spec 1) cb22 [] [] [] [] rfl rfl rfl rfl rfl rfl rfl rfl (fun _ _ => rfl) (fun _ _ _ => rfl)) (fun _ _ => stg_alts [0] rfl rfl (prs_cons (pri rfl (p_loadA t48 rfl rfl rfl (g_all (k := 3) rfl))) prs_nil) rfl [2, 5] rfl rfl (nx_cons (nx_mem 2 [2, 1, 0] [] (fun v8 => []) rfl rfl rfl rfl rfl rfl rfl rfl rfl (fun _ _ => rfl) rfl (ms_call (xs := [.const (.string (ByteArray.mk #[45])), .tmp 6, .tmp 7]) (binary_spec9 oSub (tName nX1) (tNum 1)) cb26 [] [] [8] [] rfl rfl rfl rfl rfl rfl rfl rfl (fun _ _ => rfl) (fun _ _ _ => rfl)) (fun v8 _ => stg_alts [] rfl rfl prs_nil rfl [3, 5] rfl rfl (nx_cons (nx_mem 3 [3, 2, 1, 0] [4] (fun v9 => [(4, 10, _)]) rfl rfl rfl rfl rfl rfl rfl rfl rfl (fun _ _ => rfl) rfl (ms_bslice1 eTx (tBin oSub v8 (tName nX1) (tNum 1)) Tryz.underlying46 t48 rfl (by decide) (by decide) rfl rfl rfl) (fun v9 _ => stg_mem [4] 5 [5, 3, 2, 1, 0] [] (fun b4 => []) rfl rfl (prs_cons (pri rfl (p_build (parts := [(0, .const (.int .i64 2)), (1, .const (.string (ByteArray.mk #[120]))), (2, .tmp 9)]) t53 pl53 rfl rfl)) prs_nil) rfl rfl rfl rfl rfl rfl rfl rfl rfl rfl rfl (fun _ _ => rfl) rfl (ms_alloc t53 rfl) (fun b4 _ => stg_mem0 [4] 6 [6, 5, 4, 3, 2, 1, 0] [] (fun _ => []) rfl rfl (prs_cons (pri rfl (p_build (parts := [(0, .const (.int .i64 2)), (1, .const (.string (ByteArray.mk #[120]))), (2, .tmp 9)]) t53 pl53 rfl rfl)) prs_nil) rfl rfl rfl rfl rfl rfl rfl rfl rfl (fun _ _ => rfl) rfl (ms_store_all (k := 4) t53 rfl rfl rfl rfl rfl rfl) (fun _ _ => stg_end [] rfl rfl prs_nil rfl rfl rfl ?_)))) (nx_cons (nx_mem 5 [5, 2, 1, 0] [] (fun b4 => []) rfl rfl rfl rfl rfl rfl rfl rfl rfl (fun _ _ => rfl) rfl (ms_alloc t53 rfl) (fun b4 _ => stg_mem [] 3 [5, 3, 2, 1, 0] [4] (fun v9 => [(4, 10, _)]) rfl rfl prs_nil rfl rfl rfl rfl rfl rfl rfl rfl rfl rfl rfl (fun _ _ => rfl) rfl (ms_bslice1 eTx (tBin oSub v8 (tName nX1) (tNum 1)) Tryz.underlying46 t48 rfl (by decide) (by decide) rfl rfl rfl) (fun v9 _ => stg_mem0 [4] 6 [6, 5, 4, 3, 2, 1, 0] [] (fun _ => []) rfl rfl (prs_cons (pri rfl (p_build (parts := [(0, .const (.int .i64 2)), (1, .const (.string (ByteArray.mk #[120]))), (2, .tmp 9)]) t53 pl53 rfl rfl)) prs_nil) rfl rfl rfl rfl rfl rfl rfl rfl rfl (fun _ _ => rfl) rfl (ms_store_all (k := 4) t53 rfl rfl rfl rfl rfl rfl) (fun _ _ => stg_end [] rfl rfl prs_nil rfl rfl rfl ?_)))) nx_nil)))) (nx_cons (nx_mem 5 [5, 1] [] (fun b4 => []) rfl rfl rfl rfl rfl rfl rfl rfl rfl (fun _ _ => rfl) rfl (ms_alloc t53 rfl) (fun b4 _ => stg_mem [0] 2 [5, 2, 1, 0] [] (fun v8 => []) rfl rfl (prs_cons (pri rfl (p_loadA t48 rfl rfl rfl (g_all (k := 3) rfl))) prs_nil) rfl rfl rfl rfl rfl rfl rfl rfl rfl rfl rfl (fun _ _ => rfl) rfl (ms_call (xs := [.const (.string (ByteArray.mk #[45])), .tmp 6, .tmp 7]) (binary_spec9 oSub (tName nX1) (tNum 1)) cb26 [] [] [8] [] rfl rfl rfl rfl rfl rfl rfl rfl (fun _ _ => rfl) (fun _ _ _ => rfl)) (fun v8 _ => stg_mem [] 3 [5, 3, 2, 1, 0] [4] (fun v9 => [(4, 10, _)]) rfl rfl prs_nil rfl rfl rfl rfl rfl rfl rfl rfl rfl rfl rfl (fun _ _ => rfl) rfl (ms_bslice1 eTx (tBin oSub v8 (tName nX1) (tNum 1)) Tryz.underlying46 t48 rfl (by decide) (by decide) rfl rfl rfl) (fun v9 _ => stg_mem0 [4] 6 [6, 5, 4, 3, 2, 1, 0] [] (fun _ => []) rfl rfl (prs_cons (pri rfl (p_build (parts := [(0, .const (.int .i64 2)), (1, .const (.string (ByteArray.mk #[120]))), (2, .tmp 9)]) t53 pl53 rfl rfl)) prs_nil) rfl rfl rfl rfl rfl rfl rfl rfl rfl (fun _ _ => rfl) rfl (ms_store_all (k := 4) t53 rfl rfl rfl rfl rfl rfl) (fun _ _ => stg_end [] rfl rfl prs_nil rfl rfl rfl ?_))))) nx_nil)))) (nx_cons (nx_mem 5 [5] [] (fun b4 => []) rfl rfl rfl rfl rfl rfl rfl rfl rfl (fun _ _ => rfl) rfl (ms_alloc t53 rfl) (fun b4 _ => stg_mem [0] 1 [5, 1] [] (fun _ => []) rfl rfl (prs_cons (pri rfl (p_loadA t48 rfl rfl rfl (g_all (k := 3) rfl))) prs_nil) rfl rfl rfl rfl rfl rfl rfl rfl rfl rfl rfl (fun _ _ => rfl) rfl (ms_call (xs := [.const (.int .u32 1)]) (num_spec 1) cb22 [] [] [] [] rfl rfl rfl rfl rfl rfl rfl rfl (fun _ _ => rfl) (fun _ _ _ => rfl)) (fun _ _ => stg_mem [0] 2 [5, 2, 1, 0] [] (fun v8 => []) rfl rfl (prs_cons (pri rfl (p_loadA t48 rfl rfl rfl (g_all (k := 3) rfl))) prs_nil) rfl rfl rfl rfl rfl rfl rfl rfl rfl rfl rfl (fun _ _ => rfl) rfl (ms_call (xs := [.const (.string (ByteArray.mk #[45])), .tmp 6, .tmp 7]) (binary_spec9 oSub (tName nX1) (tNum 1)) cb26 [] [] [8] [] rfl rfl rfl rfl rfl rfl rfl rfl (fun _ _ => rfl) (fun _ _ _ => rfl)) (fun v8 _ => stg_mem [] 3 [5, 3, 2, 1, 0] [4] (fun v9 => [(4, 10, _)]) rfl rfl prs_nil rfl rfl rfl rfl rfl rfl rfl rfl rfl rfl rfl (fun _ _ => rfl) rfl (ms_bslice1 eTx (tBin oSub v8 (tName nX1) (tNum 1)) Tryz.underlying46 t48 rfl (by decide) (by decide) rfl rfl rfl) (fun v9 _ => stg_mem0 [4] 6 [6, 5, 4, 3, 2, 1, 0] [] (fun _ => []) rfl rfl (prs_cons (pri rfl (p_build (parts := [(0, .const (.int .i64 2)), (1, .const (.string (ByteArray.mk #[120]))), (2, .tmp 9)]) t53 pl53 rfl rfl)) prs_nil) rfl rfl rfl rfl rfl rfl rfl rfl rfl (fun _ _ => rfl) rfl (ms_store_all (k := 4) t53 rfl rfl rfl rfl rfl rfl) (fun _ _ => stg_end [] rfl rfl prs_nil rfl rfl rfl ?_)))))) nx_nil)))
  ·refine r_here (b4, v8, v9) trivial rfl rfl rfl
  ·refine r_here (b4, v8, v9) trivial rfl rfl rfl
  ·refine r_here (b4, v8, v9) trivial rfl rfl rfl
  ·refine r_here (b4, v8, v9) trivial rfl rfl rfl
 ·dsimp only
  refine r_seq ?_
  refine r_draw [11, 12, 13, 14, 15, 16, 17, 18, 19, 20, 21, 22, 23] _ rfl (stg_altsJ (V := [(0, 11, _), (4, 15, _), (6, 17, _), (8, 19, _)]) [0, 4, 6, 8] rfl rfl (prs_cons (pri rfl (p_move rfl)) (prs_cons (pri rfl (p_loadA t48 rfl rfl rfl (g_all (k := 3) rfl))) (prs_cons (pri rfl (p_loadA t48 rfl rfl rfl (g_all (k := 3) rfl))) (prs_cons (pri rfl (p_loadA t53 rfl rfl rfl (g_all (k := 4) rfl))) prs_nil)))) rfl [1, 5] rfl rfl (nx_cons (nx_memJ 1 [1, 0] [] (fun _ => []) rfl rfl rfl rfl rfl rfl rfl rfl rfl (fun _ _ => rfl) rfl (ms_call (xs := [.tmp 11]) (num_spec n) cb22 [] [] [] [] rfl rfl rfl rfl rfl rfl rfl rfl (fun _ _ => rfl) (fun _ _ _ => rfl)) (fun _ _ => prs_nil) (fun _ _ => ?_)) (nx_cons (nx_memJ 5 [5, 4] [] (fun v16 => []) rfl rfl rfl rfl rfl rfl rfl rfl rfl (fun _ _ => rfl) rfl (ms_bslice1 eTx (tName nX1) Tryz.underlying46 t48 rfl (by decide) (by decide) rfl rfl rfl) (fun v16 _ => prs_nil) (fun v16 _ => ?_)) nx_nil)))
  all_goals first | refine stg_altsJ [4, 6, 8] rfl rfl (prs_cons (pri rfl (p_loadA t48 rfl rfl rfl (g_all (k := 3) rfl))) (prs_cons (pri rfl (p_loadA t48 rfl rfl rfl (g_all (k := 3) rfl))) (prs_cons (pri rfl (p_loadA t53 rfl rfl rfl (g_all (k := 4) rfl))) prs_nil))) rfl [2, 5, 7] rfl rfl (nx_cons (nx_memJ 2 [2, 1, 0] [3] (fun v13 => [(3, 14, _)]) rfl rfl rfl rfl rfl rfl rfl rfl rfl (fun _ _ => rfl) rfl (ms_bslice1 eTx (tNum n) Tryz.underlying46 t48 rfl (by decide) (by decide) rfl rfl rfl) (fun v13 _ => (prs_cons (pri rfl (p_build (parts := [(0, .const (.int .i64 1)), (1, .const (.string (ByteArray.mk #[120]))), (2, .tmp 13)]) t53 pl53 rfl rfl)) prs_nil)) (fun v13 _ => ?_)) (nx_cons (nx_memJ 5 [5, 4, 1, 0] [] (fun v16 => []) rfl rfl rfl rfl rfl rfl rfl rfl rfl (fun _ _ => rfl) rfl (ms_bslice1 eTx (tName nX1) Tryz.underlying46 t48 rfl (by decide) (by decide) rfl rfl rfl) (fun v16 _ => prs_nil) (fun v16 _ => ?_)) (nx_cons (nx_memJ 7 [7, 6, 1, 0] [] (fun v18 => []) rfl rfl rfl rfl rfl rfl rfl rfl rfl (fun _ _ => rfl) rfl (ms_call (xs := [.tmp 17]) (output_spec (tName nX1)) cb19 [] [] [18] [] rfl rfl rfl rfl rfl rfl rfl rfl (fun _ _ => rfl) (fun _ _ _ => rfl)) (fun v18 _ => prs_nil) (fun v18 _ => ?_)) nx_nil))) | refine stg_memJ [0, 6, 8] 1 [5, 4, 1, 0] [] (fun _ => []) rfl rfl (prs_cons (pri rfl (p_move rfl)) (prs_cons (pri rfl (p_loadA t48 rfl rfl rfl (g_all (k := 3) rfl))) (prs_cons (pri rfl (p_loadA t53 rfl rfl rfl (g_all (k := 4) rfl))) prs_nil))) rfl rfl rfl rfl rfl rfl rfl rfl rfl rfl rfl (fun _ _ => rfl) rfl (ms_call (xs := [.tmp 11]) (num_spec n) cb22 [] [] [] [] rfl rfl rfl rfl rfl rfl rfl rfl (fun _ _ => rfl) (fun _ _ _ => rfl)) (fun _ _ => prs_nil) (fun _ _ => ?_)
  all_goals first | refine stg_altsJ [3, 4, 6, 8] rfl rfl (prs_cons (pri rfl (p_build (parts := [(0, .const (.int .i64 1)), (1, .const (.string (ByteArray.mk #[120]))), (2, .tmp 13)]) t53 pl53 rfl rfl)) (prs_cons (pri rfl (p_loadA t48 rfl rfl rfl (g_all (k := 3) rfl))) (prs_cons (pri rfl (p_loadA t48 rfl rfl rfl (g_all (k := 3) rfl))) (prs_cons (pri rfl (p_loadA t53 rfl rfl rfl (g_all (k := 4) rfl))) prs_nil)))) rfl [5, 7] rfl rfl (nx_cons (nx_memJ 5 [5, 4, 2, 1, 0] [] (fun v16 => []) rfl rfl rfl rfl rfl rfl rfl rfl rfl (fun _ _ => rfl) rfl (ms_bslice1 eTx (tName nX1) Tryz.underlying46 t48 rfl (by decide) (by decide) rfl rfl rfl) (fun v16 _ => prs_nil) (fun v16 _ => ?_)) (nx_cons (nx_memJ 7 [7, 6, 2, 1, 0] [] (fun v18 => []) rfl rfl rfl rfl rfl rfl rfl rfl rfl (fun _ _ => rfl) rfl (ms_call (xs := [.tmp 17]) (output_spec (tName nX1)) cb19 [] [] [18] [] rfl rfl rfl rfl rfl rfl rfl rfl (fun _ _ => rfl) (fun _ _ _ => rfl)) (fun v18 _ => prs_nil) (fun v18 _ => ?_)) nx_nil)) | refine stg_altsJ [6, 8] rfl rfl (prs_cons (pri rfl (p_loadA t48 rfl rfl rfl (g_all (k := 3) rfl))) (prs_cons (pri rfl (p_loadA t53 rfl rfl rfl (g_all (k := 4) rfl))) prs_nil)) rfl [2, 7] rfl rfl (nx_cons (nx_memJ 2 [5, 4, 2, 1, 0] [3] (fun v13 => [(3, 14, _)]) rfl rfl rfl rfl rfl rfl rfl rfl rfl (fun _ _ => rfl) rfl (ms_bslice1 eTx (tNum n) Tryz.underlying46 t48 rfl (by decide) (by decide) rfl rfl rfl) (fun v13 _ => (prs_cons (pri rfl (p_build (parts := [(0, .const (.int .i64 1)), (1, .const (.string (ByteArray.mk #[120]))), (2, .tmp 13)]) t53 pl53 rfl rfl)) prs_nil)) (fun v13 _ => ?_)) (nx_cons (nx_memJ 7 [7, 6, 5, 4, 1, 0] [] (fun v18 => []) rfl rfl rfl rfl rfl rfl rfl rfl rfl (fun _ _ => rfl) rfl (ms_call (xs := [.tmp 17]) (output_spec (tName nX1)) cb19 [] [] [18] [] rfl rfl rfl rfl rfl rfl rfl rfl (fun _ _ => rfl) (fun _ _ _ => rfl)) (fun v18 _ => prs_nil) (fun v18 _ => ?_)) nx_nil)) | refine stg_altsJ [4, 8] rfl rfl (prs_cons (pri rfl (p_loadA t48 rfl rfl rfl (g_all (k := 3) rfl))) (prs_cons (pri rfl (p_loadA t53 rfl rfl rfl (g_all (k := 4) rfl))) prs_nil)) rfl [2, 5, 9] rfl rfl (nx_cons (nx_memJ 2 [7, 6, 2, 1, 0] [3] (fun v13 => [(3, 14, _)]) rfl rfl rfl rfl rfl rfl rfl rfl rfl (fun _ _ => rfl) rfl (ms_bslice1 eTx (tNum n) Tryz.underlying46 t48 rfl (by decide) (by decide) rfl rfl rfl) (fun v13 _ => (prs_cons (pri rfl (p_build (parts := [(0, .const (.int .i64 1)), (1, .const (.string (ByteArray.mk #[120]))), (2, .tmp 13)]) t53 pl53 rfl rfl)) prs_nil)) (fun v13 _ => ?_)) (nx_cons (nx_memJ 5 [7, 6, 5, 4, 1, 0] [] (fun v16 => []) rfl rfl rfl rfl rfl rfl rfl rfl rfl (fun _ _ => rfl) rfl (ms_bslice1 eTx (tName nX1) Tryz.underlying46 t48 rfl (by decide) (by decide) rfl rfl rfl) (fun v16 _ => prs_nil) (fun v16 _ => ?_)) (nx_cons (nx_memJ 9 [9, 8, 7, 6, 1, 0] [] (fun v20 => []) rfl rfl rfl rfl rfl rfl rfl rfl rfl (fun _ _ => rfl) rfl (ms_bslice eTy [yOut v18 (tName nX1), .mk 2 nX1 v9 [tBin oSub v8 (tName nX1) (tNum 1)] nilS [] nilS []] (parts := [(0, .tmp 18), (1, .tmp 19)]) Tryz.underlying51 t53 rfl (by decide) (by intro _; rfl) rfl (by decide) (by decide) rfl rfl rfl) (fun v20 _ => prs_nil) (fun v20 _ => ?_)) nx_nil)))
  all_goals first | refine stg_memJ [3, 6, 8] 7 [7, 6, 5, 4, 2, 1, 0] [] (fun v18 => []) rfl rfl (prs_cons (pri rfl (p_build (parts := [(0, .const (.int .i64 1)), (1, .const (.string (ByteArray.mk #[120]))), (2, .tmp 13)]) t53 pl53 rfl rfl)) (prs_cons (pri rfl (p_loadA t48 rfl rfl rfl (g_all (k := 3) rfl))) (prs_cons (pri rfl (p_loadA t53 rfl rfl rfl (g_all (k := 4) rfl))) prs_nil))) rfl rfl rfl rfl rfl rfl rfl rfl rfl rfl rfl (fun _ _ => rfl) rfl (ms_call (xs := [.tmp 17]) (output_spec (tName nX1)) cb19 [] [] [18] [] rfl rfl rfl rfl rfl rfl rfl rfl (fun _ _ => rfl) (fun _ _ _ => rfl)) (fun v18 _ => prs_nil) (fun v18 _ => ?_) | refine stg_altsJ [3, 4, 8] rfl rfl (prs_cons (pri rfl (p_build (parts := [(0, .const (.int .i64 1)), (1, .const (.string (ByteArray.mk #[120]))), (2, .tmp 13)]) t53 pl53 rfl rfl)) (prs_cons (pri rfl (p_loadA t48 rfl rfl rfl (g_all (k := 3) rfl))) (prs_cons (pri rfl (p_loadA t53 rfl rfl rfl (g_all (k := 4) rfl))) prs_nil))) rfl [5, 9] rfl rfl (nx_cons (nx_memJ 5 [7, 6, 5, 4, 2, 1, 0] [] (fun v16 => []) rfl rfl rfl rfl rfl rfl rfl rfl rfl (fun _ _ => rfl) rfl (ms_bslice1 eTx (tName nX1) Tryz.underlying46 t48 rfl (by decide) (by decide) rfl rfl rfl) (fun v16 _ => prs_nil) (fun v16 _ => ?_)) (nx_cons (nx_memJ 9 [9, 8, 7, 6, 2, 1, 0] [] (fun v20 => []) rfl rfl rfl rfl rfl rfl rfl rfl rfl (fun _ _ => rfl) rfl (ms_bslice eTy [yOut v18 (tName nX1), .mk 2 nX1 v9 [tBin oSub v8 (tName nX1) (tNum 1)] nilS [] nilS []] (parts := [(0, .tmp 18), (1, .tmp 19)]) Tryz.underlying51 t53 rfl (by decide) (by intro _; rfl) rfl (by decide) (by decide) rfl rfl rfl) (fun v20 _ => prs_nil) (fun v20 _ => ?_)) nx_nil)) | refine stg_altsJ [8] rfl rfl (prs_cons (pri rfl (p_loadA t53 rfl rfl rfl (g_all (k := 4) rfl))) prs_nil) rfl [2, 9] rfl rfl (nx_cons (nx_memJ 2 [7, 6, 5, 4, 2, 1, 0] [3] (fun v13 => [(3, 14, _)]) rfl rfl rfl rfl rfl rfl rfl rfl rfl (fun _ _ => rfl) rfl (ms_bslice1 eTx (tNum n) Tryz.underlying46 t48 rfl (by decide) (by decide) rfl rfl rfl) (fun v13 _ => (prs_cons (pri rfl (p_build (parts := [(0, .const (.int .i64 1)), (1, .const (.string (ByteArray.mk #[120]))), (2, .tmp 13)]) t53 pl53 rfl rfl)) prs_nil)) (fun v13 _ => ?_)) (nx_cons (nx_memJ 9 [9, 8, 7, 6, 5, 4, 1, 0] [10] (fun v20 => [(10, 21, _)]) rfl rfl rfl rfl rfl rfl rfl rfl rfl (fun _ _ => rfl) rfl (ms_bslice eTy [yOut v18 (tName nX1), .mk 2 nX1 v9 [tBin oSub v8 (tName nX1) (tNum 1)] nilS [] nilS []] (parts := [(0, .tmp 18), (1, .tmp 19)]) Tryz.underlying51 t53 rfl (by decide) (by intro _; rfl) rfl (by decide) (by decide) rfl rfl rfl) (fun v20 _ => (prs_cons (pri rfl (p_build (parts := [(0, .const (.int .i64 5)), (2, .tmp 16), (3, .tmp 20)]) t53 pl53 rfl rfl)) prs_nil)) (fun v20 _ => ?_)) nx_nil)) | refine stg_altsJ [4] rfl rfl (prs_cons (pri rfl (p_loadA t48 rfl rfl rfl (g_all (k := 3) rfl))) prs_nil) rfl [2, 5] rfl rfl (nx_cons (nx_memJ 2 [9, 8, 7, 6, 2, 1, 0] [3] (fun v13 => [(3, 14, _)]) rfl rfl rfl rfl rfl rfl rfl rfl rfl (fun _ _ => rfl) rfl (ms_bslice1 eTx (tNum n) Tryz.underlying46 t48 rfl (by decide) (by decide) rfl rfl rfl) (fun v13 _ => (prs_cons (pri rfl (p_build (parts := [(0, .const (.int .i64 1)), (1, .const (.string (ByteArray.mk #[120]))), (2, .tmp 13)]) t53 pl53 rfl rfl)) prs_nil)) (fun v13 _ => ?_)) (nx_cons (nx_memJ 5 [9, 8, 7, 6, 5, 4, 1, 0] [10] (fun v16 => [(10, 21, _)]) rfl rfl rfl rfl rfl rfl rfl rfl rfl (fun _ _ => rfl) rfl (ms_bslice1 eTx (tName nX1) Tryz.underlying46 t48 rfl (by decide) (by decide) rfl rfl rfl) (fun v16 _ => (prs_cons (pri rfl (p_build (parts := [(0, .const (.int .i64 5)), (2, .tmp 16), (3, .tmp 20)]) t53 pl53 rfl rfl)) prs_nil)) (fun v16 _ => ?_)) nx_nil))
  all_goals first | refine stg_memJ [3, 8] 9 [9, 8, 7, 6, 5, 4, 2, 1, 0] [10] (fun v20 => [(10, 21, _)]) rfl rfl (prs_cons (pri rfl (p_build (parts := [(0, .const (.int .i64 1)), (1, .const (.string (ByteArray.mk #[120]))), (2, .tmp 13)]) t53 pl53 rfl rfl)) (prs_cons (pri rfl (p_loadA t53 rfl rfl rfl (g_all (k := 4) rfl))) prs_nil)) rfl rfl rfl rfl rfl rfl rfl rfl rfl rfl rfl (fun _ _ => rfl) rfl (ms_bslice eTy [yOut v18 (tName nX1), .mk 2 nX1 v9 [tBin oSub v8 (tName nX1) (tNum 1)] nilS [] nilS []] (parts := [(0, .tmp 18), (1, .tmp 19)]) Tryz.underlying51 t53 rfl (by decide) (by intro _; rfl) rfl (by decide) (by decide) rfl rfl rfl) (fun v20 _ => (prs_cons (pri rfl (p_build (parts := [(0, .const (.int .i64 5)), (2, .tmp 16), (3, .tmp 20)]) t53 pl53 rfl rfl)) prs_nil)) (fun v20 _ => ?_) | refine stg_memJ [3, 4] 5 [9, 8, 7, 6, 5, 4, 2, 1, 0] [10] (fun v16 => [(10, 21, _)]) rfl rfl (prs_cons (pri rfl (p_build (parts := [(0, .const (.int .i64 1)), (1, .const (.string (ByteArray.mk #[120]))), (2, .tmp 13)]) t53 pl53 rfl rfl)) (prs_cons (pri rfl (p_loadA t48 rfl rfl rfl (g_all (k := 3) rfl))) prs_nil)) rfl rfl rfl rfl rfl rfl rfl rfl rfl rfl rfl (fun _ _ => rfl) rfl (ms_bslice1 eTx (tName nX1) Tryz.underlying46 t48 rfl (by decide) (by decide) rfl rfl rfl) (fun v16 _ => (prs_cons (pri rfl (p_build (parts := [(0, .const (.int .i64 5)), (2, .tmp 16), (3, .tmp 20)]) t53 pl53 rfl rfl)) prs_nil)) (fun v16 _ => ?_) | refine stg_memJ [10] 2 [9, 8, 7, 6, 5, 4, 2, 1, 0] [3] (fun v13 => [(3, 14, _)]) rfl rfl (prs_cons (pri rfl (p_build (parts := [(0, .const (.int .i64 5)), (2, .tmp 16), (3, .tmp 20)]) t53 pl53 rfl rfl)) prs_nil) rfl rfl rfl rfl rfl rfl rfl rfl rfl rfl rfl (fun _ _ => rfl) rfl (ms_bslice1 eTx (tNum n) Tryz.underlying46 t48 rfl (by decide) (by decide) rfl rfl rfl) (fun v13 _ => (prs_cons (pri rfl (p_build (parts := [(0, .const (.int .i64 1)), (1, .const (.string (ByteArray.mk #[120]))), (2, .tmp 13)]) t53 pl53 rfl rfl)) prs_nil)) (fun v13 _ => ?_)
  all_goals first | refine stg_memJ [3, 10] 11 [11, 10, 9, 8, 7, 6, 5, 4, 3, 2, 1, 0] [] (fun v22 => []) rfl rfl (prs_cons (pri rfl (p_build (parts := [(0, .const (.int .i64 1)), (1, .const (.string (ByteArray.mk #[120]))), (2, .tmp 13)]) t53 pl53 rfl rfl)) (prs_cons (pri rfl (p_build (parts := [(0, .const (.int .i64 5)), (2, .tmp 16), (3, .tmp 20)]) t53 pl53 rfl rfl)) prs_nil)) rfl rfl rfl rfl rfl rfl rfl rfl rfl rfl rfl (fun _ _ => rfl) rfl (ms_bslice eTy (lpBody n v13 v16 v20 v18 v9 v8) (parts := [(0, .tmp 14), (1, .tmp 21)]) Tryz.underlying51 t53 rfl (by decide) (by intro _; rfl) rfl (by decide) (by decide) rfl rfl rfl) (fun v22 _ => prs_nil) (fun v22 _ => ?_)
  all_goals first | refine stg_memJ [] 12 [12, 11, 10, 9, 8, 7, 6, 5, 4, 3, 2, 1, 0] [] (fun v23 => []) rfl rfl prs_nil rfl rfl rfl rfl rfl rfl rfl rfl rfl rfl rfl (fun _ _ => rfl) rfl (ms_call (xs := [.tmp 22]) (main_spec v22 (lpBody n v13 v16 v20 v18 v9 v8)) cb18 [] [] [23] [] rfl rfl rfl rfl rfl rfl rfl rfl (fun _ _ => rfl) (fun _ _ _ => rfl)) (fun v23 _ => prs_nil) (fun v23 _ => ?_)
  all_goals first | refine stg_mem0J [] 13 [13, 12, 11, 10, 9, 8, 7, 6, 5, 4, 3, 2, 1, 0] [] (fun _ => []) rfl rfl prs_nil rfl rfl rfl rfl rfl rfl rfl rfl rfl (fun _ _ => rfl) rfl (ms_store_all (k := 2) t29 rfl rfl rfl rfl rfl rfl) (fun _ _ => prs_nil) (fun _ _ => ?_)
  all_goals first | refine stg_endJ [] rfl rfl prs_nil rfl rfl rfl ?_
  all_goals
   refine r_cret ?_
   refine r_collect 50 [13, 16, 20, 18, 9, 8, 22, 23] rfl loop_all ?_
   refine r_end ⟨v13, v16, v20, v18, v9, v8, v22, v23⟩ trivial rfl (rs1 (rv_cellA t29 rfl rfl rfl (g_all (k := 2) rfl))) rfl [50] [] rfl rfl rfl
structure Sv6 where
 v0 : SV
 v1 : SV
 v2 : SV
 v3 : SV
 v4 : SV
 b : Nat
theorem nmB_of {s : ByteArray} (h : (s.data.toList.all (fun b => decide (b.toNat < 128)) && decide (s.size ≤ 1000000)) = true) : nmB s := by
 simp only [Bool.and_eq_true, decide_eq_true_eq, List.all_eq_true] at h
 refine ⟨fun i hi => ?_, h.2⟩
 refine h.1 (s[i]'hi) ?_
 have : s[i]'hi = s.data.toList[i]'(by simpa using hi) := by simp [ByteArray.getElem_eq_getElem_data]
 rw [this]
 exact List.getElem_mem _
theorem gx_num {n : Int} (h : oW n) : GX (tNum n) := ⟨h, nmB_of rfl, Nat.zero_le _, trivial⟩
theorem gx_name {s : ByteArray} (h : nmB s) : GX (tName s) := ⟨oW0, h, Nat.zero_le _, trivial⟩
theorem gx_in : GX tIn := ⟨oW0, nmB_of rfl, Nat.zero_le _, trivial⟩
theorem gx_bin {op : ByteArray} {v : SV} {a b : Tx} (h : nmB op) (ha : GX a) (hb : GX b) : GX (tBin op v a b) := ⟨oW0, h, by show 2 ≤ 1000000; decide, ha, hb, trivial⟩
theorem gy_one {k : Int} {nm : ByteArray} {ve : SV} {t : Tx} (h : nmB nm) (ht : GX t) : GY (.mk k nm ve [t] nilS [] nilS []) := ⟨h, ⟨by show 1 ≤ 1000000; decide, ht, trivial⟩, ⟨Nat.zero_le _, trivial⟩, Nat.zero_le _, trivial⟩
theorem gp_main {vb : SV} {l : List Ty} (hl : l.length ≤ 1000000) (hg : GYs l) (hn : nYs l ≤ 1000000) : GP [fMain vb l] := ⟨by show 1 ≤ 1000000; decide, fun f hf => by
 rw [List.mem_singleton.1 hf]
 exact ⟨nmB_of rfl, fun s hs => by simp at hs, Nat.zero_le _, hl, hg, by show 0 + nYs l ≤ 1000000; omega⟩⟩
abbrev sf1 (v0 v1 v2 v3 : SV) : List Tf := [fMain v3 [yOut v2 (tBin oSub v1 tIn (tBin oMul v0 tIn (tNum 2)))]]
theorem sf1_gp (v0 v1 v2 v3 : SV) : GP (sf1 v0 v1 v2 v3) := gp_main (by show 1 ≤ 1000000; decide) ⟨gy_one (nmB_of rfl) (gx_bin (nmB_of rfl) gx_in (gx_bin (nmB_of rfl) gx_in (gx_num (by decide)))), trivial⟩ (by show 6 ≤ 1000000; decide)
theorem sf1_chk (v0 v1 v2 v3 : SV) : chk (sf1 v0 v1 v2 v3) = 0 := by kernel_rfl
theorem sf1_ev (v0 v1 v2 v3 : SV) : evC 40 (sf1 v0 v1 v2 v3) 0 (fMain v3 [yOut v2 (tBin oSub v1 tIn (tBin oMul v0 tIn (tNum 2)))]) [] (ms0 [7, 5] 100) = some (.ok 0 ⟨[], [4294967293], fun _ => 0, 94⟩) := by kernel_rfl
theorem sf1_run (v0 v1 v2 v3 : SV) : RunIs (sf1 v0 v1 v2 v3) [7, 5] 100 ⟨0, [4294967293], (List.range 256).map fun _ => 0⟩ := .run _ 40 _ (sf1_chk v0 v1 v2 v3) rfl (sf1_ev v0 v1 v2 v3)
theorem lp_gp {n : Int} (hn : oW n) (x : Lv) : GP (x.p n) := gp_main (by show 2 ≤ 1000000; decide) ⟨gy_one (nmB_of rfl) (gx_num hn), ⟨nmB_of rfl, ⟨by show 1 ≤ 1000000; decide, gx_name (nmB_of rfl), trivial⟩, ⟨by show 2 ≤ 1000000; decide, gy_one (nmB_of rfl) (gx_name (nmB_of rfl)), gy_one (nmB_of rfl) (gx_bin (nmB_of rfl) (gx_name (nmB_of rfl)) (gx_num (by decide))), trivial⟩, Nat.zero_le _, trivial⟩, trivial⟩ (by show 10 ≤ 1000000; decide)
theorem lp_chk (n : Int) (x : Lv) : chk (x.p n) = 0 := by kernel_rfl
theorem lp3_ev (x : Lv) : ∃ s : Ms, evC 60 (x.p 3) 0 (fMain x.v6 (lpBody 3 x.v0 x.v1 x.v2 x.v3 x.v4 x.v5)) [] (ms0 [] 100) = some (.ok 0 s) ∧ s.out = [3, 2, 1] := ⟨⟨[], [3, 2, 1], fun _ => 0, 75⟩, by kernel_rfl, rfl⟩
theorem lp3_run (x : Lv) : ∃ mem : List Int, mem.length = 256 ∧ RunIs (x.p 3) [] 100 ⟨0, [3, 2, 1], mem⟩ := by
 obtain ⟨s, h1, h2⟩ := lp3_ev x
 have h3 : RunIs (x.p 3) [] 100 (ruOf (.ok 0 s)) := .run _ 60 _ (lp_chk 3 x) rfl h1
 refine ⟨(List.range 256).map s.mem, by simp, ?_⟩
 rw [← h2]
 exact h3
theorem sf1_all {v0 v1 v2 v3 v4 : SV} (w : World) (F : Nat → Prop) (h : AllIn w F [own 48 4 eTx (sv v0) [tIn, tNum 2], own 48 4 eTx (sv v1) [tIn, tBin oMul v0 tIn (tNum 2)], own 48 4 eTx (sv v2) [tBin oSub v1 tIn (tBin oMul v0 tIn (tNum 2))], own 53 5 eTy (sv v3) [yOut v2 (tBin oSub v1 tIn (tBin oMul v0 tIn (tNum 2)))], own 63 3 eTf (sv v4) (sf1 v0 v1 v2 v3)]) : (tfsA v4 (sf1 v0 v1 v2 v3)).pred w F := by
 obtain ⟨⟨_, a0, b0⟩, ⟨_, a1, b1⟩, ⟨_, a2, b2⟩, ⟨_, a3, b3⟩, ⟨_, a4, b4⟩, _⟩ := h
 have hx : TxIn w F tIn := ⟨nil_in, trivial⟩
 have hn : ∀ n, TxIn w F (tNum n) := fun _ => ⟨nil_in, trivial⟩
 have hny : SlIn' w F 5 eTy (sv nilS) [] ∧ TysIn w F [] := ⟨nil_in, trivial⟩
 have e1 : TxIn w F (tBin oMul v0 tIn (tNum 2)) := ⟨own_in a0 b0, hx, hn 2, trivial⟩
 have e2 : TxIn w F (tBin oSub v1 tIn (tBin oMul v0 tIn (tNum 2))) := ⟨own_in a1 b1, hx, e1, trivial⟩
 refine ⟨own_in a4 b4, fun f hf => ?_⟩
 rw [List.mem_singleton.1 hf]
 exact ⟨nil_in, own_in a3 b3, ⟨⟨own_in a2 b2, e2, trivial⟩, hny, hny⟩, trivial⟩
set_option maxHeartbeats 4000000 in
set_option maxRecDepth 100000 in
theorem sanity_spec  :
  Spec Tryz.prog 8 [] [] [] (X := Unit) (fun _ => True) (fun _ => .bool true) (fun _ => []) (fun _ => []) := by
 refine r_enter Tryz.func8 rfl Tryz.ntmps8 rfl fun w0 M H => ?_
 refine r_seq (r_region (r_p (p_assign rfl) rfl (r_nil (r_seq (r_region ?_)))))
 refine r_p (p_build (parts := [(0, .const (.int .i64 5))]) t48 pl48 rfl rfl) rfl ?_
 refine r_alloc t48 rfl rfl fun b1 => ?_
 refine r_store_all (k := 1) t48 rfl rfl rfl rfl rfl rfl ?_
 refine r_nil ?_
 refine r_seq_cut (X := Sv6) (fun _ => True) (fun y => [(2, .pointer (some ⟨y.b, 0, none⟩))]) (fun y => [(2, row y.b 29 [sv y.v4]), (50, tfsA y.v4 (sf1 y.v0 y.v1 y.v2 y.v3))]) (fun y => []) ?_ (fun y _ => ?_)
 ·refine r_draw [14, 15, 16, 17, 18, 19, 20, 21, 2] _ rfl (stg_alts (V := [(0, 14, _), (1, 15, _)]) [0, 1] rfl rfl (prs_cons (pri rfl (p_loadA t48 rfl rfl rfl (g_all (k := 1) rfl))) (prs_cons (pri rfl (p_loadA t48 rfl rfl rfl (g_all (k := 1) rfl))) prs_nil)) rfl [2, 8] rfl rfl (nx_cons (nx_mem 2 [2] [] (fun _ => []) rfl rfl rfl rfl rfl rfl rfl rfl rfl (fun _ _ => rfl) rfl (ms_call (xs := [.const (.int .u32 2)]) (num_spec 2) cb22 [] [] [] [] rfl rfl rfl rfl rfl rfl rfl rfl (fun _ _ => rfl) (fun _ _ _ => rfl)) (fun _ _ => stg_alts [0, 1] rfl rfl (prs_cons (pri rfl (p_loadA t48 rfl rfl rfl (g_all (k := 1) rfl))) (prs_cons (pri rfl (p_loadA t48 rfl rfl rfl (g_all (k := 1) rfl))) prs_nil)) rfl [3, 8] rfl rfl (nx_cons (nx_mem 3 [3, 2, 1] [] (fun v17 => []) rfl rfl rfl rfl rfl rfl rfl rfl rfl (fun _ _ => rfl) rfl (ms_call (xs := [.const (.string (ByteArray.mk #[42])), .tmp 15, .tmp 16]) (binary_spec9 oMul tIn (tNum 2)) cb26 [] [] [17] [] rfl rfl rfl rfl rfl rfl rfl rfl (fun _ _ => rfl) (fun _ _ _ => rfl)) (fun v17 _ => stg_alts [0] rfl rfl (prs_cons (pri rfl (p_loadA t48 rfl rfl rfl (g_all (k := 1) rfl))) prs_nil) rfl [4, 8] rfl rfl (nx_cons (nx_mem 4 [4, 3, 2, 1, 0] [] (fun v18 => []) rfl rfl rfl rfl rfl rfl rfl rfl rfl (fun _ _ => rfl) rfl (ms_call (xs := [.const (.string (ByteArray.mk #[45])), .tmp 14, .tmp 17]) (binary_spec9 oSub tIn (tBin oMul v17 tIn (tNum 2))) cb26 [] [] [18] [] rfl rfl rfl rfl rfl rfl rfl rfl (fun _ _ => rfl) (fun _ _ _ => rfl)) (fun v18 _ => stg_alts [] rfl rfl prs_nil rfl [5, 8] rfl rfl (nx_cons (nx_mem 5 [5, 4, 3, 2, 1, 0] [] (fun v19 => []) rfl rfl rfl rfl rfl rfl rfl rfl rfl (fun _ _ => rfl) rfl (ms_call (xs := [.tmp 18]) (output_spec (tBin oSub v18 tIn (tBin oMul v17 tIn (tNum 2)))) cb19 [] [] [19] [] rfl rfl rfl rfl rfl rfl rfl rfl (fun _ _ => rfl) (fun _ _ _ => rfl)) (fun v19 _ => stg_alts [] rfl rfl prs_nil rfl [6, 8] rfl rfl (nx_cons (nx_mem 6 [6, 5, 4, 3, 2, 1, 0] [] (fun v20 => []) rfl rfl rfl rfl rfl rfl rfl rfl rfl (fun _ _ => rfl) rfl (ms_bslice1 eTy (yOut v19 (tBin oSub v18 tIn (tBin oMul v17 tIn (tNum 2)))) Tryz.underlying51 t53 rfl (by decide) (by decide) rfl rfl rfl) (fun v20 _ => stg_alts [] rfl rfl prs_nil rfl [7, 8] rfl rfl (nx_cons (nx_mem 7 [7, 6, 5, 4, 3, 2, 1, 0] [] (fun v21 => []) rfl rfl rfl rfl rfl rfl rfl rfl rfl (fun _ _ => rfl) rfl (ms_call (xs := [.tmp 20]) (main_spec v20 [yOut v19 (tBin oSub v18 tIn (tBin oMul v17 tIn (tNum 2)))]) cb18 [] [] [21] [] rfl rfl rfl rfl rfl rfl rfl rfl (fun _ _ => rfl) (fun _ _ _ => rfl)) (fun v21 _ => stg_mem [] 8 [8, 7, 6, 5, 4, 3, 2, 1, 0] [] (fun b2 => []) rfl rfl prs_nil rfl rfl rfl rfl rfl rfl rfl rfl rfl rfl rfl (fun _ _ => rfl) rfl (ms_alloc t29 rfl) (fun b2 _ => stg_mem0 [] 9 [9, 8, 7, 6, 5, 4, 3, 2, 1, 0] [] (fun _ => []) rfl rfl prs_nil rfl rfl rfl rfl rfl rfl rfl rfl rfl (fun _ _ => rfl) rfl (ms_store_all (k := 2) t29 rfl rfl rfl rfl rfl rfl) (fun _ _ => stg_end [] rfl rfl prs_nil rfl rfl rfl ?_)))) (nx_cons (nx_mem 8 [8, 6, 5, 4, 3, 2, 1, 0] [] (fun b2 => []) rfl rfl rfl rfl rfl rfl rfl rfl rfl (fun _ _ => rfl) rfl (ms_alloc t29 rfl) (fun b2 _ => stg_mem [] 7 [8, 7, 6, 5, 4, 3, 2, 1, 0] [] (fun v21 => []) rfl rfl prs_nil rfl rfl rfl rfl rfl rfl rfl rfl rfl rfl rfl (fun _ _ => rfl) rfl (ms_call (xs := [.tmp 20]) (main_spec v20 [yOut v19 (tBin oSub v18 tIn (tBin oMul v17 tIn (tNum 2)))]) cb18 [] [] [21] [] rfl rfl rfl rfl rfl rfl rfl rfl (fun _ _ => rfl) (fun _ _ _ => rfl)) (fun v21 _ => stg_mem0 [] 9 [9, 8, 7, 6, 5, 4, 3, 2, 1, 0] [] (fun _ => []) rfl rfl prs_nil rfl rfl rfl rfl rfl rfl rfl rfl rfl (fun _ _ => rfl) rfl (ms_store_all (k := 2) t29 rfl rfl rfl rfl rfl rfl) (fun _ _ => stg_end [] rfl rfl prs_nil rfl rfl rfl ?_)))) nx_nil)))) (nx_cons (nx_mem 8 [8, 5, 4, 3, 2, 1, 0] [] (fun b2 => []) rfl rfl rfl rfl rfl rfl rfl rfl rfl (fun _ _ => rfl) rfl (ms_alloc t29 rfl) (fun b2 _ => stg_mem [] 6 [8, 6, 5, 4, 3, 2, 1, 0] [] (fun v20 => []) rfl rfl prs_nil rfl rfl rfl rfl rfl rfl rfl rfl rfl rfl rfl (fun _ _ => rfl) rfl (ms_bslice1 eTy (yOut v19 (tBin oSub v18 tIn (tBin oMul v17 tIn (tNum 2)))) Tryz.underlying51 t53 rfl (by decide) (by decide) rfl rfl rfl) (fun v20 _ => stg_mem [] 7 [8, 7, 6, 5, 4, 3, 2, 1, 0] [] (fun v21 => []) rfl rfl prs_nil rfl rfl rfl rfl rfl rfl rfl rfl rfl rfl rfl (fun _ _ => rfl) rfl (ms_call (xs := [.tmp 20]) (main_spec v20 [yOut v19 (tBin oSub v18 tIn (tBin oMul v17 tIn (tNum 2)))]) cb18 [] [] [21] [] rfl rfl rfl rfl rfl rfl rfl rfl (fun _ _ => rfl) (fun _ _ _ => rfl)) (fun v21 _ => stg_mem0 [] 9 [9, 8, 7, 6, 5, 4, 3, 2, 1, 0] [] (fun _ => []) rfl rfl prs_nil rfl rfl rfl rfl rfl rfl rfl rfl rfl (fun _ _ => rfl) rfl (ms_store_all (k := 2) t29 rfl rfl rfl rfl rfl rfl) (fun _ _ => stg_end [] rfl rfl prs_nil rfl rfl rfl ?_))))) nx_nil)))) (nx_cons (nx_mem 8 [8, 4, 3, 2, 1, 0] [] (fun b2 => []) rfl rfl rfl rfl rfl rfl rfl rfl rfl (fun _ _ => rfl) rfl (ms_alloc t29 rfl) (fun b2 _ => stg_mem [] 5 [8, 5, 4, 3, 2, 1, 0] [] (fun v19 => []) rfl rfl prs_nil rfl rfl rfl rfl rfl rfl rfl rfl rfl rfl rfl (fun _ _ => rfl) rfl (ms_call (xs := [.tmp 18]) (output_spec (tBin oSub v18 tIn (tBin oMul v17 tIn (tNum 2)))) cb19 [] [] [19] [] rfl rfl rfl rfl rfl rfl rfl rfl (fun _ _ => rfl) (fun _ _ _ => rfl)) (fun v19 _ => stg_mem [] 6 [8, 6, 5, 4, 3, 2, 1, 0] [] (fun v20 => []) rfl rfl prs_nil rfl rfl rfl rfl rfl rfl rfl rfl rfl rfl rfl (fun _ _ => rfl) rfl (ms_bslice1 eTy (yOut v19 (tBin oSub v18 tIn (tBin oMul v17 tIn (tNum 2)))) Tryz.underlying51 t53 rfl (by decide) (by decide) rfl rfl rfl) (fun v20 _ => stg_mem [] 7 [8, 7, 6, 5, 4, 3, 2, 1, 0] [] (fun v21 => []) rfl rfl prs_nil rfl rfl rfl rfl rfl rfl rfl rfl rfl rfl rfl (fun _ _ => rfl) rfl (ms_call (xs := [.tmp 20]) (main_spec v20 [yOut v19 (tBin oSub v18 tIn (tBin oMul v17 tIn (tNum 2)))]) cb18 [] [] [21] [] rfl rfl rfl rfl rfl rfl rfl rfl (fun _ _ => rfl) (fun _ _ _ => rfl)) (fun v21 _ => stg_mem0 [] 9 [9, 8, 7, 6, 5, 4, 3, 2, 1, 0] [] (fun _ => []) rfl rfl prs_nil rfl rfl rfl rfl rfl rfl rfl rfl rfl (fun _ _ => rfl) rfl (ms_store_all (k := 2) t29 rfl rfl rfl rfl rfl rfl) (fun _ _ => stg_end [] rfl rfl prs_nil rfl rfl rfl ?_)))))) nx_nil)))) (nx_cons (nx_mem 8 [8, 3, 2, 1] [] (fun b2 => []) rfl rfl rfl rfl rfl rfl rfl rfl rfl (fun _ _ => rfl) rfl (ms_alloc t29 rfl) (fun b2 _ => stg_mem [0] 4 [8, 4, 3, 2, 1, 0] [] (fun v18 => []) rfl rfl (prs_cons (pri rfl (p_loadA t48 rfl rfl rfl (g_all (k := 1) rfl))) prs_nil) rfl rfl rfl rfl rfl rfl rfl rfl rfl rfl rfl (fun _ _ => rfl) rfl (ms_call (xs := [.const (.string (ByteArray.mk #[45])), .tmp 14, .tmp 17]) (binary_spec9 oSub tIn (tBin oMul v17 tIn (tNum 2))) cb26 [] [] [18] [] rfl rfl rfl rfl rfl rfl rfl rfl (fun _ _ => rfl) (fun _ _ _ => rfl)) (fun v18 _ => stg_mem [] 5 [8, 5, 4, 3, 2, 1, 0] [] (fun v19 => []) rfl rfl prs_nil rfl rfl rfl rfl rfl rfl rfl rfl rfl rfl rfl (fun _ _ => rfl) rfl (ms_call (xs := [.tmp 18]) (output_spec (tBin oSub v18 tIn (tBin oMul v17 tIn (tNum 2)))) cb19 [] [] [19] [] rfl rfl rfl rfl rfl rfl rfl rfl (fun _ _ => rfl) (fun _ _ _ => rfl)) (fun v19 _ => stg_mem [] 6 [8, 6, 5, 4, 3, 2, 1, 0] [] (fun v20 => []) rfl rfl prs_nil rfl rfl rfl rfl rfl rfl rfl rfl rfl rfl rfl (fun _ _ => rfl) rfl (ms_bslice1 eTy (yOut v19 (tBin oSub v18 tIn (tBin oMul v17 tIn (tNum 2)))) Tryz.underlying51 t53 rfl (by decide) (by decide) rfl rfl rfl) (fun v20 _ => stg_mem [] 7 [8, 7, 6, 5, 4, 3, 2, 1, 0] [] (fun v21 => []) rfl rfl prs_nil rfl rfl rfl rfl rfl rfl rfl rfl rfl rfl rfl (fun _ _ => rfl) rfl (ms_call (xs := [.tmp 20]) (main_spec v20 [yOut v19 (tBin oSub v18 tIn (tBin oMul v17 tIn (tNum 2)))]) cb18 [] [] [21] [] rfl rfl rfl rfl rfl rfl rfl rfl (fun _ _ => rfl) (fun _ _ _ => rfl)) (fun v21 _ => stg_mem0 [] 9 [9, 8, 7, 6, 5, 4, 3, 2, 1, 0] [] (fun _ => []) rfl rfl prs_nil rfl rfl rfl rfl rfl rfl rfl rfl rfl (fun _ _ => rfl) rfl (ms_store_all (k := 2) t29 rfl rfl rfl rfl rfl rfl) (fun _ _ => stg_end [] rfl rfl prs_nil rfl rfl rfl ?_))))))) nx_nil)))) (nx_cons (nx_mem 8 [8, 2] [] (fun b2 => []) rfl rfl rfl rfl rfl rfl rfl rfl rfl (fun _ _ => rfl) rfl (ms_alloc t29 rfl) (fun b2 _ => stg_mem [0, 1] 3 [8, 3, 2, 1] [] (fun v17 => []) rfl rfl (prs_cons (pri rfl (p_loadA t48 rfl rfl rfl (g_all (k := 1) rfl))) (prs_cons (pri rfl (p_loadA t48 rfl rfl rfl (g_all (k := 1) rfl))) prs_nil)) rfl rfl rfl rfl rfl rfl rfl rfl rfl rfl rfl (fun _ _ => rfl) rfl (ms_call (xs := [.const (.string (ByteArray.mk #[42])), .tmp 15, .tmp 16]) (binary_spec9 oMul tIn (tNum 2)) cb26 [] [] [17] [] rfl rfl rfl rfl rfl rfl rfl rfl (fun _ _ => rfl) (fun _ _ _ => rfl)) (fun v17 _ => stg_mem [0] 4 [8, 4, 3, 2, 1, 0] [] (fun v18 => []) rfl rfl (prs_cons (pri rfl (p_loadA t48 rfl rfl rfl (g_all (k := 1) rfl))) prs_nil) rfl rfl rfl rfl rfl rfl rfl rfl rfl rfl rfl (fun _ _ => rfl) rfl (ms_call (xs := [.const (.string (ByteArray.mk #[45])), .tmp 14, .tmp 17]) (binary_spec9 oSub tIn (tBin oMul v17 tIn (tNum 2))) cb26 [] [] [18] [] rfl rfl rfl rfl rfl rfl rfl rfl (fun _ _ => rfl) (fun _ _ _ => rfl)) (fun v18 _ => stg_mem [] 5 [8, 5, 4, 3, 2, 1, 0] [] (fun v19 => []) rfl rfl prs_nil rfl rfl rfl rfl rfl rfl rfl rfl rfl rfl rfl (fun _ _ => rfl) rfl (ms_call (xs := [.tmp 18]) (output_spec (tBin oSub v18 tIn (tBin oMul v17 tIn (tNum 2)))) cb19 [] [] [19] [] rfl rfl rfl rfl rfl rfl rfl rfl (fun _ _ => rfl) (fun _ _ _ => rfl)) (fun v19 _ => stg_mem [] 6 [8, 6, 5, 4, 3, 2, 1, 0] [] (fun v20 => []) rfl rfl prs_nil rfl rfl rfl rfl rfl rfl rfl rfl rfl rfl rfl (fun _ _ => rfl) rfl (ms_bslice1 eTy (yOut v19 (tBin oSub v18 tIn (tBin oMul v17 tIn (tNum 2)))) Tryz.underlying51 t53 rfl (by decide) (by decide) rfl rfl rfl) (fun v20 _ => stg_mem [] 7 [8, 7, 6, 5, 4, 3, 2, 1, 0] [] (fun v21 => []) rfl rfl prs_nil rfl rfl rfl rfl rfl rfl rfl rfl rfl rfl rfl (fun _ _ => rfl) rfl (ms_call (xs := [.tmp 20]) (main_spec v20 [yOut v19 (tBin oSub v18 tIn (tBin oMul v17 tIn (tNum 2)))]) cb18 [] [] [21] [] rfl rfl rfl rfl rfl rfl rfl rfl (fun _ _ => rfl) (fun _ _ _ => rfl)) (fun v21 _ => stg_mem0 [] 9 [9, 8, 7, 6, 5, 4, 3, 2, 1, 0] [] (fun _ => []) rfl rfl prs_nil rfl rfl rfl rfl rfl rfl rfl rfl rfl (fun _ _ => rfl) rfl (ms_store_all (k := 2) t29 rfl rfl rfl rfl rfl rfl) (fun _ _ => stg_end [] rfl rfl prs_nil rfl rfl rfl ?_)))))))) nx_nil)))) (nx_cons (nx_mem 8 [8] [] (fun b2 => []) rfl rfl rfl rfl rfl rfl rfl rfl rfl (fun _ _ => rfl) rfl (ms_alloc t29 rfl) (fun b2 _ => stg_mem [0, 1] 2 [8, 2] [] (fun _ => []) rfl rfl (prs_cons (pri rfl (p_loadA t48 rfl rfl rfl (g_all (k := 1) rfl))) (prs_cons (pri rfl (p_loadA t48 rfl rfl rfl (g_all (k := 1) rfl))) prs_nil)) rfl rfl rfl rfl rfl rfl rfl rfl rfl rfl rfl (fun _ _ => rfl) rfl (ms_call (xs := [.const (.int .u32 2)]) (num_spec 2) cb22 [] [] [] [] rfl rfl rfl rfl rfl rfl rfl rfl (fun _ _ => rfl) (fun _ _ _ => rfl)) (fun _ _ => stg_mem [0, 1] 3 [8, 3, 2, 1] [] (fun v17 => []) rfl rfl (prs_cons (pri rfl (p_loadA t48 rfl rfl rfl (g_all (k := 1) rfl))) (prs_cons (pri rfl (p_loadA t48 rfl rfl rfl (g_all (k := 1) rfl))) prs_nil)) rfl rfl rfl rfl rfl rfl rfl rfl rfl rfl rfl (fun _ _ => rfl) rfl (ms_call (xs := [.const (.string (ByteArray.mk #[42])), .tmp 15, .tmp 16]) (binary_spec9 oMul tIn (tNum 2)) cb26 [] [] [17] [] rfl rfl rfl rfl rfl rfl rfl rfl (fun _ _ => rfl) (fun _ _ _ => rfl)) (fun v17 _ => stg_mem [0] 4 [8, 4, 3, 2, 1, 0] [] (fun v18 => []) rfl rfl (prs_cons (pri rfl (p_loadA t48 rfl rfl rfl (g_all (k := 1) rfl))) prs_nil) rfl rfl rfl rfl rfl rfl rfl rfl rfl rfl rfl (fun _ _ => rfl) rfl (ms_call (xs := [.const (.string (ByteArray.mk #[45])), .tmp 14, .tmp 17]) (binary_spec9 oSub tIn (tBin oMul v17 tIn (tNum 2))) cb26 [] [] [18] [] rfl rfl rfl rfl rfl rfl rfl rfl (fun _ _ => rfl) (fun _ _ _ => rfl)) (fun v18 _ => stg_mem [] 5 [8, 5, 4, 3, 2, 1, 0] [] (fun v19 => []) rfl rfl prs_nil rfl rfl rfl rfl rfl rfl rfl rfl rfl rfl rfl (fun _ _ => rfl) rfl (ms_call (xs := [.tmp 18]) (output_spec (tBin oSub v18 tIn (tBin oMul v17 tIn (tNum 2)))) cb19 [] [] [19] [] rfl rfl rfl rfl rfl rfl rfl rfl (fun _ _ => rfl) (fun _ _ _ => rfl)) (fun v19 _ => stg_mem [] 6 [8, 6, 5, 4, 3, 2, 1, 0] [] (fun v20 => []) rfl rfl prs_nil rfl rfl rfl rfl rfl rfl rfl rfl rfl rfl rfl (fun _ _ => rfl) rfl (ms_bslice1 eTy (yOut v19 (tBin oSub v18 tIn (tBin oMul v17 tIn (tNum 2)))) Tryz.underlying51 t53 rfl (by decide) (by decide) rfl rfl rfl) (fun v20 _ => stg_mem [] 7 [8, 7, 6, 5, 4, 3, 2, 1, 0] [] (fun v21 => []) rfl rfl prs_nil rfl rfl rfl rfl rfl rfl rfl rfl rfl rfl rfl (fun _ _ => rfl) rfl (ms_call (xs := [.tmp 20]) (main_spec v20 [yOut v19 (tBin oSub v18 tIn (tBin oMul v17 tIn (tNum 2)))]) cb18 [] [] [21] [] rfl rfl rfl rfl rfl rfl rfl rfl (fun _ _ => rfl) (fun _ _ _ => rfl)) (fun v21 _ => stg_mem0 [] 9 [9, 8, 7, 6, 5, 4, 3, 2, 1, 0] [] (fun _ => []) rfl rfl prs_nil rfl rfl rfl rfl rfl rfl rfl rfl rfl (fun _ _ => rfl) rfl (ms_store_all (k := 2) t29 rfl rfl rfl rfl rfl rfl) (fun _ _ => stg_end [] rfl rfl prs_nil rfl rfl rfl ?_))))))))) nx_nil)))
  ·refine r_collect 50 [17, 18, 19, 20, 21] rfl sf1_all ?_
   refine r_here ⟨v17, v18, v19, v20, v21, b2⟩ trivial rfl rfl rfl
  ·refine r_collect 50 [17, 18, 19, 20, 21] rfl sf1_all ?_
   refine r_here ⟨v17, v18, v19, v20, v21, b2⟩ trivial rfl rfl rfl
  ·refine r_collect 50 [17, 18, 19, 20, 21] rfl sf1_all ?_
   refine r_here ⟨v17, v18, v19, v20, v21, b2⟩ trivial rfl rfl rfl
  ·refine r_collect 50 [17, 18, 19, 20, 21] rfl sf1_all ?_
   refine r_here ⟨v17, v18, v19, v20, v21, b2⟩ trivial rfl rfl rfl
  ·refine r_collect 50 [17, 18, 19, 20, 21] rfl sf1_all ?_
   refine r_here ⟨v17, v18, v19, v20, v21, b2⟩ trivial rfl rfl rfl
  ·refine r_collect 50 [17, 18, 19, 20, 21] rfl sf1_all ?_
   refine r_here ⟨v17, v18, v19, v20, v21, b2⟩ trivial rfl rfl rfl
  ·refine r_collect 50 [17, 18, 19, 20, 21] rfl sf1_all ?_
   refine r_here ⟨v17, v18, v19, v20, v21, b2⟩ trivial rfl rfl rfl
 ·obtain ⟨v17, v18, v19, v20, v21, b2⟩ := y
  dsimp only
  refine r_seq (r_region ?_)
  refine r_p (p_loadA t29 rfl rfl rfl (g_all (k := 2) rfl)) rfl ?_
  refine r_bslice eU [7, 5] (parts := [(0, .const (.int .u32 7)), (1, .const (.int .u32 5))]) Tryz.underlying23 t36 rfl (by decide) (by intro _; rfl) rfl (by decide) (by decide) rfl rfl rfl rfl fun v24 => ?_
  refine r_freeze 24 90 rfl own_to_sl ?_
  refine r_freeze 50 91 rfl (fun _ _ h => h) ?_
  refine r_call (xs := [.tmp 23, .tmp 24, .const (.int .i64 100)]) (run_spec v21 v24 (sf1 v17 v18 v19 v20) [7, 5] 100 (sf1_gp v17 v18 v19 v20) (by intro x hx; simp only [List.mem_cons, List.not_mem_nil, or_false] at hx; rcases hx with rfl | rfl <;> decide) (by simp) (by decide) _ (sf1_run v17 v18 v19 v20)) cb15 [] [(false, 91), (false, 90)] [60, 61] [] rfl rfl rfl rfl rfl rfl rfl rfl (fun _ _ => rfl) (fun _ _ _ => rfl) rfl (fun ⟨ra, rb⟩ _ => ?_)
  refine r_freeze 60 92 rfl own_to_sl ?_
  refine r_p (p_move rfl) rfl ?_
  refine r_p (p_extract rfl rfl) rfl ?_
  refine r_p (p_extract rfl rfl) rfl ?_
  refine r_p (p_extract rfl rfl) rfl ?_
  refine r_p (p_assign rfl) rfl (r_p (p_assign rfl) rfl (r_p (p_assign rfl) rfl (r_nil (r_seq (r_region ?_)))))
  refine r_call (xs := [.const (.int .u32 3)]) (loop_spec 3) cb27 [] [] [51] [] rfl rfl rfl rfl rfl rfl rfl rfl (fun _ _ => rfl) (fun _ _ _ => rfl) rfl (fun lv _ => ?_)
  obtain ⟨mem3, hm3, hr3⟩ := lp3_run lv
  refine r_nilsl 93 (α := Int) (s := 1) (enc := eU) ?_
  refine r_call (xs := [.tmp 30, .const (.slice Option.none 0 0), .const (.int .i64 100)]) (run_spec lv.v7 nilS (lv.p 3) [] 100 (lp_gp (by decide) lv) (by simp) (by simp) (by decide) _ hr3) cb15 [] [(true, 51), (false, 93)] [62, 63] [] rfl rfl rfl rfl rfl rfl rfl rfl (fun _ _ => rfl) (fun _ _ _ => rfl) rfl (fun ⟨rc, rd⟩ _ => ?_)
  refine r_freeze 62 94 rfl own_to_sl ?_
  refine r_p (p_move rfl) rfl ?_
  refine r_p (p_extract rfl rfl) rfl ?_
  refine r_p (p_extract rfl rfl) rfl ?_
  refine r_p (p_extract rfl rfl) rfl ?_
  refine r_p (p_assign rfl) rfl (r_p (p_assign rfl) rfl (r_p (p_assign rfl) rfl (r_nil (r_seq (r_region ?_)))))
  refine r_call (xs := [.const (.string (ByteArray.mk #[37])), .const (.int .u32 7), .const (.int .u32 0)]) (binary_spec oRem 7 0 (by decide) (by decide)) cb28 [] [] [] [] rfl rfl rfl rfl rfl rfl rfl rfl (fun _ _ => rfl) (fun _ _ _ => rfl) rfl (fun _ _ => ?_)
  refine r_p (p_move rfl) rfl ?_
  refine r_p (p_extract rfl rfl) rfl ?_
  refine r_p (p_extract rfl rfl) rfl ?_
  refine r_p (p_assign rfl) rfl (r_p (p_assign rfl) rfl (r_nil (r_seq (r_region ?_))))
  refine r_call (xs := [.const (.string (ByteArray.mk #[43])), .const (.int .u32 1)]) (unary_spec oAdd 1 (by decide)) cb29 [] [] [] [] rfl rfl rfl rfl rfl rfl rfl rfl (fun _ _ => rfl) (fun _ _ _ => rfl) rfl (fun _ _ => ?_)
  refine r_p (p_move rfl) rfl ?_
  refine r_p (p_extract rfl rfl) rfl ?_
  refine r_p (p_extract rfl rfl) rfl ?_
  refine r_p (p_assign rfl) rfl (r_p (p_assign rfl) rfl (r_nil (r_seq (r_region (r_p (p_move rfl) rfl ?_)))))
  refine r_p (p_bin rfl rfl b_eq) rfl ?_
  refine r_p (p_move rfl) rfl ?_
  refine r_split (t := 45) rfl (fun h1 => ?_) (fun h1 => False.elim (by simp at h1))
  refine r_gyes rfl rfl ?_
  refine r_p (p_move rfl) rfl ?_
  refine r_gyes rfl rfl ?_
  refine r_bslice1 eU 4294967293 Tryz.underlying23 t36 rfl (by decide) (by decide) rfl rfl rfl rfl fun v47 => ?_
  refine r_gyes rfl rfl ?_
  refine r_freeze 47 95 rfl own_to_sl ?_
  refine r_call (xs := [.tmp 46, .tmp 47]) (rwords_spec ra v47 [4294967293] [4294967293] (by decide)) cb16 [] [(false, 92), (false, 95)] [] [] rfl rfl rfl rfl rfl rfl rfl rfl (fun _ _ => rfl) (fun _ _ _ => rfl) rfl (fun _ _ => ?_)
  refine r_p (p_pick rfl rfl rfl (by first | exact pick_and | exact pick_or |  rfl)) rfl ?_
  refine r_p (p_move rfl) rfl ?_
  refine r_split (t := 50) rfl (fun h2 => ?_) (fun h2 => False.elim (by simp at h2))
  refine r_gyes rfl rfl ?_
  refine r_p (p_move rfl) rfl ?_
  refine r_gyes rfl rfl ?_
  refine r_p (p_bin rfl rfl b_eq) rfl ?_
  refine r_p (p_pick rfl rfl rfl (by first | exact pick_and | exact pick_or |  rfl)) rfl ?_
  refine r_p (p_move rfl) rfl ?_
  refine r_split (t := 54) rfl (fun h3 => ?_) (fun h3 => False.elim (by simp at h3))
  refine r_gyes rfl rfl ?_
  refine r_p (p_move rfl) rfl ?_
  refine r_gyes rfl rfl ?_
  refine r_bslice eU [3, 2, 1] (parts := [(0, .const (.int .u32 3)), (1, .const (.int .u32 2)), (2, .const (.int .u32 1))]) Tryz.underlying23 t36 rfl (by decide) (by intro _; rfl) rfl (by decide) (by decide) rfl rfl rfl rfl fun v56 => ?_
  refine r_gyes rfl rfl ?_
  refine r_freeze 56 96 rfl own_to_sl ?_
  refine r_call (xs := [.tmp 55, .tmp 56]) (rwords_spec rc v56 [3, 2, 1] [3, 2, 1] (by decide)) cb16 [] [(false, 94), (false, 96)] [] [] rfl rfl rfl rfl rfl rfl rfl rfl (fun _ _ => rfl) (fun _ _ _ => rfl) rfl (fun _ _ => ?_)
  refine r_p (p_pick rfl rfl rfl (by first | exact pick_and | exact pick_or |  rfl)) rfl ?_
  refine r_p (p_move rfl) rfl ?_
  refine r_gp [] rfl rfl trivial (fun hg4 => p_move rfl) rfl ?_
  refine r_gp [(60, _)] rfl rfl ⟨rfl, trivial⟩ (fun hg5 => p_len_sl Tryz.underlying23 rfl (hs_own (k := 63) rfl)) rfl ?_
  refine r_gp [(60, _), (61, _)] rfl rfl ⟨rfl, rfl, trivial⟩ (fun hg6 => p_bin rfl rfl b_eq) rfl ?_
  refine r_p (p_pick rfl rfl rfl (by first | exact pick_and | exact pick_or |  rfl)) rfl ?_
  refine r_p (p_move rfl) rfl ?_
  refine r_gp [] rfl rfl trivial (fun hg7 => p_move rfl) rfl ?_
  refine r_gp [(65, _)] rfl rfl ⟨rfl, trivial⟩ (fun hg8 => p_bin rfl rfl b_eq) rfl ?_
  refine r_p (p_pick rfl rfl rfl (by first | exact pick_and | exact pick_or |  rfl)) rfl ?_
  refine r_p (p_move rfl) rfl ?_
  refine r_gp [] rfl rfl trivial (fun hg9 => p_move rfl) rfl ?_
  refine r_p (p_pick rfl rfl rfl (by first | exact pick_and | exact pick_or |  rfl)) rfl ?_
  refine r_p (p_move rfl) rfl ?_
  refine r_gp [] rfl rfl trivial (fun hg10 => p_move rfl) rfl ?_
  refine r_gp [(72, _)] rfl rfl ⟨rfl, trivial⟩ (fun hg11 => p_not rfl) rfl ?_
  refine r_p (p_pick rfl rfl rfl (by first | exact pick_and | exact pick_or |  rfl)) rfl ?_
  refine r_p (p_assign rfl) rfl (r_nil (r_cret ?_))
  refine r_ret () trivial rfl (rs1 (rv_tmp rfl)) (congrArg Value.bool (by dsimp only; rw [hm3]; rfl)) [] [] rfl rfl rfl
section
variable {v1 v2 v3 v4 v5 : SV} {fs : List Tf} {d : Nat}
end
/-- Trees without addresses. -/
inductive Px where
 | mk (kind n : Int) (name : ByteArray) (kids : List Px)
inductive Py where
 | mk (kind : Int) (name : ByteArray) (es : List Px) (body els : List Py)
structure Pf where
 name : ByteArray
 ps : List ByteArray
 body : List Py
mutual
def erX : Tx → Px
 | .mk k n nm _ kids => .mk k n nm (erXs kids)
def erXs : List Tx → List Px
 | [] => []
 | t :: r => erX t :: erXs r
end
mutual
def erY : Ty → Py
 | .mk k nm _ es _ body _ els => .mk k nm (erXs es) (erYs body) (erYs els)
def erYs : List Ty → List Py
 | [] => []
 | t :: r => erY t :: erYs r
end
def erF (f : Tf) : Pf := ⟨f.name, f.ps, erYs f.body⟩
theorem erXs_app : ∀ a b : List Tx, erXs (a ++ b) = erXs a ++ erXs b
 | [], b => by simp [erXs]
 | t :: r, b => by simp [erXs, erXs_app r b]
theorem erYs_app : ∀ a b : List Ty, erYs (a ++ b) = erYs a ++ erYs b
 | [], b => by simp [erYs]
 | t :: r, b => by simp [erYs, erYs_app r b]
/-- What does not change while a function is grown: the numbers, the function's place, the functions' names and parameters. -/
structure Gc where
 l : List Int
 me : Nat
 fs : List (ByteArray × List ByteArray)
/-- What changes. -/
structure Gs where
 at_ : Nat
 left : Int
 nodes : Int
 vars : Int
 names : List ByteArray
def imod (n m : Int) : Int := ((n.tmod m) + m).tmod m
/-- The next number. -/
def gN (l : List Int) (n : Int) (s : Gs) : Int × Gs := match l[s.at_]? with
 | none => (0, s)
 | some x => (imod x n, { s with at_ := s.at_ + 1 })
def cL : List Int := [0, 1, 2, 3, 5, 8, 31, 32, 255, 256, 65535, 131072, 2147483647, 2147483648, 4294967295]
def biL : List ByteArray := [oAdd, oSub, oMul, oQuo, oRem, oAnd, oOr, oXor, oShl, oShr, oLt, oLe, oGt, oGe, oEq, oNe]
/-- What kind of expression is grown. -/
def gK (l : List Int) (d : Nat) (s : Gs) : Int × Gs :=
 let r := gN l 16 { s with nodes := IntKind.i64.wrap (s.nodes - 1) }
 (if d = 0 ∨ r.2.nodes < 1 then r.1 % 4 else r.1, r.2)
mutual
/-- An expression, at most d + 1 deep. -/
inductive GXr (c : Gc) : Nat → Gs → Px → Gs → Prop
 | nam {d : Nat} {s s1 s2 : Gs} {k j : Int} {x : ByteArray} (hk : gK c.l d s = (k, s1)) (h : k = 1 ∨ k = 2) (hn : 0 < s1.names.length) (hj : gN c.l (s1.names.length : Int) s1 = (j, s2)) (hx : s1.names[j.toNat]? = some x) : GXr c d s (.mk 2 0 x []) s2
 | inp {d : Nat} {s s1 : Gs} (hk : gK c.l d s = (3, s1)) : GXr c d s (.mk 5 0 oNil []) s1
 | mem {d : Nat} {s s1 s2 : Gs} {k : Int} {p : Px} (hk : gK c.l (d + 1) s = (k, s1)) (h : k = 4 ∨ k = 5) (hp : GXr c d s1 p s2) : GXr c (d + 1) s (.mk 4 0 oNil [p]) s2
 | una {d : Nat} {s s1 s2 s3 : Gs} {j : Int} {x : ByteArray} {p : Px} (hk : gK c.l (d + 1) s = (6, s1)) (hj : gN c.l 3 s1 = (j, s2)) (hx : unL[j.toNat]? = some x) (hp : GXr c d s2 p s3) : GXr c (d + 1) s (.mk 6 0 x [p]) s3
 | call {d : Nat} {s s1 s2 s3 : Gs} {j : Int} {f : ByteArray × List ByteArray} {ps : List Px} (hk : gK c.l (d + 1) s = (7, s1)) (h : c.me + 1 < c.fs.length) (hj : gN c.l ((c.fs.length : Int) - (c.me : Int) - 1) s1 = (j, s2)) (hx : c.fs[((c.me : Int) + 1 + j).toNat]? = some f) (hp : GKr c d f.2.length s2 ps s3) : GXr c (d + 1) s (.mk 3 0 f.1 ps) s3
 | bin {d : Nat} {s s1 s2 s3 s4 : Gs} {k j : Int} {x : ByteArray} {p q : Px} (hk : gK c.l (d + 1) s = (k, s1)) (h : 7 < k) (hj : gN c.l 16 s1 = (j, s2)) (hx : biL[j.toNat]? = some x) (hp : GXr c d s2 p s3) (hq : GXr c d s3 q s4) : GXr c (d + 1) s (.mk 7 0 x [p, q]) s4
 | con {d : Nat} {s s1 s2 : Gs} {k j : Int} {x : Int} (hk : gK c.l d s = (k, s1)) (h1 : ¬ ((k = 1 ∨ k = 2) ∧ 0 < s1.names.length)) (h3 : k ≠ 3) (h4 : k ≠ 4) (h5 : k ≠ 5) (h6 : k ≠ 6) (h7 : ¬ (k = 7 ∧ c.me + 1 < c.fs.length)) (h8 : ¬ 7 < k) (hj : gN c.l 15 s1 = (j, s2)) (hx : cL[j.toNat]? = some x) : GXr c d s (.mk 1 x oNil []) s2
/-- n expressions. -/
inductive GKr (c : Gc) : Nat → Nat → Gs → List Px → Gs → Prop
 | nil {d : Nat} {s : Gs} : GKr c d 0 s [] s
 | cons {d n : Nat} {s s1 s2 : Gs} {p : Px} {ps : List Px} (hp : GXr c d s p s1) (hq : GKr c d n s1 ps s2) : GKr c d (n + 1) s (p :: ps) s2
end
theorem GKr.snoc {c : Gc} {d : Nat} : ∀ {n : Nat} {s s1 s2 : Gs} {p : Px} {ps : List Px}, GKr c d n s ps s1 → GXr c d s1 p s2 → GKr c d (n + 1) s (ps ++ [p]) s2
 | 0, _, _, _, _, _, .nil, h2 => .cons h2 .nil
 | n + 1, _, _, _, _, _, .cons hp hq, h2 => .cons hp (GKr.snoc hq h2)
/-- A call. -/
def GCr (c : Gc) (d : Nat) (f : ByteArray × List ByteArray) (s : Gs) (p : Px) (s' : Gs) : Prop := ∃ ps, GKr c d f.2.length s ps s' ∧ p = .mk 3 0 f.1 ps
def freshL : List ByteArray := [⟨#[97]⟩, ⟨#[98]⟩, ⟨#[99]⟩, ⟨#[100]⟩, ⟨#[101]⟩, ⟨#[120, 49]⟩, ⟨#[121, 50]⟩, ⟨#[108, 111, 111, 112]⟩]
def pNum (n : Int) : Px := .mk 1 n oNil []
def pName (s : ByteArray) : Px := .mk 2 0 s []
/-- The statement that counts a loop's variable down. -/
def pDown (x : ByteArray) : Py := .mk 2 x [.mk 7 0 oSub [pName x, pNum 1]] [] []
mutual
/-- A block; e is how much deeper blocks may lie. -/
inductive GYr (c : Gc) : Nat → Gs → List Py → Gs → Prop
 | mk {e : Nat} {s s1 s2 : Gs} {j : Int} {o : List Py} (hj : gN c.l 5 s = (j, s1)) (h : GLr c e (1 + j).toNat s1 o s2) : GYr c e s o s2
/-- At most n statements. -/
inductive GLr (c : Gc) : Nat → Nat → Gs → List Py → Gs → Prop
 | zero {e : Nat} {s : Gs} : GLr c e 0 s [] s
 | stop {e n : Nat} {s : Gs} (h : s.left ≤ 0) : GLr c e n s [] s
 | step {e n : Nat} {s s1 s2 s3 : Gs} {k : Int} {o r : List Py} (h : 0 < s.left) (hk : gN c.l 12 { s with left := s.left - 1 } = (k, s1)) (h1 : G1r c e k s1 o s2) (h2 : GLr c e n s2 r s3) : GLr c e (n + 1) s (o ++ r) s3
/-- One statement of kind k. -/
inductive G1r (c : Gc) : Nat → Int → Gs → List Py → Gs → Prop
 | var {e : Nat} {s s1 : Gs} {k : Int} {x : ByteArray} {p : Px} (hk : k < 3) (hx : freshL[s.vars.toNat]? = some x) (hv : s.vars < 8) (hp : GXr c 3 { s with vars := s.vars + 1 } p s1) : G1r c e k s [.mk 1 x [p] [] []] { s1 with names := s1.names ++ [x] }
 | set {e : Nat} {s s1 s2 : Gs} {j : Int} {x : ByteArray} {p : Px} (hn : 0 < s.names.length) (hj : gN c.l (s.names.length : Int) s = (j, s1)) (hx : s.names[j.toNat]? = some x) (hp : GXr c 3 s1 p s2) : G1r c e 3 s [.mk 2 x [p] [] []] s2
 | put {e : Nat} {s s1 s2 : Gs} {k : Int} {p q : Px} (hk : k = 4 ∨ k = 5) (hp : GXr c 2 s p s1) (hq : GXr c 3 s1 q s2) : G1r c e k s [.mk 3 oNil [p, q] [] []] s2
 | iff1 {e : Nat} {s s1 s2 s3 s4 : Gs} {p : Px} {a b : List Py} (hp : GXr c 2 s p s1) (ha : GYr c e s1 a s2) (hj : gN c.l 2 s2 = (1, s3)) (hb : GYr c e s3 b s4) : G1r c (e + 1) 6 s [.mk 4 oNil [p] a b] s4
 | iff0 {e : Nat} {s s1 s2 s3 : Gs} {j : Int} {p : Px} {a : List Py} (hp : GXr c 2 s p s1) (ha : GYr c e s1 a s2) (hj : gN c.l 2 s2 = (j, s3)) (hb : j ≠ 1) : G1r c (e + 1) 6 s [.mk 4 oNil [p] a []] s3
 | whi {e : Nat} {s s1 s2 : Gs} {j : Int} {x : ByteArray} {a : List Py} (hx : freshL[s.vars.toNat]? = some x) (hv : s.vars < 8) (hj : gN c.l 5 { s with vars := s.vars + 1 } = (j, s1)) (ha : GYr c (e + 1) s1 a s2) : G1r c (e + 2) 7 s [.mk 1 x [pNum j] [] [], .mk 5 oNil [pName x] (a ++ [pDown x]) []] { s2 with names := s2.names ++ [x] }
 | ret {e : Nat} {s s1 s2 : Gs} {p : Px} (hj : gN c.l 3 s = (0, s1)) (hp : GXr c 3 s1 p s2) : G1r c e 8 s [.mk 6 oNil [p] [] []] s2
 | dos {e : Nat} {s s1 s2 s3 s4 : Gs} {j j2 : Int} {f : ByteArray × List ByteArray} {p : Px} (h : c.me + 1 < c.fs.length) (hj : gN c.l ((c.fs.length : Int) - (c.me : Int) - 1) s = (j, s1)) (hj2 : gN c.l 8 s1 = (j2, s2))
   (hf : (j2 ≠ 7 ∧ c.fs[((c.me : Int) + 1 + j).toNat]? = some f ∧ s3 = s2) ∨ (j2 = 7 ∧ ∃ j3, gN c.l ((c.fs.length : Int) - 1) s2 = (j3, s3) ∧ c.fs[(1 + j3).toNat]? = some f)) (hp : GCr c 1 f s3 p s4) : G1r c e 9 s [.mk 8 oNil [p] [] []] s4
 | out {e : Nat} {s s1 s2 : Gs} {k : Int} {p : Px} (h3 : ¬ (k < 3 ∧ s.vars < 8)) (hs : ¬ (k = 3 ∧ 0 < s.names.length)) (h4 : k ≠ 4) (h5 : k ≠ 5) (h6 : ¬ (k = 6 ∧ 1 ≤ e)) (h7 : ¬ (k = 7 ∧ 2 ≤ e ∧ s.vars < 8)) (h8 : (k ≠ 8 ∧ s1 = s) ∨ (k = 8 ∧ ∃ j, j ≠ 0 ∧ gN c.l 3 s = (j, s1))) (h9 : ¬ (k = 9 ∧ c.me + 1 < c.fs.length)) (hp : GXr c 3 s1 p s2) : G1r c e k s [.mk 7 oNil [p] [] []] s2
end
theorem imod_bd {x n : Int} (hn : 0 < n) : 0 ≤ imod x n ∧ imod x n < n := by
 unfold imod
 have h1 := Int.tmod_lt_of_pos x hn
 have h2 := Int.tmod_lt_of_pos (-x) hn
 rw [Int.neg_tmod] at h2
 have h3 : 0 ≤ x.tmod n + n := by omega
 rw [Int.tmod_eq_emod_of_nonneg h3]
 exact ⟨Int.emod_nonneg _ (by omega), Int.emod_lt_of_pos _ hn⟩
theorem gN_bd {l : List Int} {n j : Int} {s s1 : Gs} (hn : 0 < n) (h : gN l n s = (j, s1)) : 0 ≤ j ∧ j < n := by
 unfold gN at h
 split at h
 ·cases h; exact ⟨Int.le_refl _, hn⟩
 ·cases h; exact imod_bd hn
theorem gN_st {l : List Int} {n j : Int} {s s1 : Gs} (h : gN l n s = (j, s1)) : s1 = { s with at_ := s1.at_ } ∧ (s.at_ ≤ l.length → s1.at_ ≤ l.length) := by
 unfold gN at h
 split at h
 ·cases h; exact ⟨rfl, fun h => h⟩
 ·rename_i x hx
  cases h
  exact ⟨rfl, fun _ => (List.getElem?_eq_some_iff.1 hx).1⟩
section
variable {P : Program} {N : Nat} {w0 : World} {M H : Nat → Prop} {E : Env} {Γ R : Ctx} {Q : Exit → Act → World → Prop}
theorem stg_last {l : List Oper} {V : Vals} {C : List Nat} (is : List Nat) {I : Vals} (c : Nat) (C' : List Nat) {d : Nat} {v : Value} {op : Op} {T : TypeId} {ps : String} {af : Array Edge} (hI0 : vpick is V = I) (hst : stOk N E V = true) (hI : PRs P N w0 M H E Γ R l V I) (hcov : covOk V is C = true)
  (hcls : clsOk l (vidx V ++ C) (some c) = true) (ho : l[c]? = some ⟨some d, op, T, ps, af, none⟩) (hd : Nat.blt d N = true) (hcV : inB (vidx V ++ C) c = false)
  (hcl : clOk l C c [] C' = true) (hall : (List.range l.length).all (fun i => inB C' i) = true) (hlt : (vidx V).all (fun i => Nat.blt i l.length) = true) (hpr : PR P N w0 M H (vpre (preds ⟨some d, op, T, ps, af, none⟩) V ++ E) Γ R op v)
  (k : At N w0 M H ((d, v) :: (venv V ++ E)) Γ R (Q .normal)) : Stg P N w0 M H E Γ R l Q V C := by
 refine stg_step is hI0 hst hI hcov (some c) hcls (fun D a w hD hS => ?_) fun k' hk' ord D a w o' hio hDk hprd hrest hS => ?_
 ·have := hS.done c (hD c (List.getElem?_eq_some_iff.1 ho).1)
  rw [mem_inB this] at hcV
  cases hcV
 ·injection hk' with hk'
  subst hk'
  rw [ho] at hio
  injection hio with hio
  subst hio
  have ho' : l.toArray[c]? = some ⟨some d, op, T, ps, af, none⟩ := by simpa using ho
  have hclosed : ∀ (j : Nat) (o' : Oper), l[j]? = some o' → (bif Nat.beq j c then true else D j) = true → ∀ k ∈ preds o', (bif Nat.beq k c then true else D k) = true := by
   intro j o' hoj hj q hq
   cases hb : Nat.beq j c with
   | true =>
    have := Nat.eq_of_beq_eq_true hb
    subst this
    rw [ho] at hoj
    injection hoj with hoj
    subst hoj
    simp [hprd q hq]
   | false => rw [hb] at hj; simp [hS.closed j o' hoj hj q hq]
  have hdone : ∀ i, i < l.length → (bif Nat.beq i c then true else D i) = true := fun i hi =>
   clOk_done (D := fun i => bif Nat.beq i c then true else D i) (fun i hi => by simp [hS.sure i hi]) (by simp) hclosed C' [] hcl (fun s hs => by simp at hs) i (inB_mem (List.all_eq_true.1 hall i (List.mem_range.2 hi)))
  cases hrest with
  | cons ho2 hD2 _ _ =>
   dsimp only at hD2
   rw [hdone _ (List.getElem?_eq_some_iff.1 ho2).1] at hD2
   cases hD2
  | nil h =>
   simp only [wpOps, ho']
   rw [if_pos (by simp [Region.wanted])]
   left
   have hEp : EOk N (vpre (preds ⟨some d, op, T, ps, af, none⟩) V ++ E) a := hS.base.vpre fun j d v hj hjp => hS.vals j d v hj (hprd j hjp)
   unfold Oper.wp
   rw [hpr _ _ _ a w hEp hS.ok _ _]
   have hEv : EOk N (venv V ++ E) a := hS.base.vals fun i e u hm => hS.vals i e u hm (by
    have h1 : i ∈ vidx V := vidx_mem.2 ⟨e, u, hm⟩
    have h2 : Nat.blt i l.length = true := List.all_eq_true.1 hlt i h1
    have h3 := hdone i (by simpa using h2)
    cases hb : Nat.beq i c with
    | true =>
     have := Nat.eq_of_beq_eq_true hb
     subst this
     rw [mem_inB (List.mem_append_left _ h1)] at hcV
     cases hcV
    | false => rw [hb] at h3; exact h3)
   exact k _ _ (hEv.put hd v) hS.ok
end
/-- The grower's cells. -/
def gRow (vl : SV) (s : Gs) (vn : SV) (me : Nat) (vf : SV) : List Value := [sv vl, .int .i64 (s.at_ : Int), .int .i64 s.left, .int .i64 s.nodes, sv vn, .int .i64 s.vars, .int .i64 (me : Int), sv vf]
theorem gN_none {l : List Int} {n : Int} {s : Gs} (h : l.length ≤ s.at_) : gN l n s = (0, s) := by
 unfold gN
 rw [List.getElem?_eq_none h]
theorem gN_some {l : List Int} {n x : Int} {s : Gs} (h : l[s.at_]? = some x) : gN l n s = (imod x n, { s with at_ := s.at_ + 1 }) := by
 unfold gN
 rw [h]
theorem tm_bd (x : Int) {m : Int} (hm : 0 < m) : -m < x.tmod m ∧ x.tmod m < m := by
 have h1 := Int.tmod_lt_of_pos x hm
 have h2 := Int.tmod_lt_of_pos (-x) hm
 rw [Int.neg_tmod] at h2
 omega
set_option maxRecDepth 100000 in
theorem mod_spec (n m : Int) (hm : 0 < m ∧ m ≤ 1000000) :
  Spec Tryz.prog 34 [.int .i64 n, .int .i64 m] [] [] (X := Unit) (fun _ => True) (fun _ => .int .i64 (imod n m)) (fun _ => []) (fun _ => []) := by
 refine r_enter Tryz.func34 rfl Tryz.ntmps34 rfl fun w0 M H => ?_
 refine r_seq (r_region (r_p (p_assign rfl) rfl (r_nil (r_seq (r_region (r_p (p_move rfl) rfl (r_p (p_move rfl) rfl ?_)))))))
 refine r_p (p_bin rfl rfl (b_rem (by omega) rfl)) rfl ?_
 refine r_p (p_move rfl) rfl ?_
 refine r_p (p_bin rfl rfl (b_add (by have := tm_bd n hm.1; exact w_i64 (by omega) (by omega)))) rfl ?_
 refine r_p (p_move rfl) rfl ?_
 refine r_p (p_bin rfl rfl (b_rem (by omega) rfl)) rfl ?_
 refine r_p (p_assign rfl) rfl (r_nil (r_cret ?_))
 refine r_ret () trivial rfl (rs1 (rv_tmp rfl)) rfl [] [] rfl rfl rfl
set_option maxHeartbeats 1000000 in
set_option maxRecDepth 100000 in
theorem gnext_spec (g : Nat) (vl vn vf : SV) (c : Gc) (hl : c.l.length ≤ 1000) (hlo : ∀ x ∈ c.l, okI x) (n : Int) (hn : 0 < n ∧ n ≤ 1000000) (s : Gs) :
  Spec Tryz.prog 31 [.pointer (some ⟨g, 0, none⟩), .int .i64 n] [row g 76 (gRow vl (s) vn c.me vf)] [sl 1 eI (sv vl) c.l] (X := Unit) (fun _ => True) (fun _ => .int .i64 (gN c.l n s).1) (fun _ => [row g 76 (gRow vl ((gN c.l n s).2) vn c.me vf)]) (fun _ => []) := by
 refine r_enter Tryz.func31 rfl Tryz.ntmps31 rfl fun w0 M H => ?_
 refine r_seq (r_region (r_p (p_assign rfl) rfl (r_nil (r_seq (r_seq ?_)))))
 refine r_draw [5, 6, 7, 8, 9, 10, 11, 12, 13, 14] _ rfl (stg_end (V := [(0, 5, _), (1, 6, _), (2, 7, _), (3, 8, _), (4, 9, _), (5, 10, _), (6, 11, _), (7, 12, _), (8, 13, _), (9, 14, _)]) [0, 1, 2, 3, 4, 5, 6, 7, 8, 9] rfl rfl (prs_cons (pri rfl (p_move rfl)) (prs_cons (pri rfl (p_nilCheck rfl)) (prs_cons (pri rfl (p_field0 fo76_1 rfl)) (prs_cons (pri rfl (p_load1 t3 rfl rfl (g_row1 (k := 0) rfl rfl))) (prs_cons (pri rfl (p_move rfl)) (prs_cons (pri rfl (p_nilCheck rfl)) (prs_cons (pri rfl (p_field0 fo76_0 rfl)) (prs_cons (pri rfl (p_load1 t22 rfl rfl (g_row1 (k := 0) rfl rfl))) (prs_cons (pri rfl (p_len_sl Tryz.underlying22 rfl (hs_sl (k := 0) rfl))) (prs_cons (pri rfl (p_bin rfl rfl b_ge)) prs_nil)))))))))) rfl rfl rfl ?_)
 refine r_cond rfl (fun h1 => ?_) (fun h1 => ?_)
 ·(try simp only [decide_eq_true_eq, decide_eq_false_iff_not, Bool.and_eq_true, Bool.or_eq_true, Bool.and_eq_false_iff, Bool.or_eq_false_iff, Bool.not_eq_true, Bool.not_eq_false, Bool.not_eq_true', Bool.not_eq_false', Bool.not_not, bne_iff_ne, beq_iff_eq] at h1)
  rw [gN_none (by omega)]
  refine r_seq (r_region (r_p (p_assign rfl) rfl (r_nil (r_cret ?_))))
  refine r_ret () trivial rfl (rs1 (rv_tmp rfl)) rfl [0] [] rfl rfl rfl
 ·(try simp only [decide_eq_true_eq, decide_eq_false_iff_not, Bool.and_eq_true, Bool.or_eq_true, Bool.and_eq_false_iff, Bool.or_eq_false_iff, Bool.not_eq_true, Bool.not_eq_false, Bool.not_eq_true', Bool.not_eq_false', Bool.not_not, bne_iff_ne, beq_iff_eq] at h1)
  have hlt : s.at_ < c.l.length := by omega
  obtain ⟨x, hx⟩ : ∃ x, c.l[s.at_]? = some x := ⟨_, List.getElem?_eq_getElem hlt⟩
  rw [gN_some hx]
  refine r_skip (r_seq (r_region (r_p (p_move rfl) rfl (r_p (p_nilCheck rfl) rfl ?_))))
  refine r_p (p_field0 fo76_1 rfl) rfl ?_
  refine r_p (p_load1 t3 rfl rfl (g_row1 (k := 0) rfl rfl)) rfl ?_
  refine r_p (p_bin rfl rfl (b_add (by first | exact w_i64 (by omega) (by omega) | rfl))) rfl ?_
  refine r_p (p_nilCheck rfl) rfl ?_
  refine r_p (p_field0 fo76_1 rfl) rfl ?_
  refine r_store_row (k := 0) t3 rfl rfl rfl rfl rfl rfl rfl rfl ?_
  refine r_nil (r_seq ?_)
  refine r_draw [22, 23, 24, 25, 26, 27, 28, 29, 30, 31, 32, 33, 34, 4] _ rfl (stg_mem (V := [(0, 22, _), (1, 23, _), (2, 24, _), (3, 25, _), (4, 26, _), (5, 27, _), (6, 28, _), (7, 29, _), (8, 30, _), (9, 31, _), (10, 32, _), (11, 33, _)]) [0, 1, 2, 3, 4, 5, 6, 7, 8, 9, 10, 11] 12 [12, 11, 10, 9, 8, 7, 6, 5, 4, 3, 2, 1, 0] [13] (fun _ => [(13, 4, _)]) rfl rfl (prs_cons (pri rfl (p_move rfl)) (prs_cons (pri rfl (p_nilCheck rfl)) (prs_cons (pri rfl (p_field0 fo76_0 rfl)) (prs_cons (pri rfl (p_load1 t22 rfl rfl (g_row1 (k := 0) rfl rfl))) (prs_cons (pri rfl (p_move rfl)) (prs_cons (pri rfl (p_nilCheck rfl)) (prs_cons (pri rfl (p_field0 fo76_1 rfl)) (prs_cons (pri rfl (p_load1 t3 rfl rfl (g_row1 (k := 0) rfl rfl))) (prs_cons (pri rfl (p_bin rfl rfl (b_sub (c := (s.at_ : Int)) (by rw [show (s.at_ : Int) + 1 - 1 = (s.at_ : Int) by omega]; exact w_i64 (by omega) (by omega))))) (prs_cons (pri rfl (p_idx_sl (j := s.at_) Tryz.underlying22 t3 rfl rfl (hs_sl (k := 0) rfl) (by omega) hlt)) (prs_cons (pri rfl (p_load1 t3 rfl rfl (g_el' (hs_sl (k := 0) rfl) (by intro _; rfl) hx (by rfl)))) (prs_cons (pri rfl (p_move rfl)) prs_nil)))))))))))) rfl rfl rfl rfl rfl rfl rfl rfl rfl rfl rfl (fun _ _ => rfl) rfl (ms_callN (xs := [.tmp 32, .tmp 33]) (mod_spec x n hn) cb34 [] [] [] rfl rfl rfl rfl rfl rfl rfl rfl (fun _ _ => rfl) (fun _ _ _ => rfl)) (fun _ _ => stg_end [13] rfl rfl (prs_cons (pri rfl (p_assign rfl)) prs_nil) rfl rfl rfl ?_))
  refine r_cret ?_
  refine r_ret () trivial rfl (rs1 (rv_tmp rfl)) rfl [0] [] rfl rfl rfl
theorem gN_idx {l : List Int} {α : Type} {L : List α} {n : Int} (hn : 0 < n) (hL : n = (L.length : Int)) (s : Gs) : ∃ x, L[(gN l n s).1.toNat]? = some x ∧ (gN l n s).1.toNat < L.length ∧ (gN l n s).1 = ((gN l n s).1.toNat : Int) := by
 have h := gN_bd (l := l) (s := s) (j := (gN l n s).1) (s1 := (gN l n s).2) hn rfl
 have h2 : (gN l n s).1.toNat < L.length := by omega
 exact ⟨_, List.getElem?_eq_getElem h2, h2, by omega⟩
set_option maxHeartbeats 1000000 in
set_option maxRecDepth 100000 in
theorem gconst_spec (g : Nat) (vl vn vf : SV) (c : Gc) (hl : c.l.length ≤ 1000) (hlo : ∀ x ∈ c.l, okI x) (s : Gs) :
  Spec Tryz.prog 86 [.pointer (some ⟨g, 0, none⟩)] [row g 76 (gRow vl (s) vn c.me vf)] [sl 1 eI (sv vl) c.l] (X := Int) (fun x => cL[(gN c.l 15 s).1.toNat]? = some x) (fun x => xV (tNum x)) (fun _ => [row g 76 (gRow vl ((gN c.l 15 s).2) vn c.me vf)]) (fun _ => []) := by
 refine r_enter Tryz.func86 rfl Tryz.ntmps86 rfl fun w0 M H => ?_
 refine r_seq (r_region ?_)
 refine r_alloc t48 rfl rfl fun b2 => ?_
 refine r_nil (r_seq (r_region ?_))
 refine r_bslice eU cL (parts := [(0, .const (.int .u32 0)), (1, .const (.int .u32 1)), (2, .const (.int .u32 2)), (3, .const (.int .u32 3)), (4, .const (.int .u32 5)), (5, .const (.int .u32 8)), (6, .const (.int .u32 31)), (7, .const (.int .u32 32)), (8, .const (.int .u32 255)), (9, .const (.int .u32 256)), (10, .const (.int .u32 65535)), (11, .const (.int .u32 131072)), (12, .const (.int .u32 2147483647)), (13, .const (.int .u32 2147483648)), (14, .const (.int .u32 4294967295))]) Tryz.underlying23 t36 rfl (by decide) (by intro _; rfl) rfl (by decide) (by decide) rfl rfl rfl rfl fun v4 => ?_
 refine r_p (p_assign rfl) rfl (r_nil (r_seq (r_region (r_p (p_move rfl) rfl (r_p (p_move rfl) rfl (r_p (p_move rfl) rfl ?_))))))
 refine r_p (p_len_sl Tryz.underlying23 rfl (hs_own (k := 4) rfl)) rfl ?_
 refine r_callN (xs := [.tmp 6, .tmp 8]) (gnext_spec g vl vn vf c hl hlo 15 (by decide) s) cb31 [0] [(false, 0)] [0] rfl rfl rfl rfl rfl rfl rfl rfl (fun _ _ => rfl) (fun _ _ _ => rfl) rfl (fun _ _ => ?_)
 obtain ⟨x, hx, hj1, hj2⟩ := gN_idx (l := c.l) (L := cL) (n := 15) (by decide) rfl s
 refine r_p (p_idx_sl (j := (gN c.l 15 s).1.toNat) Tryz.underlying23 t36 rfl rfl (hs_own (k := 4) rfl) hj2 hj1) rfl ?_
 refine r_p (p_load1 t36 rfl rfl (g_el' (hs_own (k := 4) rfl) (by intro _; rfl) hx (by rfl))) rfl ?_
 refine r_p (p_build (parts := [(0, .const (.int .i64 1)), (1, .tmp 11)]) t48 pl48 rfl rfl) rfl ?_
 refine r_store_all (k := 2) t48 rfl rfl rfl rfl rfl rfl ?_
 refine r_nil (r_cret ?_)
 refine r_ret x hx rfl (rs1 (rv_cellA t48 rfl rfl rfl (g_all (k := 2) rfl))) rfl [0] [] rfl rfl rfl
theorem gN_keep (l : List Int) (n : Int) (s : Gs) : (gN l n s).2.names = s.names ∧ (gN l n s).2.left = s.left ∧ (gN l n s).2.vars = s.vars := by
 have h := (gN_st (l := l) (n := n) (s := s) (j := (gN l n s).1) (s1 := (gN l n s).2) (by exact Prod.eta _)).1
 rw [h]
 exact ⟨rfl, rfl, rfl⟩
theorem gN_bnd (l : List Int) {n : Int} (hn : 0 < n) (s : Gs) : 0 ≤ (gN l n s).1 ∧ (gN l n s).1 < n := gN_bd (j := (gN l n s).1) (s1 := (gN l n s).2) hn (by exact Prod.eta _)
theorem gN_st2 {l : List Int} {n j : Int} {s s1 : Gs} (h : gN l n s = (j, s1)) : s1.names = s.names ∧ s1.left = s.left ∧ s1.vars = s.vars := by
 rw [(gN_st h).1]
 exact ⟨rfl, rfl, rfl⟩
theorem gK_st {l : List Int} {d : Nat} {s s1 : Gs} {k : Int} (h : gK l d s = (k, s1)) : s1.names = s.names ∧ s1.left = s.left ∧ s1.vars = s.vars := by
 unfold gK at h
 have h2 : (gN l 16 { s with nodes := IntKind.i64.wrap (s.nodes - 1) }).2 = s1 := congrArg Prod.snd h
 have h3 := gN_keep l 16 { s with nodes := IntKind.i64.wrap (s.nodes - 1) }
 rw [h2] at h3
 exact h3
theorem tx_up {w : World} {F G : Nat → Prop} {t : Tx} (h : (txsA t.v t.kids).pred w G) (hs : ∀ b, G b → F b) : TxIn w F t := by
 have h2 : TxIn w G t := by
  cases t
  exact h
 exact TxIn.mono hs (fun _ _ => rfl) t h2
/-- The parts of expressions can be read. -/
def xsA (l : List Tx) : Asn := ⟨fun w F => TxsIn w F l, fun h hs => TxsIn.mono (fun _ hb => hb) hs _ h⟩
theorem xs_snoc {w : World} {F : Nat → Prop} : ∀ {l : List Tx} {t : Tx}, TxsIn w F l → TxIn w F t → TxsIn w F (l ++ [t])
 | [], t, _, ht => ⟨ht, trivial⟩
 | a :: r, t, h, ht => ⟨h.1, xs_snoc h.2 ht⟩
theorem xs_up {w : World} {F G : Nat → Prop} {l : List Tx} (h : (xsA l).pred w G) (hs : ∀ b, G b → F b) : TxsIn w F l := TxsIn.mono hs (fun _ _ => rfl) l h
theorem leaf_all (w : World) (F : Nat → Prop) (_ : AllIn w F []) : (txsA nilS []).pred w F := ⟨nil_in, trivial⟩
theorem one_all {v : SV} {t : Tx} (w : World) (F : Nat → Prop) (h : AllIn w F [own 48 4 eTx (sv v) [t], txsA t.v t.kids]) : (txsA v [t]).pred w F := by
 obtain ⟨⟨_, a0, b0⟩, ⟨_, a1, b1⟩, _⟩ := h
 exact ⟨own_in a0 b0, tx_up a1 b1, trivial⟩
theorem two_all {v : SV} {t u : Tx} (w : World) (F : Nat → Prop) (h : AllIn w F [own 48 4 eTx (sv v) [t, u], txsA t.v t.kids, txsA u.v u.kids]) : (txsA v [t, u]).pred w F := by
 obtain ⟨⟨_, a0, b0⟩, ⟨_, a1, b1⟩, ⟨_, a2, b2⟩, _⟩ := h
 exact ⟨own_in a0 b0, tx_up a1 b1, tx_up a2 b2, trivial⟩
theorem kid_all {l : List Tx} {t : Tx} (w : World) (F : Nat → Prop) (h : AllIn w F [xsA l, txsA t.v t.kids]) : (xsA (l ++ [t])).pred w F := by
 obtain ⟨⟨_, a0, b0⟩, ⟨_, a1, b1⟩, _⟩ := h
 exact xs_snoc (xs_up a0 b0) (tx_up a1 b1)
theorem kids_all {v : SV} {l : List Tx} (w : World) (F : Nat → Prop) (h : AllIn w F [own 48 4 eTx (sv v) l, xsA l]) : (txsA v l).pred w F := by
 obtain ⟨⟨_, a0, b0⟩, ⟨_, a1, b1⟩, _⟩ := h
 exact ⟨own_in a0 b0, xs_up a1 b1⟩
/-- What does not change, with where it lies. -/
structure Ge where
 g : Nat
 vl : SV
 vn : SV
 vf : SV
 c : Gc
 F : List Tf
structure Gfine (e : Ge) : Prop where
 hl : e.c.l.length ≤ 1000
 hlo : ∀ x ∈ e.c.l, okI x
 fs : e.c.fs = e.F.map fun f => (f.name, f.ps)
 fl : e.F.length ≤ 100
 me : e.c.me ≤ 100
 ps : ∀ f ∈ e.F, f.ps.length ≤ 100
/-- The contract of an expression. -/
def HGX (e : Ge) (d : Nat) : Prop := ∀ s : Gs, s.names.length ≤ 1000 → Spec Tryz.prog 49 [.pointer (some ⟨e.g, 0, none⟩), .int .i64 ((d : Int) + 1)] [row e.g 76 (gRow e.vl s e.vn e.c.me e.vf)] [sl 1 eI (sv e.vl) e.c.l, sl 1 eS (sv e.vn) s.names, tfsA e.vf e.F] (X := Tx × Gs) (fun x => GXr e.c d s (erX x.1) x.2) (fun x => xV x.1) (fun x => [row e.g 76 (gRow e.vl x.2 e.vn e.c.me e.vf), txsA x.1.v x.1.kids]) (fun _ => [])
/-- The contract of a call. -/
def HGC (e : Ge) (d : Nat) : Prop := ∀ (s : Gs) (f : Tf), f ∈ e.F → s.names.length ≤ 1000 → Spec Tryz.prog 50 [.pointer (some ⟨e.g, 0, none⟩), tfV f, .int .i64 ((d : Int) + 2)] [row e.g 76 (gRow e.vl s e.vn e.c.me e.vf)] [sl 1 eI (sv e.vl) e.c.l, sl 1 eS (sv e.vn) s.names, tfsA e.vf e.F] (X := Tx × Gs) (fun x => GCr e.c d (f.name, f.ps) s (erX x.1) x.2) (fun x => xV x.1) (fun x => [row e.g 76 (gRow e.vl x.2 e.vn e.c.me e.vf), txsA x.1.v x.1.kids]) (fun _ => [])
mutual
theorem GXr.keep {c : Gc} : ∀ {d : Nat} {s s' : Gs} {p : Px}, GXr c d s p s' → s'.names = s.names ∧ s'.left = s.left ∧ s'.vars = s.vars
 | _, s, _, _, .nam (s1 := s1) hk _ _ hj _ => by
  have h1 := gK_st hk; have h2 := (gN_st hj).1
  rw [h2]; exact h1
 | _, _, _, _, .inp hk => gK_st hk
 | _, _, _, _, .mem hk _ hp => by
  have h1 := gK_st hk; have h2 := hp.keep
  exact ⟨h2.1.trans h1.1, h2.2.1.trans h1.2.1, h2.2.2.trans h1.2.2⟩
 | _, _, _, _, .una hk hj _ hp => by
  have h1 := gK_st hk; have h3 := gN_st2 hj; have h2 := hp.keep
  exact ⟨h2.1.trans (h3.1.trans h1.1), h2.2.1.trans (h3.2.1.trans h1.2.1), h2.2.2.trans (h3.2.2.trans h1.2.2)⟩
 | _, _, _, _, .call hk _ hj _ hp => by
  have h1 := gK_st hk; have h3 := gN_st2 hj; have h2 := hp.keep
  exact ⟨h2.1.trans (h3.1.trans h1.1), h2.2.1.trans (h3.2.1.trans h1.2.1), h2.2.2.trans (h3.2.2.trans h1.2.2)⟩
 | _, _, _, _, .bin hk _ hj _ hp hq => by
  have h1 := gK_st hk; have h3 := gN_st2 hj; have h2 := hp.keep; have h4 := hq.keep
  exact ⟨h4.1.trans (h2.1.trans (h3.1.trans h1.1)), h4.2.1.trans (h2.2.1.trans (h3.2.1.trans h1.2.1)), h4.2.2.trans (h2.2.2.trans (h3.2.2.trans h1.2.2))⟩
 | _, _, _, _, .con hk _ _ _ _ _ _ _ hj _ => by
  have h1 := gK_st hk; have h3 := gN_st2 hj
  exact ⟨h3.1.trans h1.1, h3.2.1.trans h1.2.1, h3.2.2.trans h1.2.2⟩
theorem GKr.keep {c : Gc} : ∀ {d n : Nat} {s s' : Gs} {ps : List Px}, GKr c d n s ps s' → s'.names = s.names ∧ s'.left = s.left ∧ s'.vars = s.vars
 | _, _, _, _, _, .nil => ⟨rfl, rfl, rfl⟩
 | _, _, _, _, _, .cons hp hq => by
  have h1 := hp.keep; have h2 := hq.keep
  exact ⟨h2.1.trans h1.1, h2.2.1.trans h1.2.1, h2.2.2.trans h1.2.2⟩
end
set_option maxHeartbeats 4000000 in
set_option maxRecDepth 100000 in
theorem gcall_step (e : Ge) (he : Gfine e) (d : Nat) (hd : d ≤ 10) (ih : HGX e d) (s : Gs) (f : Tf) (hf : f ∈ e.F) (hn : s.names.length ≤ 1000) :
  Spec Tryz.prog 50 [.pointer (some ⟨e.g, 0, none⟩), tfV f, .int .i64 ((d : Int) + 2)] [row e.g 76 (gRow e.vl (s) e.vn e.c.me e.vf)] [sl 1 eI (sv e.vl) e.c.l, sl 1 eS (sv e.vn) s.names, tfsA e.vf e.F] (X := Tx × Gs) (fun x => GCr e.c d (f.name, f.ps) s (erX x.1) x.2) (fun x => xV x.1) (fun x => [row e.g 76 (gRow e.vl (x.2) e.vn e.c.me e.vf), txsA x.1.v x.1.kids]) (fun _ => []) := by
 refine r_enter Tryz.func50 rfl Tryz.ntmps50 rfl fun w0 M H => ?_
 refine r_more 2 4 rfl (tfs_f hf) ?_
 refine r_more 4 3 rfl tf_ps ?_
 have hpl := he.ps f hf
 refine r_seq (r_region ?_)
 refine r_boxA rfl rfl fun b4 => ?_
 refine r_alloc t48 rfl rfl fun b6 => ?_
 refine r_nil (r_seq (r_region ?_))
 refine r_p (p_field0 fo63_0 rfl) rfl ?_
 refine r_p (p_load1 t9 rfl rfl (g_row1 (k := 4) rfl rfl)) rfl ?_
 refine r_p (p_build (parts := [(0, .const (.int .i64 3)), (2, .tmp 10)]) t48 pl48 rfl rfl) rfl ?_
 refine r_alloc t48 rfl rfl fun b7 => ?_
 refine r_store_all (k := 7) t48 rfl rfl rfl rfl rfl rfl ?_
 refine r_nil (r_seq (r_seq (r_region (r_p (p_assign rfl) rfl (r_nil (r_block ?_))))))
 refine r_nilown 40 (α := Tx) (S := 48) (s := 4) (enc := eTx) ?_
 refine r_collect 41 [] (L := []) (C := xsA []) rfl (fun _ _ _ => trivial) ?_
 refine r_loop (X := Nat × SV × List Tx × Gs) (fun x => x.1 ≤ f.ps.length ∧ x.2.2.1.length = x.1 ∧ GKr e.c d x.1 s (erXs x.2.2.1) x.2.2.2) (fun x => [(0, .pointer (some ⟨e.g, 0, none⟩)), (2, .int .i64 ((d : Int) + 2)), (4, .pointer (some ⟨b4, 0, none⟩)), (6, .pointer (some ⟨b6, 0, none⟩)), (7, .pointer (some ⟨b7, 0, none⟩)), (8, .int .i64 (x.1 : Int))]) (fun x => [(0, row e.g 76 (gRow e.vl (x.2.2.2) e.vn e.c.me e.vf)), (4, row b4 63 (eTf f)), (6, row b6 48 (eTx (.mk 0 0 oNil nilS []))), (7, row b7 48 (eTx (.mk 3 0 f.name x.2.1 x.2.2.1))), (40, own 48 4 eTx (sv x.2.1) x.2.2.1), (41, xsA x.2.2.1)]) (fun x => [(0, sl 1 eI (sv e.vl) e.c.l), (1, sl 1 eS (sv e.vn) s.names), (2, tfsA e.vf e.F), (3, sl 1 eS (sv f.vp) f.ps)]) (fun x => f.ps.length - x.1) (0, nilS, [], s) ⟨Nat.zero_le _, rfl, .nil⟩ rfl rfl rfl (fun x hx0 => ?_)
 obtain ⟨i, vk, kids, sx⟩ := x
 obtain ⟨n1, n2, n3⟩ := hx0
 dsimp only at n1 n2 n3 ⊢
 have n4 : kids = kids := rfl
 refine r_seq (r_seq (r_region (r_p (p_move rfl) rfl ?_)))
 refine r_p (p_field0 fo63_1 rfl) rfl ?_
 refine r_p (p_load1 t58 rfl rfl (g_row1 (k := 4) rfl rfl)) rfl ?_
 refine r_p (p_len_sl Tryz.underlying58 rfl (hs_sl (k := 3) rfl)) rfl ?_
 refine r_p (p_bin rfl rfl b_lt) rfl ?_
 refine r_nil ?_
 refine r_cond rfl (fun h1 => ?_) (fun h1 => ?_)
 ·(try simp only [decide_eq_true_eq, decide_eq_false_iff_not, Bool.and_eq_true, Bool.or_eq_true, Bool.and_eq_false_iff, Bool.or_eq_false_iff, Bool.not_eq_true, Bool.not_eq_false, Bool.not_eq_true', Bool.not_eq_false', Bool.not_not, bne_iff_ne, beq_iff_eq] at h1)
  have hi : i < f.ps.length := by omega
  refine r_skip (r_seq (r_block ?_))
  refine r_draw [19, 20, 21, 22, 23, 24, 25, 26, 27] _ rfl (stg_mem (V := [(0, 19, _), (1, 20, _), (2, 21, _), (3, 22, _), (4, 23, _)]) [0, 1, 2, 3, 4] 5 [5, 4, 3, 2] [] (fun xt => []) rfl rfl (prs_cons (pri rfl (p_field0 fo48_3 rfl)) (prs_cons (pri rfl (p_load1 t46 rfl rfl (g_row1 (k := 7) rfl rfl))) (prs_cons (pri rfl (p_move rfl)) (prs_cons (pri rfl (p_move rfl)) (prs_cons (pri rfl (p_bin rfl rfl (b_sub (c := (d : Int) + 1) (by rw [show (d : Int) + 2 - 1 = (d : Int) + 1 by omega]; exact w_i64 (by omega) (by omega))))) prs_nil))))) rfl rfl rfl rfl rfl rfl rfl rfl rfl rfl rfl (fun _ _ => rfl) rfl (ms_callN (xs := [.tmp 21, .tmp 23]) (ih sx (by rw [n3.keep.1]; exact hn)) cb49 [0] [(false, 0), (false, 1), (false, 2)] [0, 24] rfl rfl rfl rfl rfl (by rw [← n3.keep.1]; rfl) rfl rfl (fun _ _ => rfl) (fun _ _ _ => rfl)) (fun xt hxt => stg_mem [0, 1] 6 [6, 5, 4, 3, 2] [] (fun v25 => []) rfl rfl (prs_cons (pri rfl (p_field0 fo48_3 rfl)) (prs_cons (pri rfl (p_load1 t46 rfl rfl (g_row1 (k := 7) rfl rfl))) prs_nil)) rfl rfl rfl rfl rfl rfl rfl rfl rfl rfl rfl (fun _ _ => rfl) rfl (ms_bslice1 eTx xt.1 Tryz.underlying46 t48 rfl (by decide) (by decide) rfl rfl rfl) (fun v25 _ => stg_mem [0, 1] 7 [7, 6, 5, 4, 3, 2, 1, 0] [8] (fun v26 => [(8, 27, _)]) rfl rfl (prs_cons (pri rfl (p_field0 fo48_3 rfl)) (prs_cons (pri rfl (p_load1 t46 rfl rfl (g_row1 (k := 7) rfl rfl))) prs_nil)) rfl rfl rfl rfl rfl rfl rfl rfl rfl rfl rfl (fun _ _ => rfl) rfl (ms_append 40 Tryz.underlying46 t48 rfl (by decide) (fun _ => rfl) (fun _ => rfl) rfl rfl rfl (hs_own (k := 25) rfl) (by have := congrArg List.length n4; simp only [List.length_singleton]; omega) (by unfold maxLen; simp only [List.length_singleton]; omega)) (fun v26 _ => stg_mem0 [8] 9 [9, 8, 7, 6, 5, 4, 3, 2, 1, 0] [] (fun _ => []) rfl rfl (prs_cons (pri rfl (p_field0 fo48_3 rfl)) prs_nil) rfl rfl rfl rfl rfl rfl rfl rfl rfl (fun _ _ => rfl) rfl (ms_store_row (k := 7) t46 rfl rfl rfl rfl rfl rfl rfl rfl) (fun _ _ => stg_end [] rfl rfl prs_nil rfl rfl rfl ?_)))))
  refine r_region (r_p (p_move rfl) rfl ?_)
  refine r_p (p_bin rfl rfl (b_add (by first | exact w_i64 (by omega) (by omega) | rfl))) rfl ?_
  refine r_p (p_assign rfl) rfl (r_nil ?_)
  refine r_collect 41 [41, 24] rfl kid_all ?_
  refine r_here (i + 1, v26, kids ++ [xt.1], xt.2) ⟨⟨by dsimp only; omega, by dsimp only; rw [List.length_append, List.length_singleton, n2], by dsimp only; rw [erXs_app]; exact n3.snoc hxt⟩, by dsimp only; omega⟩ rfl rfl rfl
 ·(try simp only [decide_eq_true_eq, decide_eq_false_iff_not, Bool.and_eq_true, Bool.or_eq_true, Bool.and_eq_false_iff, Bool.or_eq_false_iff, Bool.not_eq_true, Bool.not_eq_false, Bool.not_eq_true', Bool.not_eq_false', Bool.not_not, bne_iff_ne, beq_iff_eq] at h1)
  have hi : i = f.ps.length := by omega
  subst hi
  refine r_exit (r_seq (r_region ?_))
  refine r_p (p_loadA t48 rfl rfl rfl (g_all (k := 7) rfl)) rfl ?_
  refine r_store_all (k := 6) t48 rfl rfl rfl rfl rfl rfl ?_
  refine r_nil (r_cret ?_)
  refine r_collect 50 [40, 41] rfl kids_all ?_
  refine r_ret (.mk 3 0 f.name vk kids, sx) ⟨erXs kids, n3, rfl⟩ rfl (rs1 (rv_cellA t48 rfl rfl rfl (g_all (k := 6) rfl))) rfl [0, 50] [] rfl rfl rfl
set_option maxHeartbeats 16000000 in
set_option maxRecDepth 100000 in
theorem gexpr_step (e : Ge) (he : Gfine e) (d : Nat) (hd : d ≤ 10) (ihX : ∀ k, d = k + 1 → HGX e k) (ihC : ∀ k, d = k + 1 → HGC e k) (s : Gs) (hn : s.names.length ≤ 1000) :
  Spec Tryz.prog 49 [.pointer (some ⟨e.g, 0, none⟩), .int .i64 ((d : Int) + 1)] [row e.g 76 (gRow e.vl (s) e.vn e.c.me e.vf)] [sl 1 eI (sv e.vl) e.c.l, sl 1 eS (sv e.vn) s.names, tfsA e.vf e.F] (X := Tx × Gs) (fun x => GXr e.c d s (erX x.1) x.2) (fun x => xV x.1) (fun x => [row e.g 76 (gRow e.vl (x.2) e.vn e.c.me e.vf), txsA x.1.v x.1.kids]) (fun _ => []) := by
 refine r_enter Tryz.func49 rfl Tryz.ntmps49 rfl fun w0 M H => ?_
 refine r_more 2 3 rfl tfs_sl ?_
 have hfl : e.c.fs.length = e.F.length := by rw [he.fs, List.length_map]
 have hflb := he.fl
 have hmeb := he.me
 obtain ⟨k0, s1, hr⟩ : ∃ k0 s1, gN e.c.l 16 { s with nodes := IntKind.i64.wrap (s.nodes - 1) } = (k0, s1) := ⟨_, _, rfl⟩
 have hkb := gN_bd (by decide) hr
 have hst := gN_st2 hr
 obtain ⟨k, hkk⟩ : ∃ k, (if d = 0 ∨ s1.nodes < 1 then k0 % 4 else k0) = k := ⟨_, rfl⟩
 have hk : gK e.c.l d s = (k, s1) := by
  unfold gK
  rw [hr, ← hkk]
 have hn1 : s1.names = s.names := hst.1
 have hk16 : 0 ≤ k ∧ k < 16 := by rw [← hkk]; split <;> omega
 have hk4 : d = 0 → k < 4 := fun h => by rw [← hkk, if_pos (.inl h)]; omega
 refine r_seq (r_region ?_)
 refine r_alloc t48 rfl rfl fun b4 => ?_
 refine r_nil (r_seq (r_region (r_p (p_move rfl) rfl (r_p (p_nilCheck rfl) rfl ?_))))
 refine r_p (p_field0 fo76_3 rfl) rfl ?_
 refine r_p (p_load1 t3 rfl rfl (g_row1 (k := 0) rfl rfl)) rfl ?_
 refine r_p (p_bin rfl rfl (b_sub rfl)) rfl ?_
 refine r_p (p_nilCheck rfl) rfl ?_
 refine r_p (p_field0 fo76_3 rfl) rfl ?_
 refine r_store_row (k := 0) t3 rfl rfl rfl rfl rfl rfl rfl rfl ?_
 refine r_nil (r_seq (r_region (r_p (p_move rfl) rfl ?_)))
 refine r_callN (xs := [.tmp 17, .const (.int .i64 16)]) (gnext_spec e.g e.vl e.vn e.vf e.c he.hl he.hlo (16) (by decide) ({ s with nodes := IntKind.i64.wrap (s.nodes - 1) })) cb31 [0] [(false, 0)] [0] rfl rfl rfl rfl rfl rfl rfl rfl (fun _ _ => rfl) (fun _ _ _ => rfl) rfl (fun _ _ => ?_)
 rw [hr]
 refine r_p (p_assign rfl) rfl (r_nil ?_)
 refine r_seq_cut (X := Unit) (fun _ => True) (fun _ => [(0, .pointer (some ⟨e.g, 0, none⟩)), (1, .int .i64 ((d : Int) + 1)), (4, .pointer (some ⟨b4, 0, none⟩)), (5, .int .i64 k)]) (fun _ => [(0, row e.g 76 (gRow e.vl (s1) e.vn e.c.me e.vf)), (4, row b4 48 (eTx (.mk 0 0 oNil nilS [])))]) (fun _ => [(0, sl 1 eI (sv e.vl) e.c.l), (1, sl 1 eS (sv e.vn) s.names), (2, tfsA e.vf e.F), (3, sl 3 eTf (sv e.vf) e.F)]) ?_ (fun _ _ => ?_)
 ·refine r_seq (r_region (r_p (p_move rfl) rfl ?_))
  refine r_p (p_bin rfl rfl b_le) rfl ?_
  refine r_p (p_move rfl) rfl ?_
  refine r_gp [] rfl rfl trivial (fun hg1 => p_move rfl) rfl ?_
  refine r_gp [(22, _)] rfl rfl ⟨rfl, trivial⟩ (fun hg2 => p_nilCheck rfl) rfl ?_
  refine r_gp [(22, _), (23, _)] rfl rfl ⟨rfl, rfl, trivial⟩ (fun hg3 => p_field0 fo76_3 rfl) rfl ?_
  refine r_gp [(22, _), (23, _), (24, _)] rfl rfl ⟨rfl, rfl, rfl, trivial⟩ (fun hg4 => p_load1 t3 rfl rfl (g_row1 (k := 0) rfl rfl)) rfl ?_
  refine r_gp [(22, _), (23, _), (24, _), (25, _)] rfl rfl ⟨rfl, rfl, rfl, rfl, trivial⟩ (fun hg5 => p_bin rfl rfl b_lt) rfl ?_
  refine r_p (p_pick rfl rfl rfl (by first | exact pick_and | exact pick_or |  rfl)) rfl ?_
  refine r_nil ?_
  refine r_cond rfl (fun h6 => ?_) (fun h6 => ?_)
  ·(try simp only [decide_eq_true_eq, decide_eq_false_iff_not, Bool.and_eq_true, Bool.or_eq_true, Bool.and_eq_false_iff, Bool.or_eq_false_iff, Bool.not_eq_true, Bool.not_eq_false, Bool.not_eq_true', Bool.not_eq_false', Bool.not_not, bne_iff_ne, beq_iff_eq] at h6)
   have hsm : d = 0 ∨ s1.nodes < 1 := by rcases h6 with h | h; exact .inl (by omega); exact .inr h
   refine r_region (r_p (p_move rfl) rfl ?_)
   refine r_p (p_bin rfl rfl (b_rem (by decide) (Int.tmod_eq_emod_of_nonneg hkb.1))) rfl ?_
   refine r_p (p_assign rfl) rfl (r_nil ?_)
   refine r_here () trivial (by rw [← hkk, if_pos hsm]; rfl) rfl rfl
  ·(try simp only [decide_eq_true_eq, decide_eq_false_iff_not, Bool.and_eq_true, Bool.or_eq_true, Bool.and_eq_false_iff, Bool.or_eq_false_iff, Bool.not_eq_true, Bool.not_eq_false, Bool.not_eq_true', Bool.not_eq_false', Bool.not_not, bne_iff_ne, beq_iff_eq] at h6)
   have hsm : ¬ (d = 0 ∨ s1.nodes < 1) := by rintro (h | h); exact h6.1 (by omega); exact h6.2 h
   refine r_skip ?_
   refine r_here () trivial (by rw [← hkk, if_neg hsm]; rfl) rfl rfl
 ·refine r_seq (r_block (r_seq (r_region (r_p (p_move rfl) rfl ?_))))
  refine r_p (p_bin rfl rfl b_eq) rfl ?_
  refine r_p (p_move rfl) rfl ?_
  refine r_gp [] rfl rfl trivial (fun hg7 => p_move rfl) rfl ?_
  refine r_gp [(34, _)] rfl rfl ⟨rfl, trivial⟩ (fun hg8 => p_nilCheck rfl) rfl ?_
  refine r_gp [(34, _), (35, _)] rfl rfl ⟨rfl, rfl, trivial⟩ (fun hg9 => p_field0 fo76_4 rfl) rfl ?_
  refine r_gp [(34, _), (35, _), (36, _)] rfl rfl ⟨rfl, rfl, rfl, trivial⟩ (fun hg10 => p_load1 t58 rfl rfl (g_row1 (k := 0) rfl rfl)) rfl ?_
  refine r_gp [(34, _), (35, _), (36, _), (37, _)] rfl rfl ⟨rfl, rfl, rfl, rfl, trivial⟩ (fun hg11 => p_len_sl Tryz.underlying58 rfl (hs_sl (k := 1) rfl)) rfl ?_
  refine r_gp [(34, _), (35, _), (36, _), (37, _), (38, _)] rfl rfl ⟨rfl, rfl, rfl, rfl, rfl, trivial⟩ (fun hg12 => p_bin rfl rfl b_gt) rfl ?_
  refine r_p (p_pick rfl rfl rfl (by first | exact pick_and | exact pick_or |  rfl)) rfl ?_
  refine r_p (p_move rfl) rfl ?_
  refine r_gp [] rfl rfl trivial (fun hg13 => p_move rfl) rfl ?_
  refine r_gp [(42, _)] rfl rfl ⟨rfl, trivial⟩ (fun hg14 => p_bin rfl rfl b_eq) rfl ?_
  refine r_gp [(42, _), (43, _)] rfl rfl ⟨rfl, rfl, trivial⟩ (fun hg15 => p_move rfl) rfl ?_
  refine r_gp2 [] [(42, _), (43, _), (44, _)] rfl rfl trivial ⟨rfl, rfl, rfl, trivial⟩ (fun hg16 hg16' => p_move rfl) rfl ?_
  refine r_gp2 [(45, _)] [(42, _), (43, _), (44, _)] rfl rfl ⟨rfl, trivial⟩ ⟨rfl, rfl, rfl, trivial⟩ (fun hg17 hg17' => p_nilCheck rfl) rfl ?_
  refine r_gp2 [(45, _), (46, _)] [(42, _), (43, _), (44, _)] rfl rfl ⟨rfl, rfl, trivial⟩ ⟨rfl, rfl, rfl, trivial⟩ (fun hg18 hg18' => p_field0 fo76_4 rfl) rfl ?_
  refine r_gp2 [(45, _), (46, _), (47, _)] [(42, _), (43, _), (44, _)] rfl rfl ⟨rfl, rfl, rfl, trivial⟩ ⟨rfl, rfl, rfl, trivial⟩ (fun hg19 hg19' => p_load1 t58 rfl rfl (g_row1 (k := 0) rfl rfl)) rfl ?_
  refine r_gp2 [(45, _), (46, _), (47, _), (48, _)] [(42, _), (43, _), (44, _)] rfl rfl ⟨rfl, rfl, rfl, rfl, trivial⟩ ⟨rfl, rfl, rfl, trivial⟩ (fun hg20 hg20' => p_len_sl Tryz.underlying58 rfl (hs_sl (k := 1) rfl)) rfl ?_
  refine r_gp2 [(45, _), (46, _), (47, _), (48, _), (49, _)] [(42, _), (43, _), (44, _)] rfl rfl ⟨rfl, rfl, rfl, rfl, rfl, trivial⟩ ⟨rfl, rfl, rfl, trivial⟩ (fun hg21 hg21' => p_bin rfl rfl b_gt) rfl ?_
  refine r_gp [(42, _), (43, _), (44, _)] rfl rfl ⟨rfl, rfl, rfl, trivial⟩ (fun hg22 => p_pick rfl rfl rfl (by first | exact pick_and | exact pick_or | exact pick_and2 hg22 | exact pick_or2 hg22 | rfl)) rfl ?_
  refine r_p (p_pick rfl rfl rfl (by first | exact pick_and | exact pick_or |  rfl)) rfl ?_
  refine r_p (p_assign rfl) rfl (r_nil ?_)
  refine r_cond rfl (fun h23 => ?_) (fun h23 => ?_)
  ·(try simp only [decide_eq_true_eq, decide_eq_false_iff_not, Bool.and_eq_true, Bool.or_eq_true, Bool.and_eq_false_iff, Bool.or_eq_false_iff, Bool.not_eq_true, Bool.not_eq_false, Bool.not_eq_true', Bool.not_eq_false', Bool.not_not, bne_iff_ne, beq_iff_eq] at h23)
   have hq : (k = 1 ∨ k = 2) ∧ 0 < s1.names.length := by rw [hn1]; rcases h23 with h | h; exact ⟨.inl h.1, by omega⟩; exact ⟨.inr h.1, by omega⟩
   have hsl := hq.2
   rw [hn1] at hsl
   obtain ⟨x6, hx6, hja6, hjb6⟩ := gN_idx (l := e.c.l) (L := s.names) (n := (s.names.length : Int)) (by omega) rfl (s1)
   refine r_seq ?_
   refine r_draw [53, 54, 55, 56, 57, 58, 59, 60, 61, 62, 63, 64, 65, 66] _ rfl (stg_mem (V := [(0, 53, _), (1, 54, _), (2, 55, _), (3, 56, _), (4, 57, _), (5, 58, _), (6, 59, _), (7, 60, _), (8, 61, _), (9, 62, _)]) [0, 1, 2, 3, 4, 5, 6, 7, 8, 9] 10 [10, 9, 8, 7, 6, 5, 4] [11, 12, 13] (fun _ => [(11, 64, _), (12, 65, _), (13, 66, _)]) rfl rfl (prs_cons (pri rfl (p_move rfl)) (prs_cons (pri rfl (p_nilCheck rfl)) (prs_cons (pri rfl (p_field0 fo76_4 rfl)) (prs_cons (pri rfl (p_load1 t58 rfl rfl (g_row1 (k := 0) rfl rfl))) (prs_cons (pri rfl (p_move rfl)) (prs_cons (pri rfl (p_move rfl)) (prs_cons (pri rfl (p_nilCheck rfl)) (prs_cons (pri rfl (p_field0 fo76_4 rfl)) (prs_cons (pri rfl (p_load1 t58 rfl rfl (g_row1 (k := 0) rfl rfl))) (prs_cons (pri rfl (p_len_sl Tryz.underlying58 rfl (hs_sl (k := 1) rfl))) prs_nil)))))))))) rfl rfl rfl rfl rfl rfl rfl rfl rfl rfl rfl (fun _ _ => rfl) rfl (ms_callN (xs := [.tmp 57, .tmp 62]) (gnext_spec e.g e.vl e.vn e.vf e.c he.hl he.hlo (s.names.length : Int) (by omega) s1) cb31 [0] [(false, 0)] [0] rfl rfl rfl rfl rfl rfl rfl rfl (fun _ _ => rfl) (fun _ _ _ => rfl)) (fun _ _ => stg_mem0 [11, 12, 13, 0, 1, 2, 3] 14 [14, 13, 12, 11, 10, 9, 8, 7, 6, 5, 4, 3, 2, 1, 0] [] (fun _ => []) rfl rfl (prs_cons (pri rfl (p_idx_sl (j := (gN e.c.l (s.names.length : Int) s1).1.toNat) Tryz.underlying58 t9 rfl rfl (hs_sl (k := 1) rfl) hjb6 hja6)) (prs_cons (pri rfl (p_load1 t9 rfl rfl (g_el' (hs_sl (k := 1) rfl) (by intro _; rfl) hx6 (by rfl)))) (prs_cons (pri rfl (p_build (parts := [(0, .const (.int .i64 2)), (2, .tmp 65)]) t48 pl48 rfl rfl)) (prs_cons (pri rfl (p_move rfl)) (prs_cons (pri rfl (p_nilCheck rfl)) (prs_cons (pri rfl (p_field0 fo76_4 rfl)) (prs_cons (pri rfl (p_load1 t58 rfl rfl (g_row1 (k := 0) rfl rfl))) prs_nil))))))) rfl rfl rfl rfl rfl rfl rfl rfl rfl (fun _ _ => rfl) rfl (ms_store_all (k := 4) t48 rfl rfl rfl rfl rfl rfl) (fun _ _ => stg_end [] rfl rfl prs_nil rfl rfl rfl ?_)))
   refine r_cret ?_
   refine r_collect 50 [] (L := []) rfl leaf_all ?_
   refine r_ret (tName x6, (gN e.c.l (s.names.length : Int) s1).2) (.nam (j := (gN e.c.l (s.names.length : Int) s1).1) hk hq.1 hq.2 (by rw [hn1]) (by rw [hn1]; exact hx6)) rfl (rs1 (rv_cellA t48 rfl rfl rfl (g_all (k := 4) rfl))) rfl [0, 50] [] rfl rfl rfl
  ·(try simp only [decide_eq_true_eq, decide_eq_false_iff_not, Bool.and_eq_true, Bool.or_eq_true, Bool.and_eq_false_iff, Bool.or_eq_false_iff, Bool.not_eq_true, Bool.not_eq_false, Bool.not_eq_true', Bool.not_eq_false', Bool.not_not, bne_iff_ne, beq_iff_eq] at h23)
   have hq : ¬ ((k = 1 ∨ k = 2) ∧ 0 < s1.names.length) := by
    rw [hn1]
    rintro ⟨h1 | h1, h2⟩
    ·rcases h23.1 with h | h
     ·exact h h1
     ·omega
    ·rcases h23.2 with h | h
     ·exact h h1
     ·omega
   refine r_seq (r_region (r_p (p_move rfl) rfl ?_))
   refine r_p (p_bin rfl rfl b_eq) rfl ?_
   refine r_p (p_assign rfl) rfl (r_nil ?_)
   refine r_cond rfl (fun h24 => ?_) (fun h24 => ?_)
   ·(try simp only [decide_eq_true_eq, decide_eq_false_iff_not, Bool.and_eq_true, Bool.or_eq_true, Bool.and_eq_false_iff, Bool.or_eq_false_iff, Bool.not_eq_true, Bool.not_eq_false, Bool.not_eq_true', Bool.not_eq_false', Bool.not_not, bne_iff_ne, beq_iff_eq] at h24)
    have q3 : k = 3 := h24
    refine r_seq (r_region ?_)
    refine r_p (p_build (parts := [(0, .const (.int .i64 5))]) t48 pl48 rfl rfl) rfl ?_
    refine r_store_all (k := 4) t48 rfl rfl rfl rfl rfl rfl ?_
    refine r_nil (r_cret ?_)
    refine r_collect 50 [] (L := []) rfl leaf_all ?_
    refine r_ret (tIn, s1) (.inp (q3 ▸ hk)) rfl (rs1 (rv_cellA t48 rfl rfl rfl (g_all (k := 4) rfl))) rfl [0, 50] [] rfl rfl rfl
   ·(try simp only [decide_eq_true_eq, decide_eq_false_iff_not, Bool.and_eq_true, Bool.or_eq_true, Bool.and_eq_false_iff, Bool.or_eq_false_iff, Bool.not_eq_true, Bool.not_eq_false, Bool.not_eq_true', Bool.not_eq_false', Bool.not_not, bne_iff_ne, beq_iff_eq] at h24)
    have q3 : ¬ k = 3 := h24
    refine r_seq (r_region (r_p (p_move rfl) rfl ?_))
    refine r_p (p_bin rfl rfl b_eq) rfl ?_
    refine r_p (p_move rfl) rfl ?_
    refine r_gp [] rfl rfl trivial (fun hg25 => p_move rfl) rfl ?_
    refine r_gp [(75, _)] rfl rfl ⟨rfl, trivial⟩ (fun hg26 => p_bin rfl rfl b_eq) rfl ?_
    refine r_p (p_pick rfl rfl rfl (by first | exact pick_and | exact pick_or |  rfl)) rfl ?_
    refine r_p (p_assign rfl) rfl (r_nil ?_)
    refine r_cond rfl (fun h27 => ?_) (fun h27 => ?_)
    ·(try simp only [decide_eq_true_eq, decide_eq_false_iff_not, Bool.and_eq_true, Bool.or_eq_true, Bool.and_eq_false_iff, Bool.or_eq_false_iff, Bool.not_eq_true, Bool.not_eq_false, Bool.not_eq_true', Bool.not_eq_false', Bool.not_not, bne_iff_ne, beq_iff_eq] at h27)
     have q4 : k = 4 ∨ k = 5 := h27
     obtain ⟨d2, rfl⟩ : ∃ d2, d = d2 + 1 := ⟨d - 1, by have := hk4; omega⟩
     refine r_seq (r_region (r_p (p_move rfl) rfl (r_p (p_move rfl) rfl ?_)))
     refine r_p (p_bin rfl rfl (b_sub (c := (d2 : Int) + 1) (by rw [show (((d2 + 1 : Nat) : Int) + 1) - 1 = (d2 : Int) + 1 by omega]; exact w_i64 (by omega) (by omega)))) rfl ?_
     refine r_callN (xs := [.tmp 78, .tmp 80]) (ihX _ rfl (s1) (by rw [hn1]; exact hn)) cb49 [0] [(false, 0), (false, 1), (false, 2)] [0, 81] rfl rfl rfl rfl rfl (by rw [← hn1]; rfl) rfl rfl (fun _ _ => rfl) (fun _ _ _ => rfl) rfl (fun xt hxt => ?_)
     refine r_bslice1 eTx xt.1 Tryz.underlying46 t48 rfl (by decide) (by decide) rfl rfl rfl rfl fun v82 => ?_
     refine r_p (p_build (parts := [(0, .const (.int .i64 4)), (3, .tmp 82)]) t48 pl48 rfl rfl) rfl ?_
     refine r_store_all (k := 4) t48 rfl rfl rfl rfl rfl rfl ?_
     refine r_nil (r_cret ?_)
     refine r_collect 50 [82, 81] rfl one_all ?_
     refine r_ret (.mk 4 0 oNil v82 [xt.1], xt.2) (.mem hk q4 hxt) rfl (rs1 (rv_cellA t48 rfl rfl rfl (g_all (k := 4) rfl))) rfl [0, 50] [] rfl rfl rfl
    ·(try simp only [decide_eq_true_eq, decide_eq_false_iff_not, Bool.and_eq_true, Bool.or_eq_true, Bool.and_eq_false_iff, Bool.or_eq_false_iff, Bool.not_eq_true, Bool.not_eq_false, Bool.not_eq_true', Bool.not_eq_false', Bool.not_not, bne_iff_ne, beq_iff_eq] at h27)
     have q4 : ¬ (k = 4 ∨ k = 5) := by rintro (h | h); exact h27.1 h; exact h27.2 h
     refine r_seq (r_region (r_p (p_move rfl) rfl ?_))
     refine r_p (p_bin rfl rfl b_eq) rfl ?_
     refine r_p (p_assign rfl) rfl (r_nil ?_)
     refine r_cond rfl (fun h28 => ?_) (fun h28 => ?_)
     ·(try simp only [decide_eq_true_eq, decide_eq_false_iff_not, Bool.and_eq_true, Bool.or_eq_true, Bool.and_eq_false_iff, Bool.or_eq_false_iff, Bool.not_eq_true, Bool.not_eq_false, Bool.not_eq_true', Bool.not_eq_false', Bool.not_not, bne_iff_ne, beq_iff_eq] at h28)
      have q6 : k = 6 := h28
      obtain ⟨d2, rfl⟩ : ∃ d2, d = d2 + 1 := ⟨d - 1, by have := hk4; omega⟩
      obtain ⟨xu, hxu, hjau, hjbu⟩ := gN_idx (l := e.c.l) (L := unL) (n := 3) (by decide) rfl (s1)
      have hn6 : (gN e.c.l 3 s1).2.names = s.names := (gN_keep e.c.l 3 s1).1.trans hn1
      refine r_seq ?_
      refine r_draw [87, 88, 89, 90, 91, 92, 93, 94, 95, 96, 97] _ rfl (stg_alts (V := [(1, 88, _), (5, 92, _), (6, 93, _), (7, 94, _)]) [1, 5, 6, 7] rfl rfl (prs_cons (pri rfl (p_move rfl)) (prs_cons (pri rfl (p_move rfl)) (prs_cons (pri rfl (p_move rfl)) (prs_cons (pri rfl (p_bin rfl rfl (b_sub (c := (d2 : Int) + 1) (by rw [show (((d2 + 1 : Nat) : Int) + 1) - 1 = (d2 : Int) + 1 by omega]; exact w_i64 (by omega) (by omega))))) prs_nil)))) rfl [0, 2] rfl rfl (nx_cons (nx_mem 0 [0] [] (fun v87 => []) rfl rfl rfl rfl rfl rfl rfl rfl rfl (fun _ _ => rfl) rfl (ms_bslice eS unL (parts := [(0, .const (.string (ByteArray.mk #[45]))), (1, .const (.string (ByteArray.mk #[126]))), (2, .const (.string (ByteArray.mk #[33])))]) Tryz.underlying58 t9 rfl (by decide) (by intro _; rfl) rfl (by decide) (by decide) rfl rfl rfl) (fun v87 _ => stg_mem [1, 5, 6, 7] 2 [2, 1, 0] [3, 4] (fun _ => [(3, 90, _), (4, 91, _)]) rfl rfl (prs_cons (pri rfl (p_move rfl)) (prs_cons (pri rfl (p_move rfl)) (prs_cons (pri rfl (p_move rfl)) (prs_cons (pri rfl (p_bin rfl rfl (b_sub (c := (d2 : Int) + 1) (by rw [show (((d2 + 1 : Nat) : Int) + 1) - 1 = (d2 : Int) + 1 by omega]; exact w_i64 (by omega) (by omega))))) prs_nil)))) rfl rfl rfl rfl rfl rfl rfl rfl rfl rfl rfl (fun _ _ => rfl) rfl (ms_callN (xs := [.tmp 88, .const (.int .i64 3)]) (gnext_spec e.g e.vl e.vn e.vf e.c he.hl he.hlo (3) (by decide) (s1)) cb31 [0] [(false, 0)] [0] rfl rfl rfl rfl rfl rfl rfl rfl (fun _ _ => rfl) (fun _ _ _ => rfl)) (fun _ _ => stg_mem [3, 4, 5, 6, 7] 8 [8, 7, 6, 5, 2, 1, 0] [] (fun xt => []) rfl rfl (prs_cons (pri rfl (p_idx_sl (j := (gN e.c.l 3 s1).1.toNat) Tryz.underlying58 t9 rfl rfl (hs_own (k := 87) rfl) hjbu hjau)) (prs_cons (pri rfl (p_load1 t9 rfl rfl (g_el' (hs_own (k := 87) rfl) (by intro _; rfl) hxu (by rfl)))) (prs_cons (pri rfl (p_move rfl)) (prs_cons (pri rfl (p_move rfl)) (prs_cons (pri rfl (p_bin rfl rfl (b_sub (c := (d2 : Int) + 1) (by rw [show (((d2 + 1 : Nat) : Int) + 1) - 1 = (d2 : Int) + 1 by omega]; exact w_i64 (by omega) (by omega))))) prs_nil))))) rfl rfl rfl rfl rfl rfl rfl rfl rfl rfl rfl (fun _ _ => rfl) rfl (ms_callN (xs := [.tmp 92, .tmp 94]) (ihX _ rfl ((gN e.c.l 3 s1).2) (by rw [hn6]; exact hn)) cb49 [0] [(false, 0), (false, 1), (false, 2)] [0, 95] rfl rfl rfl rfl rfl (by rw [← hn6]; rfl) rfl rfl (fun _ _ => rfl) (fun _ _ _ => rfl)) (fun xt hxt => stg_mem [3, 4] 9 [9, 8, 7, 6, 5, 2, 1, 0] [10] (fun v96 => [(10, 97, _)]) rfl rfl (prs_cons (pri rfl (p_idx_sl (j := (gN e.c.l 3 s1).1.toNat) Tryz.underlying58 t9 rfl rfl (hs_own (k := 87) rfl) hjbu hjau)) (prs_cons (pri rfl (p_load1 t9 rfl rfl (g_el' (hs_own (k := 87) rfl) (by intro _; rfl) hxu (by rfl)))) prs_nil)) rfl rfl rfl rfl rfl rfl rfl rfl rfl rfl rfl (fun _ _ => rfl) rfl (ms_bslice1 eTx xt.1 Tryz.underlying46 t48 rfl (by decide) (by decide) rfl rfl rfl) (fun v96 _ => stg_mem0 [10, 3, 4] 11 [11, 10, 9, 8, 7, 6, 5, 4, 3, 2, 1, 0] [] (fun _ => []) rfl rfl (prs_cons (pri rfl (p_build (parts := [(0, .const (.int .i64 6)), (2, .tmp 91), (3, .tmp 96)]) t48 pl48 rfl rfl)) (prs_cons (pri rfl (p_idx_sl (j := (gN e.c.l 3 s1).1.toNat) Tryz.underlying58 t9 rfl rfl (hs_own (k := 87) rfl) hjbu hjau)) (prs_cons (pri rfl (p_load1 t9 rfl rfl (g_el' (hs_own (k := 87) rfl) (by intro _; rfl) hxu (by rfl)))) prs_nil))) rfl rfl rfl rfl rfl rfl rfl rfl rfl (fun _ _ => rfl) rfl (ms_store_all (k := 4) t48 rfl rfl rfl rfl rfl rfl) (fun _ _ => stg_end [] rfl rfl prs_nil rfl rfl rfl ?_)))))) (nx_cons (nx_mem 2 [2, 1] [] (fun _ => []) rfl rfl rfl rfl rfl rfl rfl rfl rfl (fun _ _ => rfl) rfl (ms_callN (xs := [.tmp 88, .const (.int .i64 3)]) (gnext_spec e.g e.vl e.vn e.vf e.c he.hl he.hlo (3) (by decide) (s1)) cb31 [0] [(false, 0)] [0] rfl rfl rfl rfl rfl rfl rfl rfl (fun _ _ => rfl) (fun _ _ _ => rfl)) (fun _ _ => stg_alts [5, 6, 7] rfl rfl (prs_cons (pri rfl (p_move rfl)) (prs_cons (pri rfl (p_move rfl)) (prs_cons (pri rfl (p_bin rfl rfl (b_sub (c := (d2 : Int) + 1) (by rw [show (((d2 + 1 : Nat) : Int) + 1) - 1 = (d2 : Int) + 1 by omega]; exact w_i64 (by omega) (by omega))))) prs_nil))) rfl [0, 8] rfl rfl (nx_cons (nx_mem 0 [2, 1, 0] [3, 4] (fun v87 => [(3, 90, _), (4, 91, _)]) rfl rfl rfl rfl rfl rfl rfl rfl rfl (fun _ _ => rfl) rfl (ms_bslice eS unL (parts := [(0, .const (.string (ByteArray.mk #[45]))), (1, .const (.string (ByteArray.mk #[126]))), (2, .const (.string (ByteArray.mk #[33])))]) Tryz.underlying58 t9 rfl (by decide) (by intro _; rfl) rfl (by decide) (by decide) rfl rfl rfl) (fun v87 _ => stg_mem [3, 4, 5, 6, 7] 8 [8, 7, 6, 5, 2, 1, 0] [] (fun xt => []) rfl rfl (prs_cons (pri rfl (p_idx_sl (j := (gN e.c.l 3 s1).1.toNat) Tryz.underlying58 t9 rfl rfl (hs_own (k := 87) rfl) hjbu hjau)) (prs_cons (pri rfl (p_load1 t9 rfl rfl (g_el' (hs_own (k := 87) rfl) (by intro _; rfl) hxu (by rfl)))) (prs_cons (pri rfl (p_move rfl)) (prs_cons (pri rfl (p_move rfl)) (prs_cons (pri rfl (p_bin rfl rfl (b_sub (c := (d2 : Int) + 1) (by rw [show (((d2 + 1 : Nat) : Int) + 1) - 1 = (d2 : Int) + 1 by omega]; exact w_i64 (by omega) (by omega))))) prs_nil))))) rfl rfl rfl rfl rfl rfl rfl rfl rfl rfl rfl (fun _ _ => rfl) rfl (ms_callN (xs := [.tmp 92, .tmp 94]) (ihX _ rfl ((gN e.c.l 3 s1).2) (by rw [hn6]; exact hn)) cb49 [0] [(false, 0), (false, 1), (false, 2)] [0, 95] rfl rfl rfl rfl rfl (by rw [← hn6]; rfl) rfl rfl (fun _ _ => rfl) (fun _ _ _ => rfl)) (fun xt hxt => stg_mem [3, 4] 9 [9, 8, 7, 6, 5, 2, 1, 0] [10] (fun v96 => [(10, 97, _)]) rfl rfl (prs_cons (pri rfl (p_idx_sl (j := (gN e.c.l 3 s1).1.toNat) Tryz.underlying58 t9 rfl rfl (hs_own (k := 87) rfl) hjbu hjau)) (prs_cons (pri rfl (p_load1 t9 rfl rfl (g_el' (hs_own (k := 87) rfl) (by intro _; rfl) hxu (by rfl)))) prs_nil)) rfl rfl rfl rfl rfl rfl rfl rfl rfl rfl rfl (fun _ _ => rfl) rfl (ms_bslice1 eTx xt.1 Tryz.underlying46 t48 rfl (by decide) (by decide) rfl rfl rfl) (fun v96 _ => stg_mem0 [10, 3, 4] 11 [11, 10, 9, 8, 7, 6, 5, 4, 3, 2, 1, 0] [] (fun _ => []) rfl rfl (prs_cons (pri rfl (p_build (parts := [(0, .const (.int .i64 6)), (2, .tmp 91), (3, .tmp 96)]) t48 pl48 rfl rfl)) (prs_cons (pri rfl (p_idx_sl (j := (gN e.c.l 3 s1).1.toNat) Tryz.underlying58 t9 rfl rfl (hs_own (k := 87) rfl) hjbu hjau)) (prs_cons (pri rfl (p_load1 t9 rfl rfl (g_el' (hs_own (k := 87) rfl) (by intro _; rfl) hxu (by rfl)))) prs_nil))) rfl rfl rfl rfl rfl rfl rfl rfl rfl (fun _ _ => rfl) rfl (ms_store_all (k := 4) t48 rfl rfl rfl rfl rfl rfl) (fun _ _ => stg_end [] rfl rfl prs_nil rfl rfl rfl ?_))))) (nx_cons (nx_mem 8 [8, 7, 6, 5, 2, 1] [] (fun xt => []) rfl rfl rfl rfl rfl rfl rfl rfl rfl (fun _ _ => rfl) rfl (ms_callN (xs := [.tmp 92, .tmp 94]) (ihX _ rfl ((gN e.c.l 3 s1).2) (by rw [hn6]; exact hn)) cb49 [0] [(false, 0), (false, 1), (false, 2)] [0, 95] rfl rfl rfl rfl rfl (by rw [← hn6]; rfl) rfl rfl (fun _ _ => rfl) (fun _ _ _ => rfl)) (fun xt hxt => stg_alts [] rfl rfl prs_nil rfl [0, 9] rfl rfl (nx_cons (nx_mem 0 [8, 7, 6, 5, 2, 1, 0] [3, 4] (fun v87 => [(3, 90, _), (4, 91, _)]) rfl rfl rfl rfl rfl rfl rfl rfl rfl (fun _ _ => rfl) rfl (ms_bslice eS unL (parts := [(0, .const (.string (ByteArray.mk #[45]))), (1, .const (.string (ByteArray.mk #[126]))), (2, .const (.string (ByteArray.mk #[33])))]) Tryz.underlying58 t9 rfl (by decide) (by intro _; rfl) rfl (by decide) (by decide) rfl rfl rfl) (fun v87 _ => stg_mem [3, 4] 9 [9, 8, 7, 6, 5, 2, 1, 0] [10] (fun v96 => [(10, 97, _)]) rfl rfl (prs_cons (pri rfl (p_idx_sl (j := (gN e.c.l 3 s1).1.toNat) Tryz.underlying58 t9 rfl rfl (hs_own (k := 87) rfl) hjbu hjau)) (prs_cons (pri rfl (p_load1 t9 rfl rfl (g_el' (hs_own (k := 87) rfl) (by intro _; rfl) hxu (by rfl)))) prs_nil)) rfl rfl rfl rfl rfl rfl rfl rfl rfl rfl rfl (fun _ _ => rfl) rfl (ms_bslice1 eTx xt.1 Tryz.underlying46 t48 rfl (by decide) (by decide) rfl rfl rfl) (fun v96 _ => stg_mem0 [10, 3, 4] 11 [11, 10, 9, 8, 7, 6, 5, 4, 3, 2, 1, 0] [] (fun _ => []) rfl rfl (prs_cons (pri rfl (p_build (parts := [(0, .const (.int .i64 6)), (2, .tmp 91), (3, .tmp 96)]) t48 pl48 rfl rfl)) (prs_cons (pri rfl (p_idx_sl (j := (gN e.c.l 3 s1).1.toNat) Tryz.underlying58 t9 rfl rfl (hs_own (k := 87) rfl) hjbu hjau)) (prs_cons (pri rfl (p_load1 t9 rfl rfl (g_el' (hs_own (k := 87) rfl) (by intro _; rfl) hxu (by rfl)))) prs_nil))) rfl rfl rfl rfl rfl rfl rfl rfl rfl (fun _ _ => rfl) rfl (ms_store_all (k := 4) t48 rfl rfl rfl rfl rfl rfl) (fun _ _ => stg_end [] rfl rfl prs_nil rfl rfl rfl ?_)))) (nx_cons (nx_mem 9 [9, 8, 7, 6, 5, 2, 1] [] (fun v96 => []) rfl rfl rfl rfl rfl rfl rfl rfl rfl (fun _ _ => rfl) rfl (ms_bslice1 eTx xt.1 Tryz.underlying46 t48 rfl (by decide) (by decide) rfl rfl rfl) (fun v96 _ => stg_mem [] 0 [9, 8, 7, 6, 5, 2, 1, 0] [3, 4, 10] (fun v87 => [(3, 90, _), (4, 91, _), (10, 97, _)]) rfl rfl prs_nil rfl rfl rfl rfl rfl rfl rfl rfl rfl rfl rfl (fun _ _ => rfl) rfl (ms_bslice eS unL (parts := [(0, .const (.string (ByteArray.mk #[45]))), (1, .const (.string (ByteArray.mk #[126]))), (2, .const (.string (ByteArray.mk #[33])))]) Tryz.underlying58 t9 rfl (by decide) (by intro _; rfl) rfl (by decide) (by decide) rfl rfl rfl) (fun v87 _ => stg_mem0 [3, 4, 10] 11 [11, 10, 9, 8, 7, 6, 5, 4, 3, 2, 1, 0] [] (fun _ => []) rfl rfl (prs_cons (pri rfl (p_idx_sl (j := (gN e.c.l 3 s1).1.toNat) Tryz.underlying58 t9 rfl rfl (hs_own (k := 87) rfl) hjbu hjau)) (prs_cons (pri rfl (p_load1 t9 rfl rfl (g_el' (hs_own (k := 87) rfl) (by intro _; rfl) hxu (by rfl)))) (prs_cons (pri rfl (p_build (parts := [(0, .const (.int .i64 6)), (2, .tmp 91), (3, .tmp 96)]) t48 pl48 rfl rfl)) prs_nil))) rfl rfl rfl rfl rfl rfl rfl rfl rfl (fun _ _ => rfl) rfl (ms_store_all (k := 4) t48 rfl rfl rfl rfl rfl rfl) (fun _ _ => stg_end [] rfl rfl prs_nil rfl rfl rfl ?_)))) nx_nil)))) nx_nil)))) nx_nil)))
      ·refine r_cret ?_
       refine r_collect 50 [96, 95] rfl one_all ?_
       refine r_ret (.mk 6 0 xu v96 [xt.1], xt.2) (.una (q6 ▸ hk) rfl hxu hxt) rfl (rs1 (rv_cellA t48 rfl rfl rfl (g_all (k := 4) rfl))) rfl [0, 50] [] rfl rfl rfl
      ·refine r_cret ?_
       refine r_collect 50 [96, 95] rfl one_all ?_
       refine r_ret (.mk 6 0 xu v96 [xt.1], xt.2) (.una (q6 ▸ hk) rfl hxu hxt) rfl (rs1 (rv_cellA t48 rfl rfl rfl (g_all (k := 4) rfl))) rfl [0, 50] [] rfl rfl rfl
      ·refine r_cret ?_
       refine r_collect 50 [96, 95] rfl one_all ?_
       refine r_ret (.mk 6 0 xu v96 [xt.1], xt.2) (.una (q6 ▸ hk) rfl hxu hxt) rfl (rs1 (rv_cellA t48 rfl rfl rfl (g_all (k := 4) rfl))) rfl [0, 50] [] rfl rfl rfl
      ·refine r_cret ?_
       refine r_collect 50 [96, 95] rfl one_all ?_
       refine r_ret (.mk 6 0 xu v96 [xt.1], xt.2) (.una (q6 ▸ hk) rfl hxu hxt) rfl (rs1 (rv_cellA t48 rfl rfl rfl (g_all (k := 4) rfl))) rfl [0, 50] [] rfl rfl rfl
     ·(try simp only [decide_eq_true_eq, decide_eq_false_iff_not, Bool.and_eq_true, Bool.or_eq_true, Bool.and_eq_false_iff, Bool.or_eq_false_iff, Bool.not_eq_true, Bool.not_eq_false, Bool.not_eq_true', Bool.not_eq_false', Bool.not_not, bne_iff_ne, beq_iff_eq] at h28)
      have q6 : ¬ k = 6 := h28
      refine r_seq ?_
      refine r_draw [99, 100, 101, 102, 103, 104, 105, 106, 107, 108, 109, 110, 111, 112, 113, 98] _ rfl (stg_end (V := [(0, 99, _), (1, 100, _), (2, 101, _), (3, 102, _), (4, 103, _), (5, 104, _), (6, 105, _), (7, 106, _), (8, 107, _), (9, 108, _), (10, 109, _), (11, 110, _), (12, 111, _), (13, 112, _), (14, 113, _), (15, 98, _)]) [0, 1, 2, 3, 4, 5, 6, 7, 8, 9, 10, 11, 12, 13, 14, 15] rfl rfl (prs_cons (pri rfl (p_move rfl)) (prs_cons (pri rfl (p_bin rfl rfl b_eq)) (prs_cons (pri rfl (p_move rfl)) (prs_cons (prig_s [] rfl rfl rfl trivial (fun hg29 => p_move rfl)) (prs_cons (prig_s [(102, _)] rfl rfl rfl ⟨rfl, trivial⟩ (fun hg30 => p_nilCheck rfl)) (prs_cons (prig_s [(103, _)] rfl rfl rfl ⟨rfl, trivial⟩ (fun hg31 => p_field0 fo76_6 rfl)) (prs_cons (prig_s [(104, _)] rfl rfl rfl ⟨rfl, trivial⟩ (fun hg32 => p_load1 t3 rfl rfl (g_row1 (k := 0) rfl rfl))) (prs_cons (prig_s [(105, _)] rfl rfl rfl ⟨rfl, trivial⟩ (fun hg33 => p_bin rfl rfl (b_add (by first | exact w_i64 (by omega) (by omega) | rfl)))) (prs_cons (prig_s [] rfl rfl rfl trivial (fun hg34 => p_move rfl)) (prs_cons (prig_s [(107, _)] rfl rfl rfl ⟨rfl, trivial⟩ (fun hg35 => p_nilCheck rfl)) (prs_cons (prig_s [(108, _)] rfl rfl rfl ⟨rfl, trivial⟩ (fun hg36 => p_field0 fo76_7 rfl)) (prs_cons (prig_s [(109, _)] rfl rfl rfl ⟨rfl, trivial⟩ (fun hg37 => p_load1 t27 rfl rfl (g_row1 (k := 0) rfl rfl))) (prs_cons (prig_s [(110, _)] rfl rfl rfl ⟨rfl, trivial⟩ (fun hg38 => p_len_sl Tryz.underlying27 rfl (hs_sl (k := 3) rfl))) (prs_cons (prig_s [(106, _), (111, _)] rfl rfl rfl ⟨rfl, rfl, trivial⟩ (fun hg39 => p_bin rfl rfl b_lt)) (prs_cons (pri rfl (p_pick rfl rfl rfl (by first | exact pick_and | exact pick_or |  rfl))) (prs_cons (pri rfl (p_assign rfl)) prs_nil)))))))))))))))) rfl rfl rfl ?_)
      refine r_cond rfl (fun h40 => ?_) (fun h40 => ?_)
      ·(try simp only [decide_eq_true_eq, decide_eq_false_iff_not, Bool.and_eq_true, Bool.or_eq_true, Bool.and_eq_false_iff, Bool.or_eq_false_iff, Bool.not_eq_true, Bool.not_eq_false, Bool.not_eq_true', Bool.not_eq_false', Bool.not_not, bne_iff_ne, beq_iff_eq] at h40)
       have q7 : k = 7 ∧ e.c.me + 1 < e.F.length := ⟨h40.1, by have := h40.2; omega⟩
       obtain ⟨d2, rfl⟩ : ∃ d2, d = d2 + 1 := ⟨d - 1, by have := hk4; omega⟩
       have hjb := gN_bnd e.c.l (n := (e.F.length : Int) - (e.c.me : Int) - 1) (by omega) s1
       obtain ⟨jf, hjf⟩ : ∃ jf : Nat, (e.c.me : Int) + 1 + (gN e.c.l ((e.F.length : Int) - (e.c.me : Int) - 1) s1).1 = (jf : Int) := ⟨((e.c.me : Int) + 1 + (gN e.c.l ((e.F.length : Int) - (e.c.me : Int) - 1) s1).1).toNat, by omega⟩
       have hjl : jf < e.F.length := by omega
       obtain ⟨f, hfj⟩ : ∃ f, e.F[jf]? = some f := ⟨_, List.getElem?_eq_getElem hjl⟩
       refine r_seq_cut (X := Tf × Gs × Nat) (fun y => y.1 ∈ e.F ∧ ∃ j, gN e.c.l ((e.c.fs.length : Int) - (e.c.me : Int) - 1) s1 = (j, y.2.1) ∧ e.c.fs[((e.c.me : Int) + 1 + j).toNat]? = some (y.1.name, y.1.ps)) (fun y => [(0, .pointer (some ⟨e.g, 0, none⟩)), (1, .int .i64 (((d2 + 1 : Nat) : Int) + 1)), (4, .pointer (some ⟨b4, 0, none⟩)), (6, .pointer (some ⟨y.2.2, 0, none⟩))]) (fun y => [(0, row e.g 76 (gRow e.vl (y.2.1) e.vn e.c.me e.vf)), (4, row b4 48 (eTx (.mk 0 0 oNil nilS []))), (6, row y.2.2 63 (eTf y.1))]) (fun y => [(0, sl 1 eI (sv e.vl) e.c.l), (1, sl 1 eS (sv e.vn) s.names), (2, tfsA e.vf e.F), (3, sl 3 eTf (sv e.vf) e.F)]) ?_ (fun y hy => ?_)
       ·refine r_draw [114, 115, 116, 117, 118, 119, 120, 121, 122, 123, 124, 125, 126, 127, 128, 129, 130, 131, 132, 133, 134, 135, 136, 137, 138, 6] _ rfl (stg_alts (V := [(0, 114, _), (1, 115, _), (2, 116, _), (3, 117, _), (4, 118, _), (5, 119, _), (6, 120, _), (7, 121, _), (8, 122, _), (9, 123, _), (10, 124, _), (11, 125, _), (12, 126, _), (13, 127, _), (14, 128, _), (15, 129, _), (16, 130, _), (17, 131, _), (18, 132, _), (19, 133, _), (20, 134, _)]) [0, 1, 2, 3, 4, 5, 6, 7, 8, 9, 10, 11, 12, 13, 14, 15, 16, 17, 18, 19, 20] rfl rfl (prs_cons (pri rfl (p_move rfl)) (prs_cons (pri rfl (p_nilCheck rfl)) (prs_cons (pri rfl (p_field0 fo76_7 rfl)) (prs_cons (pri rfl (p_load1 t27 rfl rfl (g_row1 (k := 0) rfl rfl))) (prs_cons (pri rfl (p_move rfl)) (prs_cons (pri rfl (p_nilCheck rfl)) (prs_cons (pri rfl (p_field0 fo76_6 rfl)) (prs_cons (pri rfl (p_load1 t3 rfl rfl (g_row1 (k := 0) rfl rfl))) (prs_cons (pri rfl (p_bin rfl rfl (b_add (by first | exact w_i64 (by omega) (by omega) | rfl)))) (prs_cons (pri rfl (p_move rfl)) (prs_cons (pri rfl (p_move rfl)) (prs_cons (pri rfl (p_nilCheck rfl)) (prs_cons (pri rfl (p_field0 fo76_7 rfl)) (prs_cons (pri rfl (p_load1 t27 rfl rfl (g_row1 (k := 0) rfl rfl))) (prs_cons (pri rfl (p_len_sl Tryz.underlying27 rfl (hs_sl (k := 3) rfl))) (prs_cons (pri rfl (p_move rfl)) (prs_cons (pri rfl (p_nilCheck rfl)) (prs_cons (pri rfl (p_field0 fo76_6 rfl)) (prs_cons (pri rfl (p_load1 t3 rfl rfl (g_row1 (k := 0) rfl rfl))) (prs_cons (pri rfl (p_bin rfl rfl (b_sub (by first | exact w_i64 (by omega) (by omega) | rfl)))) (prs_cons (pri rfl (p_bin rfl rfl (b_sub (by first | exact w_i64 (by omega) (by omega) | rfl)))) prs_nil))))))))))))))))))))) rfl [21, 25] rfl rfl (nx_cons (nx_mem 21 [21, 20, 19, 18, 17, 16, 15, 14, 13, 12, 11, 10, 9] [22, 23, 24] (fun _ => [(22, 136, _), (23, 137, _), (24, 138, _)]) rfl rfl rfl rfl rfl rfl rfl rfl rfl (fun _ _ => rfl) rfl (ms_callN (xs := [.tmp 123, .tmp 134]) (gnext_spec e.g e.vl e.vn e.vf e.c he.hl he.hlo (((e.F.length : Int) - (e.c.me : Int) - 1)) (by omega) (s1)) cb31 [0] [(false, 0)] [0] rfl rfl rfl rfl rfl rfl rfl rfl (fun _ _ => rfl) (fun _ _ _ => rfl)) (fun _ _ => stg_mem [22, 23, 24, 0, 1, 2, 3, 4, 5, 6, 7, 8] 25 [25, 21, 20, 19, 18, 17, 16, 15, 14, 13, 12, 11, 10, 9] [] (fun b6 => []) rfl rfl (prs_cons (pri rfl (p_bin rfl rfl (b_add (by first | exact w_i64 (by omega) (by omega) | rfl)))) (prs_cons (pri rfl (p_idx_sl (j := jf) Tryz.underlying27 t63 rfl rfl (hs_sl (k := 3) rfl) hjf hjl)) (prs_cons (pri rfl (p_loadA t63 rfl rfl rfl (g_el' (hs_sl (k := 3) rfl) (by intro _; rfl) hfj (by rfl)))) (prs_cons (pri rfl (p_move rfl)) (prs_cons (pri rfl (p_nilCheck rfl)) (prs_cons (pri rfl (p_field0 fo76_7 rfl)) (prs_cons (pri rfl (p_load1 t27 rfl rfl (g_row1 (k := 0) rfl rfl))) (prs_cons (pri rfl (p_move rfl)) (prs_cons (pri rfl (p_nilCheck rfl)) (prs_cons (pri rfl (p_field0 fo76_6 rfl)) (prs_cons (pri rfl (p_load1 t3 rfl rfl (g_row1 (k := 0) rfl rfl))) (prs_cons (pri rfl (p_bin rfl rfl (b_add (by first | exact w_i64 (by omega) (by omega) | rfl)))) prs_nil)))))))))))) rfl rfl rfl rfl rfl rfl rfl rfl rfl rfl rfl (fun _ _ => rfl) rfl (ms_alloc t63 rfl) (fun b6 _ => stg_mem0 [22, 23, 24, 0, 1, 2, 3, 4, 5, 6, 7, 8] 26 [26, 25, 24, 23, 22, 21, 20, 19, 18, 17, 16, 15, 14, 13, 12, 11, 10, 9, 8, 7, 6, 5, 4, 3, 2, 1, 0] [] (fun _ => []) rfl rfl (prs_cons (pri rfl (p_bin rfl rfl (b_add (by first | exact w_i64 (by omega) (by omega) | rfl)))) (prs_cons (pri rfl (p_idx_sl (j := jf) Tryz.underlying27 t63 rfl rfl (hs_sl (k := 3) rfl) hjf hjl)) (prs_cons (pri rfl (p_loadA t63 rfl rfl rfl (g_el' (hs_sl (k := 3) rfl) (by intro _; rfl) hfj (by rfl)))) (prs_cons (pri rfl (p_move rfl)) (prs_cons (pri rfl (p_nilCheck rfl)) (prs_cons (pri rfl (p_field0 fo76_7 rfl)) (prs_cons (pri rfl (p_load1 t27 rfl rfl (g_row1 (k := 0) rfl rfl))) (prs_cons (pri rfl (p_move rfl)) (prs_cons (pri rfl (p_nilCheck rfl)) (prs_cons (pri rfl (p_field0 fo76_6 rfl)) (prs_cons (pri rfl (p_load1 t3 rfl rfl (g_row1 (k := 0) rfl rfl))) (prs_cons (pri rfl (p_bin rfl rfl (b_add (by first | exact w_i64 (by omega) (by omega) | rfl)))) prs_nil)))))))))))) rfl rfl rfl rfl rfl rfl rfl rfl rfl (fun _ _ => rfl) rfl (ms_store_all (k := 6) t63 rfl rfl rfl rfl rfl rfl) (fun _ _ => stg_end [] rfl rfl prs_nil rfl rfl rfl ?_)))) (nx_cons (nx_mem 25 [25] [] (fun b6 => []) rfl rfl rfl rfl rfl rfl rfl rfl rfl (fun _ _ => rfl) rfl (ms_alloc t63 rfl) (fun b6 _ => stg_mem [0, 1, 2, 3, 4, 5, 6, 7, 8, 9, 10, 11, 12, 13, 14, 15, 16, 17, 18, 19, 20] 21 [25, 21, 20, 19, 18, 17, 16, 15, 14, 13, 12, 11, 10, 9] [22, 23, 24] (fun _ => [(22, 136, _), (23, 137, _), (24, 138, _)]) rfl rfl (prs_cons (pri rfl (p_move rfl)) (prs_cons (pri rfl (p_nilCheck rfl)) (prs_cons (pri rfl (p_field0 fo76_7 rfl)) (prs_cons (pri rfl (p_load1 t27 rfl rfl (g_row1 (k := 0) rfl rfl))) (prs_cons (pri rfl (p_move rfl)) (prs_cons (pri rfl (p_nilCheck rfl)) (prs_cons (pri rfl (p_field0 fo76_6 rfl)) (prs_cons (pri rfl (p_load1 t3 rfl rfl (g_row1 (k := 0) rfl rfl))) (prs_cons (pri rfl (p_bin rfl rfl (b_add (by first | exact w_i64 (by omega) (by omega) | rfl)))) (prs_cons (pri rfl (p_move rfl)) (prs_cons (pri rfl (p_move rfl)) (prs_cons (pri rfl (p_nilCheck rfl)) (prs_cons (pri rfl (p_field0 fo76_7 rfl)) (prs_cons (pri rfl (p_load1 t27 rfl rfl (g_row1 (k := 0) rfl rfl))) (prs_cons (pri rfl (p_len_sl Tryz.underlying27 rfl (hs_sl (k := 3) rfl))) (prs_cons (pri rfl (p_move rfl)) (prs_cons (pri rfl (p_nilCheck rfl)) (prs_cons (pri rfl (p_field0 fo76_6 rfl)) (prs_cons (pri rfl (p_load1 t3 rfl rfl (g_row1 (k := 0) rfl rfl))) (prs_cons (pri rfl (p_bin rfl rfl (b_sub (by first | exact w_i64 (by omega) (by omega) | rfl)))) (prs_cons (pri rfl (p_bin rfl rfl (b_sub (by first | exact w_i64 (by omega) (by omega) | rfl)))) prs_nil))))))))))))))))))))) rfl rfl rfl rfl rfl rfl rfl rfl rfl rfl rfl (fun _ _ => rfl) rfl (ms_callN (xs := [.tmp 123, .tmp 134]) (gnext_spec e.g e.vl e.vn e.vf e.c he.hl he.hlo (((e.F.length : Int) - (e.c.me : Int) - 1)) (by omega) (s1)) cb31 [0] [(false, 0)] [0] rfl rfl rfl rfl rfl rfl rfl rfl (fun _ _ => rfl) (fun _ _ _ => rfl)) (fun _ _ => stg_mem0 [22, 23, 24, 0, 1, 2, 3, 4, 5, 6, 7, 8] 26 [26, 25, 24, 23, 22, 21, 20, 19, 18, 17, 16, 15, 14, 13, 12, 11, 10, 9, 8, 7, 6, 5, 4, 3, 2, 1, 0] [] (fun _ => []) rfl rfl (prs_cons (pri rfl (p_bin rfl rfl (b_add (by first | exact w_i64 (by omega) (by omega) | rfl)))) (prs_cons (pri rfl (p_idx_sl (j := jf) Tryz.underlying27 t63 rfl rfl (hs_sl (k := 3) rfl) hjf hjl)) (prs_cons (pri rfl (p_loadA t63 rfl rfl rfl (g_el' (hs_sl (k := 3) rfl) (by intro _; rfl) hfj (by rfl)))) (prs_cons (pri rfl (p_move rfl)) (prs_cons (pri rfl (p_nilCheck rfl)) (prs_cons (pri rfl (p_field0 fo76_7 rfl)) (prs_cons (pri rfl (p_load1 t27 rfl rfl (g_row1 (k := 0) rfl rfl))) (prs_cons (pri rfl (p_move rfl)) (prs_cons (pri rfl (p_nilCheck rfl)) (prs_cons (pri rfl (p_field0 fo76_6 rfl)) (prs_cons (pri rfl (p_load1 t3 rfl rfl (g_row1 (k := 0) rfl rfl))) (prs_cons (pri rfl (p_bin rfl rfl (b_add (by first | exact w_i64 (by omega) (by omega) | rfl)))) prs_nil)))))))))))) rfl rfl rfl rfl rfl rfl rfl rfl rfl (fun _ _ => rfl) rfl (ms_store_all (k := 6) t63 rfl rfl rfl rfl rfl rfl) (fun _ _ => stg_end [] rfl rfl prs_nil rfl rfl rfl ?_)))) nx_nil)))
        ·refine r_here (f, (gN e.c.l ((e.F.length : Int) - (e.c.me : Int) - 1) s1).2, b6) ⟨List.mem_of_getElem? hfj, _, by rw [hfl], by rw [he.fs, List.getElem?_map, show ((e.c.me : Int) + 1 + (gN e.c.l ((e.F.length : Int) - (e.c.me : Int) - 1) s1).1).toNat = jf by omega, hfj]; rfl⟩ rfl rfl rfl
        ·refine r_here (f, (gN e.c.l ((e.F.length : Int) - (e.c.me : Int) - 1) s1).2, b6) ⟨List.mem_of_getElem? hfj, _, by rw [hfl], by rw [he.fs, List.getElem?_map, show ((e.c.me : Int) + 1 + (gN e.c.l ((e.F.length : Int) - (e.c.me : Int) - 1) s1).1).toNat = jf by omega, hfj]; rfl⟩ rfl rfl rfl
       ·obtain ⟨f, s2, b6⟩ := y
        obtain ⟨hfm, jn, hjn, hfx⟩ := hy
        dsimp only at hfm hjn hfx ⊢
        have hn2 : s2.names = s.names := (gN_st2 hjn).1.trans hn1
        refine r_seq (r_region (r_p (p_move rfl) rfl ?_))
        refine r_p (p_loadA t63 rfl rfl rfl (g_all (k := 6) rfl)) rfl ?_
        refine r_p (p_move rfl) rfl ?_
        refine r_callN (xs := [.tmp 139, .tmp 140, .tmp 141]) (ihC _ rfl s2 f hfm (by rw [hn2]; exact hn)) cb50 [0] [(false, 0), (false, 1), (false, 2)] [0, 142] rfl rfl rfl rfl rfl (by rw [← hn2]; rfl) rfl rfl (fun _ _ => rfl) (fun _ _ _ => rfl) rfl (fun xt hxt => ?_)
        refine r_store_all (k := 4) t48 rfl rfl rfl rfl rfl rfl ?_
        refine r_nil (r_cret ?_)
        obtain ⟨ps, hps, hpe⟩ := hxt
        refine r_ret (xt.1, xt.2) (by rw [hpe]; exact .call (q7.1 ▸ hk) (by rw [hfl]; exact q7.2) hjn hfx hps) rfl (rs1 (rv_cellA t48 rfl rfl rfl (g_all (k := 4) rfl))) rfl [0, 142] [] rfl rfl rfl
      ·(try simp only [decide_eq_true_eq, decide_eq_false_iff_not, Bool.and_eq_true, Bool.or_eq_true, Bool.and_eq_false_iff, Bool.or_eq_false_iff, Bool.not_eq_true, Bool.not_eq_false, Bool.not_eq_true', Bool.not_eq_false', Bool.not_not, bne_iff_ne, beq_iff_eq] at h40)
       have q7 : ¬ (k = 7 ∧ e.c.me + 1 < e.F.length) := by rintro ⟨h1, h2⟩; rcases h40 with h | h; exact h h1; omega
       refine r_seq (r_region (r_p (p_move rfl) rfl ?_))
       refine r_p (p_bin rfl rfl b_gt) rfl ?_
       refine r_p (p_assign rfl) rfl (r_nil ?_)
       refine r_cond rfl (fun h41 => ?_) (fun h41 => ?_)
       ·(try simp only [decide_eq_true_eq, decide_eq_false_iff_not, Bool.and_eq_true, Bool.or_eq_true, Bool.and_eq_false_iff, Bool.or_eq_false_iff, Bool.not_eq_true, Bool.not_eq_false, Bool.not_eq_true', Bool.not_eq_false', Bool.not_not, bne_iff_ne, beq_iff_eq] at h41)
        have q8 : 7 < k := h41
        obtain ⟨d2, rfl⟩ : ∃ d2, d = d2 + 1 := ⟨d - 1, by have := hk4; omega⟩
        refine r_seq (r_region ?_)
        refine r_bslice eS biL (parts := [(0, .const (.string (ByteArray.mk #[43]))), (1, .const (.string (ByteArray.mk #[45]))), (2, .const (.string (ByteArray.mk #[42]))), (3, .const (.string (ByteArray.mk #[47]))), (4, .const (.string (ByteArray.mk #[37]))), (5, .const (.string (ByteArray.mk #[38]))), (6, .const (.string (ByteArray.mk #[124]))), (7, .const (.string (ByteArray.mk #[94]))), (8, .const (.string (ByteArray.mk #[60, 60]))), (9, .const (.string (ByteArray.mk #[62, 62]))), (10, .const (.string (ByteArray.mk #[60]))), (11, .const (.string (ByteArray.mk #[60, 61]))), (12, .const (.string (ByteArray.mk #[62]))), (13, .const (.string (ByteArray.mk #[62, 61]))), (14, .const (.string (ByteArray.mk #[61, 61]))), (15, .const (.string (ByteArray.mk #[33, 61])))]) Tryz.underlying58 t9 rfl (by decide) (by intro _; rfl) rfl (by decide) (by decide) rfl rfl rfl rfl fun v146 => ?_
        refine r_p (p_assign rfl) rfl (r_nil (r_seq (r_region (r_p (p_move rfl) rfl (r_p (p_move rfl) rfl (r_p (p_move rfl) rfl ?_))))))
        refine r_p (p_len_sl Tryz.underlying58 rfl (hs_own (k := 146) rfl)) rfl ?_
        refine r_callN (xs := [.tmp 148, .tmp 150]) (gnext_spec e.g e.vl e.vn e.vf e.c he.hl he.hlo (16) (by decide) (s1)) cb31 [0] [(false, 0)] [0] rfl rfl rfl rfl rfl rfl rfl rfl (fun _ _ => rfl) (fun _ _ _ => rfl) rfl (fun _ _ => ?_)
        obtain ⟨xb, hxb, hjab, hjbb⟩ := gN_idx (l := e.c.l) (L := biL) (n := 16) (by decide) rfl (s1)
        have hn7 : (gN e.c.l 16 s1).2.names = s.names := (gN_keep e.c.l 16 s1).1.trans hn1
        refine r_p (p_idx_sl (j := (gN e.c.l 16 s1).1.toNat) Tryz.underlying58 t9 rfl rfl (hs_own (k := 146) rfl) hjbb hjab) rfl ?_
        refine r_p (p_load1 t9 rfl rfl (g_el' (hs_own (k := 146) rfl) (by intro _; rfl) hxb (by rfl))) rfl ?_
        refine r_p (p_assign rfl) rfl (r_nil (r_seq (r_region (r_p (p_move rfl) rfl (r_p (p_move rfl) rfl ?_)))))
        refine r_p (p_bin rfl rfl (b_sub (c := (d2 : Int) + 1) (by rw [show (((d2 + 1 : Nat) : Int) + 1) - 1 = (d2 : Int) + 1 by omega]; exact w_i64 (by omega) (by omega)))) rfl ?_
        refine r_callN (xs := [.tmp 154, .tmp 156]) (ihX _ rfl ((gN e.c.l 16 s1).2) (by rw [hn7]; exact hn)) cb49 [0] [(false, 0), (false, 1), (false, 2)] [0, 157] rfl rfl rfl rfl rfl (by rw [← hn7]; rfl) rfl rfl (fun _ _ => rfl) (fun _ _ _ => rfl) rfl (fun xt hxt => ?_)
        have hn8 : xt.2.names = s.names := hxt.keep.1.trans hn7
        refine r_alloc t48 rfl rfl fun b9 => ?_
        refine r_store_all (k := 9) t48 rfl rfl rfl rfl rfl rfl ?_
        refine r_nil (r_seq ?_)
        refine r_draw [158, 159, 160, 161, 162, 163, 164, 165] _ rfl (stg_mem (V := [(0, 158, _), (1, 159, _), (2, 160, _), (3, 161, _), (4, 162, _)]) [0, 1, 2, 3, 4] 5 [5, 4, 3, 2] [] (fun xu => []) rfl rfl (prs_cons (pri rfl (p_move rfl)) (prs_cons (pri rfl (p_loadA t48 rfl rfl rfl (g_all (k := 9) rfl))) (prs_cons (pri rfl (p_move rfl)) (prs_cons (pri rfl (p_move rfl)) (prs_cons (pri rfl (p_bin rfl rfl (b_sub (c := (d2 : Int) + 1) (by rw [show (((d2 + 1 : Nat) : Int) + 1) - 1 = (d2 : Int) + 1 by omega]; exact w_i64 (by omega) (by omega))))) prs_nil))))) rfl rfl rfl rfl rfl rfl rfl rfl rfl rfl rfl (fun _ _ => rfl) rfl (ms_callN (xs := [.tmp 160, .tmp 162]) (ihX _ rfl (xt.2) (by rw [hn8]; exact hn)) cb49 [0] [(false, 0), (false, 1), (false, 2)] [0, 163] rfl rfl rfl rfl rfl (by rw [← hn8]; rfl) rfl rfl (fun _ _ => rfl) (fun _ _ _ => rfl)) (fun xu hxu => stg_mem [0, 1] 6 [6, 5, 4, 3, 2, 1] [7] (fun v164 => [(7, 165, _)]) rfl rfl (prs_cons (pri rfl (p_move rfl)) (prs_cons (pri rfl (p_loadA t48 rfl rfl rfl (g_all (k := 9) rfl))) prs_nil)) rfl rfl rfl rfl rfl rfl rfl rfl rfl rfl rfl (fun _ _ => rfl) rfl (ms_bslice eTx [xt.1, xu.1] (parts := [(0, .tmp 159), (1, .tmp 163)]) Tryz.underlying46 t48 rfl (by decide) (by intro _; rfl) rfl (by decide) (by decide) rfl rfl rfl) (fun v164 _ => stg_mem0 [7, 0] 8 [8, 7, 6, 5, 4, 3, 2, 1, 0] [] (fun _ => []) rfl rfl (prs_cons (pri rfl (p_build (parts := [(0, .const (.int .i64 7)), (2, .tmp 158), (3, .tmp 164)]) t48 pl48 rfl rfl)) (prs_cons (pri rfl (p_move rfl)) prs_nil)) rfl rfl rfl rfl rfl rfl rfl rfl rfl (fun _ _ => rfl) rfl (ms_store_all (k := 4) t48 rfl rfl rfl rfl rfl rfl) (fun _ _ => stg_end [] rfl rfl prs_nil rfl rfl rfl ?_))))
        refine r_cret ?_
        refine r_collect 50 [164, 157, 163] rfl two_all ?_
        refine r_ret (tBin xb v164 xt.1 xu.1, xu.2) (.bin hk q8 rfl hxb hxt hxu) rfl (rs1 (rv_cellA t48 rfl rfl rfl (g_all (k := 4) rfl))) rfl [0, 50] [] rfl rfl rfl
       ·(try simp only [decide_eq_true_eq, decide_eq_false_iff_not, Bool.and_eq_true, Bool.or_eq_true, Bool.and_eq_false_iff, Bool.or_eq_false_iff, Bool.not_eq_true, Bool.not_eq_false, Bool.not_eq_true', Bool.not_eq_false', Bool.not_not, bne_iff_ne, beq_iff_eq] at h41)
        have q8 : ¬ 7 < k := by omega
        refine r_skip (r_seq (r_region (r_p (p_move rfl) rfl ?_)))
        refine r_callN (xs := [.tmp 166]) (gconst_spec e.g e.vl e.vn e.vf e.c he.hl he.hlo s1) cb86 [0] [(false, 0)] [0] rfl rfl rfl rfl rfl rfl rfl rfl (fun _ _ => rfl) (fun _ _ _ => rfl) rfl (fun xc hxc => ?_)
        refine r_store_all (k := 4) t48 rfl rfl rfl rfl rfl rfl ?_
        refine r_nil (r_cret ?_)
        refine r_collect 50 [] (L := []) rfl leaf_all ?_
        refine r_ret (tNum xc, (gN e.c.l 15 s1).2) (.con hk hq q3 (fun h => q4 (.inl h)) (fun h => q4 (.inr h)) q6 (fun h => q7 ⟨h.1, by rw [← hfl]; exact h.2⟩) q8 rfl hxc) rfl (rs1 (rv_cellA t48 rfl rfl rfl (g_all (k := 4) rfl))) rfl [0, 50] [] rfl rfl rfl
/-- The parts of statements can be read. -/
def ysA (l : List Ty) : Asn := ⟨fun w F => TysIn w F l, fun h hs => TysIn.mono (fun _ hb => hb) hs _ h⟩
theorem ys_snoc {w : World} {F : Nat → Prop} : ∀ {l : List Ty} {t : Ty}, TysIn w F l → TyIn w F t → TysIn w F (l ++ [t])
 | [], t, _, ht => ⟨ht, trivial⟩
 | a :: r, t, h, ht => ⟨h.1, ys_snoc h.2 ht⟩
theorem ys_up {w : World} {F G : Nat → Prop} {l : List Ty} (h : (ysA l).pred w G) (hs : ∀ b, G b → F b) : TysIn w F l := TysIn.mono hs (fun _ _ => rfl) l h
theorem Spec.roAll {P : Program} {n : Nat} {vs : List Value} {L R0 R1 : List Asn} {X : Type} {φ : X → Prop} {v : X → Value} {L' R' : X → List Asn} (h : Spec P n vs L R0 φ v L' R') (hAB : ∀ (i : Nat) (A : Asn), R0[i]? = some A → ∃ B : Asn, R1[i]? = some B ∧ ∀ w G, B.pred w G → A.pred w G) : Spec P n vs L R1 φ v L' R' := fun w M H ⟨F, hF⟩ =>
 h w M H ⟨F, hF.touch, hF.has, hF.lt, hF.mine, hF.apart, fun k C hk => by
  obtain ⟨B, h1, h2⟩ := hAB k C hk
  obtain ⟨G, g1, g2⟩ := hF.ro k B h1
  exact ⟨G, h2 _ _ g1, g2⟩⟩
theorem own2of3 {A B C D : Asn} (h : ∀ w G, D.pred w G → B.pred w G) : ∀ (i : Nat) (X : Asn), ([A, B, C] : List Asn)[i]? = some X → ∃ Y, ([A, D, C] : List Asn)[i]? = some Y ∧ ∀ w G, Y.pred w G → X.pred w G
 | 0, X, hX => ⟨A, rfl, by cases hX; exact fun _ _ h => h⟩
 | 1, X, hX => ⟨D, rfl, by cases hX; exact h⟩
 | 2, X, hX => ⟨C, rfl, by cases hX; exact fun _ _ h => h⟩
 | i + 3, X, hX => by simp at hX
theorem hg_all {e : Ge} (he : Gfine e) : ∀ d, d ≤ 10 → HGX e d ∧ HGC e d
 | 0, hd => by
  have hx : HGX e 0 := fun s hn => gexpr_step e he 0 hd (fun k h => by omega) (fun k h => by omega) s hn
  exact ⟨hx, fun s f hf hn => gcall_step e he 0 hd hx s f hf hn⟩
 | d + 1, hd => by
  have ih := hg_all he d (by omega)
  have hx : HGX e (d + 1) := fun s hn => gexpr_step e he (d + 1) hd (fun k h => (show d = k by omega) ▸ ih.1) (fun k h => (show d = k by omega) ▸ ih.2) s hn
  exact ⟨hx, fun s f hf hn => gcall_step e he (d + 1) hd hx s f hf hn⟩
def Ge.at (e : Ge) (v : SV) : Ge := { e with vn := v }
theorem Gfine.at {e : Ge} (he : Gfine e) (v : SV) : Gfine (e.at v) := ⟨he.hl, he.hlo, he.fs, he.fl, he.me, he.ps⟩
/-- The contract of an expression that is lent the owned names. -/
theorem gx_own {e : Ge} (he : Gfine e) (d : Nat) (hd : d ≤ 10) (v : SV) (s : Gs) (hn : s.names.length ≤ 1000) : Spec Tryz.prog 49 [.pointer (some ⟨e.g, 0, none⟩), .int .i64 ((d : Int) + 1)] [row e.g 76 (gRow e.vl s v e.c.me e.vf)] [sl 1 eI (sv e.vl) e.c.l, own 9 1 eS (sv v) s.names, tfsA e.vf e.F] (X := Tx × Gs) (fun x => GXr e.c d s (erX x.1) x.2) (fun x => xV x.1) (fun x => [row e.g 76 (gRow e.vl x.2 v e.c.me e.vf), txsA x.1.v x.1.kids]) (fun _ => []) :=
 Spec.roAll ((hg_all (he.at v) d hd).1 s hn) (own2of3 own_to_sl)
theorem gc_own {e : Ge} (he : Gfine e) (d : Nat) (hd : d ≤ 10) (v : SV) (s : Gs) (f : Tf) (hf : f ∈ e.F) (hn : s.names.length ≤ 1000) : Spec Tryz.prog 50 [.pointer (some ⟨e.g, 0, none⟩), tfV f, .int .i64 ((d : Int) + 2)] [row e.g 76 (gRow e.vl s v e.c.me e.vf)] [sl 1 eI (sv e.vl) e.c.l, own 9 1 eS (sv v) s.names, tfsA e.vf e.F] (X := Tx × Gs) (fun x => GCr e.c d (f.name, f.ps) s (erX x.1) x.2) (fun x => xV x.1) (fun x => [row e.g 76 (gRow e.vl x.2 v e.c.me e.vf), txsA x.1.v x.1.kids]) (fun _ => []) :=
 Spec.roAll ((hg_all (he.at v) d hd).2 s f hf hn) (own2of3 own_to_sl)
/-- What the states keep. -/
structure GInv (s : Gs) : Prop where
 v0 : 0 ≤ s.vars
 v8 : s.vars ≤ 8
 nm : (s.names.length : Int) ≤ 100 + s.vars
 lf : s.left ≤ 1000
theorem GInv.same {s s' : Gs} (h : GInv s) (k : s'.names = s.names ∧ s'.left = s.left ∧ s'.vars = s.vars) : GInv s' := ⟨by rw [k.2.2]; exact h.v0, by rw [k.2.2]; exact h.v8, by rw [k.1, k.2.2]; exact h.nm, by rw [k.2.1]; exact h.lf⟩
theorem GInv.n {s : Gs} (h : GInv s) : s.names.length ≤ 1000 := by have := h.nm; have := h.v8; omega
theorem GCr.keep {c : Gc} {d : Nat} {f : ByteArray × List ByteArray} {s s' : Gs} {p : Px} (h : GCr c d f s p s') : s'.names = s.names ∧ s'.left = s.left ∧ s'.vars = s.vars := by
 obtain ⟨ps, h1, _⟩ := h
 exact h1.keep
theorem keep_tr {a b c : Gs} (h : b.names = a.names ∧ b.left = a.left ∧ b.vars = a.vars) (k : c.names = b.names ∧ c.left = b.left ∧ c.vars = b.vars) : c.names = a.names ∧ c.left = a.left ∧ c.vars = a.vars := ⟨k.1.trans h.1, k.2.1.trans h.2.1, k.2.2.trans h.2.2⟩
theorem st1_all {l : List Ty} {k : Int} {nm : ByteArray} {v : SV} {t : Tx} (w : World) (F : Nat → Prop) (h : AllIn w F [ysA l, own 48 4 eTx (sv v) [t], txsA t.v t.kids]) : (ysA (l ++ [.mk k nm v [t] nilS [] nilS []])).pred w F := by
 obtain ⟨⟨_, a0, b0⟩, ⟨_, a1, b1⟩, ⟨_, a2, b2⟩, _⟩ := h
 have hny : SlIn' w F 5 eTy (sv nilS) [] ∧ TysIn w F [] := ⟨nil_in, trivial⟩
 exact ys_snoc (ys_up a0 b0) ⟨⟨own_in a1 b1, tx_up a2 b2, trivial⟩, hny, hny⟩
theorem st2_all {l : List Ty} {k : Int} {nm : ByteArray} {v : SV} {t u : Tx} (w : World) (F : Nat → Prop) (h : AllIn w F [ysA l, own 48 4 eTx (sv v) [t, u], txsA t.v t.kids, txsA u.v u.kids]) : (ysA (l ++ [.mk k nm v [t, u] nilS [] nilS []])).pred w F := by
 obtain ⟨⟨_, a0, b0⟩, ⟨_, a1, b1⟩, ⟨_, a2, b2⟩, ⟨_, a3, b3⟩, _⟩ := h
 have hny : SlIn' w F 5 eTy (sv nilS) [] ∧ TysIn w F [] := ⟨nil_in, trivial⟩
 exact ys_snoc (ys_up a0 b0) ⟨⟨own_in a1 b1, tx_up a2 b2, tx_up a3 b3, trivial⟩, hny, hny⟩
theorem sti1_all {l a b : List Ty} {v va vb : SV} {t : Tx} (w : World) (F : Nat → Prop) (h : AllIn w F [ysA l, own 48 4 eTx (sv v) [t], txsA t.v t.kids, own 53 5 eTy (sv va) a, ysA a, own 53 5 eTy (sv vb) b, ysA b]) : (ysA (l ++ [.mk 4 oNil v [t] va a vb b])).pred w F := by
 obtain ⟨⟨_, a0, b0⟩, ⟨_, a1, b1⟩, ⟨_, a2, b2⟩, ⟨_, a3, b3⟩, ⟨_, a4, b4⟩, ⟨_, a5, b5⟩, ⟨_, a6, b6⟩, _⟩ := h
 exact ys_snoc (ys_up a0 b0) ⟨⟨own_in a1 b1, tx_up a2 b2, trivial⟩, ⟨own_in a3 b3, ys_up a4 b4⟩, ⟨own_in a5 b5, ys_up a6 b6⟩⟩
theorem sti0_all {l a : List Ty} {v va : SV} {t : Tx} (w : World) (F : Nat → Prop) (h : AllIn w F [ysA l, own 48 4 eTx (sv v) [t], txsA t.v t.kids, own 53 5 eTy (sv va) a, ysA a]) : (ysA (l ++ [.mk 4 oNil v [t] va a nilS []])).pred w F := by
 obtain ⟨⟨_, a0, b0⟩, ⟨_, a1, b1⟩, ⟨_, a2, b2⟩, ⟨_, a3, b3⟩, ⟨_, a4, b4⟩, _⟩ := h
 exact ys_snoc (ys_up a0 b0) ⟨⟨own_in a1 b1, tx_up a2 b2, trivial⟩, ⟨own_in a3 b3, ys_up a4 b4⟩, ⟨nil_in, trivial⟩⟩
/-- The loop's variable, the loop. -/
abbrev wVar (x : ByteArray) (v : SV) (n : Int) : Ty := .mk 1 x v [tNum n] nilS [] nilS []
abbrev wDown (x : ByteArray) (v u : SV) : Ty := .mk 2 x v [tBin oSub u (tName x) (tNum 1)] nilS [] nilS []
abbrev wLoop (x : ByteArray) (v vb : SV) (b : List Ty) : Ty := .mk 5 oNil v [tName x] vb b nilS []
theorem stw_all {l a : List Ty} {x : ByteArray} {v0 v1 v2 v3 vb : SV} {n : Int} (w : World) (F : Nat → Prop) (h : AllIn w F [ysA l, own 48 4 eTx (sv v0) [tNum n], own 48 4 eTx (sv v1) [tName x], ysA a, own 48 4 eTx (sv v2) [tName x, tNum 1], own 48 4 eTx (sv v3) [tBin oSub v2 (tName x) (tNum 1)], own 53 5 eTy (sv vb) (a ++ [wDown x v3 v2])]) :
  (ysA (l ++ [wVar x v0 n, wLoop x v1 vb (a ++ [wDown x v3 v2])])).pred w F := by
 obtain ⟨⟨_, a0, b0⟩, ⟨_, a1, b1⟩, ⟨_, a2, b2⟩, ⟨_, a3, b3⟩, ⟨_, a4, b4⟩, ⟨_, a5, b5⟩, ⟨_, a6, b6⟩, _⟩ := h
 have hny : SlIn' w F 5 eTy (sv nilS) [] ∧ TysIn w F [] := ⟨nil_in, trivial⟩
 have hx : TxIn w F (tName x) := ⟨nil_in, trivial⟩
 have hn : ∀ n, TxIn w F (tNum n) := fun _ => ⟨nil_in, trivial⟩
 have hb : TxIn w F (tBin oSub v2 (tName x) (tNum 1)) := ⟨own_in a4 b4, hx, hn 1, trivial⟩
 have h1 : TyIn w F (wVar x v0 n) := ⟨⟨own_in a1 b1, hn n, trivial⟩, hny, hny⟩
 have h2 : TyIn w F (wDown x v3 v2) := ⟨⟨own_in a5 b5, hb, trivial⟩, hny, hny⟩
 have h3 : TyIn w F (wLoop x v1 vb (a ++ [wDown x v3 v2])) := ⟨⟨own_in a2 b2, hx, trivial⟩, ⟨own_in a6 b6, ys_snoc (ys_up a3 b3) h2⟩, hny⟩
 have := ys_snoc (ys_snoc (ys_up a0 b0) h1) h3
 rw [List.append_assoc] at this
 exact this
theorem gl_next {c : Gc} {lev many i : Nat} {s s1 s0 s' : Gs} {k : Int} {out o : List Py} (hi : i < many) (hleft : 0 < s.left) (hk : gN c.l 12 { s with left := s.left - 1 } = (k, s1)) (h1 : G1r c lev k s1 o s') (hinv : ∀ r s2, GLr c lev (many - i) s r s2 → GLr c lev many s0 (out ++ r) s2) : ∀ r s2, GLr c lev (many - (i + 1)) s' r s2 → GLr c lev many s0 ((out ++ o) ++ r) s2 := fun r s2 h => by
 rw [List.append_assoc]
 refine hinv _ _ ?_
 rw [show many - i = (many - (i + 1)) + 1 by omega]
 exact .step hleft hk h1 h
/-- What statements keep: names come with variables. -/
structure GKp (s s' : Gs) : Prop where
 inv : GInv s'
 left : s'.left ≤ s.left
 diff : (s'.names.length : Int) - s'.vars = (s.names.length : Int) - s.vars
theorem GKp.of {s s' : Gs} (h : GInv s) (k : s'.names = s.names ∧ s'.left = s.left ∧ s'.vars = s.vars) : GKp s s' := ⟨h.same k, by rw [k.2.1]; exact Int.le_refl _, by rw [k.1, k.2.2]⟩
theorem GKp.trans {a b c : Gs} (h : GKp a b) (k : GKp b c) : GKp a c := ⟨k.inv, Int.le_trans k.left h.left, k.diff.trans h.diff⟩
theorem GInv.var {s : Gs} (h : GInv s) (hv : s.vars < 8) : GInv { s with vars := s.vars + 1 } := ⟨by show 0 ≤ s.vars + 1; have := h.v0; omega, by show s.vars + 1 ≤ 8; omega, by show (s.names.length : Int) ≤ 100 + (s.vars + 1); have := h.nm; omega, h.lf⟩
theorem GKp.more {s s' : Gs} {x : ByteArray} (h : GInv s) (k : GKp { s with vars := s.vars + 1 } s') : GKp s { s' with names := s'.names ++ [x] } := by
 have hd : (s'.names.length : Int) - s'.vars = (s.names.length : Int) - (s.vars + 1) := k.diff
 have hn := h.nm
 have hl : ((s'.names ++ [x]).length : Int) = (s'.names.length : Int) + 1 := by rw [List.length_append, List.length_singleton]; rfl
 exact ⟨⟨k.inv.v0, k.inv.v8, by show ((s'.names ++ [x]).length : Int) ≤ 100 + s'.vars; omega, k.inv.lf⟩, k.left, by show ((s'.names ++ [x]).length : Int) - s'.vars = _; omega⟩
mutual
theorem GYr.inv {c : Gc} : ∀ {e : Nat} {s s' : Gs} {o : List Py}, GYr c e s o s' → GInv s → GKp s s'
 | _, _, _, _, .mk hj h, hi => (GKp.of hi (gN_st2 hj)).trans (h.inv (hi.same (gN_st2 hj)))
theorem GLr.inv {c : Gc} : ∀ {e n : Nat} {s s' : Gs} {o : List Py}, GLr c e n s o s' → GInv s → GKp s s'
 | _, _, _, _, _, .zero, hi => GKp.of hi ⟨rfl, rfl, rfl⟩
 | _, _, _, _, _, .stop _, hi => GKp.of hi ⟨rfl, rfl, rfl⟩
 | _, _, s, _, _, .step hl hk h1 h2, hi => by
  have hi2 : GInv { s with left := s.left - 1 } := ⟨hi.v0, hi.v8, hi.nm, by show s.left - 1 ≤ 1000; have := hi.lf; omega⟩
  have k0 : GKp s { s with left := s.left - 1 } := ⟨hi2, by show s.left - 1 ≤ s.left; omega, rfl⟩
  have k1 := GKp.of hi2 (gN_st2 hk)
  have k2 := h1.inv k1.inv
  exact ((k0.trans k1).trans k2).trans (h2.inv k2.inv)
theorem G1r.inv {c : Gc} : ∀ {e : Nat} {k : Int} {s s' : Gs} {o : List Py}, G1r c e k s o s' → GInv s → GKp s s'
 | _, _, s, _, _, .var _ _ hv hp, hi => GKp.more hi (GKp.of (hi.var hv) hp.keep)
 | _, _, _, _, _, .set _ hj _ hp, hi => GKp.of hi (keep_tr (gN_st2 hj) hp.keep)
 | _, _, _, _, _, .put _ hp hq, hi => GKp.of hi (keep_tr hp.keep hq.keep)
 | _, _, _, _, _, .iff1 hp ha hj hb, hi => by
  have k1 := GKp.of hi hp.keep
  have k2 := ha.inv k1.inv
  have k3 := GKp.of k2.inv (gN_st2 hj)
  exact ((k1.trans k2).trans k3).trans (hb.inv k3.inv)
 | _, _, _, _, _, .iff0 hp ha hj _, hi => by
  have k1 := GKp.of hi hp.keep
  have k2 := ha.inv k1.inv
  exact (k1.trans k2).trans (GKp.of k2.inv (gN_st2 hj))
 | _, _, s, _, _, .whi _ hv hj ha, hi => by
  have k1 := GKp.of (hi.var hv) (gN_st2 hj)
  exact GKp.more hi (k1.trans (ha.inv k1.inv))
 | _, _, _, _, _, .ret hj hp, hi => GKp.of hi (keep_tr (gN_st2 hj) hp.keep)
 | _, _, s, _, _, .dos (s2 := s2) (s3 := s3) _ hj hj2 hf hp, hi => by
  have k1 : s3.names = s2.names ∧ s3.left = s2.left ∧ s3.vars = s2.vars := by
   rcases hf with ⟨_, _, h⟩ | ⟨_, j3, h, _⟩
   ·rw [h]; exact ⟨rfl, rfl, rfl⟩
   ·exact gN_st2 h
  exact GKp.of hi (keep_tr (keep_tr (keep_tr (gN_st2 hj) (gN_st2 hj2)) k1) hp.keep)
 | _, _, s, _, _, .out (s1 := s1) _ _ _ _ _ _ h8 _ hp, hi => by
  have k1 : s1.names = s.names ∧ s1.left = s.left ∧ s1.vars = s.vars := by
   rcases h8 with ⟨_, h⟩ | ⟨_, j, _, h⟩
   ·rw [h]; exact ⟨rfl, rfl, rfl⟩
   ·exact gN_st2 h
  exact GKp.of hi (keep_tr k1 hp.keep)
end
/-- The contract of scope.stmts. -/
def HSs (c : Nat) (vp : SV) (fs : List Tf) (v : SV) (l : List Ty) : Prop := ∀ (vn : SV) (ns : List ByteArray), ns.length + vYs l ≤ 1000000 → Spec Tryz.prog 40 [.pointer (some ⟨c, 0, none⟩), sv v] [row c 90 [sv vp, sv vn], own 9 1 eS (sv vn) ns] [tysA v l, tfsA vp fs] (X := SV × List ByteArray) (fun x => (bYs fs ns l).2 = 0 → x.2 = (bYs fs ns l).1) (fun _ => .int .i64 (bYs fs ns l).2) (fun x => [row c 90 [sv vp, sv x.1], own 9 1 eS (sv x.1) x.2]) (fun _ => [])
theorem own4of4 {A B C D D' : Asn} (h : ∀ w G, D.pred w G → D'.pred w G) : ∀ (i : Nat) (X : Asn), ([A, D', B, C] : List Asn)[i]? = some X → ∃ Y, ([A, D, B, C] : List Asn)[i]? = some Y ∧ ∀ w G, Y.pred w G → X.pred w G
 | 0, X, hX => ⟨A, rfl, by cases hX; exact fun _ _ h => h⟩
 | 1, X, hX => ⟨D, rfl, by cases hX; exact h⟩
 | 2, X, hX => ⟨B, rfl, by cases hX; exact fun _ _ h => h⟩
 | 3, X, hX => ⟨C, rfl, by cases hX; exact fun _ _ h => h⟩
 | i + 4, X, hX => by simp at hX
theorem se_own (c : Nat) (vp vn : SV) (fs : List Tf) (ns : List ByteArray) (hfl : fs.length ≤ 1000000) (hns : ns.length ≤ 1000000) (t : Tx) (ht : GX t) : Spec Tryz.prog 55 [.pointer (some ⟨c, 0, none⟩), xV t] [] [row c 90 [sv vp, sv vn], own 9 1 eS (sv vn) ns, tfsA vp fs, txsA t.v t.kids] (X := Unit) (fun _ => True) (fun _ => .int .i64 (eX fs ns t)) (fun _ => []) (fun _ => []) :=
 Spec.roAll (se_spec c vp vn fs ns hfl hns t ht) (own4of4 own_to_sl)
theorem bYs_stop {fs : List Tf} {ns ns2 : List ByteArray} {l : List Ty} {i : Nat} {st : Ty} {z : Int} (hst : l[i]? = some st) (h : bYs fs ns (l.take i) = (ns2, 0)) (hz : (bY fs ns2 st).2 = z) (hz0 : z ≠ 0) : (bYs fs ns l).2 = z := by
 have h1 := bYs_app fs ns (l.take (i + 1)) (l.drop (i + 1))
 rw [List.take_append_drop, bYs_take hst, h] at h1
 rw [h1]
 show fst (fst 0 (bY fs ns2 st).2) _ = z
 rw [zero_fst, hz, fst_ne hz0]
theorem bYs_go {fs : List Tf} {ns ns2 ns3 : List ByteArray} {l : List Ty} {i : Nat} {st : Ty} (hst : l[i]? = some st) (h : bYs fs ns (l.take i) = (ns2, 0)) (hz : bY fs ns2 st = (ns3, 0)) : bYs fs ns (l.take (i + 1)) = (ns3, 0) := by
 rw [bYs_take hst, h]
 show ((bY fs ns2 st).1, fst 0 (bY fs ns2 st).2) = _
 rw [hz]
 rfl
theorem bY_a {fs : List Tf} {ns : List ByteArray} {st : Ty} (h2 : st.kind = 2) (hm : memB st.name ns = false) : (bY fs ns st).2 = 21 := by
 rw [bY_eq]
 show fst (aE ns st) _ = 21
 have h : aE ns st = 21 := by unfold aE; rw [if_pos h2, hm]; rfl
 rw [h]
 rfl
theorem aE_0 {ns : List ByteArray} {st : Ty} (h : ¬ (st.kind = 2 ∧ memB st.name ns = false)) : aE ns st = 0 := by
 unfold aE
 by_cases h2 : st.kind = 2
 ·rw [if_pos h2]
  by_cases hm : memB st.name ns = true
  ·rw [if_pos hm]
  ·exact absurd ⟨h2, by simpa using hm⟩ h
 ·rw [if_neg h2]
theorem dE_0 {ns : List ByteArray} {st : Ty} (h : ¬ (st.kind = 1 ∧ memB st.name ns = true)) : dE ns st = 0 := by
 unfold dE
 by_cases h2 : st.kind = 1
 ·rw [if_pos h2]
  by_cases hm : memB st.name ns = true
  ·exact absurd ⟨h2, hm⟩ h
  ·rw [if_neg hm]
 ·rw [if_neg h2]
theorem bY_d {fs : List Tf} {ns : List ByteArray} {st : Ty} {e : Tx} (h1 : st.kind = 1) (hm : memB st.name ns = true) (he : st.es = [e]) : (bY fs ns st).2 = fst (eX fs ns e) 22 := by
 rw [bY_eq]
 show fst (aE ns st) (fst (eXs fs ns st.es) (fst (dE ns st) _)) = _
 rw [aE_0 (fun h => by rw [h1] at h; exact absurd h.1 (by decide)), he]
 have h : dE ns st = 22 := by unfold dE; rw [if_pos h1, if_pos hm]
 rw [h]
 show fst 0 (fst (fst (eX fs ns e) 0) (fst 22 _)) = _
 rw [zero_fst, fst_zero]
 rfl
theorem bY_x {fs : List Tf} {ns : List ByteArray} {st : Ty} (ha : ¬ (st.kind = 2 ∧ memB st.name ns = false)) {z : Int} (hz : eXs fs ns st.es = z) (h0 : z ≠ 0) : (bY fs ns st).2 = z := by
 rw [bY_eq]
 show fst (aE ns st) (fst (eXs fs ns st.es) _) = _
 rw [aE_0 ha, zero_fst, hz, fst_ne h0]
theorem bY_b {fs : List Tf} {ns : List ByteArray} {st : Ty} (ha : ¬ (st.kind = 2 ∧ memB st.name ns = false)) (hd : ¬ (st.kind = 1 ∧ memB st.name ns = true)) (hz : eXs fs ns st.es = 0) : bY fs ns st = ((bYs fs (bYs fs (dN ns st) st.body).1 st.els).1, fst (bYs fs (dN ns st) st.body).2 (bYs fs (bYs fs (dN ns st) st.body).1 st.els).2) := by
 rw [bY_eq, aE_0 ha, dE_0 hd, hz]
 rfl
theorem one_of {t : Ty} (h : rY t = true) (hk : t.kind ≠ 3) : ∃ e, t.es = [e] := by
 rw [rY_def] at h
 simp only [Bool.and_eq_true] at h
 have h2 := h.1.1.1
 unfold okY at h2
 simp only [Bool.and_eq_true, decide_eq_true_eq] at h2
 have h3 := h2.1.1.1.2
 rw [if_neg hk] at h3
 exact List.length_eq_one_iff.1 h3
structure Xn where
 i : Nat
 vn : SV
 ns : List ByteArray
set_option maxHeartbeats 8000000 in
set_option maxRecDepth 100000 in
theorem ss_step (c : Nat) (vp : SV) (fs : List Tf) (hfl : fs.length ≤ 1000000) (v : SV) (l : List Ty) (hl : l.length ≤ 1000000) (hg : GYs l) (hr : l.all rY = true) (ih : ∀ u ∈ l, HSs c vp fs u.vb u.body ∧ HSs c vp fs u.vl u.els) (vn : SV) (ns : List ByteArray) (hb : ns.length + vYs l ≤ 1000000) :
  Spec Tryz.prog 40 [.pointer (some ⟨c, 0, none⟩), sv v] [row c 90 [sv vp, sv vn], own 9 1 eS (sv vn) ns] [tysA v l, tfsA vp fs] (X := SV × List ByteArray) (fun x => (bYs fs ns l).2 = 0 → x.2 = (bYs fs ns l).1) (fun _ => .int .i64 (bYs fs ns l).2) (fun x => [row c 90 [sv vp, sv x.1], own 9 1 eS (sv x.1) x.2]) (fun _ => []) := by
 refine r_enter Tryz.func40 rfl Tryz.ntmps40 rfl fun w0 M H => ?_
 refine r_more 0 2 rfl tys_sl ?_
 refine r_seq (r_region (r_p (p_assign rfl) rfl (r_nil (r_seq (r_seq (r_region (r_p (p_assign rfl) rfl (r_nil (r_block ?_)))))))))
 refine r_loop (X := Xn) (fun x => x.i ≤ l.length ∧ bYs fs ns (l.take x.i) = (x.ns, 0)) (fun x => [(0, .pointer (some ⟨c, 0, none⟩)), (1, sv v), (5, .int .i64 (x.i : Int))]) (fun x => [(0, row c 90 [sv vp, sv x.vn]), (1, own 9 1 eS (sv x.vn) x.ns)]) (fun x => [(0, tysA v l), (2, sl 5 eTy (sv v) l), (1, tfsA vp fs)]) (fun x => l.length - x.i) ⟨0, vn, ns⟩ ⟨Nat.zero_le _, rfl⟩ rfl rfl rfl (fun x hx0 => ?_)
 obtain ⟨i, vn2, ns2⟩ := x
 obtain ⟨n1, n2⟩ := hx0
 dsimp only at n1 n2 ⊢
 have hnl2 : ns2.length = ns.length + vYs (l.take i) := by have h := bYs_len fs ns (l.take i); rw [n2] at h; exact h
 have hvl2 := vYs_app (l.take i) (l.drop i)
 rw [List.take_append_drop] at hvl2
 refine r_seq (r_seq (r_region (r_p (p_move rfl) rfl (r_p (p_move rfl) rfl ?_))))
 refine r_p (p_len_sl Tryz.underlying51 rfl (hs_sl (k := 2) rfl)) rfl ?_
 refine r_p (p_bin rfl rfl b_lt) rfl ?_
 refine r_nil ?_
 refine r_cond rfl (fun h1 => ?_) (fun h1 => ?_)
 ·(try simp only [decide_eq_true_eq, decide_eq_false_iff_not, Bool.and_eq_true, Bool.or_eq_true, Bool.and_eq_false_iff, Bool.or_eq_false_iff, Bool.not_eq_true, Bool.not_eq_false, Bool.not_eq_true', Bool.not_eq_false', Bool.not_not, bne_iff_ne, beq_iff_eq] at h1)
  have hi : i < l.length := by omega
  obtain ⟨st, hst⟩ : ∃ k, l[i]? = some k := ⟨_, List.getElem?_eq_getElem hi⟩
  have hsm := List.mem_of_getElem? hst
  have hsg := GY_es (hg.mem st hsm)
  have hry : rY st = true := List.all_eq_true.1 hr st hsm
  have hvb := vYs_app (l.take (i + 1)) (l.drop (i + 1))
  rw [List.take_append_drop, vYs_take hst] at hvb
  have hvs := vY_def st
  refine r_more 0 7 rfl (tys_es hsm) ?_
  refine r_more 0 8 rfl (tys_body hsm) ?_
  refine r_more 0 9 rfl (tys_els hsm) ?_
  refine r_more 7 10 rfl txs_sl ?_
  refine r_skip (r_seq (r_block (r_seq (r_region (r_p (p_move rfl) rfl (r_p (p_move rfl) rfl ?_))))))
  refine r_p (p_idx_sl (j := i) Tryz.underlying51 t53 rfl rfl (hs_sl (k := 2) rfl) (by first | rfl | omega) (by first | omega | (simp; done) | (simp; omega))) rfl ?_
  refine r_p (p_loadA t53 rfl rfl rfl (g_el' (hs_sl (k := 2) rfl) (by intro _; rfl) hst (by rfl))) rfl ?_
  refine r_alloc t53 rfl rfl fun b6 => ?_
  refine r_store_all (k := 6) t53 rfl rfl rfl rfl rfl rfl ?_
  refine r_nil (r_seq ?_)
  refine r_draw [22, 23, 24, 25, 26, 27, 28, 7] _ rfl (stg_mem (V := [(0, 22, _), (1, 23, _), (2, 24, _), (3, 25, _), (4, 26, _), (5, 27, _)]) [0, 1, 2, 3, 4, 5] 6 [6, 5, 4, 3, 2, 1, 0] [7] (fun _ => [(7, 7, _)]) rfl rfl (prs_cons (pri rfl (p_field0 fo53_1 rfl)) (prs_cons (pri rfl (p_load1 t9 rfl rfl (g_row1 (k := 6) rfl rfl))) (prs_cons (pri rfl (p_move rfl)) (prs_cons (pri rfl (p_nilCheck rfl)) (prs_cons (pri rfl (p_field0 fo90_1 rfl)) (prs_cons (pri rfl (p_load1 t58 rfl rfl (g_row1 (k := 0) rfl rfl))) prs_nil)))))) rfl rfl rfl rfl rfl rfl rfl rfl rfl rfl rfl (fun _ _ => rfl) rfl (ms_callN (xs := [.tmp 23, .tmp 27]) (among_own st.name vn2 ns2 (by omega)) cb39 [] [(true, 1)] [] rfl rfl rfl rfl rfl rfl rfl rfl (fun _ _ => rfl) (fun _ _ _ => rfl)) (fun _ _ => stg_end [7] rfl rfl (prs_cons (pri rfl (p_assign rfl)) prs_nil) rfl rfl rfl ?_))
  refine r_seq (r_seq (r_region ?_))
  refine r_p (p_field0 fo53_0 rfl) rfl ?_
  refine r_p (p_load1 t3 rfl rfl (g_row1 (k := 6) rfl rfl)) rfl ?_
  refine r_p (p_bin rfl rfl b_eq) rfl ?_
  refine r_p (p_move rfl) rfl ?_
  refine r_gp [] rfl rfl trivial (fun hg2 => p_move rfl) rfl ?_
  refine r_gp [(33, _)] rfl rfl ⟨rfl, trivial⟩ (fun hg3 => p_not rfl) rfl ?_
  refine r_p (p_pick rfl rfl rfl (by first | exact pick_and | exact pick_or |  rfl)) rfl ?_
  refine r_nil ?_
  refine r_cond rfl (fun h4 => ?_) (fun h4 => ?_)
  ·have q2 : st.kind = 2 ∧ memB st.name ns2 = false := by simpa using h4
   refine r_seq (r_region (r_p (p_assign rfl) rfl (r_nil (r_cret ?_))))
   refine r_ret (vn2, ns2) (fun h => absurd h (by rw [bYs_stop hst n2 (bY_a q2.1 q2.2) (by decide)]; exact (by decide))) rfl (rs1 (rv_tmp rfl)) (by rw [bYs_stop hst n2 (bY_a q2.1 q2.2) (by decide)]) [0, 1] [] rfl rfl rfl
  ·have q2 : ¬ (st.kind = 2 ∧ memB st.name ns2 = false) := by rintro ⟨a, b⟩; rw [decide_eq_true a, b] at h4; exact absurd h4 (by simp)
   refine r_skip (r_seq (r_seq (r_region ?_)))
   refine r_p (p_field0 fo53_0 rfl) rfl ?_
   refine r_p (p_load1 t3 rfl rfl (g_row1 (k := 6) rfl rfl)) rfl ?_
   refine r_p (p_bin rfl rfl b_eq) rfl ?_
   refine r_p (p_move rfl) rfl ?_
   refine r_gp [] rfl rfl trivial (fun hg5 => p_move rfl) rfl ?_
   refine r_p (p_pick rfl rfl rfl (by first | exact pick_and | exact pick_or |  rfl)) rfl ?_
   refine r_nil ?_
   refine r_cond rfl (fun h6 => ?_) (fun h6 => ?_)
   ·have q3 : st.kind = 1 ∧ memB st.name ns2 = true := by simpa using h6
    obtain ⟨e, hes⟩ := one_of hry (by rw [q3.1]; decide)
    have he0 : st.es[0]? = some e := by rw [hes]; rfl
    refine r_seq (r_region (r_p (p_move rfl) rfl ?_))
    refine r_p (p_field0 fo53_2 rfl) rfl ?_
    refine r_p (p_load1 t46 rfl rfl (g_row1 (k := 6) rfl rfl)) rfl ?_
    refine r_p (p_idx_sl (j := 0) Tryz.underlying46 t48 rfl rfl (hs_sl (k := 10) rfl) rfl (by rw [hes]; exact Nat.zero_lt_one)) rfl ?_
    refine r_p (p_loadA t48 rfl rfl rfl (g_el' (hs_sl (k := 10) rfl) (by intro _; rfl) he0 (by rfl))) rfl ?_
    have hum : e ∈ st.es := List.mem_of_getElem? he0
    refine r_more 7 11 rfl (txs_kid hum) ?_
    refine r_callN (xs := [.tmp 42, .tmp 46]) (se_own c vp vn2 fs ns2 hfl (by omega) e (hsg.2.mem e hum)) cb55 [] [(true, 0), (true, 1), (false, 1), (false, 11)] [] rfl rfl rfl rfl rfl rfl rfl rfl (fun _ _ => rfl) (fun _ _ _ => rfl) rfl (fun _ _ => ?_)
    refine r_p (p_assign rfl) rfl (r_nil (r_seq (r_seq (r_region (r_p (p_move rfl) rfl ?_)))))
    refine r_p (p_bin rfl rfl b_ne) rfl ?_
    refine r_nil ?_
    refine r_cond rfl (fun h7 => ?_) (fun h7 => ?_)
    ·(try simp only [decide_eq_true_eq, decide_eq_false_iff_not, Bool.and_eq_true, Bool.or_eq_true, Bool.and_eq_false_iff, Bool.or_eq_false_iff, Bool.not_eq_true, Bool.not_eq_false, Bool.not_eq_true', Bool.not_eq_false', Bool.not_not, bne_iff_ne, beq_iff_eq] at h7)
     have q4 : eX fs ns2 e ≠ 0 := h7
     refine r_seq (r_region (r_p (p_move rfl) rfl (r_p (p_assign rfl) rfl (r_nil (r_cret ?_)))))
     refine r_ret (vn2, ns2) (fun h => absurd h (by rw [bYs_stop hst n2 (z := eX fs ns2 e) (by rw [bY_d q3.1 q3.2 hes, fst_ne q4]) q4]; exact q4)) rfl (rs1 (rv_tmp rfl)) (by rw [bYs_stop hst n2 (z := eX fs ns2 e) (by rw [bY_d q3.1 q3.2 hes, fst_ne q4]) q4]) [0, 1] [] rfl rfl rfl
    ·(try simp only [decide_eq_true_eq, decide_eq_false_iff_not, Bool.and_eq_true, Bool.or_eq_true, Bool.and_eq_false_iff, Bool.or_eq_false_iff, Bool.not_eq_true, Bool.not_eq_false, Bool.not_eq_true', Bool.not_eq_false', Bool.not_not, bne_iff_ne, beq_iff_eq] at h7)
     have q4 : eX fs ns2 e = 0 := h7
     refine r_skip (r_seq (r_region (r_p (p_assign rfl) rfl (r_nil (r_cret ?_)))))
     refine r_ret (vn2, ns2) (fun h => absurd h (by rw [bYs_stop hst n2 (z := 22) (by rw [bY_d q3.1 q3.2 hes, q4]; rfl) (by decide)]; exact (by decide))) rfl (rs1 (rv_tmp rfl)) (by rw [bYs_stop hst n2 (z := 22) (by rw [bY_d q3.1 q3.2 hes, q4]; rfl) (by decide)]) [0, 1] [] rfl rfl rfl
   ·have q3 : ¬ (st.kind = 1 ∧ memB st.name ns2 = true) := by rintro ⟨a, b⟩; rw [decide_eq_true a, b] at h6; exact absurd h6 (by simp)
    refine r_skip (r_seq (r_seq (r_region (r_p (p_assign rfl) rfl (r_nil (r_block ?_))))))
    refine r_loop (X := Nat) (fun j => j ≤ st.es.length ∧ eXs fs ns2 (st.es.take j) = 0) (fun j => [(0, .pointer (some ⟨c, 0, none⟩)), (1, sv v), (5, .int .i64 (i : Int)), (6, .pointer (some ⟨b6, 0, none⟩)), (7, .bool (memB st.name ns2)), (9, .int .i64 (j : Int))]) (fun j => [(0, row c 90 [sv vp, sv vn2]), (1, own 9 1 eS (sv vn2) ns2), (6, row b6 53 (eTy st))]) (fun j => [(0, tysA v l), (2, sl 5 eTy (sv v) l), (1, tfsA vp fs), (7, txsA st.ve st.es), (8, tysA st.vb st.body), (9, tysA st.vl st.els), (10, sl 4 eTx (sv st.ve) st.es)]) (fun j => st.es.length - j) 0 ⟨Nat.zero_le _, rfl⟩ rfl rfl rfl (fun j hy0 => ?_)
    obtain ⟨n3, n4⟩ := hy0
    refine r_seq (r_seq (r_region (r_p (p_move rfl) rfl ?_)))
    refine r_p (p_field0 fo53_2 rfl) rfl ?_
    refine r_p (p_load1 t46 rfl rfl (g_row1 (k := 6) rfl rfl)) rfl ?_
    refine r_p (p_len_sl Tryz.underlying46 rfl (hs_sl (k := 10) rfl)) rfl ?_
    refine r_p (p_bin rfl rfl b_lt) rfl ?_
    refine r_nil ?_
    refine r_cond rfl (fun h8 => ?_) (fun h8 => ?_)
    ·(try simp only [decide_eq_true_eq, decide_eq_false_iff_not, Bool.and_eq_true, Bool.or_eq_true, Bool.and_eq_false_iff, Bool.or_eq_false_iff, Bool.not_eq_true, Bool.not_eq_false, Bool.not_eq_true', Bool.not_eq_false', Bool.not_not, bne_iff_ne, beq_iff_eq] at h8)
     have hj : j < st.es.length := by omega
     obtain ⟨u, hu⟩ : ∃ k, st.es[j]? = some k := ⟨_, List.getElem?_eq_getElem hj⟩
     have hum := List.mem_of_getElem? hu
     refine r_skip (r_seq (r_block (r_seq (r_region (r_p (p_move rfl) rfl ?_)))))
     refine r_p (p_field0 fo53_2 rfl) rfl ?_
     refine r_p (p_load1 t46 rfl rfl (g_row1 (k := 6) rfl rfl)) rfl ?_
     refine r_p (p_move rfl) rfl ?_
     refine r_p (p_idx_sl (j := j) Tryz.underlying46 t48 rfl rfl (hs_sl (k := 10) rfl) (by first | rfl | omega) (by first | omega | (simp; done) | (simp; omega))) rfl ?_
     refine r_p (p_loadA t48 rfl rfl rfl (g_el' (hs_sl (k := 10) rfl) (by intro _; rfl) hu (by rfl))) rfl ?_
     refine r_more 7 11 rfl (txs_kid hum) ?_
     refine r_callN (xs := [.tmp 58, .tmp 63]) (se_own c vp vn2 fs ns2 hfl (by omega) u (hsg.2.mem u hum)) cb55 [] [(true, 0), (true, 1), (false, 1), (false, 11)] [] rfl rfl rfl rfl rfl rfl rfl rfl (fun _ _ => rfl) (fun _ _ _ => rfl) rfl (fun _ _ => ?_)
     refine r_p (p_assign rfl) rfl (r_nil (r_seq (r_region (r_p (p_move rfl) rfl ?_))))
     refine r_p (p_bin rfl rfl b_ne) rfl ?_
     refine r_nil ?_
     refine r_cond rfl (fun h9 => ?_) (fun h9 => ?_)
     ·(try simp only [decide_eq_true_eq, decide_eq_false_iff_not, Bool.and_eq_true, Bool.or_eq_true, Bool.and_eq_false_iff, Bool.or_eq_false_iff, Bool.not_eq_true, Bool.not_eq_false, Bool.not_eq_true', Bool.not_eq_false', Bool.not_not, bne_iff_ne, beq_iff_eq] at h9)
      have q6 : eX fs ns2 u ≠ 0 := h9
      refine r_seq (r_region (r_p (p_move rfl) rfl (r_p (p_assign rfl) rfl (r_nil (r_cret ?_)))))
      refine r_ret (vn2, ns2) (fun h => absurd h (by rw [bYs_stop hst n2 (bY_x q2 (eXs_hit hu n4 q6) q6) q6]; exact q6)) rfl (rs1 (rv_tmp rfl)) (by rw [bYs_stop hst n2 (bY_x q2 (eXs_hit hu n4 q6) q6) q6]) [0, 1] [] rfl rfl rfl
     ·(try simp only [decide_eq_true_eq, decide_eq_false_iff_not, Bool.and_eq_true, Bool.or_eq_true, Bool.and_eq_false_iff, Bool.or_eq_false_iff, Bool.not_eq_true, Bool.not_eq_false, Bool.not_eq_true', Bool.not_eq_false', Bool.not_not, bne_iff_ne, beq_iff_eq] at h9)
      have q6 : eX fs ns2 u = 0 := h9
      refine r_skip (r_region (r_p (p_move rfl) rfl ?_))
      refine r_p (p_bin rfl rfl (b_add (by first | exact w_i64 (by omega) (by omega) | rfl))) rfl ?_
      refine r_p (p_assign rfl) rfl (r_nil ?_)
      refine r_here (j + 1) ⟨⟨by omega, by rw [eXs_take hu, n4, q6]; rfl⟩, by omega⟩ rfl rfl rfl
    ·(try simp only [decide_eq_true_eq, decide_eq_false_iff_not, Bool.and_eq_true, Bool.or_eq_true, Bool.and_eq_false_iff, Bool.or_eq_false_iff, Bool.not_eq_true, Bool.not_eq_false, Bool.not_eq_true', Bool.not_eq_false', Bool.not_not, bne_iff_ne, beq_iff_eq] at h8)
     have hj : j = st.es.length := by omega
     subst hj
     rw [List.take_length] at n4
     refine r_exit ?_
     refine r_seq_cut (X := SV) (fun _ => True) (fun y => [(0, .pointer (some ⟨c, 0, none⟩)), (1, sv v), (5, .int .i64 (i : Int)), (6, .pointer (some ⟨b6, 0, none⟩))]) (fun y => [(0, row c 90 [sv vp, sv y]), (1, own 9 1 eS (sv y) (dN ns2 st)), (6, row b6 53 (eTy st))]) (fun y => [(0, tysA v l), (2, sl 5 eTy (sv v) l), (1, tfsA vp fs), (7, txsA st.ve st.es), (8, tysA st.vb st.body), (9, tysA st.vl st.els), (10, sl 4 eTx (sv st.ve) st.es)]) ?_ (fun vn3 _ => ?_)
     ·refine r_seq (r_region ?_)
      refine r_p (p_field0 fo53_0 rfl) rfl ?_
      refine r_p (p_load1 t3 rfl rfl (g_row1 (k := 6) rfl rfl)) rfl ?_
      refine r_p (p_bin rfl rfl b_eq) rfl ?_
      refine r_nil ?_
      refine r_cond rfl (fun h10 => ?_) (fun h10 => ?_)
      ·have q7 : st.kind = 1 := of_decide_eq_true h10
       refine r_draw [71, 72, 73, 74, 75, 76, 77, 78, 79, 80, 81] _ rfl (stg_mem (V := [(0, 71, _), (1, 72, _), (2, 73, _), (3, 74, _), (4, 75, _), (5, 76, _), (6, 77, _)]) [0, 1, 2, 3, 4, 5, 6] 7 [7, 6, 5] [] (fun v78 => []) rfl rfl (prs_cons (pri rfl (p_move rfl)) (prs_cons (pri rfl (p_move rfl)) (prs_cons (pri rfl (p_nilCheck rfl)) (prs_cons (pri rfl (p_field0 fo90_1 rfl)) (prs_cons (pri rfl (p_load1 t58 rfl rfl (g_row1 (k := 0) rfl rfl))) (prs_cons (pri rfl (p_field0 fo53_1 rfl)) (prs_cons (pri rfl (p_load1 t9 rfl rfl (g_row1 (k := 6) rfl rfl))) prs_nil))))))) rfl rfl rfl rfl rfl rfl rfl rfl rfl rfl rfl (fun _ _ => rfl) rfl (ms_bslice1 eS st.name Tryz.underlying58 t9 rfl (by decide) (by decide) rfl rfl rfl) (fun v78 _ => stg_mem [0, 1, 2, 3, 4] 8 [8, 7, 6, 5, 4, 3, 2, 1] [9, 10] (fun v79 => [(9, 80, _), (10, 81, _)]) rfl rfl (prs_cons (pri rfl (p_move rfl)) (prs_cons (pri rfl (p_move rfl)) (prs_cons (pri rfl (p_nilCheck rfl)) (prs_cons (pri rfl (p_field0 fo90_1 rfl)) (prs_cons (pri rfl (p_load1 t58 rfl rfl (g_row1 (k := 0) rfl rfl))) prs_nil))))) rfl rfl rfl rfl rfl rfl rfl rfl rfl rfl rfl (fun _ _ => rfl) rfl (ms_append 1 Tryz.underlying58 t9 rfl (by decide) (fun _ => rfl) (fun _ => rfl) rfl rfl rfl (hs_own (k := 78) rfl) (by simp only [List.length_singleton]; omega) (by unfold maxLen; simp only [List.length_singleton]; omega)) (fun v79 _ => stg_mem0 [9, 10, 0] 11 [11, 10, 9, 8, 7, 6, 5, 4, 3, 2, 1, 0] [] (fun _ => []) rfl rfl (prs_cons (pri rfl (p_nilCheck rfl)) (prs_cons (pri rfl (p_field0 fo90_1 rfl)) (prs_cons (pri rfl (p_move rfl)) prs_nil))) rfl rfl rfl rfl rfl rfl rfl rfl rfl (fun _ _ => rfl) rfl (ms_store_row (k := 0) t58 rfl rfl rfl rfl rfl rfl rfl rfl) (fun _ _ => stg_end [] rfl rfl prs_nil rfl rfl rfl ?_))))
       refine r_here v79 trivial rfl (by rw [show dN ns2 st = ns2 ++ [st.name] from if_pos q7]; rfl) rfl
      ·have q7 : ¬ st.kind = 1 := of_decide_eq_false h10
       refine r_skip ?_
       refine r_here vn2 trivial rfl (by rw [show dN ns2 st = ns2 from if_neg q7]; rfl) rfl
     ·refine r_seq (r_region (r_p (p_move rfl) rfl ?_))
      refine r_p (p_field0 fo53_3 rfl) rfl ?_
      refine r_p (p_load1 t51 rfl rfl (g_row1 (k := 6) rfl rfl)) rfl ?_
      refine r_callN (xs := [.tmp 82, .tmp 84]) ((ih st hsm).1 vn3 (dN ns2 st) (by rw [dN_len]; omega)) cb40 [0, 1] [(false, 8), (false, 1)] [0, 1] rfl rfl rfl rfl rfl rfl rfl rfl (fun _ _ => rfl) (fun _ _ _ => rfl) rfl (fun ⟨vn4, ns4⟩ h4 => ?_)
      dsimp only at h4 ⊢
      refine r_p (p_assign rfl) rfl (r_nil ?_)
      refine r_seq_cut (X := SV × List ByteArray) (fun y => fst (bYs fs (dN ns2 st) st.body).2 (bYs fs (bYs fs (dN ns2 st) st.body).1 st.els).2 = 0 → y.2 = (bYs fs (bYs fs (dN ns2 st) st.body).1 st.els).1) (fun y => [(0, .pointer (some ⟨c, 0, none⟩)), (1, sv v), (5, .int .i64 (i : Int)), (6, .pointer (some ⟨b6, 0, none⟩)), (11, .int .i64 (fst (bYs fs (dN ns2 st) st.body).2 (bYs fs (bYs fs (dN ns2 st) st.body).1 st.els).2))]) (fun y => [(0, row c 90 [sv vp, sv y.1]), (1, own 9 1 eS (sv y.1) y.2), (6, row b6 53 (eTy st))]) (fun y => [(0, tysA v l), (2, sl 5 eTy (sv v) l), (1, tfsA vp fs), (7, txsA st.ve st.es), (8, tysA st.vb st.body), (9, tysA st.vl st.els), (10, sl 4 eTx (sv st.ve) st.es)]) ?_ (fun y hy => ?_)
      ·refine r_seq (r_region (r_p (p_move rfl) rfl ?_))
       refine r_p (p_bin rfl rfl b_eq) rfl ?_
       refine r_nil ?_
       refine r_cond rfl (fun h11 => ?_) (fun h11 => ?_)
       ·(try simp only [decide_eq_true_eq, decide_eq_false_iff_not, Bool.and_eq_true, Bool.or_eq_true, Bool.and_eq_false_iff, Bool.or_eq_false_iff, Bool.not_eq_true, Bool.not_eq_false, Bool.not_eq_true', Bool.not_eq_false', Bool.not_not, bne_iff_ne, beq_iff_eq] at h11)
        have q8 : (bYs fs (dN ns2 st) st.body).2 = 0 := h11
        refine r_region (r_p (p_move rfl) rfl ?_)
        refine r_p (p_field0 fo53_4 rfl) rfl ?_
        refine r_p (p_load1 t51 rfl rfl (g_row1 (k := 6) rfl rfl)) rfl ?_
        refine r_callN (xs := [.tmp 88, .tmp 90]) ((ih st hsm).2 vn4 ns4 (by rw [h4 q8, bYs_len, dN_len]; omega)) cb40 [0, 1] [(false, 9), (false, 1)] [0, 1] rfl rfl rfl rfl rfl rfl rfl rfl (fun _ _ => rfl) (fun _ _ _ => rfl) rfl (fun ⟨vn5, ns5⟩ h5 => ?_)
        dsimp only at h5 ⊢
        rw [h4 q8] at h5 ⊢
        refine r_p (p_assign rfl) rfl (r_nil ?_)
        refine r_here (vn5, ns5) (fun h => h5 (by rw [q8] at h; exact h)) (by rw [q8, zero_fst]; rfl) rfl rfl
       ·(try simp only [decide_eq_true_eq, decide_eq_false_iff_not, Bool.and_eq_true, Bool.or_eq_true, Bool.and_eq_false_iff, Bool.or_eq_false_iff, Bool.not_eq_true, Bool.not_eq_false, Bool.not_eq_true', Bool.not_eq_false', Bool.not_not, bne_iff_ne, beq_iff_eq] at h11)
        have q8 : (bYs fs (dN ns2 st) st.body).2 ≠ 0 := h11
        refine r_skip ?_
        refine r_here (vn4, ns4) (fun h => absurd h (by rw [fst_ne q8]; exact q8)) (by rw [fst_ne q8]; rfl) rfl rfl
      ·refine r_seq (r_region (r_p (p_move rfl) rfl ?_))
       refine r_p (p_bin rfl rfl b_ne) rfl ?_
       refine r_nil ?_
       refine r_cond rfl (fun h12 => ?_) (fun h12 => ?_)
       ·(try simp only [decide_eq_true_eq, decide_eq_false_iff_not, Bool.and_eq_true, Bool.or_eq_true, Bool.and_eq_false_iff, Bool.or_eq_false_iff, Bool.not_eq_true, Bool.not_eq_false, Bool.not_eq_true', Bool.not_eq_false', Bool.not_not, bne_iff_ne, beq_iff_eq] at h12)
        have q9 : fst (bYs fs (dN ns2 st) st.body).2 (bYs fs (bYs fs (dN ns2 st) st.body).1 st.els).2 ≠ 0 := h12
        refine r_seq (r_region (r_p (p_move rfl) rfl (r_p (p_assign rfl) rfl (r_nil (r_cret ?_)))))
        refine r_ret y (fun h => absurd h (by rw [bYs_stop hst n2 (z := fst (bYs fs (dN ns2 st) st.body).2 (bYs fs (bYs fs (dN ns2 st) st.body).1 st.els).2) (by rw [bY_b q2 q3 n4]) q9]; exact q9)) rfl (rs1 (rv_tmp rfl)) (by rw [bYs_stop hst n2 (z := fst (bYs fs (dN ns2 st) st.body).2 (bYs fs (bYs fs (dN ns2 st) st.body).1 st.els).2) (by rw [bY_b q2 q3 n4]) q9]) [0, 1] [] rfl rfl rfl
       ·(try simp only [decide_eq_true_eq, decide_eq_false_iff_not, Bool.and_eq_true, Bool.or_eq_true, Bool.and_eq_false_iff, Bool.or_eq_false_iff, Bool.not_eq_true, Bool.not_eq_false, Bool.not_eq_true', Bool.not_eq_false', Bool.not_not, bne_iff_ne, beq_iff_eq] at h12)
        have q9 : fst (bYs fs (dN ns2 st) st.body).2 (bYs fs (bYs fs (dN ns2 st) st.body).1 st.els).2 = 0 := h12
        refine r_skip (r_region (r_p (p_move rfl) rfl ?_))
        refine r_p (p_bin rfl rfl (b_add (by first | exact w_i64 (by omega) (by omega) | rfl))) rfl ?_
        refine r_p (p_assign rfl) rfl (r_nil ?_)
        refine r_here ⟨i + 1, y.1, y.2⟩ ⟨⟨by dsimp only; omega, bYs_go hst n2 (by rw [bY_b q2 q3 n4, hy q9, q9])⟩, by dsimp only; omega⟩ rfl rfl rfl
 ·(try simp only [decide_eq_true_eq, decide_eq_false_iff_not, Bool.and_eq_true, Bool.or_eq_true, Bool.and_eq_false_iff, Bool.or_eq_false_iff, Bool.not_eq_true, Bool.not_eq_false, Bool.not_eq_true', Bool.not_eq_false', Bool.not_not, bne_iff_ne, beq_iff_eq] at h1)
  have hi : i = l.length := by omega
  subst hi
  rw [List.take_length] at n2
  refine r_exit (r_seq (r_region (r_p (p_assign rfl) rfl (r_nil (r_cret ?_)))))
  refine r_ret (vn2, ns2) (fun _ => by rw [n2]) rfl (rs1 (rv_tmp rfl)) (by rw [n2]) [0, 1] [] rfl rfl rfl
theorem ss_all (c : Nat) (vp : SV) (fs : List Tf) (hfl : fs.length ≤ 1000000) : ∀ (n : Nat) (v : SV) (l : List Ty), SizeOf.sizeOf l < n → l.length ≤ 1000000 → GYs l → l.all rY = true → HSs c vp fs v l
 | 0, _, _, h, _, _, _ => absurd h (Nat.not_lt_zero _)
 | n + 1, v, l, h, hl, hg, hr => fun vn ns hb => ss_step c vp fs hfl v l hl hg hr (fun u hu => by
  have h1 := List.sizeOf_lt_of_mem hu
  have h2 : SizeOf.sizeOf u.body < SizeOf.sizeOf u ∧ SizeOf.sizeOf u.els < SizeOf.sizeOf u := by
   cases u
   simp only [Ty.mk.sizeOf_spec, Ty.body, Ty.els]
   omega
  have h3 := hg.mem u hu
  have h4 := List.all_eq_true.1 hr u hu
  rw [rY_def] at h4
  simp only [Bool.and_eq_true] at h4
  exact ⟨ss_all c vp fs hfl n u.vb u.body (by omega) (GY_body h3).1 (GY_body h3).2 h4.1.2, ss_all c vp fs hfl n u.vl u.els (by omega) (GY_els h3).1 (GY_els h3).2 h4.2⟩) vn ns hb
theorem ss_spec (c : Nat) (vp : SV) (fs : List Tf) (hfl : fs.length ≤ 1000000) (v : SV) (l : List Ty) (hl : l.length ≤ 1000000) (hg : GYs l) (hr : l.all rY = true) : HSs c vp fs v l := ss_all c vp fs hfl _ v l (Nat.lt_succ_self _) hl hg hr
theorem chkFs_hit {fs l : List Tf} {i : Nat} {f : Tf} {z : Int} (hf : l[i]? = some f) (h0 : chkFs fs (l.take i) = 0) (h : chkF fs f = z) (hz : z ≠ 0) : chkFs fs l = z := by
 have h1 := chkFs_app fs (l.take (i + 1)) (l.drop (i + 1))
 rw [List.take_append_drop, chkFs_take hf, h0, zero_fst, h, fst_ne hz] at h1
 exact h1
theorem chkF_b {fs : List Tf} {f : Tf} (h : big f) : chkF fs f = 2 := by rw [chkF_eq, if_pos h]; rfl
theorem dcl_hit {l : List ByteArray} {i : Nat} {x : ByteArray} (hx : l[i]? = some x) (h0 : dcl [] (l.take i) = 0) (h : memB x (l.take i) = true) : dcl [] l = 22 := by
 have h1 := dcl_app [] (l.take (i + 1)) (l.drop (i + 1))
 rw [List.take_append_drop, dcl_take hx, h0, zero_fst, if_pos h] at h1
 exact h1
theorem chkF_p {fs : List Tf} {f : Tf} (h : ¬ big f) (h2 : dcl [] f.ps = 22) : chkF fs f = 22 := by rw [chkF_eq, if_neg h, h2]; rfl
theorem chkF_s {fs : List Tf} {f : Tf} (h : ¬ big f) (h2 : dcl [] f.ps = 0) : chkF fs f = (bYs fs f.ps f.body).2 := by rw [chkF_eq, if_neg h, h2]; rfl
theorem chk_1z {fs : List Tf} (h : rP fs = false) : chk fs = 1 := by unfold chk; rw [if_pos h]
theorem chk_2z {fs : List Tf} (h : rP fs = true) (h2 : fs.length > 16) : chk fs = 2 := by unfold chk; rw [if_neg (by rw [h]; simp), if_pos h2]
set_option maxHeartbeats 8000000 in
set_option maxRecDepth 100000 in
theorem check8_spec (vp : SV) (fs : List Tf) (hg : GP fs) :
  Spec Tryz.prog 14 [.agg #[sv vp]] [] [tfsA vp fs] (X := Unit) (fun _ => True) (fun _ => .int .i64 (chk fs)) (fun _ => []) (fun _ => []) := by
 refine r_enter Tryz.func14 rfl Tryz.ntmps14 rfl fun w0 M H => ?_
 refine r_more 0 1 rfl tfs_sl ?_
 have hgl := hg.1
 refine r_seq (r_region ?_)
 refine r_boxA rfl rfl fun b1 => ?_
 refine r_p (p_assign rfl) rfl (r_nil (r_seq (r_region ?_)))
 refine r_p (p_loadA t29 rfl rfl rfl (g_all (k := 1) rfl)) rfl ?_
 refine r_callN (xs := [.tmp 13]) (right8_spec vp fs hg) cb36 [] [(false, 0)] [] rfl rfl rfl rfl rfl rfl rfl rfl (fun _ _ => rfl) (fun _ _ _ => rfl) rfl (fun _ _ => ?_)
 refine r_p (p_assign rfl) rfl (r_nil (r_seq (r_seq (r_region (r_p (p_move rfl) rfl ?_)))))
 refine r_p (p_not rfl) rfl ?_
 refine r_nil ?_
 refine r_cond rfl (fun h1 => ?_) (fun h1 => ?_)
 ·have q1 : rP fs = false := by simpa using h1
  refine r_seq (r_region (r_p (p_assign rfl) rfl (r_nil (r_cret ?_))))
  refine r_ret () trivial rfl (rs1 (rv_tmp rfl)) (by rw [chk_1z q1]) [] [] rfl rfl rfl
 ·have q1 : rP fs = true := by simpa using h1
  refine r_skip (r_seq (r_seq (r_region ?_)))
  refine r_p (p_field0 fo29_0 rfl) rfl ?_
  refine r_p (p_load1 t27 rfl rfl (g_row1 (k := 1) rfl rfl)) rfl ?_
  refine r_p (p_len_sl Tryz.underlying27 rfl (hs_sl (k := 1) rfl)) rfl ?_
  refine r_p (p_bin rfl rfl b_gt) rfl ?_
  refine r_nil ?_
  refine r_cond rfl (fun h2 => ?_) (fun h2 => ?_)
  ·(try simp only [decide_eq_true_eq, decide_eq_false_iff_not, Bool.and_eq_true, Bool.or_eq_true, Bool.and_eq_false_iff, Bool.or_eq_false_iff, Bool.not_eq_true, Bool.not_eq_false, Bool.not_eq_true', Bool.not_eq_false', Bool.not_not, bne_iff_ne, beq_iff_eq] at h2)
   have q2 : fs.length > 16 := by omega
   refine r_seq (r_region (r_p (p_assign rfl) rfl (r_nil (r_cret ?_))))
   refine r_ret () trivial rfl (rs1 (rv_tmp rfl)) (by rw [chk_2z q1 q2]) [] [] rfl rfl rfl
  ·(try simp only [decide_eq_true_eq, decide_eq_false_iff_not, Bool.and_eq_true, Bool.or_eq_true, Bool.and_eq_false_iff, Bool.or_eq_false_iff, Bool.not_eq_true, Bool.not_eq_false, Bool.not_eq_true', Bool.not_eq_false', Bool.not_not, bne_iff_ne, beq_iff_eq] at h2)
   have q2 : ¬ fs.length > 16 := by omega
   refine r_skip (r_seq (r_seq (r_region (r_p (p_assign rfl) rfl (r_nil (r_block ?_))))))
   refine r_loop (X := Nat) (fun i => i ≤ fs.length ∧ ∀ j f, j < i → fs[j]? = some f → fix fs f.name = (j : Int)) (fun i => [(1, .pointer (some ⟨b1, 0, none⟩)), (4, .int .i64 (i : Int))]) (fun i => [(1, row b1 29 [sv vp])]) (fun i => [(0, tfsA vp fs), (1, sl 3 eTf (sv vp) fs)]) (fun i => fs.length - i) 0 ⟨Nat.zero_le _, fun j f h => absurd h (Nat.not_lt_zero _)⟩ rfl rfl rfl (fun i hx0 => ?_)
   obtain ⟨n1, n2⟩ := hx0
   refine r_seq (r_seq (r_region (r_p (p_move rfl) rfl ?_)))
   refine r_p (p_field0 fo29_0 rfl) rfl ?_
   refine r_p (p_load1 t27 rfl rfl (g_row1 (k := 1) rfl rfl)) rfl ?_
   refine r_p (p_len_sl Tryz.underlying27 rfl (hs_sl (k := 1) rfl)) rfl ?_
   refine r_p (p_bin rfl rfl b_lt) rfl ?_
   refine r_nil ?_
   refine r_cond rfl (fun h3 => ?_) (fun h3 => ?_)
   ·(try simp only [decide_eq_true_eq, decide_eq_false_iff_not, Bool.and_eq_true, Bool.or_eq_true, Bool.and_eq_false_iff, Bool.or_eq_false_iff, Bool.not_eq_true, Bool.not_eq_false, Bool.not_eq_true', Bool.not_eq_false', Bool.not_not, bne_iff_ne, beq_iff_eq] at h3)
    have hi : i < fs.length := by omega
    obtain ⟨f, hf⟩ : ∃ k, fs[i]? = some k := ⟨_, List.getElem?_eq_getElem hi⟩
    have hfm := List.mem_of_getElem? hf
    refine r_skip (r_seq (r_block (r_seq ?_)))
    refine r_draw [28, 29, 30, 31, 32, 33, 34, 35, 36, 37] _ rfl (stg_mem (V := [(0, 28, _), (1, 29, _), (2, 30, _), (3, 31, _), (4, 32, _), (5, 33, _), (6, 34, _), (8, 36, _)]) [0, 1, 2, 3, 4, 5, 6, 8] 7 [7, 6, 5, 4, 3, 2, 1, 0] [9] (fun _ => [(9, 37, _)]) rfl rfl (prs_cons (pri rfl (p_loadA t29 rfl rfl rfl (g_all (k := 1) rfl))) (prs_cons (pri rfl (p_field0 fo29_0 rfl)) (prs_cons (pri rfl (p_load1 t27 rfl rfl (g_row1 (k := 1) rfl rfl))) (prs_cons (pri rfl (p_move rfl)) (prs_cons (pri rfl (p_idx_sl (j := i) Tryz.underlying27 t63 rfl rfl (hs_sl (k := 1) rfl) (by first | rfl | omega) (by first | omega | (simp; done) | (simp; omega)))) (prs_cons (pri rfl (p_field fo63_0 rfl)) (prs_cons (pri rfl (p_load1 t9 rfl rfl (g_elp (hs_sl (k := 1) rfl) (by intro _; rfl) hf rfl))) (prs_cons (pri rfl (p_move rfl)) prs_nil)))))))) rfl rfl rfl rfl rfl rfl rfl rfl rfl rfl rfl (fun _ _ => rfl) rfl (ms_callN (xs := [.tmp 28, .tmp 34]) (find9_spec f.name vp fs hg.1) cb37 [] [(false, 1)] [] rfl rfl rfl rfl rfl rfl rfl rfl (fun _ _ => rfl) (fun _ _ _ => rfl)) (fun _ _ => stg_end [9, 8] rfl rfl (prs_cons (pri rfl (p_bin rfl rfl b_ne)) (prs_cons (pri rfl (p_move rfl)) prs_nil)) rfl rfl rfl ?_))
    refine r_cond rfl (fun h4 => ?_) (fun h4 => ?_)
    ·(try simp only [decide_eq_true_eq, decide_eq_false_iff_not, Bool.and_eq_true, Bool.or_eq_true, Bool.and_eq_false_iff, Bool.or_eq_false_iff, Bool.not_eq_true, Bool.not_eq_false, Bool.not_eq_true', Bool.not_eq_false', Bool.not_not, bne_iff_ne, beq_iff_eq] at h4)
     have q4 : ¬ fix fs f.name = (i : Int) := h4
     refine r_seq (r_region (r_p (p_assign rfl) rfl (r_nil (r_cret ?_))))
     refine r_ret () trivial rfl (rs1 (rv_tmp rfl)) (by rw [chk_22 q1 q2 (once_no hf q4)]) [] [] rfl rfl rfl
    ·(try simp only [decide_eq_true_eq, decide_eq_false_iff_not, Bool.and_eq_true, Bool.or_eq_true, Bool.and_eq_false_iff, Bool.or_eq_false_iff, Bool.not_eq_true, Bool.not_eq_false, Bool.not_eq_true', Bool.not_eq_false', Bool.not_not, bne_iff_ne, beq_iff_eq] at h4)
     have q4 : fix fs f.name = (i : Int) := h4
     refine r_skip (r_region (r_p (p_move rfl) rfl ?_))
     refine r_p (p_bin rfl rfl (b_add (by first | exact w_i64 (by omega) (by omega) | rfl))) rfl ?_
     refine r_p (p_assign rfl) rfl (r_nil ?_)
     refine r_here (i + 1) ⟨⟨by omega, fun j g hj hgj => by
      by_cases h : j = i
      ·subst h
       rw [hf] at hgj
       cases hgj
       exact q4
      ·exact n2 j g (by omega) hgj⟩, by omega⟩ rfl rfl rfl
   ·(try simp only [decide_eq_true_eq, decide_eq_false_iff_not, Bool.and_eq_true, Bool.or_eq_true, Bool.and_eq_false_iff, Bool.or_eq_false_iff, Bool.not_eq_true, Bool.not_eq_false, Bool.not_eq_true', Bool.not_eq_false', Bool.not_not, bne_iff_ne, beq_iff_eq] at h3)
    have hi : i = fs.length := by omega
    subst hi
    have q3 : once fs = true := once_iff.2 fun j g hgj => n2 j g (List.getElem?_eq_some_iff.1 hgj).1 hgj
    refine r_exit (r_seq (r_region ?_))
    refine r_p (p_loadA t29 rfl rfl rfl (g_all (k := 1) rfl)) rfl ?_
    refine r_callN (xs := [.tmp 38, .const (.string (ByteArray.mk #[109, 97, 105, 110]))]) (find9_spec nMain vp fs hg.1) cb37 [] [(false, 1)] [] rfl rfl rfl rfl rfl rfl rfl rfl (fun _ _ => rfl) (fun _ _ _ => rfl) rfl (fun _ _ => ?_)
    refine r_p (p_assign rfl) rfl (r_nil (r_seq (r_seq (r_region (r_p (p_move rfl) rfl ?_)))))
    refine r_p (p_bin rfl rfl b_lt) rfl ?_
    refine r_nil ?_
    refine r_cond rfl (fun h5 => ?_) (fun h5 => ?_)
    ·have hff : ffind fs nMain = none := ffind_fix.1.1 (of_decide_eq_true h5)
     refine r_seq (r_region (r_p (p_assign rfl) rfl (r_nil (r_cret ?_))))
     refine r_ret () trivial rfl (rs1 (rv_tmp rfl)) (by rw [chk_21 q1 q2 q3 hff]) [] [] rfl rfl rfl
    ·have hq1 : ¬ fix fs nMain < 0 := of_decide_eq_false h5
     obtain ⟨fm, hff⟩ : ∃ f, ffind fs nMain = some f := by
      cases hf : ffind fs nMain with
      | none => exact absurd (ffind_fix.1.2 hf) hq1
      | some f => exact ⟨f, rfl⟩
     obtain ⟨m, hxm, hfx⟩ := ffind_fix.2 fm hff
     have hfmm := List.mem_of_getElem? hfx
     have hml : m < fs.length := (List.getElem?_eq_some_iff.1 hfx).1
     rw [hxm]
     refine r_more 0 11 rfl (tfs_f hfmm) ?_
     refine r_more 11 12 rfl tf_ps ?_
     refine r_skip (r_seq (r_seq (r_region ?_)))
     refine r_p (p_field0 fo29_0 rfl) rfl ?_
     refine r_p (p_load1 t27 rfl rfl (g_row1 (k := 1) rfl rfl)) rfl ?_
     refine r_p (p_move rfl) rfl ?_
     refine r_p (p_idx_sl (j := m) Tryz.underlying27 t63 rfl rfl (hs_sl (k := 1) rfl) rfl hml) rfl ?_
     refine r_p (p_field fo63_1 rfl) rfl ?_
     refine r_p (p_load1 t58 rfl rfl (g_elp (hs_sl (k := 1) rfl) (by intro _; rfl) hfx rfl)) rfl ?_
     refine r_p (p_len_sl Tryz.underlying58 rfl (hs_sl (k := 12) rfl)) rfl ?_
     refine r_p (p_bin rfl rfl b_gt) rfl ?_
     refine r_nil ?_
     refine r_cond rfl (fun h6 => ?_) (fun h6 => ?_)
     ·(try simp only [decide_eq_true_eq, decide_eq_false_iff_not, Bool.and_eq_true, Bool.or_eq_true, Bool.and_eq_false_iff, Bool.or_eq_false_iff, Bool.not_eq_true, Bool.not_eq_false, Bool.not_eq_true', Bool.not_eq_false', Bool.not_not, bne_iff_ne, beq_iff_eq] at h6)
      have q6 : fm.ps.length > 0 := by omega
      refine r_seq (r_region (r_p (p_assign rfl) rfl (r_nil (r_cret ?_))))
      refine r_ret () trivial rfl (rs1 (rv_tmp rfl)) (by rw [chk_23 q1 q2 q3 hff q6]) [] [] rfl rfl rfl
     ·(try simp only [decide_eq_true_eq, decide_eq_false_iff_not, Bool.and_eq_true, Bool.or_eq_true, Bool.and_eq_false_iff, Bool.or_eq_false_iff, Bool.not_eq_true, Bool.not_eq_false, Bool.not_eq_true', Bool.not_eq_false', Bool.not_not, bne_iff_ne, beq_iff_eq] at h6)
      have q6 : ¬ fm.ps.length > 0 := by omega
      refine r_skip (r_seq (r_seq (r_region (r_p (p_assign rfl) rfl (r_nil (r_block ?_))))))
      refine r_loop (X := Nat) (fun i => i ≤ fs.length ∧ chkFs fs (fs.take i) = 0) (fun i => [(1, .pointer (some ⟨b1, 0, none⟩)), (6, .int .i64 (i : Int))]) (fun i => [(1, row b1 29 [sv vp])]) (fun i => [(0, tfsA vp fs), (1, sl 3 eTf (sv vp) fs)]) (fun i => fs.length - i) 0 ⟨Nat.zero_le _, rfl⟩ rfl rfl rfl (fun i hx0 => ?_)
      obtain ⟨n1, n2⟩ := hx0
      refine r_seq (r_seq (r_region (r_p (p_move rfl) rfl ?_)))
      refine r_p (p_field0 fo29_0 rfl) rfl ?_
      refine r_p (p_load1 t27 rfl rfl (g_row1 (k := 1) rfl rfl)) rfl ?_
      refine r_p (p_len_sl Tryz.underlying27 rfl (hs_sl (k := 1) rfl)) rfl ?_
      refine r_p (p_bin rfl rfl b_lt) rfl ?_
      refine r_nil ?_
      refine r_cond rfl (fun h7 => ?_) (fun h7 => ?_)
      ·(try simp only [decide_eq_true_eq, decide_eq_false_iff_not, Bool.and_eq_true, Bool.or_eq_true, Bool.and_eq_false_iff, Bool.or_eq_false_iff, Bool.not_eq_true, Bool.not_eq_false, Bool.not_eq_true', Bool.not_eq_false', Bool.not_not, bne_iff_ne, beq_iff_eq] at h7)
       have hi : i < fs.length := by omega
       obtain ⟨f, hf⟩ : ∃ k, fs[i]? = some k := ⟨_, List.getElem?_eq_getElem hi⟩
       have hfm := List.mem_of_getElem? hf
       have hgf := hg.2 f hfm
       have hpl := hgf.2.2.1
       have hsum := hgf.2.2.2.2.2
       have hvn := vYs_le f.body
       have hdn := dSs_le f.body
       have hbr : f.body.all rY = true := by
        have h := List.all_eq_true.1 q1 f hfm
        rw [rF_def] at h
        simp only [Bool.and_eq_true] at h
        exact h.2
       refine r_more 0 7 rfl (tfs_f hfm) ?_
       refine r_more 7 8 rfl tf_ps ?_
       refine r_more 7 9 rfl tf_body ?_
       refine r_skip (r_seq (r_block (r_seq (r_region ?_))))
       refine r_p (p_field0 fo29_0 rfl) rfl ?_
       refine r_p (p_load1 t27 rfl rfl (g_row1 (k := 1) rfl rfl)) rfl ?_
       refine r_p (p_move rfl) rfl ?_
       refine r_p (p_idx_sl (j := i) Tryz.underlying27 t63 rfl rfl (hs_sl (k := 1) rfl) (by first | rfl | omega) (by first | omega | (simp; done) | (simp; omega))) rfl ?_
       refine r_p (p_loadA t63 rfl rfl rfl (g_el' (hs_sl (k := 1) rfl) (by intro _; rfl) hf (by rfl))) rfl ?_
       refine r_alloc t63 rfl rfl fun b7 => ?_
       refine r_store_all (k := 7) t63 rfl rfl rfl rfl rfl rfl ?_
       refine r_nil (r_seq (r_region ?_))
       refine r_p (p_field0 fo63_2 rfl) rfl ?_
       refine r_p (p_load1 t51 rfl rfl (g_row1 (k := 7) rfl rfl)) rfl ?_
       refine r_callN (xs := [.tmp 63]) (stmtsize_spec f.vb f.body hgf.2.2.2.1 hgf.2.2.2.2.1 (by omega)) cb38 [] [(false, 9)] [] rfl rfl rfl rfl rfl rfl rfl rfl (fun _ _ => rfl) (fun _ _ _ => rfl) rfl (fun _ _ => ?_)
       refine r_alloc t86 rfl rfl fun b8 => ?_
       refine r_store_all (k := 8) t86 rfl rfl rfl rfl rfl rfl ?_
       refine r_nil (r_seq (r_seq (r_region ?_)))
       refine r_p (p_field0 fo63_1 rfl) rfl ?_
       refine r_p (p_load1 t58 rfl rfl (g_row1 (k := 7) rfl rfl)) rfl ?_
       refine r_p (p_len_sl Tryz.underlying58 rfl (hs_sl (k := 8) rfl)) rfl ?_
       refine r_p (p_bin rfl rfl b_gt) rfl ?_
       refine r_p (p_move rfl) rfl ?_
       refine r_gp [] rfl rfl trivial (fun hg8 => p_field0 fo63_1 rfl) rfl ?_
       refine r_gp [(70, _)] rfl rfl ⟨rfl, trivial⟩ (fun hg9 => p_load1 t58 rfl rfl (g_row1 (k := 7) rfl rfl)) rfl ?_
       refine r_gp [(70, _), (71, _)] rfl rfl ⟨rfl, rfl, trivial⟩ (fun hg10 => p_len_sl Tryz.underlying58 rfl (hs_sl (k := 8) rfl)) rfl ?_
       refine r_gp [(70, _), (71, _), (72, _)] rfl rfl ⟨rfl, rfl, rfl, trivial⟩ (fun hg11 => p_field0 fo86_1 rfl) rfl ?_
       refine r_gp [(70, _), (71, _), (72, _), (73, _)] rfl rfl ⟨rfl, rfl, rfl, rfl, trivial⟩ (fun hg12 => p_load1 t3 rfl rfl (g_row1 (k := 8) rfl rfl)) rfl ?_
       refine r_gp [(70, _), (71, _), (72, _), (73, _), (74, _)] rfl rfl ⟨rfl, rfl, rfl, rfl, rfl, trivial⟩ (fun hg13 => p_bin rfl rfl (b_add (by first | exact w_i64 (by omega) (by omega) | rfl))) rfl ?_
       refine r_gp [(70, _), (71, _), (72, _), (73, _), (74, _), (75, _)] rfl rfl ⟨rfl, rfl, rfl, rfl, rfl, rfl, trivial⟩ (fun hg14 => p_bin rfl rfl b_gt) rfl ?_
       refine r_p (p_pick rfl rfl rfl (by first | exact pick_and | exact pick_or |  rfl)) rfl ?_
       refine r_p (p_move rfl) rfl ?_
       refine r_gp [] rfl rfl trivial (fun hg15 => p_field0 fo86_0 rfl) rfl ?_
       refine r_gp [(79, _)] rfl rfl ⟨rfl, trivial⟩ (fun hg16 => p_load1 t3 rfl rfl (g_row1 (k := 8) rfl rfl)) rfl ?_
       refine r_gp [(79, _), (80, _)] rfl rfl ⟨rfl, rfl, trivial⟩ (fun hg17 => p_bin rfl rfl b_gt) rfl ?_
       refine r_p (p_pick rfl rfl rfl (by first | exact pick_and | exact pick_or |  rfl)) rfl ?_
       refine r_p (p_move rfl) rfl ?_
       refine r_gp [] rfl rfl trivial (fun hg18 => p_field0 fo86_2 rfl) rfl ?_
       refine r_gp [(84, _)] rfl rfl ⟨rfl, trivial⟩ (fun hg19 => p_load1 t3 rfl rfl (g_row1 (k := 8) rfl rfl)) rfl ?_
       refine r_gp [(84, _), (85, _)] rfl rfl ⟨rfl, rfl, trivial⟩ (fun hg20 => p_bin rfl rfl b_gt) rfl ?_
       refine r_p (p_pick rfl rfl rfl (by first | exact pick_and | exact pick_or |  rfl)) rfl ?_
       refine r_p (p_move rfl) rfl ?_
       refine r_gp [] rfl rfl trivial (fun hg21 => p_field0 fo86_3 rfl) rfl ?_
       refine r_gp [(89, _)] rfl rfl ⟨rfl, trivial⟩ (fun hg22 => p_load1 t3 rfl rfl (g_row1 (k := 8) rfl rfl)) rfl ?_
       refine r_gp [(89, _), (90, _)] rfl rfl ⟨rfl, rfl, trivial⟩ (fun hg23 => p_bin rfl rfl b_gt) rfl ?_
       refine r_p (p_pick rfl rfl rfl (by first | exact pick_and | exact pick_or |  rfl)) rfl ?_
       refine r_nil ?_
       refine r_cond rfl (fun h24 => ?_) (fun h24 => ?_)
       ·(try simp only [decide_eq_true_eq, decide_eq_false_iff_not, Bool.and_eq_true, Bool.or_eq_true, Bool.and_eq_false_iff, Bool.or_eq_false_iff, Bool.not_eq_true, Bool.not_eq_false, Bool.not_eq_true', Bool.not_eq_false', Bool.not_not, bne_iff_ne, beq_iff_eq] at h24)
        have q8 : big f := by rw [big_iff]; omega
        refine r_seq (r_region (r_p (p_assign rfl) rfl (r_nil (r_cret ?_))))
        refine r_ret () trivial rfl (rs1 (rv_tmp rfl)) (by rw [chk_0 q1 q2 q3 hff q6, chkFs_hit hf n2 (chkF_b q8) (by decide)]) [] [] rfl rfl rfl
       ·(try simp only [decide_eq_true_eq, decide_eq_false_iff_not, Bool.and_eq_true, Bool.or_eq_true, Bool.and_eq_false_iff, Bool.or_eq_false_iff, Bool.not_eq_true, Bool.not_eq_false, Bool.not_eq_true', Bool.not_eq_false', Bool.not_not, bne_iff_ne, beq_iff_eq] at h24)
        have q8 : ¬ big f := by rw [big_iff]; omega
        refine r_skip (r_seq (r_region ?_))
        refine r_p (p_loadA t29 rfl rfl rfl (g_all (k := 1) rfl)) rfl ?_
        refine r_p (p_build (parts := [(0, .tmp 93)]) t90 pl90 rfl rfl) rfl ?_
        refine r_boxA rfl rfl fun b95 => ?_
        refine r_p (p_assign rfl) rfl (r_nil (r_seq (r_seq (r_region (r_p (p_assign rfl) rfl (r_nil (r_block ?_)))))))
        refine r_nilown 20 (α := ByteArray) (S := 9) (s := 1) (enc := eS) ?_
        refine r_loop (X := Nat × SV) (fun x => x.1 ≤ f.ps.length ∧ dcl [] (f.ps.take x.1) = 0) (fun x => [(1, .pointer (some ⟨b1, 0, none⟩)), (6, .int .i64 (i : Int)), (7, .pointer (some ⟨b7, 0, none⟩)), (9, .pointer (some ⟨b95, 0, none⟩)), (10, .int .i64 (x.1 : Int))]) (fun x => [(1, row b1 29 [sv vp]), (7, row b7 63 (eTf f)), (95, row b95 90 [sv vp, sv x.2]), (20, own 9 1 eS (sv x.2) (f.ps.take x.1))]) (fun x => [(0, tfsA vp fs), (1, sl 3 eTf (sv vp) fs), (7, tfA f), (8, sl 1 eS (sv f.vp) f.ps), (9, tysA f.vb f.body)]) (fun x => f.ps.length - x.1) (0, nilS) ⟨Nat.zero_le _, rfl⟩ rfl rfl rfl (fun x hy0 => ?_)
        obtain ⟨j, vn⟩ := x
        obtain ⟨n3, n4⟩ := hy0
        dsimp only at n3 n4 ⊢
        refine r_seq (r_seq (r_region (r_p (p_move rfl) rfl ?_)))
        refine r_p (p_field0 fo63_1 rfl) rfl ?_
        refine r_p (p_load1 t58 rfl rfl (g_row1 (k := 7) rfl rfl)) rfl ?_
        refine r_p (p_len_sl Tryz.underlying58 rfl (hs_sl (k := 8) rfl)) rfl ?_
        refine r_p (p_bin rfl rfl b_lt) rfl ?_
        refine r_nil ?_
        refine r_cond rfl (fun h25 => ?_) (fun h25 => ?_)
        ·(try simp only [decide_eq_true_eq, decide_eq_false_iff_not, Bool.and_eq_true, Bool.or_eq_true, Bool.and_eq_false_iff, Bool.or_eq_false_iff, Bool.not_eq_true, Bool.not_eq_false, Bool.not_eq_true', Bool.not_eq_false', Bool.not_not, bne_iff_ne, beq_iff_eq] at h25)
         have hj : j < f.ps.length := by omega
         obtain ⟨x, hx⟩ : ∃ k, f.ps[j]? = some k := ⟨_, List.getElem?_eq_getElem hj⟩
         refine r_skip (r_seq (r_block (r_seq ?_)))
         refine r_draw [103, 104, 105, 106, 107, 108, 109, 110, 111, 112, 11] _ rfl (stg_mem (V := [(0, 103, _), (1, 104, _), (2, 105, _), (3, 106, _), (4, 107, _), (5, 108, _), (6, 109, _), (7, 110, _), (8, 111, _)]) [0, 1, 2, 3, 4, 5, 6, 7, 8] 9 [9, 8, 7, 6, 5, 4, 3, 2, 1, 0] [10] (fun _ => [(10, 11, _)]) rfl rfl (prs_cons (pri rfl (p_field0 fo63_1 rfl)) (prs_cons (pri rfl (p_load1 t58 rfl rfl (g_row1 (k := 7) rfl rfl))) (prs_cons (pri rfl (p_move rfl)) (prs_cons (pri rfl (p_idx_sl (j := j) Tryz.underlying58 t9 rfl rfl (hs_sl (k := 8) rfl) (by first | rfl | omega) (by first | omega | (simp; done) | (simp; omega)))) (prs_cons (pri rfl (p_load1 t9 rfl rfl (g_el' (hs_sl (k := 8) rfl) (by intro _; rfl) hx (by rfl)))) (prs_cons (pri rfl (p_move rfl)) (prs_cons (pri rfl (p_nilCheck rfl)) (prs_cons (pri rfl (p_field0 fo90_1 rfl)) (prs_cons (pri rfl (p_load1 t58 rfl rfl (g_row1 (k := 95) rfl rfl))) prs_nil))))))))) rfl rfl rfl rfl rfl rfl rfl rfl rfl rfl rfl (fun _ _ => rfl) rfl (ms_callN (xs := [.tmp 107, .tmp 111]) (among_own x vn (f.ps.take j) (by rw [List.length_take]; omega)) cb39 [] [(true, 20)] [] rfl rfl rfl rfl rfl rfl rfl rfl (fun _ _ => rfl) (fun _ _ _ => rfl)) (fun _ _ => stg_end [10] rfl rfl (prs_cons (pri rfl (p_assign rfl)) prs_nil) rfl rfl rfl ?_))
         refine r_seq (r_seq (r_region (r_p (p_move rfl) rfl (r_nil ?_))))
         refine r_cond rfl (fun h26 => ?_) (fun h26 => ?_)
         ·have q10 : memB x (f.ps.take j) = true := h26
          refine r_seq (r_region (r_p (p_assign rfl) rfl (r_nil (r_cret ?_))))
          refine r_ret () trivial rfl (rs1 (rv_tmp rfl)) (by rw [chk_0 q1 q2 q3 hff q6, chkFs_hit hf n2 (chkF_p q8 (dcl_hit hx n4 q10)) (by decide)]) [] [] rfl rfl rfl
         ·have q10 : memB x (f.ps.take j) = false := h26
          refine r_skip ?_
          refine r_draw [114, 115, 116, 117, 118, 119, 120, 121, 122, 123, 124, 125, 126, 127] _ rfl (stg_mem (V := [(0, 114, _), (1, 115, _), (2, 116, _), (3, 117, _), (4, 118, _), (5, 119, _), (6, 120, _), (7, 121, _), (8, 122, _), (9, 123, _)]) [0, 1, 2, 3, 4, 5, 6, 7, 8, 9] 10 [10, 9, 8, 7, 6, 5] [] (fun v124 => []) rfl rfl (prs_cons (pri rfl (p_move rfl)) (prs_cons (pri rfl (p_move rfl)) (prs_cons (pri rfl (p_nilCheck rfl)) (prs_cons (pri rfl (p_field0 fo90_1 rfl)) (prs_cons (pri rfl (p_load1 t58 rfl rfl (g_row1 (k := 95) rfl rfl))) (prs_cons (pri rfl (p_field0 fo63_1 rfl)) (prs_cons (pri rfl (p_load1 t58 rfl rfl (g_row1 (k := 7) rfl rfl))) (prs_cons (pri rfl (p_move rfl)) (prs_cons (pri rfl (p_idx_sl (j := j) Tryz.underlying58 t9 rfl rfl (hs_sl (k := 8) rfl) (by first | rfl | omega) (by first | omega | (simp; done) | (simp; omega)))) (prs_cons (pri rfl (p_load1 t9 rfl rfl (g_el' (hs_sl (k := 8) rfl) (by intro _; rfl) hx (by rfl)))) prs_nil)))))))))) rfl rfl rfl rfl rfl rfl rfl rfl rfl rfl rfl (fun _ _ => rfl) rfl (ms_bslice1 eS x Tryz.underlying58 t9 rfl (by decide) (by decide) rfl rfl rfl) (fun v124 _ => stg_mem [0, 1, 2, 3, 4] 11 [11, 10, 9, 8, 7, 6, 5, 4, 3, 2, 1] [12, 13] (fun v125 => [(12, 126, _), (13, 127, _)]) rfl rfl (prs_cons (pri rfl (p_move rfl)) (prs_cons (pri rfl (p_move rfl)) (prs_cons (pri rfl (p_nilCheck rfl)) (prs_cons (pri rfl (p_field0 fo90_1 rfl)) (prs_cons (pri rfl (p_load1 t58 rfl rfl (g_row1 (k := 95) rfl rfl))) prs_nil))))) rfl rfl rfl rfl rfl rfl rfl rfl rfl rfl rfl (fun _ _ => rfl) rfl (ms_append 20 Tryz.underlying58 t9 rfl (by decide) (fun _ => rfl) (fun _ => rfl) rfl rfl rfl (hs_own (k := 124) rfl) (by rw [List.length_take]; simp only [List.length_singleton]; omega) (by unfold maxLen; rw [List.length_take]; simp only [List.length_singleton]; omega)) (fun v125 _ => stg_mem0 [12, 13, 0] 14 [14, 13, 12, 11, 10, 9, 8, 7, 6, 5, 4, 3, 2, 1, 0] [] (fun _ => []) rfl rfl (prs_cons (pri rfl (p_nilCheck rfl)) (prs_cons (pri rfl (p_field0 fo90_1 rfl)) (prs_cons (pri rfl (p_move rfl)) prs_nil))) rfl rfl rfl rfl rfl rfl rfl rfl rfl (fun _ _ => rfl) rfl (ms_store_row (k := 95) t58 rfl rfl rfl rfl rfl rfl rfl rfl) (fun _ _ => stg_end [] rfl rfl prs_nil rfl rfl rfl ?_))))
          refine r_region (r_p (p_move rfl) rfl ?_)
          refine r_p (p_bin rfl rfl (b_add (by first | exact w_i64 (by omega) (by omega) | rfl))) rfl ?_
          refine r_p (p_assign rfl) rfl (r_nil ?_)
          refine r_here (j + 1, v125) ⟨⟨by dsimp only; omega, by dsimp only; rw [dcl_take hx, n4, if_neg (by rw [q10]; simp)]; rfl⟩, by dsimp only; omega⟩ rfl (by dsimp only; rw [take_snoc hx]; rfl) rfl
        ·(try simp only [decide_eq_true_eq, decide_eq_false_iff_not, Bool.and_eq_true, Bool.or_eq_true, Bool.and_eq_false_iff, Bool.or_eq_false_iff, Bool.not_eq_true, Bool.not_eq_false, Bool.not_eq_true', Bool.not_eq_false', Bool.not_not, bne_iff_ne, beq_iff_eq] at h25)
         have hj : j = f.ps.length := by omega
         subst hj
         rw [List.take_length] at n4
         rw [List.take_length]
         refine r_exit (r_seq (r_region (r_p (p_move rfl) rfl ?_)))
         refine r_p (p_field0 fo63_2 rfl) rfl ?_
         refine r_p (p_load1 t51 rfl rfl (g_row1 (k := 7) rfl rfl)) rfl ?_
         refine r_callN (xs := [.tmp 128, .tmp 130]) (ss_spec b95 vp fs hg.1 f.vb f.body hgf.2.2.2.1 hgf.2.2.2.2.1 hbr vn f.ps (by omega)) cb40 [95, 20] [(false, 9), (false, 0)] [95, 20] rfl rfl rfl rfl rfl rfl rfl rfl (fun _ _ => rfl) (fun _ _ _ => rfl) rfl (fun ⟨vn2, ns2⟩ _ => ?_)
         dsimp only
         refine r_p (p_assign rfl) rfl (r_nil (r_seq (r_region (r_p (p_move rfl) rfl ?_))))
         refine r_p (p_bin rfl rfl b_ne) rfl ?_
         refine r_nil ?_
         refine r_cond rfl (fun h27 => ?_) (fun h27 => ?_)
         ·(try simp only [decide_eq_true_eq, decide_eq_false_iff_not, Bool.and_eq_true, Bool.or_eq_true, Bool.and_eq_false_iff, Bool.or_eq_false_iff, Bool.not_eq_true, Bool.not_eq_false, Bool.not_eq_true', Bool.not_eq_false', Bool.not_not, bne_iff_ne, beq_iff_eq] at h27)
          have q11 : (bYs fs f.ps f.body).2 ≠ 0 := h27
          refine r_seq (r_region (r_p (p_move rfl) rfl (r_p (p_assign rfl) rfl (r_nil (r_cret ?_)))))
          refine r_ret () trivial rfl (rs1 (rv_tmp rfl)) (by rw [chk_0 q1 q2 q3 hff q6, chkFs_hit hf n2 (chkF_s q8 n4) q11]) [] [] rfl rfl rfl
         ·(try simp only [decide_eq_true_eq, decide_eq_false_iff_not, Bool.and_eq_true, Bool.or_eq_true, Bool.and_eq_false_iff, Bool.or_eq_false_iff, Bool.not_eq_true, Bool.not_eq_false, Bool.not_eq_true', Bool.not_eq_false', Bool.not_not, bne_iff_ne, beq_iff_eq] at h27)
          have q11 : (bYs fs f.ps f.body).2 = 0 := h27
          refine r_skip (r_region (r_p (p_move rfl) rfl ?_))
          refine r_p (p_bin rfl rfl (b_add (by first | exact w_i64 (by omega) (by omega) | rfl))) rfl ?_
          refine r_p (p_assign rfl) rfl (r_nil ?_)
          refine r_here (i + 1) ⟨⟨by omega, by rw [chkFs_take hf, n2, chkF_s q8 n4, q11]; rfl⟩, by omega⟩ rfl rfl rfl
      ·(try simp only [decide_eq_true_eq, decide_eq_false_iff_not, Bool.and_eq_true, Bool.or_eq_true, Bool.and_eq_false_iff, Bool.or_eq_false_iff, Bool.not_eq_true, Bool.not_eq_false, Bool.not_eq_true', Bool.not_eq_false', Bool.not_not, bne_iff_ne, beq_iff_eq] at h7)
       have hi : i = fs.length := by omega
       subst hi
       rw [List.take_length] at n2
       refine r_exit (r_seq (r_region (r_p (p_assign rfl) rfl (r_nil (r_cret ?_)))))
       refine r_ret () trivial rfl (rs1 (rv_tmp rfl)) (by rw [chk_0 q1 q2 q3 hff q6, n2]) [] [] rfl rfl rfl
theorem xC_sl {vp vi vo : SV} {mem : Nat → Int} {fuel used er : Int} : ((xC vp vi vo mem fuel used er).drop 3).take (((List.range 256).map mem).flatMap eU).length = ((List.range 256).map mem).flatMap eU := by
 rw [flat_eU, List.map_map]
 show List.take _ ((List.range 256).map (fun i => Value.int .u32 (mem i)) ++ _) = _
 rw [List.take_append_of_le_length (by simp), List.take_of_length_le (by simp)]
 rfl
theorem row_sl2 {α : Type} {b o n : Nat} {S : TypeId} {c : List Value} {enc : α → List Value} {s : Nat} {l : List α} (hl : l.length = n) (hn : n ≤ maxLen) (hc : (c.drop o).take (l.flatMap enc).length = l.flatMap enc) : ∀ w G, (row b S c).pred w G → (sl s enc (sv ⟨some ⟨b, o, none⟩, n, n⟩) l).pred w G := fun w G h => by
 refine ⟨n, by omega, hn, .inr ⟨b, o, by rw [hl]; rfl, (h.1 b).2 rfl, fun j u hj => ?_⟩⟩
 simp only [World.cell?, h.2]
 rw [← hc, List.getElem?_take] at hj
 split at hj
 ·rw [List.getElem?_drop] at hj
  simpa using hj
 ·simp at hj
theorem xRow_0 (m : Nat) (vin vp : SV) (ins : List Int) (fs : List Tf) (fuel : Int) : xRow ⟨⟨m, 0, 0, 0, vin, ins, fs⟩, vp, fuel⟩ (xS ⟨⟨m, 0, 0, 0, vin, ins, fs⟩, vp, fuel⟩ (ms0 ins fuel) nilS) = xC vp vin nilS (fun _ => 0) fuel 0 0 := by
 unfold xRow xS ms0
 dsimp only
 rw [Nat.sub_self, Int.sub_self]
 rfl
set_option maxHeartbeats 16000000 in
set_option maxRecDepth 100000 in
theorem run8_bad (vp vin : SV) (fs : List Tf) (ins : List Int) (fuel : Int) (hg : GP fs) (hi : ∀ x ∈ ins, oW x) (hil : ins.length ≤ 1000000) (hf : -1000000000000000000 ≤ fuel ∧ fuel ≤ 1000000000000) (hc : chk fs ≠ 0) :
  Spec Tryz.prog 30 [.agg #[sv vp], sv vin, .int .i64 fuel] [] [tfsA vp fs, sl 1 eU (sv vin) ins] (X := SV × SV) (fun _ => True) (fun x => .agg #[sv x.1, sv x.2, .int .i64 (⟨chk fs, [], []⟩ : Ru).err]) (fun x => [sl 1 eU (sv x.1) (⟨chk fs, [], []⟩ : Ru).out, sl 1 eU (sv x.2) (⟨chk fs, [], []⟩ : Ru).mem]) (fun _ => []) := by
 refine r_enter Tryz.func30 rfl Tryz.ntmps30 rfl fun w0 M H => ?_
 refine r_seq (r_region ?_)
 refine r_boxA rfl rfl fun b3 => ?_
 refine r_alloc t72 rfl rfl fun b6 => ?_
 refine r_nil (r_seq (r_region ?_))
 refine r_p (p_loadA t29 rfl rfl rfl (g_all (k := 3) rfl)) rfl ?_
 refine r_callN (xs := [.tmp 9]) (check8_spec vp fs hg) cb14 [] [(false, 0)] [] rfl rfl rfl rfl rfl rfl rfl rfl (fun _ _ => rfl) (fun _ _ _ => rfl) rfl (fun _ _ => ?_)
 refine r_p (p_assign rfl) rfl (r_nil (r_seq (r_seq (r_region (r_p (p_move rfl) rfl ?_)))))
 refine r_p (p_bin rfl rfl b_ne) rfl ?_
 refine r_nil ?_
 refine r_cond rfl (fun h1 => ?_) (fun h1 => ?_)
 ·(try simp only [decide_eq_true_eq, decide_eq_false_iff_not, Bool.and_eq_true, Bool.or_eq_true, Bool.and_eq_false_iff, Bool.or_eq_false_iff, Bool.not_eq_true, Bool.not_eq_false, Bool.not_eq_true', Bool.not_eq_false', Bool.not_not, bne_iff_ne, beq_iff_eq] at h1)
  refine r_seq (r_region (r_p (p_move rfl) rfl ?_))
  refine r_p (p_build (parts := [(2, .tmp 13)]) t72 pl72 rfl rfl) rfl ?_
  refine r_store_all (k := 6) t72 rfl rfl rfl rfl rfl rfl ?_
  refine r_nil (r_cret ?_)
  refine r_nilown 20 (α := Int) (S := 36) (s := 1) (enc := eU) ?_
  refine r_nilown 21 (α := Int) (S := 36) (s := 1) (enc := eU) ?_
  refine r_conva (k := 20) (A' := sl 1 eU (sv nilS) []) rfl own_to_sl ?_
  refine r_conva (k := 21) (A' := sl 1 eU (sv nilS) []) rfl own_to_sl ?_
  refine r_ret (nilS, nilS) trivial rfl (rs1 (rv_cellA t72 rfl rfl rfl (g_all (k := 6) rfl))) rfl [20, 21] [] rfl rfl rfl
 ·exact absurd (by simpa using h1) hc
set_option maxHeartbeats 16000000 in
set_option maxRecDepth 100000 in
theorem run8_ok (vp vin : SV) (fs : List Tf) (ins : List Int) (fuel : Int) (hg : GP fs) (hi : ∀ x ∈ ins, oW x) (hil : ins.length ≤ 1000000) (hf : -1000000000000000000 ≤ fuel ∧ fuel ≤ 1000000000000) (hc : chk fs = 0) (f : Tf) (hm : Fine fs f) (g : Nat) (r : Re Int) (hr : evC g fs 0 f [] (ms0 ins fuel) = some r) :
  Spec Tryz.prog 30 [.agg #[sv vp], sv vin, .int .i64 fuel] [] [tfsA vp fs, sl 1 eU (sv vin) ins] (X := SV × SV) (fun _ => True) (fun x => .agg #[sv x.1, sv x.2, .int .i64 (ruOf r).err]) (fun x => [sl 1 eU (sv x.1) (ruOf r).out, sl 1 eU (sv x.2) (ruOf r).mem]) (fun _ => []) := by
 refine r_enter Tryz.func30 rfl Tryz.ntmps30 rfl fun w0 M H => ?_
 refine r_seq (r_region ?_)
 refine r_boxA rfl rfl fun b3 => ?_
 refine r_alloc t72 rfl rfl fun b6 => ?_
 refine r_nil (r_seq (r_region ?_))
 refine r_p (p_loadA t29 rfl rfl rfl (g_all (k := 3) rfl)) rfl ?_
 refine r_callN (xs := [.tmp 9]) (check8_spec vp fs hg) cb14 [] [(false, 0)] [] rfl rfl rfl rfl rfl rfl rfl rfl (fun _ _ => rfl) (fun _ _ _ => rfl) rfl (fun _ _ => ?_)
 refine r_p (p_assign rfl) rfl (r_nil (r_seq (r_seq (r_region (r_p (p_move rfl) rfl ?_)))))
 refine r_p (p_bin rfl rfl b_ne) rfl ?_
 refine r_nil ?_
 refine r_cond rfl (fun h1 => ?_) (fun h1 => ?_)
 ·exact absurd hc (by simpa using h1)
 ·(try simp only [decide_eq_true_eq, decide_eq_false_iff_not, Bool.and_eq_true, Bool.or_eq_true, Bool.and_eq_false_iff, Bool.or_eq_false_iff, Bool.not_eq_true, Bool.not_eq_false, Bool.not_eq_true', Bool.not_eq_false', Bool.not_not, bne_iff_ne, beq_iff_eq] at h1)
  refine r_skip (r_seq (r_region ?_))
  refine r_p (p_loadA t29 rfl rfl rfl (g_all (k := 3) rfl)) rfl ?_
  refine r_p (p_move rfl) rfl (r_p (p_move rfl) rfl ?_)
  refine r_p (p_build (cs := (xC vp vin nilS (fun _ => 0) fuel 0 0).toArray) (parts := [(0, .tmp 15), (1, .tmp 16), (4, .tmp 17)]) t117 pl117 rfl (by kernel_rfl)) rfl ?_
  refine r_boxA rfl rfl fun b19 => ?_
  refine r_p (p_assign rfl) rfl (r_nil (r_seq (r_region (r_p (p_move rfl) rfl ?_))))
  refine r_nilown 1 (α := Int) (S := 36) (s := 1) (enc := eU) ?_
  refine r_nilsl 3 (α := Int) (s := 1) (enc := eU) ?_
  refine r_conva (k := 19) (A' := row b19 117 (xRow (⟨⟨b19, 0, 0, 0, vin, ins, fs⟩, vp, fuel⟩ : Rn) (xS (⟨⟨b19, 0, 0, 0, vin, ins, fs⟩, vp, fuel⟩ : Rn) (ms0 ins fuel) nilS))) rfl (fun _ _ h => by rw [xRow_0]; exact h) ?_
  refine r_callN (xs := [.tmp 20, .const (.string (ByteArray.mk #[109, 97, 105, 110])), .const (.slice Option.none 0 0), .const (.int .i64 1)]) (hc8_all (e := (⟨⟨b19, 0, 0, 0, vin, ins, fs⟩, vp, fuel⟩ : Rn)) hm.vf hf.1 (by show fuel ≤ _; omega) (by have := hm.len; show fs.length ≤ _; omega) g nMain f 0 nilS [] (ms0 ins fuel) nilS r hm.main (by simp) (by simp) (by omega) ⟨ms0_ok hi hf.2, ⟨0, Nat.zero_le _, rfl⟩⟩ hr) cb48 [19, 1] [(false, 3), (false, 0), (false, 1)] [19, 1] rfl rfl rfl rfl rfl rfl rfl rfl (fun _ _ => rfl) (fun _ _ _ => rfl) rfl (fun y hy => ?_)
  obtain ⟨a, x⟩ := y
  dsimp only at hy ⊢
  refine r_nil (r_seq (r_seq (r_region (r_p (p_move rfl) rfl (r_p (p_nilCheck rfl) rfl ?_)))))
  refine r_p (p_field0 fo117_6 rfl) rfl ?_
  refine r_p (p_load1 t40 rfl rfl (g_row1 (k := 19) rfl xC_er)) rfl ?_
  refine r_p (p_bin rfl rfl b_ne) rfl ?_
  refine r_nil ?_
  refine r_cond rfl (fun h2 => ?_) (fun h2 => ?_)
  ·(try simp only [decide_eq_true_eq, decide_eq_false_iff_not, Bool.and_eq_true, Bool.or_eq_true, Bool.and_eq_false_iff, Bool.or_eq_false_iff, Bool.not_eq_true, Bool.not_eq_false, Bool.not_eq_true', Bool.not_eq_false', Bool.not_not, bne_iff_ne, beq_iff_eq] at h2)
   have hz : r = .err x.er := by
    rcases hy with ⟨s2, vo2, z1, z2⟩ | ⟨z1, z2⟩
    ·dsimp only at z2
     rw [z2] at h2
     exact absurd rfl h2
    ·exact z2
   subst hz
   refine r_seq (r_region (r_p (p_move rfl) rfl (r_p (p_nilCheck rfl) rfl ?_)))
   refine r_p (p_field0 fo117_6 rfl) rfl ?_
   refine r_p (p_load1 t40 rfl rfl (g_row1 (k := 19) rfl xC_er)) rfl ?_
   refine r_p (p_build (parts := [(2, .tmp 30)]) t72 pl72 rfl rfl) rfl ?_
   refine r_store_all (k := 6) t72 rfl rfl rfl rfl rfl rfl ?_
   refine r_nil (r_cret ?_)
   refine r_nilown 20 (α := Int) (S := 36) (s := 1) (enc := eU) ?_
   refine r_nilown 21 (α := Int) (S := 36) (s := 1) (enc := eU) ?_
   refine r_conva (k := 20) (A' := sl 1 eU (sv nilS) []) rfl own_to_sl ?_
   refine r_conva (k := 21) (A' := sl 1 eU (sv nilS) []) rfl own_to_sl ?_
   refine r_ret (nilS, nilS) trivial rfl (rs1 (rv_cellA t72 rfl rfl rfl (g_all (k := 6) rfl))) rfl [20, 21] [] rfl rfl rfl
  ·(try simp only [decide_eq_true_eq, decide_eq_false_iff_not, Bool.and_eq_true, Bool.or_eq_true, Bool.and_eq_false_iff, Bool.or_eq_false_iff, Bool.not_eq_true, Bool.not_eq_false, Bool.not_eq_true', Bool.not_eq_false', Bool.not_not, bne_iff_ne, beq_iff_eq] at h2)
   obtain ⟨s2, vo2, hz, hx1⟩ : ∃ s2 vo2, r = .ok a s2 ∧ x = xS (⟨⟨b19, 0, 0, 0, vin, ins, fs⟩, vp, fuel⟩ : Rn) s2 vo2 := by
    rcases hy with h | ⟨z1, z2⟩
    ·exact h
    ·exact absurd h2 z1
   subst hz hx1
   refine r_skip (r_seq ?_)
   refine r_draw [32, 33, 34, 35, 36, 37, 38, 39, 40] _ rfl (stg_mem0 (V := [(0, 32, _), (1, 33, _), (2, 34, _), (3, 35, _), (4, 36, _), (5, 37, _), (6, 38, _), (7, 39, _), (8, 40, _)]) [0, 1, 2, 3, 4, 5, 6, 7, 8] 9 [9, 8, 7, 6, 5, 4, 3, 2, 1, 0] [] (fun _ => []) rfl rfl (prs_cons (pri rfl (p_move rfl)) (prs_cons (pri rfl (p_nilCheck rfl)) (prs_cons (pri rfl (p_field0 fo117_2 rfl)) (prs_cons (pri rfl (p_load1 t23 rfl rfl (g_row1 (k := 19) rfl rfl))) (prs_cons (pri rfl (p_move rfl)) (prs_cons (pri rfl (p_nilCheck rfl)) (prs_cons (pri rfl (p_field0 fo117_3 rfl)) (prs_cons (pri rfl (p_slice_arr Tryz.underlying99 t36 rfl (by decide))) (prs_cons (pri rfl (p_build (parts := [(0, .tmp 35), (1, .tmp 39)]) t72 pl72 rfl rfl)) prs_nil))))))))) rfl rfl rfl rfl rfl rfl rfl rfl rfl (fun _ _ => rfl) rfl (ms_store_all (k := 6) t72 rfl rfl rfl rfl rfl rfl) (fun _ _ => stg_end [] rfl rfl prs_nil rfl rfl rfl ?_))
   refine r_cret ?_
   refine r_conva (k := 19) (A' := sl 1 eU (sv ⟨some ⟨b19, 3, none⟩, 256, 256⟩) ((List.range 256).map s2.mem)) rfl (row_sl2 (by simp) (by unfold maxLen; omega) xC_sl) ?_
   refine r_conva (k := 1) (A' := sl 1 eU (sv vo2) s2.out) rfl own_to_sl ?_
   refine r_ret (vo2, ⟨some ⟨b19, 3, none⟩, 256, 256⟩) trivial rfl (rs1 (rv_cellA t72 rfl rfl rfl (g_all (k := 6) rfl))) rfl [1, 19] [] rfl rfl rfl
theorem run8_spec (vp vin : SV) (fs : List Tf) (ins : List Int) (fuel : Int) (hg : GP fs) (hi : ∀ x ∈ ins, oW x) (hil : ins.length ≤ 1000000) (hf : -1000000000000000000 ≤ fuel ∧ fuel ≤ 1000000000000) (ru : Ru) (hru : RunIs fs ins fuel ru) :
  Spec Tryz.prog 30 [.agg #[sv vp], sv vin, .int .i64 fuel] [] [tfsA vp fs, sl 1 eU (sv vin) ins] (X := SV × SV) (fun _ => True) (fun x => .agg #[sv x.1, sv x.2, .int .i64 ru.err]) (fun x => [sl 1 eU (sv x.1) ru.out, sl 1 eU (sv x.2) ru.mem]) (fun _ => []) := by
 cases hru with
 | bad h => exact run8_bad vp vin fs ins fuel hg hi hil hf h
 | run f g r h hfm he =>
  obtain ⟨f2, hf2⟩ := chk_fine hg h
  have : f2 = f := by
   have := hf2.main
   rw [hfm] at this
   exact (Option.some.inj this).symm
  subst this
  exact run8_ok vp vin fs ins fuel hg hi hil hf h f2 hf2 g r he
theorem runIs_err {fs : List Tf} {ins : List Int} {fuel : Int} {r : Ru} (h : RunIs fs ins fuel r) : r.err ≠ 0 → r.out = [] ∧ r.mem = [] := by
 intro h0
 cases h with
 | bad h => exact ⟨rfl, rfl⟩
 | run f g r h hf he =>
  cases r with
  | ok a s => exact absurd rfl h0
  | err z => exact ⟨rfl, rfl⟩
set_option maxHeartbeats 4000000 in
set_option maxRecDepth 100000 in
theorem agrees_spec (vp vin : SV) (fs : List Tf) (ins : List Int) (fuel : Int) (hg : GP fs) (hi : ∀ x ∈ ins, oW x) (hil : ins.length ≤ 1000000) (hf : -1000000000000000000 ≤ fuel ∧ fuel ≤ 1000000000000) (e : Int) (o m : List Int) (hru : RunIs fs ins fuel ⟨e, o, m⟩) (hol : o.length ≤ 1000000 ∧ m.length ≤ 1000000) :
  Spec Tryz.prog 9 [.agg #[sv vp], sv vin, .int .i64 fuel] [] [tfsA vp fs, sl 1 eU (sv vin) ins] (X := Unit) (fun _ => True) (fun _ => .bool true) (fun _ => []) (fun _ => []) := by
 refine r_enter Tryz.func9 rfl Tryz.ntmps9 rfl fun w0 M H => ?_
 refine r_seq (r_region ?_)
 refine r_boxA rfl rfl fun b3 => ?_
 refine r_p (p_assign rfl) rfl (r_nil (r_seq (r_region ?_)))
 refine r_p (p_loadA t29 rfl rfl rfl (g_all (k := 3) rfl)) rfl ?_
 refine r_p (p_move rfl) rfl (r_p (p_move rfl) rfl ?_)
 refine r_callN (xs := [.tmp 12, .tmp 13, .tmp 14]) (run_spec vp vin fs ins fuel hg hi hil (by omega) _ hru) cb15 [] [(false, 0), (false, 1)] [40, 41] rfl rfl rfl rfl rfl rfl rfl rfl (fun _ _ => rfl) (fun _ _ _ => rfl) rfl (fun ⟨ra, rb⟩ _ => ?_)
 dsimp only
 refine r_p (p_move rfl) rfl ?_
 refine r_p (p_extract rfl rfl) rfl ?_
 refine r_p (p_extract rfl rfl) rfl ?_
 refine r_p (p_extract rfl rfl) rfl ?_
 refine r_p (p_assign rfl) rfl (r_p (p_assign rfl) rfl (r_p (p_assign rfl) rfl (r_nil (r_seq (r_region ?_)))))
 refine r_p (p_loadA t29 rfl rfl rfl (g_all (k := 3) rfl)) rfl ?_
 refine r_p (p_move rfl) rfl (r_p (p_move rfl) rfl ?_)
 refine r_callN (xs := [.tmp 19, .tmp 20, .tmp 21]) (run8_spec vp vin fs ins fuel hg hi hil hf _ hru) cb30 [] [(false, 0), (false, 1)] [42, 43] rfl rfl rfl rfl rfl rfl rfl rfl (fun _ _ => rfl) (fun _ _ _ => rfl) rfl (fun ⟨rc, rd⟩ _ => ?_)
 dsimp only
 refine r_alloc t72 rfl rfl fun b10 => ?_
 refine r_store_all (k := 10) t72 rfl rfl rfl rfl rfl rfl ?_
 refine r_nil (r_seq (r_seq (r_region ?_)))
 refine r_p (p_field0 fo72_2 rfl) rfl ?_
 refine r_p (p_load1 t40 rfl rfl (g_row1 (k := 10) rfl rfl)) rfl ?_
 refine r_p (p_bin rfl rfl b_ne) rfl ?_
 refine r_nil ?_
 refine r_cond rfl (fun h1 => ?_) (fun h1 => ?_)
 ·(try simp only [decide_eq_true_eq, decide_eq_false_iff_not, Bool.and_eq_true, Bool.or_eq_true, Bool.and_eq_false_iff, Bool.or_eq_false_iff, Bool.not_eq_true, Bool.not_eq_false, Bool.not_eq_true', Bool.not_eq_false', Bool.not_not, bne_iff_ne, beq_iff_eq] at h1)
  obtain ⟨ho, hm⟩ := runIs_err hru h1
  dsimp only at ho hm
  subst ho hm
  refine r_seq (r_region (r_p (p_move rfl) rfl ?_))
  refine r_p (p_field0 fo72_2 rfl) rfl ?_
  refine r_p (p_load1 t40 rfl rfl (g_row1 (k := 10) rfl rfl)) rfl ?_
  refine r_p (p_bin rfl rfl b_eq) rfl ?_
  with_reducible rw [decide_eq_true (rfl : e = e)]
  refine r_p (p_move rfl) rfl ?_
  refine r_gyes rfl rfl ?_
  refine r_p (p_move rfl) rfl ?_
  refine r_gyes rfl rfl ?_
  refine r_p (p_len_sl Tryz.underlying23 rfl (hs_own (k := 40) rfl)) rfl ?_
  refine r_gyes rfl rfl ?_
  refine r_p (p_bin rfl rfl b_eq) rfl ?_
  with_reducible rw [decide_eq_true (show ((([] : List Int).length : Nat) : Int) = 0 from rfl)]
  refine r_p (p_pick rfl rfl rfl (pick_t rfl)) rfl ?_
  refine r_p (p_move rfl) rfl ?_
  refine r_gyes rfl rfl ?_
  refine r_p (p_move rfl) rfl ?_
  refine r_gyes rfl rfl ?_
  refine r_p (p_len_sl Tryz.underlying23 rfl (hs_own (k := 41) rfl)) rfl ?_
  refine r_gyes rfl rfl ?_
  refine r_p (p_bin rfl rfl b_eq) rfl ?_
  with_reducible rw [decide_eq_true (show ((([] : List Int).length : Nat) : Int) = 0 from rfl)]
  refine r_p (p_pick rfl rfl rfl (pick_t rfl)) rfl ?_
  refine r_p (p_assign rfl) rfl (r_nil (r_cret ?_))
  refine r_ret () trivial rfl (rs1 (rv_tmp rfl)) rfl [] [] rfl rfl rfl
 ·(try simp only [decide_eq_true_eq, decide_eq_false_iff_not, Bool.and_eq_true, Bool.or_eq_true, Bool.and_eq_false_iff, Bool.or_eq_false_iff, Bool.not_eq_true, Bool.not_eq_false, Bool.not_eq_true', Bool.not_eq_false', Bool.not_not, bne_iff_ne, beq_iff_eq] at h1)
  have h0 : e = 0 := h1
  subst h0
  refine r_skip (r_seq (r_region (r_p (p_move rfl) rfl ?_)))
  refine r_p (p_bin rfl rfl b_eq) rfl ?_
  with_reducible rw [decide_eq_true (rfl : (0 : Int) = (0 : Int))]
  refine r_p (p_move rfl) rfl ?_
  refine r_gyes rfl rfl ?_
  refine r_p (p_move rfl) rfl ?_
  refine r_gyes rfl rfl ?_
  refine r_p (p_field0 fo72_0 rfl) rfl ?_
  refine r_gyes rfl rfl ?_
  refine r_p (p_load1 t23 rfl rfl (g_row1 (k := 10) rfl rfl)) rfl ?_
  refine r_gyes rfl rfl ?_
  refine r_freeze 40 44 rfl own_to_sl ?_
  refine r_callN (xs := [.tmp 43, .tmp 45]) (rwords_spec ra rc o o hol.1) cb16 [] [(false, 44), (true, 42)] [] rfl rfl rfl rfl rfl rfl rfl rfl (fun _ _ => rfl) (fun _ _ _ => rfl) rfl (fun _ _ => ?_)
  with_reducible rw [decide_eq_true (rfl : o = o)]
  refine r_p (p_pick rfl rfl rfl (pick_t rfl)) rfl ?_
  refine r_p (p_move rfl) rfl ?_
  refine r_gyes rfl rfl ?_
  refine r_p (p_move rfl) rfl ?_
  refine r_gyes rfl rfl ?_
  refine r_p (p_field0 fo72_1 rfl) rfl ?_
  refine r_gyes rfl rfl ?_
  refine r_p (p_load1 t23 rfl rfl (g_row1 (k := 10) rfl rfl)) rfl ?_
  refine r_gyes rfl rfl ?_
  refine r_freeze 41 45 rfl own_to_sl ?_
  refine r_callN (xs := [.tmp 49, .tmp 51]) (rwords_spec rb rd m m hol.2) cb16 [] [(false, 45), (true, 43)] [] rfl rfl rfl rfl rfl rfl rfl rfl (fun _ _ => rfl) (fun _ _ _ => rfl) rfl (fun _ _ => ?_)
  with_reducible rw [decide_eq_true (rfl : m = m)]
  refine r_p (p_pick rfl rfl rfl (pick_t rfl)) rfl ?_
  refine r_p (p_assign rfl) rfl (r_nil (r_cret ?_))
  refine r_ret () trivial rfl (rs1 (rv_tmp rfl)) rfl [] [] rfl rfl rfl
mutual
/-- All calls are of functions whose names satisfy A. -/
def aX (A : ByteArray → Prop) : Tx → Prop
 | .mk k _ nm _ kids => (k ≠ 1 → k ≠ 2 → k ≠ 4 → k ≠ 5 → k ≠ 6 → k ≠ 7 → A nm) ∧ aXs A kids
def aXs (A : ByteArray → Prop) : List Tx → Prop
 | [] => True
 | t :: r => aX A t ∧ aXs A r
end
mutual
def aY (A : ByteArray → Prop) : Ty → Prop
 | .mk _ _ _ es _ b _ l => aXs A es ∧ aYs A b ∧ aYs A l
def aYs (A : ByteArray → Prop) : List Ty → Prop
 | [] => True
 | t :: r => aY A t ∧ aYs A r
end
mutual
theorem aX_all {A : ByteArray → Prop} (h : ∀ x, A x) : ∀ t, aX A t
 | .mk k n nm v kids => ⟨fun _ _ _ _ _ _ => h nm, aXs_all h kids⟩
theorem aXs_all {A : ByteArray → Prop} (h : ∀ x, A x) : ∀ l, aXs A l
 | [] => trivial
 | t :: r => ⟨aX_all h t, aXs_all h r⟩
end
mutual
theorem aY_all {A : ByteArray → Prop} (h : ∀ x, A x) : ∀ t, aY A t
 | .mk _ _ _ es _ b _ l => ⟨aXs_all h es, aYs_all h b, aYs_all h l⟩
theorem aYs_all {A : ByteArray → Prop} (h : ∀ x, A x) : ∀ l, aYs A l
 | [] => trivial
 | t :: r => ⟨aY_all h t, aYs_all h r⟩
end
/-- What is read from the inputs. -/
def rdI (s : Ms) : Int × Ms := match s.inp with
 | [] => (0, s)
 | a :: r => (a, { s with inp := r })
/-- States that agree, with functions that agree. -/
structure Smr (A : ByteArray → Prop) (Rl : Ms → Ms → Prop) (fs fs' : List Tf) : Prop where
 mem : ∀ s s', Rl s s' → s'.mem = s.mem
 pay : ∀ s s', Rl s s' → 0 < s.fuel → 0 < s'.fuel ∧ Rl { s with fuel := s.fuel - 1 } { s' with fuel := s'.fuel - 1 }
 inp : ∀ s s', Rl s s' → (rdI s).1 = (rdI s').1 ∧ Rl (rdI s).2 (rdI s').2
 put : ∀ s s' i v, Rl s s' → Rl { s with mem := mput s.mem i v } { s' with mem := mput s'.mem i v }
 out : ∀ s s' v, Rl s s' → Rl { s with out := s.out ++ [v] } { s' with out := s'.out ++ [v] }
 fn : ∀ nm f, A nm → ffind fs nm = some f → ∃ f', ffind fs' nm = some f' ∧ f'.ps = f.ps ∧ f'.body = f.body ∧ aYs A f.body
/-- Results that agree. -/
inductive RR (Rl : Ms → Ms → Prop) {α : Type} : Re α → Re α → Prop
 | ok (a : α) (s s' : Ms) (h : Rl s s') : RR Rl (.ok a s) (.ok a s')
 | err (z : Int) : RR Rl (.err z) (.err z)
structure Sm (A : ByteArray → Prop) (Rl : Ms → Ms → Prop) (fs fs' : List Tf) (g : Nat) : Prop where
 x : ∀ d vs t s s' r, aX A t → Rl s s' → evX g fs d vs t s = some r → r ≠ .err 25 → ∃ r', evX g fs' d vs t s' = some r' ∧ RR Rl r r'
 k : ∀ d vs acc l s s' r, aXs A l → Rl s s' → evK g fs d vs acc l s = some r → r ≠ .err 25 → ∃ r', evK g fs' d vs acc l s' = some r' ∧ RR Rl r r'
 c : ∀ d f f' al s s' r, f'.ps = f.ps → f'.body = f.body → aYs A f.body → Rl s s' → evC g fs d f al s = some r → r ≠ .err 25 → ∃ r', evC g fs' d f' al s' = some r' ∧ RR Rl r r'
 b : ∀ d vs l s s' r, aYs A l → Rl s s' → evB g fs d vs l s = some r → r ≠ .err 25 → ∃ r', evB g fs' d vs l s' = some r' ∧ RR Rl r r'
 s : ∀ d vs t s s' r, aY A t → Rl s s' → evS g fs d vs t s = some r → r ≠ .err 25 → ∃ r', evS g fs' d vs t s' = some r' ∧ RR Rl r r'
 w : ∀ d vs e l v s s' r, aX A e → aYs A l → Rl s s' → evW g fs d vs e l v s = some r → r ≠ .err 25 → ∃ r', evW g fs' d vs e l v s' = some r' ∧ RR Rl r r'
theorem runIs_len {fs : List Tf} {ins : List Int} {fuel : Int} {r : Ru} (hg : GP fs) (hi : ∀ x ∈ ins, oW x) (hf : fuel ≤ 1000000) (h : RunIs fs ins fuel r) : r.out.length ≤ 1000000 ∧ r.mem.length ≤ 1000000 := by
 cases h with
 | bad h => exact ⟨Nat.zero_le _, Nat.zero_le _⟩
 | run f g q h hfm he =>
  cases q with
  | err z => exact ⟨Nat.zero_le _, Nat.zero_le _⟩
  | ok v s =>
   obtain ⟨f2, hf2⟩ := chk_fine hg h
   have hk := ((ev_ok hf2.vf g).c 0 f [] (ms0 ins fuel) v s (ffind_mem hfm) (by simp) (ms0_ok hi (by omega)) he).2
   have h1 := hk.sum
   have h2 : ((ms0 ins fuel).out.length : Int) = 0 := rfl
   have h3 : (ms0 ins fuel).fuel = fuel := rfl
   refine ⟨?_, by show ((List.range 256).map s.mem).length ≤ _; simp⟩
   show s.out.length ≤ 1000000
   omega
theorem agrees_all (vp vin : SV) (fs : List Tf) (ins : List Int) (fuel : Int) (hg : GP fs) (hi : ∀ x ∈ ins, oW x) (hil : ins.length ≤ 1000000) (hf : -1000000000000000000 ≤ fuel ∧ fuel ≤ 1000000) :
  Spec Tryz.prog 9 [.agg #[sv vp], sv vin, .int .i64 fuel] [] [tfsA vp fs, sl 1 eU (sv vin) ins] (X := Unit) (fun _ => True) (fun _ => .bool true) (fun _ => []) (fun _ => []) := by
 obtain ⟨⟨e, o, m⟩, hr⟩ := runIs_ex (fuel := fuel) hg hi (by omega)
 exact agrees_spec vp vin fs ins fuel hg hi hil (by omega) e o m hr (runIs_len hg hi hf.2 hr)
set_option maxRecDepth 100000 in
theorem units_spec (n : Int) (hn : 0 ≤ n ∧ n < 65536) :
  Spec Tryz.prog 11 [.int .u16 n] [] [] (X := Unit) (fun _ => True) (fun _ => .int .i64 (n % 4004 - 3)) (fun _ => []) (fun _ => []) := by
 refine r_enter Tryz.func11 rfl Tryz.ntmps11 rfl fun w0 M H => ?_
 refine r_seq (r_region (r_p (p_assign rfl) rfl (r_nil (r_seq (r_region (r_p (p_move rfl) rfl ?_))))))
 refine r_p (p_bin rfl rfl (b_rem (c := n % 4004) (by decide) (Int.tmod_eq_emod_of_nonneg hn.1))) rfl ?_
 refine r_p (p_conv Tryz.underlying24 Tryz.underlying3 rfl (by first | exact w_i64 (by omega) (by omega) | rfl)) rfl ?_
 refine r_p (p_bin rfl rfl (b_sub (by first | exact w_i64 (by omega) (by omega) | rfl))) rfl ?_
 refine r_p (p_assign rfl) rfl (r_nil (r_cret ?_))
 refine r_ret () trivial rfl (rs1 (rv_tmp rfl)) rfl [] [] rfl rfl rfl
end Go.Proofs.YtdcbbkpdlcojfaaGreat
