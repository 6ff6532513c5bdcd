/-
  CacheSums walks. No condition.
-/
import Derived.Test.YtbkonlkffajhkaaI5
namespace Go.Proofs.Ytbkonlkffajhkaa
set_option linter.unusedSimpArgs false
set_option linter.unusedVariables false
open Go.RowKit

theorem addF_fit {base size cur : Int} {L : List En} {K : List Lk} {e : En} (h0 : 0 < e.bytes.size) (h1 : (e.bytes.size : Int) ≤ size) : (addF base size cur L K e).err = 0 ∧ (addF base size cur L K e).b = base + curN size cur e.bytes.size ∧ putE base (curN size cur e.bytes.size) e ∈ (addF base size cur L K e).L := by
  unfold addF
  rw [if_neg (by omega), if_neg (by omega)]
  exact ⟨rfl, rfl, (insD_perm _ _ _).mem_iff.2 (List.mem_cons_self ..)⟩
theorem addF_empty {base size cur : Int} {L : List En} {K : List Lk} {e : En} (h0 : e.bytes.size = 0) : addF base size cur L K e = ⟨cur, L, K, 0, [], [], 1⟩ := by
  unfold addF; rw [if_pos h0]
theorem addF_full {base size cur : Int} {L : List En} {K : List Lk} {e : En} (h0 : 0 < e.bytes.size) (h1 : size < (e.bytes.size : Int)) : addF base size cur L K e = ⟨cur, L, K, 0, [], [], 30⟩ := by
  unfold addF; rw [if_neg (by omega), if_pos h1]
theorem b_empty (s : ByteArray) : (s == ByteArray.mk #[]) = decide (s.size = 0) := by
  obtain ⟨⟨x⟩⟩ := s
  show ((⟨x⟩ : Array UInt8) == ⟨[]⟩) = decide (x.length = 0)
  cases x with
  | nil => rfl
  | cons a r => simp

section
variable {P : Program} {N : Nat} {w0 : World} {M H : Nat → Prop} {E : Env} {Γ R : Ctx}
theorem p_slice_strhi {S : TypeId} {x y : Operand} {k : IntKind} {s : ByteArray} {i : Int} (hS : P.underlying S = some .string) (hx : ev E x = some (.string s)) (hy : ev E y = some (.int k i)) (h0 : 0 ≤ i) (h1 : i ≤ s.size) : PR P N w0 M H E Γ R (.slice S x none (some y) none) (.string (s.extract 0 i.toNat)) :=
  fun _ _ _ a w hE _ _ _ => by
    have h2 := run_sliceAt_string (P := P) w S (.string s) none (some (.int k i)) none hS
    have h3 := run_slice_string_h (P := P) w S s hS k i h0 h1
    simp [execOp, hE.ev hx, hE.ev hy, h2, h3]
end
def eS0 (s : ByteArray) (pc : Int) (v : SV) : En := ⟨pc, 0, s.extract 0 (min (s.size : Int) 50).toNat, 2, 0, v, nilS, nilS, 0, [1, 3]⟩
def eS1 (s : ByteArray) (pc bb : Int) (v ea es : SV) : En := { entE (eS0 s pc v) ea es with base := bb, sum := bb }
theorem eS0_sz (s : ByteArray) (pc : Int) (v : SV) : (eS0 s pc v).bytes.size ≤ 50 := by
  unfold eS0
  simp only [ByteArray.size_extract]
  omega

set_option maxHeartbeats 1000000 in
set_option maxRecDepth 100000 in
theorem sums_law (s : ByteArray) (pc : Int) (hpc : 0 ≤ pc ∧ pc < 4294967296) (bb : Int) (hbb : 0 ≤ bb ∧ bb < 4294967296) :
    Spec Try.prog 4 [.string s, .int .u32 pc, .int .u32 bb] [] [] (X := Unit) (fun _ => True) (fun _ => .bool true) (fun _ => []) (fun _ => []) := by
  refine r_enter Try.func4 rfl Try.ntmps4 rfl fun w0 M H => ?_
  have hse : sizeN 4096 60 = 60 := by unfold sizeN; omega
  refine r_seq ?_
  refine r_region ?_
  refine r_p (p_assign rfl) rfl ?_
  refine r_nil ?_
  refine r_seq ?_
  refine r_region ?_
  refine r_call (xs := []) sanity_spec cb15 [] [] [] [] rfl rfl rfl rfl rfl rfl rfl rfl (fun _ _ => rfl) (fun _ _ _ => rfl) rfl (fun _ _ => ?_)
  refine r_p (p_assign rfl) rfl ?_
  refine r_nil ?_
  refine r_seq ?_
  refine r_region ?_
  refine r_call (xs := [.const (.int .u32 4096), .const (.int .i64 60)]) (new_spec 4096 60 (by omega)) cb22 [] [] [500, 501, 502] [] rfl rfl rfl rfl rfl rfl rfl rfl (fun _ _ => rfl) (fun _ _ _ => rfl) rfl (fun C _ => ?_)
  refine r_p (p_assign rfl) rfl ?_
  refine r_nil ?_
  refine r_seq ?_
  refine r_seq ?_
  refine r_region ?_
  refine r_p (p_move rfl) rfl ?_
  refine r_p (p_bin rfl rfl (b_eqPn Try.underlying25)) rfl ?_
  refine r_nil ?_
  refine r_cond rfl (fun h1 => ?_) (fun h1 => ?_)
  · exact absurd h1 (by simp)
  · (try simp only [decide_eq_true_eq, decide_eq_false_iff_not, Bool.and_eq_true, Bool.or_eq_true, Bool.and_eq_false_iff, Bool.or_eq_false_iff, Bool.not_eq_true, Bool.not_eq_false, Bool.not_eq_true', Bool.not_eq_false', Bool.not_not, bne_iff_ne, beq_iff_eq] at h1)
    refine r_skip ?_
    refine r_seq ?_
    refine r_region ?_
    refine r_p (p_move rfl) rfl ?_
    refine r_p (p_move rfl) rfl ?_
    refine r_p (p_move rfl) rfl ?_
    refine r_p (p_len_str Try.underlying9 rfl) rfl ?_
    refine r_p (p_min rfl rfl rfl) rfl ?_
    refine r_p (p_slice_strhi Try.underlying9 rfl rfl (by omega) (by omega)) rfl ?_
    refine r_bslice eI [1, 3] (parts := [(0, .const (.int .i64 1)), (1, .const (.int .i64 3))]) Try.underlying23 t3 rfl (by decide) (by intro _; rfl) rfl (by decide) (by decide) rfl rfl rfl rfl fun v28 => ?_
    refine r_p (p_build (parts := [(0, .tmp 22), (2, .tmp 27), (3, .const (.int .i64 2)), (4, .tmp 28)]) t36 pl36 rfl rfl) rfl ?_
    refine r_alloc t36 rfl rfl fun b9 => ?_
    refine r_store_all (k := 9) t36 rfl rfl rfl rfl rfl rfl ?_
    refine r_nil ?_
    refine r_seq ?_
    refine r_region ?_
    refine r_p (p_loadA t36 rfl rfl rfl (g_all (k := 9) rfl)) rfl ?_
    refine r_call (xs := [.tmp 30]) (entry_spec (eS0 s pc v28) (show (0 : Int) ≤ 2 ∧ (2 : Int) ≤ 100 by omega)) cb20 [] [] [] [] rfl rfl rfl rfl rfl rfl rfl rfl (fun _ _ => rfl) (fun _ _ _ => rfl) rfl (fun ⟨ea, es⟩ hes => ?_)
    dsimp only at hes ⊢
    refine r_freeze 28 28 rfl own_to_sl ?_
    have hsz0 := eS0_sz s pc v28
    have hsz1 : (eS1 s pc bb v28 ea es).bytes.size ≤ 50 := hsz0
    refine r_alloc t54 rfl rfl fun b10 => ?_
    refine r_store_all (k := 10) t54 rfl rfl rfl rfl rfl rfl ?_
    refine r_nil ?_
    refine r_seq ?_
    refine r_region ?_
    refine r_p (p_move rfl) rfl ?_
    refine r_p (p_field0 fo54_5 rfl) rfl ?_
    refine r_store_row (k := 10) t30 rfl rfl rfl rfl rfl rfl rfl rfl ?_
    refine r_nil ?_
    refine r_seq ?_
    refine r_region ?_
    refine r_p (p_move rfl) rfl ?_
    refine r_p (p_field0 fo54_1 rfl) rfl ?_
    refine r_store_row (k := 10) t30 rfl rfl rfl rfl rfl rfl rfl rfl ?_
    refine r_nil ?_
    refine r_seq ?_
    refine r_region ?_
    refine r_p (p_move rfl) rfl ?_
    refine r_p (p_loadA t54 rfl rfl rfl (g_all (k := 10) rfl)) rfl ?_
    refine r_call (xs := [.tmp 37, .tmp 38]) (add_spec C 4096 (sizeN 4096 60) 0 none none (CInv.new (PS := [pc]) (base := 4096) (size := 60) (by omega)) (by simp) (eS1 s pc bb v28 ea es) (by omega)) cb19 [500, 501, 502] [] [500, 501, 502, 400, 401] [] rfl rfl rfl rfl rfl rfl rfl rfl (fun _ _ => rfl) (fun _ _ _ => rfl) rfl (fun ⟨va, vb, o⟩ _ => ?_)
    dsimp only
    have hnew := (CInv.new (PS := [pc]) (base := 4096) (size := 60) (by omega)).add (e := (eS1 s pc bb v28 ea es)) (List.mem_singleton.2 rfl) (show (0 : Int) ≤ 2 ∧ (2 : Int) < 4 by omega) hes rfl (show 2 ≤ 4 by omega) (by omega)
    refine r_p (p_move rfl) rfl ?_
    refine r_p (p_extract rfl rfl) rfl ?_
    refine r_p (p_extract rfl rfl) rfl ?_
    refine r_p (p_extract rfl rfl) rfl ?_
    refine r_p (p_extract rfl rfl) rfl ?_
    refine r_p (p_assign rfl) rfl ?_
    refine r_p (p_assign rfl) rfl ?_
    refine r_p (p_assign rfl) rfl ?_
    refine r_p (p_assign rfl) rfl ?_
    refine r_nil ?_
    refine r_seq ?_
    refine r_seq ?_
    refine r_region ?_
    refine r_p (p_field0 fo36_2 rfl) rfl ?_
    refine r_p (p_load1 t9 rfl rfl (g_row1 (k := 9) rfl rfl)) rfl ?_
    refine r_p (p_bin rfl rfl b_seq) rfl ?_
    refine r_nil ?_
    refine r_cond rfl (fun h2 => ?_) (fun h2 => ?_)
    · rw [b_empty] at h2
      have h0 : (eS1 s pc bb v28 ea es).bytes.size = 0 := of_decide_eq_true h2
      have hE : (addF 4096 (sizeN 4096 60) 0 [] [] (eS1 s pc bb v28 ea es)) = ⟨0, [], [], 0, [], [], 1⟩ := addF_empty h0
      rw [hE]
      dsimp only
      refine r_seq ?_
      refine r_region ?_
      refine r_p (p_move rfl) rfl ?_
      refine r_p (p_move rfl) rfl ?_
      refine r_split (t := 48) rfl (fun h3 => ?_) (fun h3 => False.elim (by simp at h3))
      refine r_gyes rfl rfl ?_
      refine r_p (p_move rfl) rfl ?_
      refine r_gyes rfl rfl ?_
      refine r_p (p_bin rfl rfl b_eq) rfl ?_
      refine r_p (p_pick rfl rfl rfl (by first | exact pick_and | exact pick_or |  rfl)) rfl ?_
      refine r_p (p_assign rfl) rfl ?_
      refine r_nil ?_
      refine r_cret ?_
      refine r_ret () trivial rfl (rs1 (rv_tmp rfl)) (congrArg Value.bool (by simp)) [] [] rfl rfl rfl
    · rw [b_empty] at h2
      have h0 : ¬ (eS1 s pc bb v28 ea es).bytes.size = 0 := of_decide_eq_false h2
      obtain ⟨he1, he2, he3⟩ := addF_fit (base := 4096) (size := (sizeN 4096 60)) (cur := 0) (L := []) (K := []) (e := (eS1 s pc bb v28 ea es)) (by omega) (by omega)
      have hc : curN (sizeN 4096 60) 0 (eS1 s pc bb v28 ea es).bytes.size = 0 := by unfold curN; rw [if_neg (by omega)]
      rw [hc] at he2 he3
      rw [he1, he2]
      have hfx : (addF 4096 (sizeN 4096 60) 0 [] [] (eS1 s pc bb v28 ea es)).L.find? (fun a => decide (a.pc = pc)) = some (putE 4096 0 (eS1 s pc bb v28 ea es)) := hnew.findpc he3
      have hsame := (hnew.ent _ he3).2.2.2.1
      refine r_skip ?_
      refine r_seq ?_
      refine r_region ?_
      refine r_p (p_move rfl) rfl ?_
      refine r_p (p_field0 fo36_1 rfl) rfl ?_
      refine r_store_row (k := 9) t30 rfl rfl rfl rfl rfl rfl rfl rfl ?_
      refine r_nil ?_
      refine r_seq ?_
      refine r_region ?_
      refine r_p (p_move rfl) rfl ?_
      refine r_p (p_move rfl) rfl ?_
      refine r_call (xs := [.tmp 55, .tmp 56]) (find_spec C 4096 (sizeN 4096 60) (addF 4096 (sizeN 4096 60) 0 [] [] (eS1 s pc bb v28 ea es)).cur o none (addF 4096 (sizeN 4096 60) 0 [] [] (eS1 s pc bb v28 ea es)).L _ _ hfx) cb21 [] [(true, 500), (true, 501)] [] [] rfl rfl rfl rfl rfl rfl rfl rfl (fun _ _ => rfl) (fun _ _ _ => rfl) rfl (fun _ _ => ?_)
      refine r_p (p_move rfl) rfl ?_
      refine r_p (p_extract rfl rfl) rfl ?_
      refine r_p (p_extract rfl rfl) rfl ?_
      refine r_alloc t54 rfl rfl fun b15 => ?_
      refine r_store_all (k := 15) t54 rfl rfl rfl rfl rfl rfl ?_
      refine r_p (p_assign rfl) rfl ?_
      refine r_nil ?_
      refine r_seq ?_
      refine r_region ?_
      refine r_p (p_loadA t54 rfl rfl rfl (g_all (k := 15) rfl)) rfl ?_
      refine r_p (p_loadA t36 rfl rfl rfl (g_all (k := 9) rfl)) rfl ?_
      refine r_call (xs := [.tmp 60, .tmp 61]) (same_spec (putE 4096 0 (eS1 s pc bb v28 ea es)) hsame) cb23 [] [(false, 28)] [] [] rfl rfl rfl rfl rfl rfl rfl rfl (fun _ _ => rfl) (fun _ _ _ => rfl) rfl (fun _ _ => ?_)
      refine r_p (p_assign rfl) rfl ?_
      refine r_nil ?_
      refine r_seq ?_
      refine r_region ?_
      refine r_p (p_move rfl) rfl ?_
      refine r_p (p_move rfl) rfl ?_
      refine r_split (t := 64) rfl (fun h4 => ?_) (fun h4 => False.elim (by simp at h4))
      refine r_gyes rfl rfl ?_
      refine r_p (p_move rfl) rfl ?_
      refine r_gyes rfl rfl ?_
      refine r_p (p_bin rfl rfl b_eq) rfl ?_
      refine r_p (p_pick rfl rfl rfl (by first | exact pick_and | exact pick_or |  rfl)) rfl ?_
      refine r_p (p_move rfl) rfl ?_
      refine r_split (t := 68) rfl (fun h5 => ?_) (fun h5 => False.elim (by simp at h5))
      refine r_gyes rfl rfl ?_
      refine r_p (p_move rfl) rfl ?_
      refine r_gyes rfl rfl ?_
      refine r_p (p_bin rfl rfl b_eq) rfl ?_
      refine r_p (p_pick rfl rfl rfl (by first | exact pick_and | exact pick_or |  rfl)) rfl ?_
      refine r_p (p_move rfl) rfl ?_
      refine r_split (t := 72) rfl (fun h6 => ?_) (fun h6 => False.elim (by simp at h6))
      refine r_gyes rfl rfl ?_
      refine r_p (p_move rfl) rfl ?_
      refine r_p (p_pick rfl rfl rfl (by first | exact pick_and | exact pick_or |  rfl)) rfl ?_
      refine r_p (p_move rfl) rfl ?_
      refine r_split (t := 75) rfl (fun h7 => ?_) (fun h7 => False.elim (by simp at h7))
      refine r_gyes rfl rfl ?_
      refine r_p (p_move rfl) rfl ?_
      refine r_p (p_pick rfl rfl rfl (by first | exact pick_and | exact pick_or |  rfl)) rfl ?_
      refine r_p (p_assign rfl) rfl ?_
      refine r_nil ?_
      refine r_cret ?_
      refine r_ret () trivial rfl (rs1 (rv_tmp rfl)) (congrArg Value.bool (by simp)) [] [] rfl rfl rfl

end Go.Proofs.Ytbkonlkffajhkaa
