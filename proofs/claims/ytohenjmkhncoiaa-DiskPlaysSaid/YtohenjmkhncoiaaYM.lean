/-
  Reading lists. Condition: at most a million bytes.
-/
import Derived.Test.YtohenjmkhncoiaaYL
namespace Go.Proofs.Ytohenjmkhncoiaa
set_option linter.unusedSimpArgs false
set_option linter.unusedVariables false
open Go.RowKit

theorem range_snoc (k : Nat) (R : Nat → Int) (u : Int) : (List.range (k + 1)).map (fun i => if i = k then u else R i) = (List.range k).map R ++ [u] := by
  rw [List.range_succ, List.map_append]
  congr 1
  · apply List.map_congr_left
    intro i hi
    have := List.mem_range.1 hi
    rw [if_neg (by omega)]
  · simp

set_option maxRecDepth 100000 in
theorem list_int_spec (W : Nat) (s : ByteArray) (bad : Bool) (hs : s.size ≤ 1000000) :
    Spec Try.prog 56 [.pointer (some ⟨W, 0, none⟩), .int .i64 8, .func (.func 52) #[.pointer (some ⟨W, 0, none⟩)] #[]] [row W 113 (rdC s bad)] [] (X := Rd (List Int) × SV) (fun x => RdOk (pLst 8 pInt) s bad ⟨x.1.a, x.1.s, x.1.bad⟩) (fun x => sv x.2) (fun x => [row W 113 (rdC x.1.s x.1.bad), own 3 1 eI (sv x.2) x.1.a]) (fun _ => []) := by
  refine r_enter Try.func56 rfl Try.ntmps56 rfl fun w0 M H => ?_
  refine r_nilown 60 (α := Int) (S := 3) (s := 1) (enc := eI) ?_
  refine r_seq ?_
  refine r_region ?_
  refine r_p (p_assign rfl) rfl ?_
  refine r_nil ?_
  refine r_seq ?_
  refine r_region ?_
  refine r_p (p_assign rfl) rfl ?_
  refine r_nil ?_
  refine r_seq ?_
  refine r_seq ?_
  refine r_region ?_
  refine r_p (p_move rfl) rfl ?_
  refine r_p (p_move rfl) rfl ?_
  refine r_call (xs := [.tmp 8, .tmp 9]) (count_spec W s bad 8 (by decide) (by decide) hs) cb68 [0] [] [0] [] rfl rfl rfl rfl rfl rfl rfl rfl (fun _ _ => rfl) (fun _ _ _ => rfl) rfl (fun c hc => ?_)
  refine r_p (p_move rfl) rfl ?_
  refine r_nil ?_
  refine r_block ?_
  refine r_loop (X := Nat × Rd (List Int) × SV) (fun x => x.1 ≤ c.a.toNat ∧ RdOk (pInt.times x.1) c.s c.bad ⟨x.2.1.a, x.2.1.s, x.2.1.bad⟩ ∧ x.2.1.a.length = x.1) (fun x => [(0, .pointer (some ⟨W, 0, none⟩)), (2, .func (.func 52) #[.pointer (some ⟨W, 0, none⟩)] #[]), (7, sv x.2.2), (10, .int .i64 c.a), (11, .int .i64 (x.1 : Int))]) (fun x => [(0, row W 113 (rdC x.2.1.s x.2.1.bad)), (60, own 3 1 eI (sv x.2.2) x.2.1.a)]) (fun x => []) (fun x => c.a.toNat - x.1) (0, ⟨[], c.s, c.bad⟩, nilS) ⟨Nat.zero_le _, RdOk.nil, rfl⟩ rfl rfl rfl (fun x hx0 => ?_)
  obtain ⟨k, x, vk⟩ := x
  obtain ⟨hk0, hrk, hlk⟩ := hx0
  dsimp only at hk0 hrk hlk ⊢
  have hca := hc.2
  refine r_seq ?_
  refine r_region ?_
  refine r_p (p_bin rfl rfl b_lt) rfl ?_
  refine r_nil ?_
  refine r_seq ?_
  refine r_cond rfl (fun h1 => ?_) (fun h1 => ?_)
  · (try simp only [decide_eq_true_eq, decide_eq_false_iff_not, Bool.and_eq_true, Bool.or_eq_true, Bool.and_eq_false_iff, Bool.or_eq_false_iff, Bool.not_eq_true, Bool.not_eq_false, Bool.not_eq_true', Bool.not_eq_false', Bool.not_not, bne_iff_ne, beq_iff_eq] at h1)
    have hk : k < c.a.toNat := by omega
    refine r_skip ?_
    refine r_seq ?_
    refine r_block ?_
    refine r_region ?_
    refine r_p (p_move rfl) rfl ?_
    refine r_p (p_move rfl) rfl ?_
    refine r_callF (xs := []) (int_spec W x.s x.bad) cb52 [0] [] [0] [] rfl rfl rfl rfl rfl rfl rfl rfl (fun _ _ => rfl) (fun _ _ _ => rfl) rfl (fun y hy => ?_)
    refine r_bslice1 eI _ Try.underlying28 t3 rfl (by decide) (by decide) rfl rfl rfl rfl fun v16 => ?_
    refine r_append 60 Try.underlying28 t3 rfl (by decide) (fun _ => rfl) (fun _ => rfl) rfl rfl rfl (hs_own (k := 16) rfl) (by simp only [List.length_cons, List.length_nil]; omega) (by unfold maxLen; simp only [List.length_cons, List.length_nil]; omega) rfl fun v17 => ?_
    refine r_p (p_assign rfl) rfl ?_
    refine r_nil ?_
    refine r_region ?_
    refine r_p (p_bin rfl rfl (b_add (by first | exact w_i64 (by omega) (by omega) | rfl))) rfl ?_
    refine r_p (p_move rfl) rfl ?_
    refine r_nil ?_
    have hnx := hrk.snoc hy.1
    refine r_here (k + 1, ⟨x.a ++ [y.a], y.s, y.bad⟩, v17) ⟨⟨by dsimp only; omega, hnx, by dsimp only; rw [List.length_append, hlk]; rfl⟩, by dsimp only; omega⟩ rfl rfl rfl
  · (try simp only [decide_eq_true_eq, decide_eq_false_iff_not, Bool.and_eq_true, Bool.or_eq_true, Bool.and_eq_false_iff, Bool.or_eq_false_iff, Bool.not_eq_true, Bool.not_eq_false, Bool.not_eq_true', Bool.not_eq_false', Bool.not_not, bne_iff_ne, beq_iff_eq] at h1)
    have hk : k = c.a.toNat := by omega
    subst hk
    refine r_exit ?_
    refine r_seq ?_
    refine r_region ?_
    refine r_p (p_move rfl) rfl ?_
    refine r_p (p_assign rfl) rfl ?_
    refine r_nil ?_
    refine r_cret ?_
    refine r_ret (x, vk) (hc.1.lst hrk) rfl (rs1 (rv_tmp rfl)) rfl [0, 60] [] rfl rfl rfl
set_option maxRecDepth 100000 in
theorem list_word_spec (W : Nat) (s : ByteArray) (bad : Bool) (hs : s.size ≤ 1000000) :
    Spec Try.prog 58 [.pointer (some ⟨W, 0, none⟩), .int .i64 4, .func (.func 53) #[.pointer (some ⟨W, 0, none⟩)] #[]] [row W 113 (rdC s bad)] [] (X := Rd (List Int) × SV) (fun x => RdOk (pLst 4 pWord) s bad ⟨x.1.a, x.1.s, x.1.bad⟩) (fun x => sv x.2) (fun x => [row W 113 (rdC x.1.s x.1.bad), own 32 1 eU (sv x.2) x.1.a]) (fun _ => []) := by
  refine r_enter Try.func58 rfl Try.ntmps58 rfl fun w0 M H => ?_
  refine r_nilown 60 (α := Int) (S := 32) (s := 1) (enc := eU) ?_
  refine r_seq ?_
  refine r_region ?_
  refine r_p (p_assign rfl) rfl ?_
  refine r_nil ?_
  refine r_seq ?_
  refine r_region ?_
  refine r_p (p_assign rfl) rfl ?_
  refine r_nil ?_
  refine r_seq ?_
  refine r_seq ?_
  refine r_region ?_
  refine r_p (p_move rfl) rfl ?_
  refine r_p (p_move rfl) rfl ?_
  refine r_call (xs := [.tmp 8, .tmp 9]) (count_spec W s bad 4 (by decide) (by decide) hs) cb68 [0] [] [0] [] rfl rfl rfl rfl rfl rfl rfl rfl (fun _ _ => rfl) (fun _ _ _ => rfl) rfl (fun c hc => ?_)
  refine r_p (p_move rfl) rfl ?_
  refine r_nil ?_
  refine r_block ?_
  refine r_loop (X := Nat × Rd (List Int) × SV) (fun x => x.1 ≤ c.a.toNat ∧ RdOk (pWord.times x.1) c.s c.bad ⟨x.2.1.a, x.2.1.s, x.2.1.bad⟩ ∧ x.2.1.a.length = x.1) (fun x => [(0, .pointer (some ⟨W, 0, none⟩)), (2, .func (.func 53) #[.pointer (some ⟨W, 0, none⟩)] #[]), (7, sv x.2.2), (10, .int .i64 c.a), (11, .int .i64 (x.1 : Int))]) (fun x => [(0, row W 113 (rdC x.2.1.s x.2.1.bad)), (60, own 32 1 eU (sv x.2.2) x.2.1.a)]) (fun x => []) (fun x => c.a.toNat - x.1) (0, ⟨[], c.s, c.bad⟩, nilS) ⟨Nat.zero_le _, RdOk.nil, rfl⟩ rfl rfl rfl (fun x hx0 => ?_)
  obtain ⟨k, x, vk⟩ := x
  obtain ⟨hk0, hrk, hlk⟩ := hx0
  dsimp only at hk0 hrk hlk ⊢
  have hca := hc.2
  refine r_seq ?_
  refine r_region ?_
  refine r_p (p_bin rfl rfl b_lt) rfl ?_
  refine r_nil ?_
  refine r_seq ?_
  refine r_cond rfl (fun h1 => ?_) (fun h1 => ?_)
  · (try simp only [decide_eq_true_eq, decide_eq_false_iff_not, Bool.and_eq_true, Bool.or_eq_true, Bool.and_eq_false_iff, Bool.or_eq_false_iff, Bool.not_eq_true, Bool.not_eq_false, Bool.not_eq_true', Bool.not_eq_false', Bool.not_not, bne_iff_ne, beq_iff_eq] at h1)
    have hk : k < c.a.toNat := by omega
    refine r_skip ?_
    refine r_seq ?_
    refine r_block ?_
    refine r_region ?_
    refine r_p (p_move rfl) rfl ?_
    refine r_p (p_move rfl) rfl ?_
    refine r_callF (xs := []) (word_spec W x.s x.bad) cb53 [0] [] [0] [] rfl rfl rfl rfl rfl rfl rfl rfl (fun _ _ => rfl) (fun _ _ _ => rfl) rfl (fun y hy => ?_)
    refine r_bslice1 eU _ Try.underlying57 t32 rfl (by decide) (by decide) rfl rfl rfl rfl fun v16 => ?_
    refine r_append 60 Try.underlying57 t32 rfl (by decide) (fun _ => rfl) (fun _ => rfl) rfl rfl rfl (hs_own (k := 16) rfl) (by simp only [List.length_cons, List.length_nil]; omega) (by unfold maxLen; simp only [List.length_cons, List.length_nil]; omega) rfl fun v17 => ?_
    refine r_p (p_assign rfl) rfl ?_
    refine r_nil ?_
    refine r_region ?_
    refine r_p (p_bin rfl rfl (b_add (by first | exact w_i64 (by omega) (by omega) | rfl))) rfl ?_
    refine r_p (p_move rfl) rfl ?_
    refine r_nil ?_
    have hnx := hrk.snoc hy.1
    refine r_here (k + 1, ⟨x.a ++ [y.a], y.s, y.bad⟩, v17) ⟨⟨by dsimp only; omega, hnx, by dsimp only; rw [List.length_append, hlk]; rfl⟩, by dsimp only; omega⟩ rfl rfl rfl
  · (try simp only [decide_eq_true_eq, decide_eq_false_iff_not, Bool.and_eq_true, Bool.or_eq_true, Bool.and_eq_false_iff, Bool.or_eq_false_iff, Bool.not_eq_true, Bool.not_eq_false, Bool.not_eq_true', Bool.not_eq_false', Bool.not_not, bne_iff_ne, beq_iff_eq] at h1)
    have hk : k = c.a.toNat := by omega
    subst hk
    refine r_exit ?_
    refine r_seq ?_
    refine r_region ?_
    refine r_p (p_move rfl) rfl ?_
    refine r_p (p_assign rfl) rfl ?_
    refine r_nil ?_
    refine r_cret ?_
    refine r_ret (x, vk) (hc.1.lst hrk) rfl (rs1 (rv_tmp rfl)) rfl [0, 60] [] rfl rfl rfl
set_option maxRecDepth 100000 in
theorem list_text_spec (W bp : Nat) (s : ByteArray) (bad : Bool) (hs : s.size ≤ 1000000) :
    Spec Try.prog 57 [.pointer (some ⟨W, 0, none⟩), .int .i64 8, .func (.func 54) #[] #[.pointer (some ⟨bp, 0, none⟩)]] [row W 113 (rdC s bad)] [row bp 111 [.pointer (some ⟨W, 0, none⟩)]] (X := Rd (List ByteArray) × SV) (fun x => RdOk (pLst 8 pTxt) s bad ⟨(x.1.a.map bytesI), x.1.s, x.1.bad⟩) (fun x => sv x.2) (fun x => [row W 113 (rdC x.1.s x.1.bad), own 9 1 eS (sv x.2) x.1.a]) (fun _ => []) := by
  refine r_enter Try.func57 rfl Try.ntmps57 rfl fun w0 M H => ?_
  refine r_nilown 60 (α := ByteArray) (S := 9) (s := 1) (enc := eS) ?_
  refine r_seq ?_
  refine r_region ?_
  refine r_p (p_assign rfl) rfl ?_
  refine r_nil ?_
  refine r_seq ?_
  refine r_region ?_
  refine r_p (p_assign rfl) rfl ?_
  refine r_nil ?_
  refine r_seq ?_
  refine r_seq ?_
  refine r_region ?_
  refine r_p (p_move rfl) rfl ?_
  refine r_p (p_move rfl) rfl ?_
  refine r_call (xs := [.tmp 8, .tmp 9]) (count_spec W s bad 8 (by decide) (by decide) hs) cb68 [0] [] [0] [] rfl rfl rfl rfl rfl rfl rfl rfl (fun _ _ => rfl) (fun _ _ _ => rfl) rfl (fun c hc => ?_)
  refine r_p (p_move rfl) rfl ?_
  refine r_nil ?_
  refine r_block ?_
  refine r_loop (X := Nat × Rd (List ByteArray) × SV) (fun x => x.1 ≤ c.a.toNat ∧ RdOk (pTxt.times x.1) c.s c.bad ⟨(x.2.1.a.map bytesI), x.2.1.s, x.2.1.bad⟩ ∧ x.2.1.a.length = x.1) (fun x => [(0, .pointer (some ⟨W, 0, none⟩)), (2, .func (.func 54) #[] #[.pointer (some ⟨bp, 0, none⟩)]), (7, sv x.2.2), (10, .int .i64 c.a), (11, .int .i64 (x.1 : Int))]) (fun x => [(0, row W 113 (rdC x.2.1.s x.2.1.bad)), (60, own 9 1 eS (sv x.2.2) x.2.1.a)]) (fun x => [(0, row bp 111 [.pointer (some ⟨W, 0, none⟩)])]) (fun x => c.a.toNat - x.1) (0, ⟨[], c.s, c.bad⟩, nilS) ⟨Nat.zero_le _, RdOk.nil, rfl⟩ rfl rfl rfl (fun x hx0 => ?_)
  obtain ⟨k, x, vk⟩ := x
  obtain ⟨hk0, hrk, hlk⟩ := hx0
  dsimp only at hk0 hrk hlk ⊢
  have hca := hc.2
  refine r_seq ?_
  refine r_region ?_
  refine r_p (p_bin rfl rfl b_lt) rfl ?_
  refine r_nil ?_
  refine r_seq ?_
  refine r_cond rfl (fun h1 => ?_) (fun h1 => ?_)
  · (try simp only [decide_eq_true_eq, decide_eq_false_iff_not, Bool.and_eq_true, Bool.or_eq_true, Bool.and_eq_false_iff, Bool.or_eq_false_iff, Bool.not_eq_true, Bool.not_eq_false, Bool.not_eq_true', Bool.not_eq_false', Bool.not_not, bne_iff_ne, beq_iff_eq] at h1)
    have hk : k < c.a.toNat := by omega
    refine r_skip ?_
    refine r_seq ?_
    refine r_block ?_
    refine r_region ?_
    refine r_p (p_move rfl) rfl ?_
    refine r_p (p_move rfl) rfl ?_
    refine r_callF (xs := []) (text_spec W bp x.s x.bad) cb54 [0] [(false, 0)] [0] [] rfl rfl rfl rfl rfl rfl rfl rfl (fun _ _ => rfl) (fun _ _ _ => rfl) rfl (fun y hy => ?_)
    refine r_bslice1 eS _ Try.underlying41 t9 rfl (by decide) (by decide) rfl rfl rfl rfl fun v16 => ?_
    refine r_append 60 Try.underlying41 t9 rfl (by decide) (fun _ => rfl) (fun _ => rfl) rfl rfl rfl (hs_own (k := 16) rfl) (by simp only [List.length_cons, List.length_nil]; omega) (by unfold maxLen; simp only [List.length_cons, List.length_nil]; omega) rfl fun v17 => ?_
    refine r_p (p_assign rfl) rfl ?_
    refine r_nil ?_
    refine r_region ?_
    refine r_p (p_bin rfl rfl (b_add (by first | exact w_i64 (by omega) (by omega) | rfl))) rfl ?_
    refine r_p (p_move rfl) rfl ?_
    refine r_nil ?_
    have hnx := hrk.snoc hy
    refine r_here (k + 1, ⟨x.a ++ [y.a], y.s, y.bad⟩, v17) ⟨⟨by dsimp only; omega, by dsimp only; rw [List.map_append]; exact hnx, by dsimp only; rw [List.length_append, hlk]; rfl⟩, by dsimp only; omega⟩ rfl rfl rfl
  · (try simp only [decide_eq_true_eq, decide_eq_false_iff_not, Bool.and_eq_true, Bool.or_eq_true, Bool.and_eq_false_iff, Bool.or_eq_false_iff, Bool.not_eq_true, Bool.not_eq_false, Bool.not_eq_true', Bool.not_eq_false', Bool.not_not, bne_iff_ne, beq_iff_eq] at h1)
    have hk : k = c.a.toNat := by omega
    subst hk
    refine r_exit ?_
    refine r_seq ?_
    refine r_region ?_
    refine r_p (p_move rfl) rfl ?_
    refine r_p (p_assign rfl) rfl ?_
    refine r_nil ?_
    refine r_cret ?_
    refine r_ret (x, vk) (hc.1.lst hrk) rfl (rs1 (rv_tmp rfl)) rfl [0, 60] [] rfl rfl rfl

end Go.Proofs.Ytohenjmkhncoiaa
