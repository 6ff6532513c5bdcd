/-
  Finding in lists, with closures. Condition: not longer than a million.
-/
import Derived.Test.YtdcbbkpdlcojfaaAM
import Derived.Test.YtdcbbkpdlcojfaaKE
namespace Go.Proofs.Ytdcbbkpdlcojfaa
set_option linter.unusedSimpArgs false
set_option linter.unusedVariables false
open Go.RowKit

theorem ixF_any {α : Type} {p : α → Bool} {l : List α} : decide (ixF p l ≥ 0) = l.any p := by
  unfold ixF
  cases h : l.findIdx? p with
  | none =>
    rw [List.findIdx?_eq_none_iff] at h
    have : l.any p = false := List.any_eq_false.2 fun x hx => by rw [h x hx]; simp
    rw [this]
    rfl
  | some i =>
    rw [List.findIdx?_eq_some_iff_getElem] at h
    obtain ⟨h1, h2, _⟩ := h
    have : l.any p = true := List.any_eq_true.2 ⟨_, List.getElem_mem h1, h2⟩
    rw [this]
    exact decide_eq_true (Int.natCast_nonneg i)
set_option maxHeartbeats 2000000 in
set_option maxRecDepth 100000 in
theorem ixf_spec (v : SV) (l : List Tf) (hl : l.length ≤ 1000000) (n : Nat) (cap : List Value) (C : Asn) (p : Tf → Bool) (hcb : Cb Try.prog n) (hs : ∀ x ∈ l, Spec Try.prog n (tfV x :: cap) [] [C] (X := Unit) (fun _ => True) (fun _ => .bool (p x)) (fun _ => []) (fun _ => [])) :
    Spec Try.prog 79 [sv v, .func (.func n) #[] cap.toArray] [] [sl 3 eTf (sv v) l, C] (X := Unit) (fun _ => True) (fun _ => .int .i64 (ixF p l)) (fun _ => []) (fun _ => []) := by
  refine r_enter Try.func79 rfl Try.ntmps79 rfl fun w0 M H => ?_
  refine r_seq ?_
  refine r_region ?_
  refine r_p (p_assign rfl) rfl ?_
  refine r_nil ?_
  refine r_seq ?_
  refine r_seq ?_
  refine r_region ?_
  refine r_p (p_move rfl) rfl ?_
  refine r_p (p_len_sl Try.underlying38 rfl (hs_sl (k := 0) rfl)) rfl ?_
  refine r_p (p_move rfl) rfl ?_
  refine r_nil ?_
  refine r_block ?_
  refine r_loop (X := Nat) (fun k => k ≤ l.length ∧ ∀ i y, i < k → l[i]? = some y → p y = false) (fun k => [(0, sv v), (1, .func (.func n) #[] cap.toArray), (7, .int .i64 (l.length : Int)), (8, .int .i64 (k : Int))]) (fun k => []) (fun k => [(0, sl 3 eTf (sv v) l), (1, C)]) (fun k => l.length - k) 0 ⟨Nat.zero_le _, fun i y hi => by omega⟩ rfl rfl rfl (fun k hk0 => ?_)
  obtain ⟨n1, n2⟩ := hk0
  refine r_seq ?_
  refine r_region ?_
  refine r_p (p_bin rfl rfl b_lt) rfl ?_
  refine r_nil ?_
  refine r_seq ?_
  refine r_cond rfl (fun h1 => ?_) (fun h1 => ?_)
  · (try simp only [decide_eq_true_eq, decide_eq_false_iff_not, Bool.and_eq_true, Bool.or_eq_true, Bool.and_eq_false_iff, Bool.or_eq_false_iff, Bool.not_eq_true, Bool.not_eq_false, Bool.not_eq_true', Bool.not_eq_false', Bool.not_not, bne_iff_ne, beq_iff_eq] at h1)
    have hk : k < l.length := by omega
    obtain ⟨x, hx⟩ : ∃ x, l[k]? = some x := ⟨_, List.getElem?_eq_getElem hk⟩
    refine r_skip ?_
    refine r_seq ?_
    refine r_block ?_
    refine r_seq ?_
    refine r_region ?_
    refine r_p (p_move rfl) rfl ?_
    refine r_p (p_assign rfl) rfl ?_
    refine r_nil ?_
    refine r_seq ?_
    refine r_region ?_
    refine r_p (p_move rfl) rfl ?_
    refine r_p (p_move rfl) rfl ?_
    refine r_p (p_move rfl) rfl ?_
    refine r_p (p_idx_sl (j := k) Try.underlying38 t64 rfl rfl (hs_sl (k := 0) rfl) (by first | rfl | omega) (by first | omega | (simp; done) | (simp; omega))) rfl ?_
    refine r_p (p_loadA t64 rfl rfl rfl (g_el' (hs_sl (k := 0) rfl) (by intro _; rfl) hx (by rfl))) rfl ?_
    refine r_call (xs := [.tmp 15]) (hs x (List.mem_of_getElem? hx)) hcb [] [(false, 1)] [] [] rfl rfl rfl rfl rfl rfl rfl rfl (fun _ _ => rfl) (fun _ _ _ => rfl) rfl (fun _ _ => ?_)
    refine r_nil ?_
    refine r_cond rfl (fun h2 => ?_) (fun h2 => ?_)
    · have hq : p x = true := h2
      refine r_seq ?_
      refine r_region ?_
      refine r_p (p_move rfl) rfl ?_
      refine r_p (p_assign rfl) rfl ?_
      refine r_nil ?_
      refine r_cret ?_
      refine r_ret () trivial rfl (rs1 (rv_tmp rfl)) (by rw [ixF_at hx hq n2]) [] [] rfl rfl rfl
    · have hq : p x = false := h2
      refine r_skip ?_
      refine r_region ?_
      refine r_p (p_bin rfl rfl (b_add (by first | exact w_i64 (by omega) (by omega) | rfl))) rfl ?_
      refine r_p (p_move rfl) rfl ?_
      refine r_nil ?_
      refine r_here (k + 1) ⟨⟨by omega, fun i y hi hy => by rcases Nat.lt_succ_iff_lt_or_eq.1 hi with h | h; exact n2 i y h hy; rw [h, hx] at hy; rw [← Option.some.inj hy]; exact hq⟩, by omega⟩ rfl rfl rfl
  · (try simp only [decide_eq_true_eq, decide_eq_false_iff_not, Bool.and_eq_true, Bool.or_eq_true, Bool.and_eq_false_iff, Bool.or_eq_false_iff, Bool.not_eq_true, Bool.not_eq_false, Bool.not_eq_true', Bool.not_eq_false', Bool.not_not, bne_iff_ne, beq_iff_eq] at h1)
    have hk : k = l.length := by omega
    subst hk
    refine r_exit ?_
    refine r_seq ?_
    refine r_region ?_
    refine r_p (p_assign rfl) rfl ?_
    refine r_nil ?_
    refine r_cret ?_
    refine r_ret () trivial rfl (rs1 (rv_tmp rfl)) (by rw [ixF_no n2]) [] [] rfl rfl rfl
set_option maxRecDepth 100000 in
theorem conf_spec (v : SV) (l : List Tf) (hl : l.length ≤ 1000000) (n : Nat) (cap : List Value) (C : Asn) (p : Tf → Bool) (hcb : Cb Try.prog n) (hs : ∀ x ∈ l, Spec Try.prog n (tfV x :: cap) [] [C] (X := Unit) (fun _ => True) (fun _ => .bool (p x)) (fun _ => []) (fun _ => [])) :
    Spec Try.prog 73 [sv v, .func (.func n) #[] cap.toArray] [] [sl 3 eTf (sv v) l, C] (X := Unit) (fun _ => True) (fun _ => .bool (l.any p)) (fun _ => []) (fun _ => []) := by
  refine r_enter Try.func73 rfl Try.ntmps73 rfl fun w0 M H => ?_
  refine r_seq ?_
  refine r_region ?_
  refine r_p (p_assign rfl) rfl ?_
  refine r_nil ?_
  refine r_seq ?_
  refine r_region ?_
  refine r_p (p_move rfl) rfl ?_
  refine r_p (p_move rfl) rfl ?_
  refine r_call (xs := [.tmp 5, .tmp 6]) (ixf_spec v l hl n cap C p hcb hs) cb79 [] [(false, 0), (false, 1)] [] [] rfl rfl rfl rfl rfl rfl rfl rfl (fun _ _ => rfl) (fun _ _ _ => rfl) rfl (fun _ _ => ?_)
  refine r_p (p_bin rfl rfl b_ge) rfl ?_
  refine r_p (p_assign rfl) rfl ?_
  refine r_nil ?_
  refine r_cret ?_
  refine r_ret () trivial rfl (rs1 (rv_tmp rfl)) (congrArg Value.bool ixF_any) [] [] rfl rfl rfl
set_option maxHeartbeats 2000000 in
set_option maxRecDepth 100000 in
theorem ixy_spec (v : SV) (l : List Ty) (hl : l.length ≤ 1000000) (n : Nat) (cap : List Value) (C : Asn) (p : Ty → Bool) (hcb : Cb Try.prog n) (hs : ∀ x ∈ l, Spec Try.prog n (yV x :: cap) [] [C] (X := Unit) (fun _ => True) (fun _ => .bool (p x)) (fun _ => []) (fun _ => [])) :
    Spec Try.prog 102 [sv v, .func (.func n) #[] cap.toArray] [] [sl 5 eTy (sv v) l, C] (X := Unit) (fun _ => True) (fun _ => .int .i64 (ixF p l)) (fun _ => []) (fun _ => []) := by
  refine r_enter Try.func102 rfl Try.ntmps102 rfl fun w0 M H => ?_
  refine r_seq ?_
  refine r_region ?_
  refine r_p (p_assign rfl) rfl ?_
  refine r_nil ?_
  refine r_seq ?_
  refine r_seq ?_
  refine r_region ?_
  refine r_p (p_move rfl) rfl ?_
  refine r_p (p_len_sl Try.underlying52 rfl (hs_sl (k := 0) rfl)) rfl ?_
  refine r_p (p_move rfl) rfl ?_
  refine r_nil ?_
  refine r_block ?_
  refine r_loop (X := Nat) (fun k => k ≤ l.length ∧ ∀ i y, i < k → l[i]? = some y → p y = false) (fun k => [(0, sv v), (1, .func (.func n) #[] cap.toArray), (7, .int .i64 (l.length : Int)), (8, .int .i64 (k : Int))]) (fun k => []) (fun k => [(0, sl 5 eTy (sv v) l), (1, C)]) (fun k => l.length - k) 0 ⟨Nat.zero_le _, fun i y hi => by omega⟩ rfl rfl rfl (fun k hk0 => ?_)
  obtain ⟨n1, n2⟩ := hk0
  refine r_seq ?_
  refine r_region ?_
  refine r_p (p_bin rfl rfl b_lt) rfl ?_
  refine r_nil ?_
  refine r_seq ?_
  refine r_cond rfl (fun h1 => ?_) (fun h1 => ?_)
  · (try simp only [decide_eq_true_eq, decide_eq_false_iff_not, Bool.and_eq_true, Bool.or_eq_true, Bool.and_eq_false_iff, Bool.or_eq_false_iff, Bool.not_eq_true, Bool.not_eq_false, Bool.not_eq_true', Bool.not_eq_false', Bool.not_not, bne_iff_ne, beq_iff_eq] at h1)
    have hk : k < l.length := by omega
    obtain ⟨x, hx⟩ : ∃ x, l[k]? = some x := ⟨_, List.getElem?_eq_getElem hk⟩
    refine r_skip ?_
    refine r_seq ?_
    refine r_block ?_
    refine r_seq ?_
    refine r_region ?_
    refine r_p (p_move rfl) rfl ?_
    refine r_p (p_assign rfl) rfl ?_
    refine r_nil ?_
    refine r_seq ?_
    refine r_region ?_
    refine r_p (p_move rfl) rfl ?_
    refine r_p (p_move rfl) rfl ?_
    refine r_p (p_move rfl) rfl ?_
    refine r_p (p_idx_sl (j := k) Try.underlying52 t54 rfl rfl (hs_sl (k := 0) rfl) (by first | rfl | omega) (by first | omega | (simp; done) | (simp; omega))) rfl ?_
    refine r_p (p_loadA t54 rfl rfl rfl (g_el' (hs_sl (k := 0) rfl) (by intro _; rfl) hx (by rfl))) rfl ?_
    refine r_call (xs := [.tmp 15]) (hs x (List.mem_of_getElem? hx)) hcb [] [(false, 1)] [] [] rfl rfl rfl rfl rfl rfl rfl rfl (fun _ _ => rfl) (fun _ _ _ => rfl) rfl (fun _ _ => ?_)
    refine r_nil ?_
    refine r_cond rfl (fun h2 => ?_) (fun h2 => ?_)
    · have hq : p x = true := h2
      refine r_seq ?_
      refine r_region ?_
      refine r_p (p_move rfl) rfl ?_
      refine r_p (p_assign rfl) rfl ?_
      refine r_nil ?_
      refine r_cret ?_
      refine r_ret () trivial rfl (rs1 (rv_tmp rfl)) (by rw [ixF_at hx hq n2]) [] [] rfl rfl rfl
    · have hq : p x = false := h2
      refine r_skip ?_
      refine r_region ?_
      refine r_p (p_bin rfl rfl (b_add (by first | exact w_i64 (by omega) (by omega) | rfl))) rfl ?_
      refine r_p (p_move rfl) rfl ?_
      refine r_nil ?_
      refine r_here (k + 1) ⟨⟨by omega, fun i y hi hy => by rcases Nat.lt_succ_iff_lt_or_eq.1 hi with h | h; exact n2 i y h hy; rw [h, hx] at hy; rw [← Option.some.inj hy]; exact hq⟩, by omega⟩ rfl rfl rfl
  · (try simp only [decide_eq_true_eq, decide_eq_false_iff_not, Bool.and_eq_true, Bool.or_eq_true, Bool.and_eq_false_iff, Bool.or_eq_false_iff, Bool.not_eq_true, Bool.not_eq_false, Bool.not_eq_true', Bool.not_eq_false', Bool.not_not, bne_iff_ne, beq_iff_eq] at h1)
    have hk : k = l.length := by omega
    subst hk
    refine r_exit ?_
    refine r_seq ?_
    refine r_region ?_
    refine r_p (p_assign rfl) rfl ?_
    refine r_nil ?_
    refine r_cret ?_
    refine r_ret () trivial rfl (rs1 (rv_tmp rfl)) (by rw [ixF_no n2]) [] [] rfl rfl rfl
set_option maxRecDepth 100000 in
theorem cony_spec (v : SV) (l : List Ty) (hl : l.length ≤ 1000000) (n : Nat) (cap : List Value) (C : Asn) (p : Ty → Bool) (hcb : Cb Try.prog n) (hs : ∀ x ∈ l, Spec Try.prog n (yV x :: cap) [] [C] (X := Unit) (fun _ => True) (fun _ => .bool (p x)) (fun _ => []) (fun _ => [])) :
    Spec Try.prog 93 [sv v, .func (.func n) #[] cap.toArray] [] [sl 5 eTy (sv v) l, C] (X := Unit) (fun _ => True) (fun _ => .bool (l.any p)) (fun _ => []) (fun _ => []) := by
  refine r_enter Try.func93 rfl Try.ntmps93 rfl fun w0 M H => ?_
  refine r_seq ?_
  refine r_region ?_
  refine r_p (p_assign rfl) rfl ?_
  refine r_nil ?_
  refine r_seq ?_
  refine r_region ?_
  refine r_p (p_move rfl) rfl ?_
  refine r_p (p_move rfl) rfl ?_
  refine r_call (xs := [.tmp 5, .tmp 6]) (ixy_spec v l hl n cap C p hcb hs) cb102 [] [(false, 0), (false, 1)] [] [] rfl rfl rfl rfl rfl rfl rfl rfl (fun _ _ => rfl) (fun _ _ _ => rfl) rfl (fun _ _ => ?_)
  refine r_p (p_bin rfl rfl b_ge) rfl ?_
  refine r_p (p_assign rfl) rfl ?_
  refine r_nil ?_
  refine r_cret ?_
  refine r_ret () trivial rfl (rs1 (rv_tmp rfl)) (congrArg Value.bool ixF_any) [] [] rfl rfl rfl
set_option maxHeartbeats 2000000 in
set_option maxRecDepth 100000 in
theorem ixx_spec (v : SV) (l : List Tx) (hl : l.length ≤ 1000000) (n : Nat) (cap : List Value) (C : Asn) (p : Tx → Bool) (hcb : Cb Try.prog n) (hs : ∀ x ∈ l, Spec Try.prog n (xV x :: cap) [] [C] (X := Unit) (fun _ => True) (fun _ => .bool (p x)) (fun _ => []) (fun _ => [])) :
    Spec Try.prog 106 [sv v, .func (.func n) #[] cap.toArray] [] [sl 4 eTx (sv v) l, C] (X := Unit) (fun _ => True) (fun _ => .int .i64 (ixF p l)) (fun _ => []) (fun _ => []) := by
  refine r_enter Try.func106 rfl Try.ntmps106 rfl fun w0 M H => ?_
  refine r_seq ?_
  refine r_region ?_
  refine r_p (p_assign rfl) rfl ?_
  refine r_nil ?_
  refine r_seq ?_
  refine r_seq ?_
  refine r_region ?_
  refine r_p (p_move rfl) rfl ?_
  refine r_p (p_len_sl Try.underlying51 rfl (hs_sl (k := 0) rfl)) rfl ?_
  refine r_p (p_move rfl) rfl ?_
  refine r_nil ?_
  refine r_block ?_
  refine r_loop (X := Nat) (fun k => k ≤ l.length ∧ ∀ i y, i < k → l[i]? = some y → p y = false) (fun k => [(0, sv v), (1, .func (.func n) #[] cap.toArray), (7, .int .i64 (l.length : Int)), (8, .int .i64 (k : Int))]) (fun k => []) (fun k => [(0, sl 4 eTx (sv v) l), (1, C)]) (fun k => l.length - k) 0 ⟨Nat.zero_le _, fun i y hi => by omega⟩ rfl rfl rfl (fun k hk0 => ?_)
  obtain ⟨n1, n2⟩ := hk0
  refine r_seq ?_
  refine r_region ?_
  refine r_p (p_bin rfl rfl b_lt) rfl ?_
  refine r_nil ?_
  refine r_seq ?_
  refine r_cond rfl (fun h1 => ?_) (fun h1 => ?_)
  · (try simp only [decide_eq_true_eq, decide_eq_false_iff_not, Bool.and_eq_true, Bool.or_eq_true, Bool.and_eq_false_iff, Bool.or_eq_false_iff, Bool.not_eq_true, Bool.not_eq_false, Bool.not_eq_true', Bool.not_eq_false', Bool.not_not, bne_iff_ne, beq_iff_eq] at h1)
    have hk : k < l.length := by omega
    obtain ⟨x, hx⟩ : ∃ x, l[k]? = some x := ⟨_, List.getElem?_eq_getElem hk⟩
    refine r_skip ?_
    refine r_seq ?_
    refine r_block ?_
    refine r_seq ?_
    refine r_region ?_
    refine r_p (p_move rfl) rfl ?_
    refine r_p (p_assign rfl) rfl ?_
    refine r_nil ?_
    refine r_seq ?_
    refine r_region ?_
    refine r_p (p_move rfl) rfl ?_
    refine r_p (p_move rfl) rfl ?_
    refine r_p (p_move rfl) rfl ?_
    refine r_p (p_idx_sl (j := k) Try.underlying51 t57 rfl rfl (hs_sl (k := 0) rfl) (by first | rfl | omega) (by first | omega | (simp; done) | (simp; omega))) rfl ?_
    refine r_p (p_loadA t57 rfl rfl rfl (g_el' (hs_sl (k := 0) rfl) (by intro _; rfl) hx (by rfl))) rfl ?_
    refine r_call (xs := [.tmp 15]) (hs x (List.mem_of_getElem? hx)) hcb [] [(false, 1)] [] [] rfl rfl rfl rfl rfl rfl rfl rfl (fun _ _ => rfl) (fun _ _ _ => rfl) rfl (fun _ _ => ?_)
    refine r_nil ?_
    refine r_cond rfl (fun h2 => ?_) (fun h2 => ?_)
    · have hq : p x = true := h2
      refine r_seq ?_
      refine r_region ?_
      refine r_p (p_move rfl) rfl ?_
      refine r_p (p_assign rfl) rfl ?_
      refine r_nil ?_
      refine r_cret ?_
      refine r_ret () trivial rfl (rs1 (rv_tmp rfl)) (by rw [ixF_at hx hq n2]) [] [] rfl rfl rfl
    · have hq : p x = false := h2
      refine r_skip ?_
      refine r_region ?_
      refine r_p (p_bin rfl rfl (b_add (by first | exact w_i64 (by omega) (by omega) | rfl))) rfl ?_
      refine r_p (p_move rfl) rfl ?_
      refine r_nil ?_
      refine r_here (k + 1) ⟨⟨by omega, fun i y hi hy => by rcases Nat.lt_succ_iff_lt_or_eq.1 hi with h | h; exact n2 i y h hy; rw [h, hx] at hy; rw [← Option.some.inj hy]; exact hq⟩, by omega⟩ rfl rfl rfl
  · (try simp only [decide_eq_true_eq, decide_eq_false_iff_not, Bool.and_eq_true, Bool.or_eq_true, Bool.and_eq_false_iff, Bool.or_eq_false_iff, Bool.not_eq_true, Bool.not_eq_false, Bool.not_eq_true', Bool.not_eq_false', Bool.not_not, bne_iff_ne, beq_iff_eq] at h1)
    have hk : k = l.length := by omega
    subst hk
    refine r_exit ?_
    refine r_seq ?_
    refine r_region ?_
    refine r_p (p_assign rfl) rfl ?_
    refine r_nil ?_
    refine r_cret ?_
    refine r_ret () trivial rfl (rs1 (rv_tmp rfl)) (by rw [ixF_no n2]) [] [] rfl rfl rfl
set_option maxRecDepth 100000 in
theorem conx_spec (v : SV) (l : List Tx) (hl : l.length ≤ 1000000) (n : Nat) (cap : List Value) (C : Asn) (p : Tx → Bool) (hcb : Cb Try.prog n) (hs : ∀ x ∈ l, Spec Try.prog n (xV x :: cap) [] [C] (X := Unit) (fun _ => True) (fun _ => .bool (p x)) (fun _ => []) (fun _ => [])) :
    Spec Try.prog 103 [sv v, .func (.func n) #[] cap.toArray] [] [sl 4 eTx (sv v) l, C] (X := Unit) (fun _ => True) (fun _ => .bool (l.any p)) (fun _ => []) (fun _ => []) := by
  refine r_enter Try.func103 rfl Try.ntmps103 rfl fun w0 M H => ?_
  refine r_seq ?_
  refine r_region ?_
  refine r_p (p_assign rfl) rfl ?_
  refine r_nil ?_
  refine r_seq ?_
  refine r_region ?_
  refine r_p (p_move rfl) rfl ?_
  refine r_p (p_move rfl) rfl ?_
  refine r_call (xs := [.tmp 5, .tmp 6]) (ixx_spec v l hl n cap C p hcb hs) cb106 [] [(false, 0), (false, 1)] [] [] rfl rfl rfl rfl rfl rfl rfl rfl (fun _ _ => rfl) (fun _ _ _ => rfl) rfl (fun _ _ => ?_)
  refine r_p (p_bin rfl rfl b_ge) rfl ?_
  refine r_p (p_assign rfl) rfl ?_
  refine r_nil ?_
  refine r_cret ?_
  refine r_ret () trivial rfl (rs1 (rv_tmp rfl)) (congrArg Value.bool ixF_any) [] [] rfl rfl rfl
set_option maxRecDepth 100000 in
theorem cons_spec (v : SV) (l : List ByteArray) (hl : l.length ≤ 1000000) (n : Nat) (p : ByteArray → Bool) (hcb : Cb Try.prog n) (hs : ∀ s ∈ l, Spec Try.prog n [.string s] [] [] (X := Unit) (fun _ => True) (fun _ => .bool (p s)) (fun _ => []) (fun _ => [])) :
    Spec Try.prog 75 [sv v, .func (.func n) #[] #[]] [] [sl 1 eS (sv v) l] (X := Unit) (fun _ => True) (fun _ => .bool (l.any p)) (fun _ => []) (fun _ => []) := by
  refine r_enter Try.func75 rfl Try.ntmps75 rfl fun w0 M H => ?_
  refine r_seq ?_
  refine r_region ?_
  refine r_p (p_assign rfl) rfl ?_
  refine r_nil ?_
  refine r_seq ?_
  refine r_region ?_
  refine r_p (p_move rfl) rfl ?_
  refine r_p (p_move rfl) rfl ?_
  refine r_call (xs := [.tmp 5, .tmp 6]) (ixs_spec v l hl n p hcb hs) cb86 [] [(false, 0)] [] [] rfl rfl rfl rfl rfl rfl rfl rfl (fun _ _ => rfl) (fun _ _ _ => rfl) rfl (fun _ _ => ?_)
  refine r_p (p_bin rfl rfl b_ge) rfl ?_
  refine r_p (p_assign rfl) rfl ?_
  refine r_nil ?_
  refine r_cret ?_
  refine r_ret () trivial rfl (rs1 (rv_tmp rfl)) (congrArg Value.bool ixF_any) [] [] rfl rfl rfl

end Go.Proofs.Ytdcbbkpdlcojfaa
