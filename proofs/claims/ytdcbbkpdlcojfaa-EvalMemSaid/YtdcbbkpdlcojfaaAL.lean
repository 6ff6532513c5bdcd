/-
  Letters, digits, keywords. No condition.
-/
import Derived.Test.YtdcbbkpdlcojfaaAK
namespace Go.Proofs.Ytdcbbkpdlcojfaa
set_option linter.unusedSimpArgs false
set_option linter.unusedVariables false
open Go.RowKit

/-- The keywords. -/
def kwL : List ByteArray := [(⟨#[101, 108, 115, 101]⟩ : ByteArray), (⟨#[102, 110]⟩ : ByteArray), (⟨#[105, 102]⟩ : ByteArray), (⟨#[105, 110]⟩ : ByteArray), (⟨#[109, 101, 109]⟩ : ByteArray), (⟨#[111, 117, 116]⟩ : ByteArray), (⟨#[114, 101, 116, 117, 114, 110]⟩ : ByteArray), (⟨#[118, 97, 114]⟩ : ByteArray), (⟨#[119, 104, 105, 108, 101]⟩ : ByteArray)]
def ltr (c : Int) : Bool := decide (c ≥ 97) && decide (c ≤ 122)
def dgt (c : Int) : Bool := decide (c ≥ 48) && decide (c ≤ 57)
set_option maxRecDepth 100000 in
theorem keywords_spec  :
    Spec Try.prog 88 [] [] [] (X := SV) (fun _ => True) (fun u => sv u) (fun u => [own 9 1 eS (sv u) kwL]) (fun _ => []) := by
  refine r_enter Try.func88 rfl Try.ntmps88 rfl fun w0 M H => ?_
  refine r_seq ?_
  refine r_region ?_
  refine r_p (p_assign rfl) rfl ?_
  refine r_nil ?_
  refine r_seq ?_
  refine r_region ?_
  refine r_bslice eS kwL (parts := [(0, .const (.string (ByteArray.mk #[101, 108, 115, 101]))), (1, .const (.string (ByteArray.mk #[102, 110]))), (2, .const (.string (ByteArray.mk #[105, 102]))), (3, .const (.string (ByteArray.mk #[105, 110]))), (4, .const (.string (ByteArray.mk #[109, 101, 109]))), (5, .const (.string (ByteArray.mk #[111, 117, 116]))), (6, .const (.string (ByteArray.mk #[114, 101, 116, 117, 114, 110]))), (7, .const (.string (ByteArray.mk #[118, 97, 114]))), (8, .const (.string (ByteArray.mk #[119, 104, 105, 108, 101])))]) Try.underlying62 t9 rfl (by decide) (by intro _; rfl) rfl (by decide) (by decide) rfl rfl rfl rfl fun v1 => ?_
  refine r_p (p_assign rfl) rfl ?_
  refine r_nil ?_
  refine r_cret ?_
  refine r_ret v1 trivial rfl (rs1 (rv_tmp rfl)) rfl [1] [] rfl rfl rfl
set_option maxRecDepth 100000 in
theorem letter_spec (c : Int) :
    Spec Try.prog 89 [.int .i32 c] [] [] (X := Unit) (fun _ => True) (fun _ => .bool (ltr c)) (fun _ => []) (fun _ => []) := by
  refine r_enter Try.func89 rfl Try.ntmps89 rfl fun w0 M H => ?_
  refine r_seq ?_
  refine r_region ?_
  refine r_p (p_assign rfl) rfl ?_
  refine r_nil ?_
  refine r_seq ?_
  refine r_region ?_
  refine r_p (p_move rfl) rfl ?_
  refine r_p (p_bin rfl rfl b_ge) rfl ?_
  refine r_p (p_move rfl) rfl ?_
  refine r_gp [] rfl rfl trivial (fun hg1 => p_move rfl) rfl ?_
  refine r_gp [(6, _)] rfl rfl ⟨rfl, trivial⟩ (fun hg2 => p_bin rfl rfl b_le) rfl ?_
  refine r_p (p_pick rfl rfl rfl (by first | exact pick_and | exact pick_or |  rfl)) rfl ?_
  refine r_p (p_assign rfl) rfl ?_
  refine r_nil ?_
  refine r_cret ?_
  refine r_ret () trivial rfl (rs1 (rv_tmp rfl)) rfl [] [] rfl rfl rfl
set_option maxRecDepth 100000 in
theorem digit_spec (c : Int) :
    Spec Try.prog 92 [.int .i32 c] [] [] (X := Unit) (fun _ => True) (fun _ => .bool (dgt c)) (fun _ => []) (fun _ => []) := by
  refine r_enter Try.func92 rfl Try.ntmps92 rfl fun w0 M H => ?_
  refine r_seq ?_
  refine r_region ?_
  refine r_p (p_assign rfl) rfl ?_
  refine r_nil ?_
  refine r_seq ?_
  refine r_region ?_
  refine r_p (p_move rfl) rfl ?_
  refine r_p (p_bin rfl rfl b_ge) rfl ?_
  refine r_p (p_move rfl) rfl ?_
  refine r_gp [] rfl rfl trivial (fun hg1 => p_move rfl) rfl ?_
  refine r_gp [(6, _)] rfl rfl ⟨rfl, trivial⟩ (fun hg2 => p_bin rfl rfl b_le) rfl ?_
  refine r_p (p_pick rfl rfl rfl (by first | exact pick_and | exact pick_or |  rfl)) rfl ?_
  refine r_p (p_assign rfl) rfl ?_
  refine r_nil ?_
  refine r_cret ?_
  refine r_ret () trivial rfl (rs1 (rv_tmp rfl)) rfl [] [] rfl rfl rfl
set_option maxRecDepth 100000 in
theorem ident1_spec (c : Int) :
    Spec Try.prog 91 [.int .i32 c] [] [] (X := Unit) (fun _ => True) (fun _ => .bool (ltr c || dgt c)) (fun _ => []) (fun _ => []) := by
  refine r_enter Try.func91 rfl Try.ntmps91 rfl fun w0 M H => ?_
  refine r_seq ?_
  refine r_region ?_
  refine r_p (p_assign rfl) rfl ?_
  refine r_nil ?_
  refine r_seq ?_
  refine r_region ?_
  refine r_p (p_move rfl) rfl ?_
  refine r_call (xs := [.tmp 3]) (letter_spec c) cb89 [] [] [] [] rfl rfl rfl rfl rfl rfl rfl rfl (fun _ _ => rfl) (fun _ _ _ => rfl) rfl (fun _ _ => ?_)
  refine r_p (p_move rfl) rfl ?_
  refine r_split (t := 5) rfl (fun h1 => ?_) (fun h1 => ?_)
  · (try simp only [decide_eq_true_eq, decide_eq_false_iff_not, Bool.and_eq_true, Bool.or_eq_true, Bool.and_eq_false_iff, Bool.or_eq_false_iff, Bool.not_eq_true, Bool.not_eq_false, Bool.not_eq_true', Bool.not_eq_false', Bool.not_not, bne_iff_ne, beq_iff_eq] at h1)
    have hq : ltr c = true := h1
    refine r_gno rfl rfl rfl rfl ?_
    refine r_gno rfl rfl rfl rfl ?_
    refine r_p (p_pick rfl rfl rfl (by first | exact pick_and | exact pick_or |  rfl)) rfl ?_
    refine r_p (p_assign rfl) rfl ?_
    refine r_nil ?_
    refine r_cret ?_
    refine r_ret () trivial rfl (rs1 (rv_tmp rfl)) (by first | (rw [hq]; done) | (rw [hq]; rfl) | (rw [hq]; simp)) [] [] rfl rfl rfl
  · (try simp only [decide_eq_true_eq, decide_eq_false_iff_not, Bool.and_eq_true, Bool.or_eq_true, Bool.and_eq_false_iff, Bool.or_eq_false_iff, Bool.not_eq_true, Bool.not_eq_false, Bool.not_eq_true', Bool.not_eq_false', Bool.not_not, bne_iff_ne, beq_iff_eq] at h1)
    have hq : ltr c = false := by simpa using h1
    refine r_gyes rfl rfl ?_
    refine r_p (p_move rfl) rfl ?_
    refine r_gyes rfl rfl ?_
    refine r_call (xs := [.tmp 6]) (digit_spec c) cb92 [] [] [] [] rfl rfl rfl rfl rfl rfl rfl rfl (fun _ _ => rfl) (fun _ _ _ => rfl) rfl (fun _ _ => ?_)
    refine r_p (p_pick rfl rfl rfl (by first | exact pick_and | exact pick_or |  rfl)) rfl ?_
    refine r_p (p_assign rfl) rfl ?_
    refine r_nil ?_
    refine r_cret ?_
    refine r_ret () trivial rfl (rs1 (rv_tmp rfl)) (by first | (rw [hq]; done) | (rw [hq]; rfl) | (rw [hq]; simp)) [] [] rfl rfl rfl

end Go.Proofs.Ytdcbbkpdlcojfaa
