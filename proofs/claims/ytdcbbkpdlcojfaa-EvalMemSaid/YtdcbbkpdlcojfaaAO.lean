/-
  Names. Conditions: bytes below 128, not longer than a million.
-/
import Derived.Test.YtdcbbkpdlcojfaaAN
import Derived.Test.YtdcbbkpdlcojfaaKS
namespace Go.Proofs.Ytdcbbkpdlcojfaa
set_option linter.unusedSimpArgs false
set_option linter.unusedVariables false
open Go.RowKit

theorem allB_iff {p : Int → Bool} {s : ByteArray} : allB p s = true ↔ ∀ (i : Nat) (h : i < s.size), p (((s[i]'h).toNat : Nat) : Int) = true := by
  unfold allB
  rw [List.all_eq_true]
  constructor
  · intro h i hi
    refine h (s[i]'hi) ?_
    have : s[i]'hi = s.data.toList[i]'(by simpa using hi) := by simp [ByteArray.getElem_eq_getElem_data]
    rw [this]
    exact List.getElem_mem _
  · intro h b hb
    obtain ⟨i, hi, rfl⟩ := List.mem_iff_getElem.1 hb
    have hi' : i < s.size := by simpa using hi
    have := h i hi'
    rw [show s[i]'hi' = s.data.toList[i]'hi by simp [ByteArray.getElem_eq_getElem_data]] at this
    exact this
theorem byte0_at {s : ByteArray} (h : 0 < s.size) : byte0 s = (((s[0]'h).toNat : Nat) : Int) := by
  unfold byte0
  obtain ⟨⟨l⟩⟩ := s
  cases l with
  | nil => simp [ByteArray.size] at h
  | cons a r => rfl
theorem ba_nil {s : ByteArray} : s = oNil ↔ s.size = 0 := by
  constructor
  · intro h; subst h; rfl
  · intro h
    obtain ⟨⟨l⟩⟩ := s
    cases l with
    | nil => rfl
    | cons a r => simp [ByteArray.size] at h
theorem first_byte {s : ByteArray} (h : 0 < s.size) : IntKind.i32.wrap ((bytesI s).getD 0 0) = byte0 s := by
  unfold byte0 bytesI
  obtain ⟨⟨l⟩⟩ := s
  cases l with
  | nil => simp [ByteArray.size] at h
  | cons a r =>
    have := a.toNat_lt
    simp only [List.map_cons, List.getD_cons_zero, List.headD_cons]
    exact w_i32 (by omega) (by omega)
theorem ident_eq (s : ByteArray) : identB s = (!(s == ⟨#[]⟩) && !decide ((s.size : Int) > 12) && !memB s kwL && ltr (byte0 s) && allB (fun c => ltr c || dgt c) s) := by
  unfold identB
  congr 4
  · rw [ba_eq]
    have := ba_nil (s := s)
    unfold oNil at this
    by_cases h : s.size = 0
    · rw [this.2 h]; rfl
    · have h2 : ¬ s = ⟨#[]⟩ := fun e => h (this.1 e)
      simp [h, h2]
  · by_cases h : s.size ≤ 12
    · have : ¬ (s.size : Int) > 12 := by omega
      simp [h, this]
    · have : (s.size : Int) > 12 := by omega
      simp [h, this]
theorem ident_no {s : ByteArray} (h : ((s == ⟨#[]⟩) = true ∨ (s.size : Int) > 12) ∨ memB s kwL = true ∨ (0 < s.size ∧ (false || !ltr (IntKind.i32.wrap ((bytesI s).getD 0 0))) = true)) : identB s = false := by
  rw [ident_eq]
  rcases h with (h | h) | h | ⟨h0, h⟩
  · rw [h]; rfl
  · rw [decide_eq_true h]; simp
  · rw [h]; simp
  · rw [first_byte h0, Bool.false_or, Bool.not_eq_true'] at h
    rw [h]; simp
theorem ident_yes {s : ByteArray} {k : Nat} (h1 : (s == ⟨#[]⟩) = false ∧ ¬ (s.size : Int) > 12) (h2 : True ∧ memB s kwL = false) (h0 : 0 < s.size) (h3 : (false || !ltr (IntKind.i32.wrap ((bytesI s).getD 0 0))) = false) (hk : decide ((k : Int) = (s.size : Int)) = allB (fun c => ltr c || dgt c) s) : decide ((k : Int) = (s.size : Int)) = identB s := by
  rw [ident_eq, h1.1, decide_eq_false h1.2, h2.2, hk]
  rw [first_byte h0, Bool.false_or, Bool.not_eq_false'] at h3
  rw [h3]
  simp
set_option maxHeartbeats 1000000 in
set_option maxRecDepth 100000 in
theorem span_spec (s : ByteArray) (n : Nat) (p : Int → Bool) (has : ascB s) (hcb : Cb Try.prog n) (hz : s.size ≤ 1000000) (hs : ∀ c : Int, Spec Try.prog n [.int .i32 c] [] [] (X := Unit) (fun _ => True) (fun _ => .bool (p c)) (fun _ => []) (fun _ => [])) :
    Spec Try.prog 90 [.string s, .func (.func n) #[] #[]] [] [] (X := Nat) (fun k => decide ((k : Int) = (s.size : Int)) = allB p s) (fun k => .int .i64 (k : Int)) (fun _ => []) (fun _ => []) := by
  refine r_enter Try.func90 rfl Try.ntmps90 rfl fun w0 M H => ?_
  refine r_seq ?_
  refine r_region ?_
  refine r_p (p_assign rfl) rfl ?_
  refine r_nil ?_
  refine r_seq ?_
  refine r_seq ?_
  refine r_region ?_
  refine r_p (p_move rfl) rfl ?_
  refine r_rangeS Try.underlying9 rfl rfl fun i8 => ?_
  refine r_nil ?_
  refine r_block ?_
  refine r_loop (X := Nat) (fun x => x ≤ s.size ∧ ∀ j (h : j < s.size), j < x → p (((s[j]'h).toNat : Nat) : Int) = true) (fun x => [(0, .string s), (1, .func (.func n) #[] #[]), (8, .pointer (some ⟨i8, 0, none⟩))]) (fun x => [(8, sit i8 s x)]) (fun x => []) (fun x => s.size - x) 0 ⟨Nat.zero_le _, fun j h hj => by omega⟩ rfl rfl rfl (fun x hx0 => ?_)
  obtain ⟨n1, n2⟩ := hx0
  refine r_seq ?_
  refine r_region ?_
  refine r_nextS (k := 8) rfl rfl (fun h => has x h) rfl (fun hover => ?_) (fun hmore => ?_)
  · have hx : x = s.size := by omega
    subst hx
    refine r_p (p_extract rfl rfl) rfl ?_
    refine r_nil ?_
    refine r_seq ?_
    refine r_cond rfl (fun h1 => ?_) (fun h1 => ?_)
    · exact absurd h1 (by simp)
    · (try simp only [decide_eq_true_eq, decide_eq_false_iff_not, Bool.and_eq_true, Bool.or_eq_true, Bool.and_eq_false_iff, Bool.or_eq_false_iff, Bool.not_eq_true, Bool.not_eq_false, Bool.not_eq_true', Bool.not_eq_false', Bool.not_not, bne_iff_ne, beq_iff_eq] at h1)
      refine r_exit ?_
      refine r_seq ?_
      refine r_region ?_
      refine r_p (p_move rfl) rfl ?_
      refine r_p (p_len_str Try.underlying9 rfl) rfl ?_
      refine r_p (p_assign rfl) rfl ?_
      refine r_nil ?_
      refine r_cret ?_
      refine r_ret s.size (by rw [decide_eq_true rfl]; symm; exact allB_iff.2 fun i h => n2 i h h) rfl (rs1 (rv_tmp rfl)) rfl [] [] rfl rfl rfl
  · have hxs : x < s.size := hmore
    refine r_p (p_extract rfl rfl) rfl ?_
    refine r_nil ?_
    refine r_seq ?_
    refine r_cond rfl (fun h2 => ?_) (fun h2 => ?_)
    · (try simp only [decide_eq_true_eq, decide_eq_false_iff_not, Bool.and_eq_true, Bool.or_eq_true, Bool.and_eq_false_iff, Bool.or_eq_false_iff, Bool.not_eq_true, Bool.not_eq_false, Bool.not_eq_true', Bool.not_eq_false', Bool.not_not, bne_iff_ne, beq_iff_eq] at h2)
      refine r_skip ?_
      refine r_block ?_
      refine r_seq ?_
      refine r_region ?_
      refine r_p (p_extract rfl rfl) rfl ?_
      refine r_p (p_extract rfl rfl) rfl ?_
      refine r_p (p_assign rfl) rfl ?_
      refine r_p (p_assign rfl) rfl ?_
      refine r_nil ?_
      refine r_seq ?_
      refine r_region ?_
      refine r_p (p_move rfl) rfl ?_
      refine r_p (p_move rfl) rfl ?_
      refine r_call (xs := [.tmp 14]) (hs _) hcb [] [] [] [] rfl rfl rfl rfl rfl rfl rfl rfl (fun _ _ => rfl) (fun _ _ _ => rfl) rfl (fun _ _ => ?_)
      refine r_p (p_not rfl) rfl ?_
      refine r_nil ?_
      refine r_cond rfl (fun h3 => ?_) (fun h3 => ?_)
      · have hq : p (((s[x]'hxs).toNat : Nat) : Int) = false := by simpa using h3
        refine r_seq ?_
        refine r_region ?_
        refine r_p (p_move rfl) rfl ?_
        refine r_p (p_assign rfl) rfl ?_
        refine r_nil ?_
        refine r_cret ?_
        refine r_ret x (by rw [decide_eq_false (show ¬ ((x : Int) = (s.size : Int)) by omega)]; symm; rw [Bool.eq_false_iff]; intro h; have := allB_iff.1 h x hxs; rw [hq] at this; cases this) rfl (rs1 (rv_tmp rfl)) rfl [] [] rfl rfl rfl
      · have hq : p (((s[x]'hxs).toNat : Nat) : Int) = true := by simpa using h3
        refine r_skip ?_
        refine r_here (x + 1) ⟨⟨by omega, fun j h hj => by rcases Nat.lt_succ_iff_lt_or_eq.1 hj with h2 | h2; exact n2 j h h2; subst h2; exact hq⟩, by omega⟩ rfl rfl rfl
    · exact absurd h2 (by simp)
set_option maxHeartbeats 1000000 in
set_option maxRecDepth 100000 in
theorem ident_spec (s : ByteArray) (has : ascB s) (hz : s.size ≤ 1000000) :
    Spec Try.prog 77 [.string s] [] [] (X := Unit) (fun _ => True) (fun _ => .bool (identB s)) (fun _ => []) (fun _ => []) := by
  refine r_enter Try.func77 rfl Try.ntmps77 rfl fun w0 M H => ?_
  refine r_seq ?_
  refine r_region ?_
  refine r_p (p_assign rfl) rfl ?_
  refine r_nil ?_
  refine r_seq ?_
  refine r_seq ?_
  refine r_region ?_
  refine r_p (p_move rfl) rfl ?_
  refine r_p (p_bin rfl rfl b_seq) rfl ?_
  refine r_p (p_move rfl) rfl ?_
  refine r_gp [] rfl rfl trivial (fun hg1 => p_move rfl) rfl ?_
  refine r_gp [(6, _)] rfl rfl ⟨rfl, trivial⟩ (fun hg2 => p_len_str Try.underlying9 rfl) rfl ?_
  refine r_gp [(6, _), (7, _)] rfl rfl ⟨rfl, rfl, trivial⟩ (fun hg3 => p_bin rfl rfl b_gt) rfl ?_
  refine r_p (p_pick rfl rfl rfl (by first | exact pick_and | exact pick_or |  rfl)) rfl ?_
  refine r_p (p_move rfl) rfl ?_
  refine r_split (t := 10) rfl (fun h4 => ?_) (fun h4 => ?_)
  · (try simp only [decide_eq_true_eq, decide_eq_false_iff_not, Bool.and_eq_true, Bool.or_eq_true, Bool.and_eq_false_iff, Bool.or_eq_false_iff, Bool.not_eq_true, Bool.not_eq_false, Bool.not_eq_true', Bool.not_eq_false', Bool.not_not, bne_iff_ne, beq_iff_eq] at h4)
    have q7 := h4
    refine r_gno rfl rfl rfl rfl ?_
    refine r_gno rfl rfl rfl rfl ?_
    refine r_gno rfl rfl rfl rfl ?_
    refine r_p (p_pick rfl rfl rfl (by first | exact pick_and | exact pick_or |  rfl)) rfl ?_
    refine r_p (p_move rfl) rfl ?_
    refine r_split (t := 15) rfl (fun h5 => ?_) (fun h5 => ?_)
    · (try simp only [decide_eq_true_eq, decide_eq_false_iff_not, Bool.and_eq_true, Bool.or_eq_true, Bool.and_eq_false_iff, Bool.or_eq_false_iff, Bool.not_eq_true, Bool.not_eq_false, Bool.not_eq_true', Bool.not_eq_false', Bool.not_not, bne_iff_ne, beq_iff_eq] at h5)
      have q12 := h5
      refine r_gno rfl rfl rfl rfl ?_
      refine r_gno rfl rfl rfl rfl ?_
      refine r_gno rfl rfl rfl rfl ?_
      refine r_gno rfl rfl rfl rfl ?_
      refine r_gno rfl rfl rfl rfl ?_
      refine r_p (p_pick rfl rfl rfl (by first | exact pick_and | exact pick_or |  rfl)) rfl ?_
      refine r_nil ?_
      refine r_cond rfl (fun h6 => ?_) (fun h6 => ?_)
      · refine r_seq ?_
        refine r_region ?_
        refine r_p (p_assign rfl) rfl ?_
        refine r_nil ?_
        refine r_cret ?_
        refine r_ret () trivial rfl (rs1 (rv_tmp rfl)) (congrArg Value.bool (ident_no (.inl q7)).symm) [] [] rfl rfl rfl
      · exact absurd h6 (by simp)
    · (try simp only [decide_eq_true_eq, decide_eq_false_iff_not, Bool.and_eq_true, Bool.or_eq_true, Bool.and_eq_false_iff, Bool.or_eq_false_iff, Bool.not_eq_true, Bool.not_eq_false, Bool.not_eq_true', Bool.not_eq_false', Bool.not_not, bne_iff_ne, beq_iff_eq] at h5)
      have q12 := h5
      exact absurd h5 (by simp)
  · (try simp only [decide_eq_true_eq, decide_eq_false_iff_not, Bool.and_eq_true, Bool.or_eq_true, Bool.and_eq_false_iff, Bool.or_eq_false_iff, Bool.not_eq_true, Bool.not_eq_false, Bool.not_eq_true', Bool.not_eq_false', Bool.not_not, bne_iff_ne, beq_iff_eq] at h4)
    have q7 := h4
    have hs0 : 0 < s.size := Nat.pos_of_ne_zero fun e => by have := ba_nil.2 e; subst this; exact absurd q7.1 (by decide)
    refine r_gyes rfl rfl ?_
    refine r_call (xs := []) keywords_spec cb88 [] [] [11] [] rfl rfl rfl rfl rfl rfl rfl rfl (fun _ _ => rfl) (fun _ _ _ => rfl) rfl (fun v11 _ => ?_)
    refine r_freeze 11 21 rfl own_to_sl ?_
    refine r_gyes rfl rfl ?_
    refine r_p (p_move rfl) rfl ?_
    refine r_gyes rfl rfl ?_
    refine r_call (xs := [.tmp 11, .tmp 12]) (contains_spec v11 kwL (by decide) s) cb87 [] [(false, 21)] [] [] rfl rfl rfl rfl rfl rfl rfl rfl (fun _ _ => rfl) (fun _ _ _ => rfl) rfl (fun _ _ => ?_)
    refine r_p (p_pick rfl rfl rfl (by first | exact pick_and | exact pick_or |  rfl)) rfl ?_
    refine r_p (p_move rfl) rfl ?_
    refine r_split (t := 15) rfl (fun h7 => ?_) (fun h7 => ?_)
    · (try simp only [decide_eq_true_eq, decide_eq_false_iff_not, Bool.and_eq_true, Bool.or_eq_true, Bool.and_eq_false_iff, Bool.or_eq_false_iff, Bool.not_eq_true, Bool.not_eq_false, Bool.not_eq_true', Bool.not_eq_false', Bool.not_not, bne_iff_ne, beq_iff_eq] at h7)
      have q12 := h7
      refine r_gno rfl rfl rfl rfl ?_
      refine r_gno rfl rfl rfl rfl ?_
      refine r_gno rfl rfl rfl rfl ?_
      refine r_gno rfl rfl rfl rfl ?_
      refine r_gno rfl rfl rfl rfl ?_
      refine r_p (p_pick rfl rfl rfl (by first | exact pick_and | exact pick_or |  rfl)) rfl ?_
      refine r_nil ?_
      refine r_cond rfl (fun h8 => ?_) (fun h8 => ?_)
      · refine r_seq ?_
        refine r_region ?_
        refine r_p (p_assign rfl) rfl ?_
        refine r_nil ?_
        refine r_cret ?_
        refine r_ret () trivial rfl (rs1 (rv_tmp rfl)) (congrArg Value.bool (ident_no (.inr (.inl (by rcases q12 with q | q; exact absurd q (by simp); exact q)))).symm) [] [] rfl rfl rfl
      · exact absurd h8 (by simp)
    · (try simp only [decide_eq_true_eq, decide_eq_false_iff_not, Bool.and_eq_true, Bool.or_eq_true, Bool.and_eq_false_iff, Bool.or_eq_false_iff, Bool.not_eq_true, Bool.not_eq_false, Bool.not_eq_true', Bool.not_eq_false', Bool.not_not, bne_iff_ne, beq_iff_eq] at h7)
      have q12 := h7
      refine r_gyes rfl rfl ?_
      refine r_p (p_move rfl) rfl ?_
      refine r_gyes rfl rfl ?_
      refine r_p (p_idx_str (j := 0) Try.underlying9 rfl rfl rfl hs0) rfl ?_
      refine r_gyes rfl rfl ?_
      refine r_p (p_conv Try.underlying5 Try.underlying21 rfl (by first | exact w_i32 (by omega) (by omega) | rfl)) rfl ?_
      refine r_gyes rfl rfl ?_
      refine r_call (xs := [.tmp 18]) (letter_spec _) cb89 [] [] [] [] rfl rfl rfl rfl rfl rfl rfl rfl (fun _ _ => rfl) (fun _ _ _ => rfl) rfl (fun _ _ => ?_)
      refine r_gyes rfl rfl ?_
      refine r_p (p_not rfl) rfl ?_
      refine r_p (p_pick rfl rfl rfl (by first | exact pick_and | exact pick_or |  rfl)) rfl ?_
      refine r_nil ?_
      refine r_cond rfl (fun h9 => ?_) (fun h9 => ?_)
      · have q0 := h9
        refine r_seq ?_
        refine r_region ?_
        refine r_p (p_assign rfl) rfl ?_
        refine r_nil ?_
        refine r_cret ?_
        refine r_ret () trivial rfl (rs1 (rv_tmp rfl)) (congrArg Value.bool (ident_no (.inr (.inr ⟨hs0, q0⟩))).symm) [] [] rfl rfl rfl
      · have q0 := h9
        refine r_skip ?_
        refine r_seq ?_
        refine r_region ?_
        refine r_p (p_move rfl) rfl ?_
        refine r_call (xs := [.tmp 22, .func 91]) (span_spec s 91 (fun c => ltr c || dgt c) has cb91 hz (fun c => ident1_spec c)) cb90 [] [] [] [] rfl rfl rfl rfl rfl rfl rfl rfl (fun _ _ => rfl) (fun _ _ _ => rfl) rfl (fun k hk => ?_)
        refine r_p (p_move rfl) rfl ?_
        refine r_p (p_len_str Try.underlying9 rfl) rfl ?_
        refine r_p (p_bin rfl rfl b_eq) rfl ?_
        refine r_p (p_assign rfl) rfl ?_
        refine r_nil ?_
        refine r_cret ?_
        refine r_ret () trivial rfl (rs1 (rv_tmp rfl)) (congrArg Value.bool (ident_yes q7 q12 hs0 q0 hk)) [] [] rfl rfl rfl

end Go.Proofs.Ytdcbbkpdlcojfaa
