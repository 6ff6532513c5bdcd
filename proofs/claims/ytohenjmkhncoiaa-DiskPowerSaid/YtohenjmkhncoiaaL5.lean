/-
  The walk of DiskPower. No condition.
-/
import Derived.Test.YtohenjmkhncoiaaP2
namespace Go.Proofs.Ytohenjmkhncoiaa
set_option linter.unusedSimpArgs false
set_option linter.unusedVariables false
open Go.RowKit

set_option maxRecDepth 100000 in
theorem syncT_spec (D : Nat) (v : SV) (m : Nat) (armed : Bool) (left : Int) (dur : List ByteArray) (fr : List (Int × ByteArray)) :
    Spec Try.prog 21 [.pointer (some ⟨D, 0, none⟩)] [row D 94 (dC v (some m) true armed left), mp mkI Prod.fst vS (some m) fr, own 9 1 eS (sv v) dur] [] (X := List (Int × ByteArray) × DR) (fun x => x.1.Perm fr ∧ x.2 = dstep true armed left dur fr none x.1) (fun x => .int .i64 x.2.e) (fun x => [row D 94 (dC v (some m) x.2.off armed x.2.left), mp mkI Prod.fst vS (some m) x.2.fr, own 9 1 eS (sv v) x.2.dur]) (fun _ => []) := by
  refine r_enter Try.func21 rfl Try.ntmps21 rfl fun w0 M H => ?_
  refine r_seq ?_
  refine r_region ?_
  refine r_p (p_assign rfl) rfl ?_
  refine r_nil ?_
  refine r_seq ?_
  refine r_seq ?_
  refine r_region ?_
  refine r_p (p_move rfl) rfl ?_
  refine r_p (p_bin rfl rfl (b_eqPn Try.underlying24)) rfl ?_
  refine r_p (p_move rfl) rfl ?_
  refine r_split (t := 7) rfl (fun h1 => False.elim (by simp at h1)) (fun h1 => ?_)
  refine r_gyes rfl rfl ?_
  refine r_p (p_move rfl) rfl ?_
  refine r_gyes rfl rfl ?_
  refine r_p (p_nilCheck rfl) rfl ?_
  refine r_gyes rfl rfl ?_
  refine r_p (p_field0 fo94_2 rfl) rfl ?_
  refine r_gyes rfl rfl ?_
  refine r_p (p_load1 t4 rfl rfl (g_row1 (k := 0) rfl rfl)) rfl ?_
  refine r_p (p_pick rfl rfl rfl (by first | exact pick_and | exact pick_or |  rfl)) rfl ?_
  refine r_p (p_move rfl) rfl ?_
  refine r_split (t := 13) rfl (fun h2 => ?_) (fun h2 => False.elim (by simp at h2))
  refine r_gno rfl rfl rfl rfl ?_
  refine r_gno rfl rfl rfl rfl ?_
  refine r_gno rfl rfl rfl rfl ?_
  refine r_p (p_pick rfl rfl rfl (by first | exact pick_and | exact pick_or |  rfl)) rfl ?_
  refine r_nil ?_
  refine r_cond rfl (fun h3 => ?_) (fun h3 => ?_)
  · (try simp only [decide_eq_true_eq, decide_eq_false_iff_not, Bool.and_eq_true, Bool.or_eq_true, Bool.and_eq_false_iff, Bool.or_eq_false_iff, Bool.not_eq_true, Bool.not_eq_false, Bool.not_eq_true', Bool.not_eq_false', Bool.not_not, bne_iff_ne, beq_iff_eq] at h3)
    refine r_seq ?_
    refine r_region ?_
    refine r_p (p_assign rfl) rfl ?_
    refine r_nil ?_
    refine r_cret ?_
    refine r_ret (fr, dstep true armed left dur fr none fr) ⟨List.Perm.refl _, rfl⟩ rfl (rs1 (rv_tmp rfl)) rfl [0, 1, 2] [] rfl rfl rfl
  · exact absurd h3 (by simp)
set_option maxRecDepth 100000 in
theorem sync_spec (D : Nat) (v : SV) (m : Nat) (off armed : Bool) (left : Int) (dur : List ByteArray) (fr : List (Int × ByteArray)) (hb : ∀ p ∈ fr, 0 ≤ p.1 ∧ p.1 < dur.length) :
    Spec Try.prog 21 [.pointer (some ⟨D, 0, none⟩)] [row D 94 (dC v (some m) off armed left), mp mkI Prod.fst vS (some m) fr, own 9 1 eS (sv v) dur] [] (X := List (Int × ByteArray) × DR) (fun x => x.1.Perm fr ∧ x.2 = dstep off armed left dur fr none x.1) (fun x => .int .i64 x.2.e) (fun x => [row D 94 (dC v (some m) x.2.off armed x.2.left), mp mkI Prod.fst vS (some m) x.2.fr, own 9 1 eS (sv v) x.2.dur]) (fun _ => []) := by
  cases off with
  | true =>
    intro w M H hL
    obtain ⟨F, hF⟩ := hL
    have hro : LOk w M H [row D 94 (dC v (some m) true armed left), mp mkI Prod.fst vS (some m) fr, own 9 1 eS (sv v) dur] [] w := ⟨F, hF⟩
    exact syncT_spec D v m armed left dur fr w M H hro
  | false =>
    refine (sync_on D v m armed left dur fr hb).mono fun l hl => ⟨(l, dstep false armed left dur fr none l), ⟨hl, rfl⟩, ?_, ?_, rfl⟩
    · rw [dstep_sync]; cases pwO false armed left <;> rfl
    · rw [dstep_sync]; cases pwO false armed left <;> rfl
set_option maxRecDepth 100000 in
theorem write_spec' (D : Nat) (v : SV) (m : Nat) (off armed : Bool) (left : Int) (dur : List ByteArray) (fr : List (Int × ByteArray)) (n : Int) (s : ByteArray) :
    Spec Try.prog 19 [.pointer (some ⟨D, 0, none⟩), .int .i64 n, .string s] [row D 94 (dC v (some m) off armed left), mp mkI Prod.fst vS (some m) fr] [own 9 1 eS (sv v) dur] (X := DR) (fun d => d = dstep off armed left dur fr (some (n, s)) []) (fun d => .int .i64 d.e) (fun d => [row D 94 (dC v (some m) d.off armed d.left), mp mkI Prod.fst vS (some m) d.fr]) (fun _ => []) :=
  (write_spec D v m off armed left dur fr n s).mono fun _ _ => ⟨dstep off armed left dur fr (some (n, s)) [], rfl, rfl, rfl, rfl⟩

/-- The disk at the head of round k. -/
def offK (n : Int) (k : Nat) : Bool := decide (n < (k : Int))
def leftK (n : Int) (k : Nat) : Int := if (k : Int) ≤ n then n - k else -1
theorem pwK (n : Int) (k : Nat) : pwO (offK n k) true (leftK n k) = decide (n ≤ (k : Int)) := by
  unfold pwO offK leftK
  by_cases h : (k : Int) ≤ n
  · rw [if_pos h, Bool.eq_iff_iff]
    simp
    omega
  · rw [if_neg h, Bool.eq_iff_iff]
    simp
    omega
theorem offK_succ (n : Int) (k : Nat) : decide (n ≤ (k : Int)) = offK n (k + 1) := by
  unfold offK
  rw [Bool.eq_iff_iff]
  simp
  omega
theorem leftK_succ (n : Int) (k : Nat) (hn : n < 256) : (if offK n k = true then leftK n k else IntKind.i64.wrap (leftK n k - 1)) = leftK n (k + 1) := by
  unfold offK leftK
  by_cases h : n < (k : Int)
  · rw [if_pos (by simpa using h), if_neg (by omega), if_neg (by omega)]
  · rw [if_neg (by simpa using h), if_pos (by omega)]
    by_cases h2 : ((k + 1 : Nat) : Int) ≤ n
    · rw [if_pos h2, w_i64 (by omega) (by omega)]; omega
    · rw [if_neg h2, w_i64 (by omega) (by omega)]; omega
/-- What a call gives in round k. -/
structure Rnd (n : Int) (k : Nat) (d : DR) : Prop where
  e : d.e = if n ≤ (k : Int) then 50 else 0
  o : d.off = offK n (k + 1)
  l : d.left = leftK n (k + 1)
  len : d.dur.length = 8
  fr : ∀ p ∈ d.fr, 0 ≤ p.1 ∧ p.1 < 8
theorem rk_sync (n : Int) (k : Nat) (hn : n < 256) (dur : List ByteArray) (fr l : List (Int × ByteArray)) (hd : dur.length = 8) (hf : ∀ p ∈ fr, 0 ≤ p.1 ∧ p.1 < 8) : Rnd n k (dstep (offK n k) true (leftK n k) dur fr none l) := by
  rw [dstep_sync, pwK]
  by_cases h : n ≤ (k : Int)
  · rw [decide_eq_true h, if_pos rfl]
    exact ⟨(if_pos h).symm, by rw [← offK_succ, decide_eq_true h], (leftK_succ n k hn), hd, hf⟩
  · rw [decide_eq_false h, if_neg (by simp)]
    refine ⟨(if_neg h).symm, by rw [← offK_succ, decide_eq_false h], ?_, (putL_len l dur).trans hd, by simp⟩
    show IntKind.i64.wrap (leftK n k - 1) = _
    rw [← leftK_succ n k hn, if_neg (by unfold offK; simp; omega)]
theorem rk_wr (n : Int) (k : Nat) (hn : n < 256) (dur : List ByteArray) (fr l : List (Int × ByteArray)) (hd : dur.length = 8) (hf : ∀ p ∈ fr, 0 ≤ p.1 ∧ p.1 < 8) (a : Int) (s : ByteArray) (ha : 0 ≤ a ∧ a < 8) (hs : s.size = 64) : Rnd n k (dstep (offK n k) true (leftK n k) dur fr (some (a, s)) l) := by
  rw [dstep_wr _ _ _ _ _ _ _ _ (by omega) hs, pwK]
  by_cases h : n ≤ (k : Int)
  · rw [decide_eq_true h, if_pos rfl]
    exact ⟨(if_pos h).symm, by rw [← offK_succ, decide_eq_true h], (leftK_succ n k hn), hd, hf⟩
  · rw [decide_eq_false h, if_neg (by simp)]
    refine ⟨(if_neg h).symm, by rw [← offK_succ, decide_eq_false h], ?_, hd, fun p hp => ?_⟩
    · show IntKind.i64.wrap (leftK n k - 1) = _
      rw [← leftK_succ n k hn, if_neg (by unfold offK; simp; omega)]
    · rcases List.mem_cons.1 hp with rfl | hp
      · exact ha
      · exact hf p (List.mem_filter.1 hp).1

set_option maxHeartbeats 4000000 in
set_option maxRecDepth 100000 in
theorem power_law (n : Int) (hn : 0 ≤ n ∧ n < 256) (syncs : Bool) (more : Int) (hmo : 0 ≤ more ∧ more < 256) :
    Spec Try.prog 5 [.int .u8 n, .bool syncs, .int .u8 more] [] [] (X := Unit) (fun _ => True) (fun _ => .bool true) (fun _ => []) (fun _ => []) := by
  refine r_enter Try.func5 rfl Try.ntmps5 rfl fun w0 M H => ?_
  refine r_seq ?_
  refine r_region ?_
  refine r_p (p_assign rfl) rfl ?_
  refine r_nil ?_
  refine r_seq ?_
  refine r_region ?_
  refine r_call (xs := []) sanity_spec cb15 [] [] [] [] rfl rfl rfl rfl rfl rfl rfl rfl (fun _ _ => rfl) (fun _ _ _ => rfl) rfl (fun _ _ => ?_)
  refine r_p (p_assign rfl) rfl ?_
  refine r_nil ?_
  refine r_seq ?_
  refine r_region ?_
  refine r_call (xs := [.const (.int .i64 8)]) (newdisk_spec 8) cb16 [] [] [60, 61, 62] [] rfl rfl rfl rfl rfl rfl rfl rfl (fun _ _ => rfl) (fun _ _ _ => rfl) rfl (fun d3 _ => ?_)
  obtain ⟨D, v, m⟩ := d3
  dsimp only
  refine r_conva (k := 62) (A' := own 9 1 eS (sv v) (List.replicate 8 zsec)) rfl (fun _ _ h => h) ?_
  refine r_p (p_assign rfl) rfl ?_
  refine r_nil ?_
  refine r_seq ?_
  refine r_region ?_
  refine r_p (p_move rfl) rfl ?_
  refine r_p (p_move rfl) rfl ?_
  refine r_p (p_conv Try.underlying5 Try.underlying3 rfl (by first | exact w_i64 (by omega) (by omega) | rfl)) rfl ?_
  refine r_call (xs := [.tmp 20, .tmp 22]) (arm_spec D v (some m) false false 0 n) cb23 [60] [] [60] [] rfl rfl rfl rfl rfl rfl rfl rfl (fun _ _ => rfl) (fun _ _ _ => rfl) rfl (fun _ _ => ?_)
  refine r_conva (k := 60) (A' := row D 94 (dC v (some m) (offK n 0) true (leftK n 0))) rfl (fun _ _ h => by rw [show offK n 0 = false by unfold offK; simp; omega, show leftK n 0 = n by unfold leftK; rw [if_pos (by omega)]; omega]; rw [show (if false = true then false else decide (n ≥ 0)) = true by simp; omega, show (if false = true then (0 : Int) else n) = n by simp] at h; exact h) ?_
  refine r_nil ?_
  refine r_seq ?_
  refine r_seq ?_
  refine r_region ?_
  refine r_p (p_assign rfl) rfl ?_
  refine r_nil ?_
  refine r_block ?_
  refine r_loop (X := Nat × List ByteArray × List (Int × ByteArray)) (fun x => x.1 ≤ (n.toNat + (more % 20).toNat + 1) ∧ x.2.1.length = 8 ∧ ∀ p ∈ x.2.2, 0 ≤ p.1 ∧ p.1 < 8) (fun x => [(0, .int .u8 n), (1, .bool syncs), (2, .int .u8 more), (7, .bool true), (8, .pointer (some ⟨D, 0, none⟩)), (9, .int .i64 (x.1 : Int))]) (fun x => [(60, row D 94 (dC v (some m) (offK n x.1) true (leftK n x.1))), (61, mp mkI Prod.fst vS (some m) x.2.2), (62, own 9 1 eS (sv v) x.2.1)]) (fun x => []) (fun x => (n.toNat + (more % 20).toNat + 1) - x.1) (0, List.replicate 8 zsec, []) ⟨Nat.zero_le _, by simp, by simp⟩ rfl rfl rfl (fun x hx0 => ?_)
  obtain ⟨k, dur, fr⟩ := x
  dsimp only at hx0 ⊢
  have hk0 := hx0.1
  refine r_seq ?_
  refine r_seq ?_
  refine r_region ?_
  refine r_p (p_move rfl) rfl ?_
  refine r_p (p_move rfl) rfl ?_
  refine r_p (p_conv Try.underlying5 Try.underlying3 rfl (by first | exact w_i64 (by omega) (by omega) | rfl)) rfl ?_
  refine r_p (p_move rfl) rfl ?_
  refine r_p (p_bin rfl rfl (b_rem (by omega) (tmod_pos (by omega)))) rfl ?_
  refine r_p (p_conv Try.underlying5 Try.underlying3 rfl (by first | exact w_i64 (by omega) (by omega) | rfl)) rfl ?_
  refine r_p (p_bin rfl rfl (b_add (by first | exact w_i64 (by omega) (by omega) | rfl))) rfl ?_
  refine r_p (p_bin rfl rfl (b_add (by first | exact w_i64 (by omega) (by omega) | rfl))) rfl ?_
  refine r_p (p_bin rfl rfl b_lt) rfl ?_
  refine r_nil ?_
  refine r_cond rfl (fun h1 => ?_) (fun h1 => ?_)
  · (try simp only [decide_eq_true_eq, decide_eq_false_iff_not, Bool.and_eq_true, Bool.or_eq_true, Bool.and_eq_false_iff, Bool.or_eq_false_iff, Bool.not_eq_true, Bool.not_eq_false, Bool.not_eq_true', Bool.not_eq_false', Bool.not_not, bne_iff_ne, beq_iff_eq] at h1)
    have hk : k < (n.toNat + (more % 20).toNat + 1) := by omega
    refine r_skip ?_
    refine r_seq ?_
    refine r_block ?_
    refine r_seq ?_
    refine r_region ?_
    refine r_p (p_assign rfl) rfl ?_
    refine r_nil ?_
    refine r_seq ?_
    refine r_seq ?_
    refine r_region ?_
    refine r_p (p_move rfl) rfl ?_
    refine r_p (p_move rfl) rfl ?_
    refine r_p (p_conv Try.underlying5 Try.underlying3 rfl (by first | exact w_i64 (by omega) (by omega) | rfl)) rfl ?_
    refine r_p (p_bin rfl rfl b_ge) rfl ?_
    refine r_nil ?_
    refine r_cond rfl (fun h2 => ?_) (fun h2 => ?_)
    · (try simp only [decide_eq_true_eq, decide_eq_false_iff_not, Bool.and_eq_true, Bool.or_eq_true, Bool.and_eq_false_iff, Bool.or_eq_false_iff, Bool.not_eq_true, Bool.not_eq_false, Bool.not_eq_true', Bool.not_eq_false', Bool.not_not, bne_iff_ne, beq_iff_eq] at h2)
      have hwant := h2
      refine r_region ?_
      refine r_p (p_assign rfl) rfl ?_
      refine r_nil ?_
      refine r_seq ?_
      refine r_region ?_
      refine r_p (p_move rfl) rfl ?_
      refine r_p (p_move rfl) rfl ?_
      refine r_gp [] rfl rfl trivial (fun hg3 => p_move rfl) rfl ?_
      refine r_gp [(41, _)] rfl rfl ⟨rfl, trivial⟩ (fun hg4 => p_bin rfl rfl (b_rem (by omega) (tmod_pos (by omega)))) rfl ?_
      refine r_gp [(41, _), (42, _)] rfl rfl ⟨rfl, rfl, trivial⟩ (fun hg5 => p_bin rfl rfl b_eq) rfl ?_
      refine r_p (p_pick rfl rfl rfl (by first | exact pick_and | exact pick_or |  rfl)) rfl ?_
      refine r_nil ?_
      refine r_cond rfl (fun h6 => ?_) (fun h6 => ?_)
      · refine r_seq ?_
        refine r_region ?_
        refine r_p (p_move rfl) rfl ?_
        refine r_call (xs := [.tmp 45]) (sync_spec D v m (offK n k) true (leftK n k) dur fr (by rw [hx0.2.1]; exact hx0.2.2)) cb21 [60, 61, 62] [] [60, 61, 62] [] rfl rfl rfl rfl rfl rfl rfl rfl (fun _ _ => rfl) (fun _ _ _ => rfl) rfl (fun y hy => ?_)
        obtain ⟨l, d⟩ := y
        obtain ⟨hl, hd⟩ := hy
        dsimp only at hl hd ⊢
        have hrk := rk_sync n k hn.2 dur fr l hx0.2.1 hx0.2.2
        rw [← hd] at hrk
        refine r_p (p_move rfl) rfl ?_
        refine r_p (p_bin rfl rfl b_ne) rfl ?_
        refine r_nil ?_
        refine r_cond rfl (fun h7 => ?_) (fun h7 => ?_)
        · (exact absurd h7 (by rw [hrk.e, if_pos (by omega)]; simp))
        · (try simp only [decide_eq_true_eq, decide_eq_false_iff_not, Bool.and_eq_true, Bool.or_eq_true, Bool.and_eq_false_iff, Bool.or_eq_false_iff, Bool.not_eq_true, Bool.not_eq_false, Bool.not_eq_true', Bool.not_eq_false', Bool.not_not, bne_iff_ne, beq_iff_eq] at h7)
          refine r_skip ?_
          refine r_region ?_
          refine r_p (p_move rfl) rfl ?_
          refine r_p (p_bin rfl rfl (b_add (by first | exact w_i64 (by omega) (by omega) | rfl))) rfl ?_
          refine r_p (p_assign rfl) rfl ?_
          refine r_nil ?_
          refine r_here (k + 1, d.dur, d.fr) ⟨⟨by dsimp only; omega, hrk.len, hrk.fr⟩, by dsimp only; omega⟩ rfl (by rw [hrk.o, hrk.l]; rfl) rfl
      · refine r_seq ?_
        refine r_region ?_
        refine r_p (p_move rfl) rfl ?_
        refine r_p (p_move rfl) rfl ?_
        refine r_p (p_bin rfl rfl (b_rem (by omega) (tmod_pos (by omega)))) rfl ?_
        refine r_p (p_move rfl) rfl ?_
        refine r_p (p_conv Try.underlying3 Try.underlying32 rfl (by first | exact w_u32 (by omega) (by omega) | rfl)) rfl ?_
        refine r_call (xs := [.tmp 53, .const (.int .i64 64)]) (fill_spec (k : Int) 64 (by decide) (by decide)) cb18 [] [] [] [] rfl rfl rfl rfl rfl rfl rfl rfl (fun _ _ => rfl) (fun _ _ _ => rfl) rfl (fun _ _ => ?_)
        refine r_call (xs := [.tmp 49, .tmp 51, .tmp 54]) (write_spec' D v m (offK n k) true (leftK n k) dur fr ((k : Int) % 8) (fillS (k : Int) (64 : Int).toNat)) cb19 [60, 61] [(true, 62)] [60, 61] [] rfl rfl rfl rfl rfl rfl rfl rfl (fun _ _ => rfl) (fun _ _ _ => rfl) rfl (fun d hd => ?_)
        have hrk := rk_wr n k hn.2 dur fr [] hx0.2.1 hx0.2.2 ((k : Int) % 8) (fillS (k : Int) (64 : Int).toNat) (by omega) (fillS_size _ _)
        have hdd : d.dur = dur := by rw [hd]; rfl
        rw [← hd] at hrk
        refine r_p (p_move rfl) rfl ?_
        refine r_p (p_bin rfl rfl b_ne) rfl ?_
        refine r_nil ?_
        refine r_cond rfl (fun h8 => ?_) (fun h8 => ?_)
        · (exact absurd h8 (by rw [hrk.e, if_pos (by omega)]; simp))
        · (try simp only [decide_eq_true_eq, decide_eq_false_iff_not, Bool.and_eq_true, Bool.or_eq_true, Bool.and_eq_false_iff, Bool.or_eq_false_iff, Bool.not_eq_true, Bool.not_eq_false, Bool.not_eq_true', Bool.not_eq_false', Bool.not_not, bne_iff_ne, beq_iff_eq] at h8)
          refine r_skip ?_
          refine r_region ?_
          refine r_p (p_move rfl) rfl ?_
          refine r_p (p_bin rfl rfl (b_add (by first | exact w_i64 (by omega) (by omega) | rfl))) rfl ?_
          refine r_p (p_assign rfl) rfl ?_
          refine r_nil ?_
          refine r_here (k + 1, dur, d.fr) ⟨⟨by dsimp only; omega, hx0.2.1, hrk.fr⟩, by dsimp only; omega⟩ rfl (by rw [hrk.o, hrk.l]; rfl) rfl
    · (try simp only [decide_eq_true_eq, decide_eq_false_iff_not, Bool.and_eq_true, Bool.or_eq_true, Bool.and_eq_false_iff, Bool.or_eq_false_iff, Bool.not_eq_true, Bool.not_eq_false, Bool.not_eq_true', Bool.not_eq_false', Bool.not_not, bne_iff_ne, beq_iff_eq] at h2)
      have hwant := h2
      refine r_skip ?_
      refine r_seq ?_
      refine r_region ?_
      refine r_p (p_move rfl) rfl ?_
      refine r_p (p_move rfl) rfl ?_
      refine r_gp [] rfl rfl trivial (fun hg9 => p_move rfl) rfl ?_
      refine r_gp [(41, _)] rfl rfl ⟨rfl, trivial⟩ (fun hg10 => p_bin rfl rfl (b_rem (by omega) (tmod_pos (by omega)))) rfl ?_
      refine r_gp [(41, _), (42, _)] rfl rfl ⟨rfl, rfl, trivial⟩ (fun hg11 => p_bin rfl rfl b_eq) rfl ?_
      refine r_p (p_pick rfl rfl rfl (by first | exact pick_and | exact pick_or |  rfl)) rfl ?_
      refine r_nil ?_
      refine r_cond rfl (fun h12 => ?_) (fun h12 => ?_)
      · refine r_seq ?_
        refine r_region ?_
        refine r_p (p_move rfl) rfl ?_
        refine r_call (xs := [.tmp 45]) (sync_spec D v m (offK n k) true (leftK n k) dur fr (by rw [hx0.2.1]; exact hx0.2.2)) cb21 [60, 61, 62] [] [60, 61, 62] [] rfl rfl rfl rfl rfl rfl rfl rfl (fun _ _ => rfl) (fun _ _ _ => rfl) rfl (fun y hy => ?_)
        obtain ⟨l, d⟩ := y
        obtain ⟨hl, hd⟩ := hy
        dsimp only at hl hd ⊢
        have hrk := rk_sync n k hn.2 dur fr l hx0.2.1 hx0.2.2
        rw [← hd] at hrk
        refine r_p (p_move rfl) rfl ?_
        refine r_p (p_bin rfl rfl b_ne) rfl ?_
        refine r_nil ?_
        refine r_cond rfl (fun h13 => ?_) (fun h13 => ?_)
        · (exact absurd h13 (by rw [hrk.e, if_neg (by omega)]; simp))
        · (try simp only [decide_eq_true_eq, decide_eq_false_iff_not, Bool.and_eq_true, Bool.or_eq_true, Bool.and_eq_false_iff, Bool.or_eq_false_iff, Bool.not_eq_true, Bool.not_eq_false, Bool.not_eq_true', Bool.not_eq_false', Bool.not_not, bne_iff_ne, beq_iff_eq] at h13)
          refine r_skip ?_
          refine r_region ?_
          refine r_p (p_move rfl) rfl ?_
          refine r_p (p_bin rfl rfl (b_add (by first | exact w_i64 (by omega) (by omega) | rfl))) rfl ?_
          refine r_p (p_assign rfl) rfl ?_
          refine r_nil ?_
          refine r_here (k + 1, d.dur, d.fr) ⟨⟨by dsimp only; omega, hrk.len, hrk.fr⟩, by dsimp only; omega⟩ rfl (by rw [hrk.o, hrk.l]; rfl) rfl
      · refine r_seq ?_
        refine r_region ?_
        refine r_p (p_move rfl) rfl ?_
        refine r_p (p_move rfl) rfl ?_
        refine r_p (p_bin rfl rfl (b_rem (by omega) (tmod_pos (by omega)))) rfl ?_
        refine r_p (p_move rfl) rfl ?_
        refine r_p (p_conv Try.underlying3 Try.underlying32 rfl (by first | exact w_u32 (by omega) (by omega) | rfl)) rfl ?_
        refine r_call (xs := [.tmp 53, .const (.int .i64 64)]) (fill_spec (k : Int) 64 (by decide) (by decide)) cb18 [] [] [] [] rfl rfl rfl rfl rfl rfl rfl rfl (fun _ _ => rfl) (fun _ _ _ => rfl) rfl (fun _ _ => ?_)
        refine r_call (xs := [.tmp 49, .tmp 51, .tmp 54]) (write_spec' D v m (offK n k) true (leftK n k) dur fr ((k : Int) % 8) (fillS (k : Int) (64 : Int).toNat)) cb19 [60, 61] [(true, 62)] [60, 61] [] rfl rfl rfl rfl rfl rfl rfl rfl (fun _ _ => rfl) (fun _ _ _ => rfl) rfl (fun d hd => ?_)
        have hrk := rk_wr n k hn.2 dur fr [] hx0.2.1 hx0.2.2 ((k : Int) % 8) (fillS (k : Int) (64 : Int).toNat) (by omega) (fillS_size _ _)
        have hdd : d.dur = dur := by rw [hd]; rfl
        rw [← hd] at hrk
        refine r_p (p_move rfl) rfl ?_
        refine r_p (p_bin rfl rfl b_ne) rfl ?_
        refine r_nil ?_
        refine r_cond rfl (fun h14 => ?_) (fun h14 => ?_)
        · (exact absurd h14 (by rw [hrk.e, if_neg (by omega)]; simp))
        · (try simp only [decide_eq_true_eq, decide_eq_false_iff_not, Bool.and_eq_true, Bool.or_eq_true, Bool.and_eq_false_iff, Bool.or_eq_false_iff, Bool.not_eq_true, Bool.not_eq_false, Bool.not_eq_true', Bool.not_eq_false', Bool.not_not, bne_iff_ne, beq_iff_eq] at h14)
          refine r_skip ?_
          refine r_region ?_
          refine r_p (p_move rfl) rfl ?_
          refine r_p (p_bin rfl rfl (b_add (by first | exact w_i64 (by omega) (by omega) | rfl))) rfl ?_
          refine r_p (p_assign rfl) rfl ?_
          refine r_nil ?_
          refine r_here (k + 1, dur, d.fr) ⟨⟨by dsimp only; omega, hx0.2.1, hrk.fr⟩, by dsimp only; omega⟩ rfl (by rw [hrk.o, hrk.l]; rfl) rfl
  · (try simp only [decide_eq_true_eq, decide_eq_false_iff_not, Bool.and_eq_true, Bool.or_eq_true, Bool.and_eq_false_iff, Bool.or_eq_false_iff, Bool.not_eq_true, Bool.not_eq_false, Bool.not_eq_true', Bool.not_eq_false', Bool.not_not, bne_iff_ne, beq_iff_eq] at h1)
    have hk : n < (k : Int) := by omega
    obtain ⟨ldx, hldx⟩ : ∃ z, leftK n k = z := ⟨_, rfl⟩
    rw [show offK n k = true by unfold offK; simpa using hk, hldx]
    have hlen8 := hx0.2.1
    refine r_exit ?_
    refine r_seq ?_
    refine r_region ?_
    refine r_p (p_move rfl) rfl ?_
    refine r_call (xs := [.tmp 59, .const (.int .i64 0)]) (read_spec D v (some m) true true ldx dur fr 0) cb27 [] [(true, 60), (true, 61), (true, 62)] [] [] rfl rfl rfl rfl rfl rfl rfl rfl (fun _ _ => rfl) (fun _ _ _ => rfl) rfl (fun _ _ => ?_)
    have hro : (rdF true dur fr 0).2 = 50 := rfl
    refine r_p (p_move rfl) rfl ?_
    refine r_p (p_extract rfl rfl) rfl ?_
    refine r_p (p_extract rfl rfl) rfl ?_
    refine r_p (p_assign rfl) rfl ?_
    refine r_p (p_assign rfl) rfl ?_
    refine r_nil ?_
    refine r_seq ?_
    refine r_region ?_
    refine r_p (p_move rfl) rfl ?_
    refine r_call (xs := [.tmp 64]) (open_off D v (some m) true ldx dur fr (by omega)) cb30 [] [(true, 60), (true, 61), (true, 62)] [] [] rfl rfl rfl rfl rfl rfl rfl rfl (fun _ _ => rfl) (fun _ _ _ => rfl) rfl (fun _ _ => ?_)
    refine r_p (p_move rfl) rfl ?_
    refine r_p (p_extract rfl rfl) rfl ?_
    refine r_p (p_extract rfl rfl) rfl ?_
    refine r_p (p_assign rfl) rfl ?_
    refine r_p (p_assign rfl) rfl ?_
    refine r_nil ?_
    refine r_seq ?_
    refine r_region ?_
    refine r_p (p_move rfl) rfl ?_
    refine r_call (xs := [.tmp 68, .const (.int .i64 5)]) (arm_spec D v (some m) true true ldx 5) cb23 [60] [] [60] [] rfl rfl rfl rfl rfl rfl rfl rfl (fun _ _ => rfl) (fun _ _ _ => rfl) rfl (fun _ _ => ?_)
    refine r_conva (k := 60) (A' := row D 94 (dC v (some m) true true ldx)) rfl (fun _ _ h => h) ?_
    refine r_nil ?_
    refine r_seq ?_
    refine r_region ?_
    refine r_p (p_move rfl) rfl ?_
    refine r_call (xs := [.tmp 70]) (sync_off D v m true ldx) cb21 [] [(true, 60)] [] [] rfl rfl rfl rfl rfl rfl rfl rfl (fun _ _ => rfl) (fun _ _ _ => rfl) rfl (fun _ _ => ?_)
    refine r_nilsl 57 (α := Int) (s := 1) (enc := eI) ?_
    refine r_p (p_assign rfl) rfl ?_
    refine r_nil ?_
    refine r_seq ?_
    refine r_region ?_
    refine r_p (p_move rfl) rfl ?_
    refine r_call (xs := [.tmp 72, .const (.slice Option.none 0 0)]) (crash_spec D v m true true ldx dur fr nilS [] (by omega)) cb25 [60, 61, 62] [(false, 57)] [60, 61, 62] [] rfl rfl rfl rfl rfl rfl rfl rfl (fun _ _ => rfl) (fun _ _ _ => rfl) rfl (fun _ _ => ?_)
    have hI := crash_inv [] dur fr dur.length
    have hdn := crash_done (q := []) (dur := dur) (fr := fr) (by rw [hx0.2.1]; exact hx0.2.2)
    obtain ⟨xx, hxx⟩ : ∃ xx, sdN [] (dur, fr, 0) dur.length = xx := ⟨_, rfl⟩
    rw [hxx] at hI hdn ⊢
    rw [hdn]
    have hxl : xx.1.length = 8 := hI.len.trans hx0.2.1
    have hrd := rdF_ok (dur := xx.1) (fr := []) (n := 7) (by omega)
    refine r_nil ?_
    refine r_seq ?_
    refine r_region ?_
    refine r_p (p_move rfl) rfl ?_
    refine r_call (xs := [.tmp 75, .const (.int .i64 7)]) (read_spec D v (some m) false false ldx xx.1 [] 7) cb27 [] [(true, 60), (true, 61), (true, 62)] [] [] rfl rfl rfl rfl rfl rfl rfl rfl (fun _ _ => rfl) (fun _ _ _ => rfl) rfl (fun _ _ => ?_)
    refine r_p (p_move rfl) rfl ?_
    refine r_p (p_extract rfl rfl) rfl ?_
    refine r_p (p_extract rfl rfl) rfl ?_
    refine r_p (p_assign rfl) rfl ?_
    refine r_p (p_assign rfl) rfl ?_
    refine r_nil ?_
    refine r_seq ?_
    refine r_region ?_
    refine r_p (p_move rfl) rfl ?_
    refine r_p (p_move rfl) rfl ?_
    refine r_split (t := 80) rfl (fun h15 => ?_) (fun h15 => False.elim (by simp [hro] at h15))
    refine r_gyes rfl rfl ?_
    refine r_p (p_move rfl) rfl ?_
    refine r_gyes rfl rfl ?_
    refine r_p (p_bin rfl rfl b_eq) rfl ?_
    refine r_p (p_pick rfl rfl rfl (by first | exact pick_and | exact pick_or |  rfl)) rfl ?_
    refine r_p (p_move rfl) rfl ?_
    refine r_split (t := 84) rfl (fun h16 => ?_) (fun h16 => False.elim (by simp [hro] at h16))
    refine r_gyes rfl rfl ?_
    refine r_p (p_move rfl) rfl ?_
    refine r_gyes rfl rfl ?_
    refine r_p (p_bin rfl rfl (b_eqPn Try.underlying49)) rfl ?_
    refine r_p (p_pick rfl rfl rfl (by first | exact pick_and | exact pick_or |  rfl)) rfl ?_
    refine r_p (p_move rfl) rfl ?_
    refine r_split (t := 88) rfl (fun h17 => ?_) (fun h17 => False.elim (by simp [hro] at h17))
    refine r_gyes rfl rfl ?_
    refine r_p (p_move rfl) rfl ?_
    refine r_gyes rfl rfl ?_
    refine r_p (p_bin rfl rfl b_eq) rfl ?_
    refine r_p (p_pick rfl rfl rfl (by first | exact pick_and | exact pick_or |  rfl)) rfl ?_
    refine r_p (p_move rfl) rfl ?_
    refine r_split (t := 92) rfl (fun h18 => ?_) (fun h18 => False.elim (by simp [hro] at h18))
    refine r_gyes rfl rfl ?_
    refine r_p (p_move rfl) rfl ?_
    refine r_gyes rfl rfl ?_
    refine r_p (p_bin rfl rfl b_eq) rfl ?_
    refine r_p (p_pick rfl rfl rfl (by first | exact pick_and | exact pick_or |  rfl)) rfl ?_
    refine r_p (p_move rfl) rfl ?_
    refine r_split (t := 96) rfl (fun h19 => ?_) (fun h19 => False.elim (by simp [hro] at h19))
    refine r_gyes rfl rfl ?_
    refine r_p (p_move rfl) rfl ?_
    refine r_gyes rfl rfl ?_
    refine r_p (p_bin rfl rfl b_eq) rfl ?_
    refine r_p (p_pick rfl rfl rfl (by first | exact pick_and | exact pick_or |  rfl)) rfl ?_
    refine r_p (p_move rfl) rfl ?_
    refine r_split (t := 100) rfl (fun h20 => ?_) (fun h20 => False.elim (by simp [hro, hrd] at h20))
    refine r_gyes rfl rfl ?_
    refine r_p (p_move rfl) rfl ?_
    refine r_gyes rfl rfl ?_
    refine r_call (xs := [.tmp 101]) (sync_on D v m false ldx xx.1 [] (by simp)) cb21 [60, 61, 62] [] [60, 61, 62] [] rfl rfl rfl rfl rfl rfl rfl rfl (fun _ _ => rfl) (fun _ _ _ => rfl) rfl (fun _ _ => ?_)
    refine r_gyes rfl rfl ?_
    refine r_p (p_bin rfl rfl b_eq) rfl ?_
    refine r_p (p_pick rfl rfl rfl (by first | exact pick_and | exact pick_or |  rfl)) rfl ?_
    refine r_p (p_assign rfl) rfl ?_
    refine r_nil ?_
    refine r_cret ?_
    refine r_ret () trivial rfl (rs1 (rv_tmp rfl)) (by simp [hro, hrd, pwO]) [] [] rfl rfl rfl

end Go.Proofs.Ytohenjmkhncoiaa
