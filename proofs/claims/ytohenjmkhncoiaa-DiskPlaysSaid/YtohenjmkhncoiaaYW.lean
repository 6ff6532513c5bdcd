/-
  The journal: opening, the last checkpoint compared. Conditions: sizes.
-/
import Derived.Test.YtohenjmkhncoiaaYV
namespace Go.Proofs.Ytohenjmkhncoiaa
set_option linter.unusedSimpArgs false
set_option linter.unusedVariables false
open Go.RowKit

/-- What opening finds, of two slots. -/
def opN (a : Option (Int × Sn)) : Int × Sn := match a with
  | some (n, s) => (n, s)
  | none => (0, zSp.sn)
def openF (a b : Option (Int × Sn)) : Int × Sn := if (opN b).1 > (opN a).1 then opN b else opN a
theorem StOk.opN {c : Int → ByteArray} {room slot : Nat} {x : Sp × Int} (h : StOk c room slot x) : (x.2, x.1.sn) = opN (storedF c room slot) := by
  unfold StOk at h
  unfold Ytohenjmkhncoiaa.opN
  cases hs : storedF c room slot with
  | none => rw [hs] at h; rw [h]
  | some u =>
    obtain ⟨n, s⟩ := u
    rw [hs] at h
    dsimp only at h ⊢
    rw [h.1, h.2]
/-- Whether the last checkpoint is a snapshot with a number. -/
noncomputable def lastB (jn : Int) (ls : Sn) (s : Sn) (n : Int) : Bool := if n = 0 then decide (jn = 0) else decide (jn = n) && decide (ls = s)

theorem op_oneT {S0 : Nat → Option (Int × Sn)} {k : Nat} {y : Sp × Int} {sp : Sp} {n : Int} (hy : (y.2, y.1.sn) = opN (S0 k)) (q0 : k = 0 → (sp, n) = (zSp, 0)) (hgt : y.2 > n) (h : k + 1 = 1) : (y.2, y.1.sn) = opN (S0 0) := by
  have hk : k = 0 := by omega
  subst hk
  exact hy
theorem op_oneF {S0 : Nat → Option (Int × Sn)} {k : Nat} {y : Sp × Int} {sp : Sp} {n : Int} (hy : (y.2, y.1.sn) = opN (S0 k)) (q0 : k = 0 → (sp, n) = (zSp, 0)) (hgt : ¬ y.2 > n) (h : k + 1 = 1) (hp : ∀ m s, S0 0 = some (m, s) → 1 ≤ m) : (n, sp.sn) = opN (S0 0) := by
  have hk : k = 0 := by omega
  subst hk
  have hz := q0 rfl
  simp only [Prod.mk.injEq] at hz
  obtain ⟨rfl, rfl⟩ := hz
  cases hs : S0 0 with
  | none => rfl
  | some u =>
    obtain ⟨m, s⟩ := u
    have h1 := hp m s hs
    rw [hs] at hy
    simp only [opN, Prod.mk.injEq] at hy
    omega
theorem op_twoT {S0 : Nat → Option (Int × Sn)} {k : Nat} {y : Sp × Int} {sp : Sp} {n : Int} (q1 : k = 1 → (n, sp.sn) = opN (S0 0)) (hy : (y.2, y.1.sn) = opN (S0 k)) (hgt : y.2 > n) (h : k + 1 = 2) : (y.2, y.1.sn) = openF (S0 0) (S0 1) := by
  have hk : k = 1 := by omega
  subst hk
  have h0 := q1 rfl
  unfold openF
  rw [← h0, ← hy, if_pos hgt]
theorem op_twoF {S0 : Nat → Option (Int × Sn)} {k : Nat} {y : Sp × Int} {sp : Sp} {n : Int} (q1 : k = 1 → (n, sp.sn) = opN (S0 0)) (hy : (y.2, y.1.sn) = opN (S0 k)) (hgt : ¬ y.2 > n) (h : k + 1 = 2) : (n, sp.sn) = openF (S0 0) (S0 1) := by
  have hk : k = 1 := by omega
  subst hk
  have h0 := q1 rfl
  unfold openF
  rw [← h0, ← hy, if_neg hgt]
theorem stored_pos {c : Int → ByteArray} {room slot : Nat} {m : Int} {s : Sn} (h : storedF c room slot = some (m, s)) : 1 ≤ m := by
  unfold storedF at h
  cases hp : (pInt.both pInt) (bytesI (c (slot : Int))) with
  | none => rw [hp] at h; simp at h
  | some u =>
    obtain ⟨⟨n, size⟩, r⟩ := u
    rw [hp] at h
    dsimp only at h
    split at h
    · simp at h
    · cases hr : readSn (bytesI (bodyC c (2 + (slot : Int) * (room : Int)) size)) with
      | none => rw [hr] at h; simp at h
      | some t =>
        rw [hr] at h
        dsimp only at h
        split at h
        · simp only [Option.some.injEq, Prod.mk.injEq] at h
          omega
        · simp at h

set_option maxRecDepth 100000 in
theorem open_nil  :
    Spec Try.prog 30 [.pointer none] [] [] (X := Unit) (fun _ => True) (fun _ => .tuple #[.pointer none, .int .i64 1]) (fun _ => []) (fun _ => []) := by
  refine r_enter Try.func30 rfl Try.ntmps30 rfl fun w0 M H => ?_
  refine r_seq ?_
  refine r_region ?_
  refine r_p (p_assign rfl) rfl ?_
  refine r_p (p_assign rfl) rfl ?_
  refine r_nil ?_
  refine r_seq ?_
  refine r_seq ?_
  refine r_region ?_
  refine r_p (p_move rfl) rfl ?_
  refine r_call (xs := [.tmp 10]) sectors_nil cb29 [] [] [] [] rfl rfl rfl rfl rfl rfl rfl rfl (fun _ _ => rfl) (fun _ _ _ => rfl) rfl (fun _ _ => ?_)
  refine r_p (p_bin rfl rfl b_lt) rfl ?_
  refine r_nil ?_
  refine r_cond rfl (fun h1 => ?_) (fun h1 => ?_)
  · (try simp only [decide_eq_true_eq, decide_eq_false_iff_not, Bool.and_eq_true, Bool.or_eq_true, Bool.and_eq_false_iff, Bool.or_eq_false_iff, Bool.not_eq_true, Bool.not_eq_false, Bool.not_eq_true', Bool.not_eq_false', Bool.not_not, bne_iff_ne, beq_iff_eq] at h1)
    refine r_seq ?_
    refine r_region ?_
    refine r_p (p_assign rfl) rfl ?_
    refine r_p (p_assign rfl) rfl ?_
    refine r_nil ?_
    refine r_cret ?_
    refine r_ret () trivial rfl (rs2 (rv_tmp rfl) (rv_tmp rfl)) rfl [] [] rfl rfl rfl
  · exact absurd h1 (by decide)
set_option maxRecDepth 100000 in
theorem open_small (D : Nat) (v : SV) (ob : Option Nat) (off armed : Bool) (left : Int) (dur : List ByteArray) (fr : List (Int × ByteArray)) (hd : dur.length < 4) :
    Spec Try.prog 30 [.pointer (some ⟨D, 0, none⟩)] [] [row D 94 (dC v ob off armed left), mp mkI Prod.fst vS ob fr, own 9 1 eS (sv v) dur] (X := Unit) (fun _ => True) (fun _ => .tuple #[.pointer none, .int .i64 1]) (fun _ => []) (fun _ => []) := by
  refine r_enter Try.func30 rfl Try.ntmps30 rfl fun w0 M H => ?_
  refine r_seq ?_
  refine r_region ?_
  refine r_p (p_assign rfl) rfl ?_
  refine r_p (p_assign rfl) rfl ?_
  refine r_nil ?_
  refine r_seq ?_
  refine r_seq ?_
  refine r_region ?_
  refine r_p (p_move rfl) rfl ?_
  refine r_call (xs := [.tmp 10]) (sectors_spec D v ob off armed left dur) cb29 [] [(false, 0), (false, 2)] [] [] rfl rfl rfl rfl rfl rfl rfl rfl (fun _ _ => rfl) (fun _ _ _ => rfl) rfl (fun _ _ => ?_)
  refine r_p (p_bin rfl rfl b_lt) rfl ?_
  refine r_nil ?_
  refine r_cond rfl (fun h1 => ?_) (fun h1 => ?_)
  · (try simp only [decide_eq_true_eq, decide_eq_false_iff_not, Bool.and_eq_true, Bool.or_eq_true, Bool.and_eq_false_iff, Bool.or_eq_false_iff, Bool.not_eq_true, Bool.not_eq_false, Bool.not_eq_true', Bool.not_eq_false', Bool.not_not, bne_iff_ne, beq_iff_eq] at h1)
    refine r_seq ?_
    refine r_region ?_
    refine r_p (p_assign rfl) rfl ?_
    refine r_p (p_assign rfl) rfl ?_
    refine r_nil ?_
    refine r_cret ?_
    refine r_ret () trivial rfl (rs2 (rv_tmp rfl) (rv_tmp rfl)) rfl [] [] rfl rfl rfl
  · (simp at h1; omega)
set_option maxRecDepth 100000 in
theorem open_off (D : Nat) (v : SV) (ob : Option Nat) (armed : Bool) (left : Int) (dur : List ByteArray) (fr : List (Int × ByteArray)) (hd : 4 ≤ dur.length) :
    Spec Try.prog 30 [.pointer (some ⟨D, 0, none⟩)] [] [row D 94 (dC v ob true armed left), mp mkI Prod.fst vS ob fr, own 9 1 eS (sv v) dur] (X := Unit) (fun _ => True) (fun _ => .tuple #[.pointer none, .int .i64 50]) (fun _ => []) (fun _ => []) := by
  refine r_enter Try.func30 rfl Try.ntmps30 rfl fun w0 M H => ?_
  refine r_seq ?_
  refine r_region ?_
  refine r_p (p_assign rfl) rfl ?_
  refine r_p (p_assign rfl) rfl ?_
  refine r_nil ?_
  refine r_seq ?_
  refine r_seq ?_
  refine r_region ?_
  refine r_p (p_move rfl) rfl ?_
  refine r_call (xs := [.tmp 10]) (sectors_spec D v ob true armed left dur) cb29 [] [(false, 0), (false, 2)] [] [] rfl rfl rfl rfl rfl rfl rfl rfl (fun _ _ => rfl) (fun _ _ _ => rfl) rfl (fun _ _ => ?_)
  refine r_p (p_bin rfl rfl b_lt) rfl ?_
  refine r_nil ?_
  refine r_cond rfl (fun h1 => ?_) (fun h1 => ?_)
  · (simp at h1; omega)
  · (try simp only [decide_eq_true_eq, decide_eq_false_iff_not, Bool.and_eq_true, Bool.or_eq_true, Bool.and_eq_false_iff, Bool.or_eq_false_iff, Bool.not_eq_true, Bool.not_eq_false, Bool.not_eq_true', Bool.not_eq_false', Bool.not_not, bne_iff_ne, beq_iff_eq] at h1)
    refine r_skip ?_
    refine r_seq ?_
    refine r_seq ?_
    refine r_region ?_
    refine r_p (p_move rfl) rfl ?_
    refine r_call (xs := [.tmp 14, .const (.int .i64 0)]) (read_spec D v ob true armed left dur fr 0) cb27 [] [(false, 0), (false, 1), (false, 2)] [] [] rfl rfl rfl rfl rfl rfl rfl rfl (fun _ _ => rfl) (fun _ _ _ => rfl) rfl (fun _ _ => ?_)
    refine r_p (p_move rfl) rfl ?_
    refine r_p (p_extract rfl rfl) rfl ?_
    refine r_p (p_extract rfl rfl) rfl ?_
    refine r_p (p_assign rfl) rfl ?_
    refine r_p (p_assign rfl) rfl ?_
    refine r_nil ?_
    refine r_seq ?_
    refine r_region ?_
    refine r_p (p_move rfl) rfl ?_
    refine r_p (p_bin rfl rfl b_ne) rfl ?_
    refine r_nil ?_
    refine r_cond rfl (fun h2 => ?_) (fun h2 => ?_)
    · (try simp only [decide_eq_true_eq, decide_eq_false_iff_not, Bool.and_eq_true, Bool.or_eq_true, Bool.and_eq_false_iff, Bool.or_eq_false_iff, Bool.not_eq_true, Bool.not_eq_false, Bool.not_eq_true', Bool.not_eq_false', Bool.not_not, bne_iff_ne, beq_iff_eq] at h2)
      refine r_seq ?_
      refine r_region ?_
      refine r_p (p_move rfl) rfl ?_
      refine r_p (p_assign rfl) rfl ?_
      refine r_p (p_assign rfl) rfl ?_
      refine r_nil ?_
      refine r_cret ?_
      refine r_ret () trivial rfl (rs2 (rv_tmp rfl) (rv_tmp rfl)) rfl [] [] rfl rfl rfl
    · (exact absurd h2 (by simp [rdF]))
set_option maxHeartbeats 1000000 in
set_option maxRecDepth 100000 in
theorem open_spec (D : Nat) (v : SV) (ob : Option Nat) (armed : Bool) (left : Int) (dur : List ByteArray) (fr : List (Int × ByteArray)) (hd1 : 4 ≤ dur.length) (hd2 : dur.length ≤ 1000) (hsz : ∀ k : Nat, k < dur.length → (cnt dur fr k).size = 64) :
    Spec Try.prog 30 [.pointer (some ⟨D, 0, none⟩)] [row D 94 (dC v ob false armed left), mp mkI Prod.fst vS ob fr, own 9 1 eS (sv v) dur] [] (X := Nat × Sp × Int) (fun x => (x.2.2, x.2.1.sn) = openF (storedF (cnt dur fr) ((dur.length - 2) / 2) 0) (storedF (cnt dur fr) ((dur.length - 2) / 2) 1)) (fun x => .tuple #[.pointer (some ⟨x.1, 0, none⟩), .int .i64 0]) (fun x => [row x.1 100 (jC D x.2.1 x.2.2 zSp nilS), row D 94 (dC v ob false armed left), mp mkI Prod.fst vS ob fr, own 9 1 eS (sv v) dur]) (fun x => [snA x.2.1]) := by
  refine r_enter Try.func30 rfl Try.ntmps30 rfl fun w0 M H => ?_
  refine r_seq ?_
  refine r_region ?_
  refine r_p (p_assign rfl) rfl ?_
  refine r_p (p_assign rfl) rfl ?_
  refine r_nil ?_
  refine r_seq ?_
  refine r_seq ?_
  refine r_region ?_
  refine r_p (p_move rfl) rfl ?_
  refine r_call (xs := [.tmp 10]) (sectors_spec D v ob false armed left dur) cb29 [] [(true, 0), (true, 2)] [] [] rfl rfl rfl rfl rfl rfl rfl rfl (fun _ _ => rfl) (fun _ _ _ => rfl) rfl (fun _ _ => ?_)
  refine r_p (p_bin rfl rfl b_lt) rfl ?_
  refine r_nil ?_
  refine r_cond rfl (fun h1 => ?_) (fun h1 => ?_)
  · (simp at h1; omega)
  · (try simp only [decide_eq_true_eq, decide_eq_false_iff_not, Bool.and_eq_true, Bool.or_eq_true, Bool.and_eq_false_iff, Bool.or_eq_false_iff, Bool.not_eq_true, Bool.not_eq_false, Bool.not_eq_true', Bool.not_eq_false', Bool.not_not, bne_iff_ne, beq_iff_eq] at h1)
    refine r_skip ?_
    refine r_seq ?_
    refine r_seq ?_
    refine r_region ?_
    refine r_p (p_move rfl) rfl ?_
    refine r_call (xs := [.tmp 14, .const (.int .i64 0)]) (read_spec D v ob false armed left dur fr 0) cb27 [] [(true, 0), (true, 1), (true, 2)] [] [] rfl rfl rfl rfl rfl rfl rfl rfl (fun _ _ => rfl) (fun _ _ _ => rfl) rfl (fun _ _ => ?_)
    refine r_p (p_move rfl) rfl ?_
    refine r_p (p_extract rfl rfl) rfl ?_
    refine r_p (p_extract rfl rfl) rfl ?_
    refine r_p (p_assign rfl) rfl ?_
    refine r_p (p_assign rfl) rfl ?_
    refine r_nil ?_
    refine r_seq ?_
    refine r_region ?_
    refine r_p (p_move rfl) rfl ?_
    refine r_p (p_bin rfl rfl b_ne) rfl ?_
    refine r_nil ?_
    refine r_cond rfl (fun h2 => ?_) (fun h2 => ?_)
    · (exact absurd h2 (by rw [rdF_ok (by constructor <;> omega)]; simp))
    · (try simp only [decide_eq_true_eq, decide_eq_false_iff_not, Bool.and_eq_true, Bool.or_eq_true, Bool.and_eq_false_iff, Bool.or_eq_false_iff, Bool.not_eq_true, Bool.not_eq_false, Bool.not_eq_true', Bool.not_eq_false', Bool.not_not, bne_iff_ne, beq_iff_eq] at h2)
      refine r_skip ?_
      refine r_seq ?_
      refine r_region ?_
      refine r_p (p_move rfl) rfl ?_
      refine r_p (p_build (parts := [(0, .tmp 21)]) t100 pl100 rfl rfl) rfl ?_
      refine r_boxA rfl rfl fun b23 => ?_
      refine r_p (p_assign rfl) rfl ?_
      refine r_nil ?_
      refine r_seq ?_
      refine r_seq ?_
      refine r_region ?_
      refine r_p (p_move rfl) rfl ?_
      refine r_nil ?_
      refine r_block ?_
      refine r_addR 31 (A := snA zSp) (fun _ => snA_zero) ?_
      refine r_loop (X := Nat × Sp × Int) (fun x => x.1 ≤ 2 ∧ (x.1 = 0 → x.2 = (zSp, 0)) ∧ (x.1 = 1 → (x.2.2, x.2.1.sn) = opN (storedF (cnt dur fr) ((dur.length - 2) / 2) 0)) ∧ (x.1 = 2 → (x.2.2, x.2.1.sn) = openF (storedF (cnt dur fr) ((dur.length - 2) / 2) 0) (storedF (cnt dur fr) ((dur.length - 2) / 2) 1))) (fun x => [(0, .pointer (some ⟨D, 0, none⟩)), (6, .pointer (some ⟨b23, 0, none⟩)), (24, .int .i64 (x.1 : Int))]) (fun x => [(23, row b23 100 (jC D x.2.1 x.2.2 zSp nilS)), (0, row D 94 (dC v ob false armed left)), (1, mp mkI Prod.fst vS ob fr), (2, own 9 1 eS (sv v) dur)]) (fun x => [(31, snA x.2.1)]) (fun x => 2 - x.1) (0, zSp, 0) ⟨by decide, fun _ => rfl, fun h => by simp at h, fun h => by simp at h⟩ rfl rfl rfl (fun x hx0 => ?_)
      obtain ⟨k, sp, n⟩ := x
      obtain ⟨hk0, q0, q1, q2⟩ := hx0
      dsimp only at hk0 q0 q1 q2 ⊢
      refine r_seq ?_
      refine r_region ?_
      refine r_p (p_bin rfl rfl b_lt) rfl ?_
      refine r_nil ?_
      refine r_seq ?_
      refine r_cond rfl (fun h3 => ?_) (fun h3 => ?_)
      · (try simp only [decide_eq_true_eq, decide_eq_false_iff_not, Bool.and_eq_true, Bool.or_eq_true, Bool.and_eq_false_iff, Bool.or_eq_false_iff, Bool.not_eq_true, Bool.not_eq_false, Bool.not_eq_true', Bool.not_eq_false', Bool.not_not, bne_iff_ne, beq_iff_eq] at h3)
        have hk : k < 2 := by omega
        refine r_skip ?_
        refine r_seq ?_
        refine r_block ?_
        refine r_seq ?_
        refine r_region ?_
        refine r_p (p_move rfl) rfl ?_
        refine r_p (p_assign rfl) rfl ?_
        refine r_nil ?_
        refine r_seq ?_
        refine r_region ?_
        refine r_p (p_move rfl) rfl ?_
        refine r_p (p_move rfl) rfl ?_
        refine r_call (xs := [.tmp 28, .tmp 29]) (stored_spec D v ob armed left dur fr k (by omega) hd1 hd2 hsz) cb47 [0, 1, 2] [] [0, 1, 2] [30] rfl rfl rfl rfl rfl rfl rfl rfl (fun _ _ => rfl) (fun _ _ _ => rfl) rfl (fun y hy => ?_)
        refine r_p (p_move rfl) rfl ?_
        refine r_p (p_extract rfl rfl) rfl ?_
        refine r_p (p_extract rfl rfl) rfl ?_
        refine r_alloc t59 rfl rfl fun b8 => ?_
        refine r_store_all (k := 8) t59 rfl rfl rfl rfl rfl rfl ?_
        refine r_p (p_assign rfl) rfl ?_
        refine r_nil ?_
        refine r_seq ?_
        refine r_region ?_
        refine r_p (p_move rfl) rfl ?_
        refine r_p (p_move rfl) rfl ?_
        refine r_p (p_nilCheck rfl) rfl ?_
        refine r_p (p_field0 fo100_2 rfl) rfl ?_
        refine r_p (p_load1 t3 rfl rfl (g_row1 (k := 23) rfl rfl)) rfl ?_
        refine r_p (p_bin rfl rfl b_gt) rfl ?_
        refine r_nil ?_
        refine r_cond rfl (fun h4 => ?_) (fun h4 => ?_)
        · (try simp only [decide_eq_true_eq, decide_eq_false_iff_not, Bool.and_eq_true, Bool.or_eq_true, Bool.and_eq_false_iff, Bool.or_eq_false_iff, Bool.not_eq_true, Bool.not_eq_false, Bool.not_eq_true', Bool.not_eq_false', Bool.not_not, bne_iff_ne, beq_iff_eq] at h4)
          have hc4 := h4
          refine r_region ?_
          refine r_p (p_move rfl) rfl ?_
          refine r_p (p_move rfl) rfl ?_
          refine r_p (p_loadA t59 rfl rfl rfl (g_all (k := 8) rfl)) rfl ?_
          refine r_p (p_move rfl) rfl ?_
          refine r_p (p_nilCheck rfl) rfl ?_
          refine r_p (p_field0 fo100_1 rfl) rfl ?_
          refine r_store_row (k := 23) t59 rfl rfl rfl rfl rfl rfl rfl rfl ?_
          refine r_p (p_nilCheck rfl) rfl ?_
          refine r_p (p_field0 fo100_2 rfl) rfl ?_
          refine r_store_row (k := 23) t3 rfl rfl rfl rfl rfl rfl rfl rfl ?_
          refine r_nil ?_
          refine r_region ?_
          refine r_p (p_bin rfl rfl (b_add (by first | exact w_i64 (by omega) (by omega) | rfl))) rfl ?_
          refine r_p (p_move rfl) rfl ?_
          refine r_nil ?_
          have hyo := hy.opN
          refine r_more 30 31 rfl (fun w G h _ => ⟨G, h, fun _ hb => hb⟩) ?_
          have hgt : y.2 > n := hc4
          refine r_here (k + 1, y.1, y.2) ⟨⟨by dsimp only; omega, fun h => by simp at h, fun h => ?_, fun h => ?_⟩, by dsimp only; omega⟩ rfl rfl rfl
          · exact (op_oneT (S0 := fun k => storedF (cnt dur fr) ((dur.length - 2) / 2) k) hyo q0 hgt h)
          · exact (op_twoT (S0 := fun k => storedF (cnt dur fr) ((dur.length - 2) / 2) k) q1 hyo hgt h)
        · (try simp only [decide_eq_true_eq, decide_eq_false_iff_not, Bool.and_eq_true, Bool.or_eq_true, Bool.and_eq_false_iff, Bool.or_eq_false_iff, Bool.not_eq_true, Bool.not_eq_false, Bool.not_eq_true', Bool.not_eq_false', Bool.not_not, bne_iff_ne, beq_iff_eq] at h4)
          have hc4 := h4
          refine r_skip ?_
          refine r_region ?_
          refine r_p (p_bin rfl rfl (b_add (by first | exact w_i64 (by omega) (by omega) | rfl))) rfl ?_
          refine r_p (p_move rfl) rfl ?_
          refine r_nil ?_
          have hyo := hy.opN
          have hgt : ¬ y.2 > n := hc4
          refine r_here (k + 1, sp, n) ⟨⟨by dsimp only; omega, fun h => by simp at h, fun h => ?_, fun h => ?_⟩, by dsimp only; omega⟩ rfl rfl rfl
          · exact (op_oneF (S0 := fun k => storedF (cnt dur fr) ((dur.length - 2) / 2) k) hyo q0 hgt h (fun m s hs => stored_pos hs))
          · exact (op_twoF (S0 := fun k => storedF (cnt dur fr) ((dur.length - 2) / 2) k) q1 hyo hgt h)
      · (try simp only [decide_eq_true_eq, decide_eq_false_iff_not, Bool.and_eq_true, Bool.or_eq_true, Bool.and_eq_false_iff, Bool.or_eq_false_iff, Bool.not_eq_true, Bool.not_eq_false, Bool.not_eq_true', Bool.not_eq_false', Bool.not_not, bne_iff_ne, beq_iff_eq] at h3)
        have hk : k = 2 := by omega
        subst hk
        refine r_exit ?_
        refine r_seq ?_
        refine r_region ?_
        refine r_p (p_move rfl) rfl ?_
        refine r_p (p_assign rfl) rfl ?_
        refine r_p (p_assign rfl) rfl ?_
        refine r_nil ?_
        refine r_cret ?_
        refine r_ret (b23, sp, n) (q2 rfl) rfl (rs2 (rv_tmp rfl) (rv_tmp rfl)) rfl [23, 0, 1, 2] [31] rfl rfl rfl
set_option maxRecDepth 100000 in
theorem last_b0 (J D : Nat) (lst : Sp) (n : Int) (nxt : Sp) (vt : SV) (s : Sp) (k : Int) (h0 : n = 0) (hs : lst.Sm) (hs2 : s.Sm) :
    Spec Try.prog 38 [.pointer (some ⟨J, 0, none⟩), snV s, .int .i64 k] [] [row J 100 (jC D lst n nxt vt), snA lst, snA s] (X := Unit) (fun _ => True) (fun _ => .bool (lastB n lst.sn s.sn k)) (fun _ => []) (fun _ => []) := by
  refine r_enter Try.func38 rfl Try.ntmps38 rfl fun w0 M H => ?_
  refine r_addR 31 (A := snA zSp) (fun _ => snA_zero) ?_
  refine r_seq ?_
  refine r_region ?_
  refine r_boxA rfl rfl fun b4 => ?_
  refine r_p (p_assign rfl) rfl ?_
  refine r_nil ?_
  refine r_seq ?_
  refine r_region ?_
  refine r_p (p_move rfl) rfl ?_
  refine r_call (xs := [.tmp 11]) (last_spec44 J D lst n nxt vt h0) cb44 [] [(false, 0)] [] [] rfl rfl rfl rfl rfl rfl rfl rfl (fun _ _ => rfl) (fun _ _ _ => rfl) rfl (fun _ _ => ?_)
  refine r_p (p_move rfl) rfl ?_
  refine r_p (p_extract rfl rfl) rfl ?_
  refine r_p (p_extract rfl rfl) rfl ?_
  refine r_p (p_extract rfl rfl) rfl ?_
  refine r_alloc t59 rfl rfl fun b7 => ?_
  refine r_store_all (k := 7) t59 rfl rfl rfl rfl rfl rfl ?_
  refine r_p (p_assign rfl) rfl ?_
  refine r_p (p_assign rfl) rfl ?_
  refine r_nil ?_
  refine r_seq ?_
  refine r_seq ?_
  refine r_region ?_
  refine r_p (p_move rfl) rfl ?_
  refine r_p (p_bin rfl rfl b_eq) rfl ?_
  refine r_nil ?_
  refine r_cond rfl (fun h1 => ?_) (fun h1 => ?_)
  · (try simp only [decide_eq_true_eq, decide_eq_false_iff_not, Bool.and_eq_true, Bool.or_eq_true, Bool.and_eq_false_iff, Bool.or_eq_false_iff, Bool.not_eq_true, Bool.not_eq_false, Bool.not_eq_true', Bool.not_eq_false', Bool.not_not, bne_iff_ne, beq_iff_eq] at h1)
    have hk : k = 0 := h1
    refine r_seq ?_
    refine r_region ?_
    refine r_p (p_move rfl) rfl ?_
    refine r_p (p_not rfl) rfl ?_
    refine r_p (p_move rfl) rfl ?_
    refine r_split (t := 20) rfl (fun h2 => ?_) (fun h2 => False.elim (by simp at h2))
    refine r_gyes rfl rfl ?_
    refine r_p (p_move rfl) rfl ?_
    refine r_gyes rfl rfl ?_
    refine r_p (p_bin rfl rfl b_eq) rfl ?_
    refine r_p (p_pick rfl rfl rfl (by first | exact pick_and | exact pick_or |  rfl)) rfl ?_
    refine r_p (p_move rfl) rfl ?_
    refine r_split (t := 24) rfl (fun h3 => ?_) (fun h3 => False.elim (by simp at h3))
    refine r_gyes rfl rfl ?_
    refine r_p (p_loadA t59 rfl rfl rfl (g_all (k := 7) rfl)) rfl ?_
    refine r_gyes rfl rfl ?_
    refine r_p (p_build (parts := []) t59 pl59 rfl rfl) rfl ?_
    refine r_gyes rfl rfl ?_
    refine r_call (xs := [.tmp 25, .tmp 26]) (same_spec zSp zSp Sp.Sm.zero) cb34 [] [(false, 31), (false, 31)] [] [] rfl rfl rfl rfl rfl rfl rfl rfl (fun _ _ => rfl) (fun _ _ _ => rfl) rfl (fun _ _ => ?_)
    refine r_p (p_pick rfl rfl rfl (by first | exact pick_and | exact pick_or |  rfl)) rfl ?_
    refine r_p (p_assign rfl) rfl ?_
    refine r_nil ?_
    refine r_cret ?_
    refine r_ret () trivial rfl (rs1 (rv_tmp rfl)) (congrArg Value.bool (by unfold lastB; rw [if_pos hk, decide_eq_true h0]; simp)) [] [] rfl rfl rfl
  · (try simp only [decide_eq_true_eq, decide_eq_false_iff_not, Bool.and_eq_true, Bool.or_eq_true, Bool.and_eq_false_iff, Bool.or_eq_false_iff, Bool.not_eq_true, Bool.not_eq_false, Bool.not_eq_true', Bool.not_eq_false', Bool.not_not, bne_iff_ne, beq_iff_eq] at h1)
    have hk : ¬ k = 0 := h1
    refine r_skip ?_
    refine r_seq ?_
    refine r_region ?_
    refine r_p (p_move rfl) rfl ?_
    refine r_p (p_move rfl) rfl ?_
    refine r_split (t := 30) rfl (fun h4 => False.elim (by simp at h4)) (fun h4 => ?_)
    refine r_gno rfl rfl rfl rfl ?_
    refine r_gno rfl rfl rfl rfl ?_
    refine r_gno rfl rfl rfl rfl ?_
    refine r_p (p_pick rfl rfl rfl (by first | exact pick_and | exact pick_or |  rfl)) rfl ?_
    refine r_p (p_move rfl) rfl ?_
    refine r_split (t := 35) rfl (fun h5 => False.elim (by simp at h5)) (fun h5 => ?_)
    refine r_gno rfl rfl rfl rfl ?_
    refine r_gno rfl rfl rfl rfl ?_
    refine r_gno rfl rfl rfl rfl ?_
    refine r_p (p_pick rfl rfl rfl (by first | exact pick_and | exact pick_or |  rfl)) rfl ?_
    refine r_p (p_assign rfl) rfl ?_
    refine r_nil ?_
    refine r_cret ?_
    refine r_ret () trivial rfl (rs1 (rv_tmp rfl)) (congrArg Value.bool (by unfold lastB; rw [if_neg hk, decide_eq_false (by omega)] <;> rfl)) [] [] rfl rfl rfl
set_option maxRecDepth 100000 in
theorem last_b1 (J D : Nat) (lst : Sp) (n : Int) (nxt : Sp) (vt : SV) (s : Sp) (k : Int) (h0 : n ≠ 0) (hs : lst.Sm) (hs2 : s.Sm) :
    Spec Try.prog 38 [.pointer (some ⟨J, 0, none⟩), snV s, .int .i64 k] [] [row J 100 (jC D lst n nxt vt), snA lst, snA s] (X := Unit) (fun _ => True) (fun _ => .bool (lastB n lst.sn s.sn k)) (fun _ => []) (fun _ => []) := by
  refine r_enter Try.func38 rfl Try.ntmps38 rfl fun w0 M H => ?_
  refine r_addR 32 (A := snA zSp) (fun _ => snA_zero) ?_
  refine r_seq ?_
  refine r_region ?_
  refine r_boxA rfl rfl fun b4 => ?_
  refine r_p (p_assign rfl) rfl ?_
  refine r_nil ?_
  refine r_seq ?_
  refine r_region ?_
  refine r_p (p_move rfl) rfl ?_
  refine r_call (xs := [.tmp 11]) (last_some J D lst n nxt vt h0 hs) cb44 [] [(false, 0), (false, 1)] [] [31] rfl rfl rfl rfl rfl rfl rfl rfl (fun _ _ => rfl) (fun _ _ _ => rfl) rfl (fun y hy => ?_)
  refine r_p (p_move rfl) rfl ?_
  refine r_p (p_extract rfl rfl) rfl ?_
  refine r_p (p_extract rfl rfl) rfl ?_
  refine r_p (p_extract rfl rfl) rfl ?_
  refine r_alloc t59 rfl rfl fun b7 => ?_
  refine r_store_all (k := 7) t59 rfl rfl rfl rfl rfl rfl ?_
  refine r_p (p_assign rfl) rfl ?_
  refine r_p (p_assign rfl) rfl ?_
  refine r_nil ?_
  refine r_seq ?_
  refine r_seq ?_
  refine r_region ?_
  refine r_p (p_move rfl) rfl ?_
  refine r_p (p_bin rfl rfl b_eq) rfl ?_
  refine r_nil ?_
  refine r_cond rfl (fun h1 => ?_) (fun h1 => ?_)
  · (try simp only [decide_eq_true_eq, decide_eq_false_iff_not, Bool.and_eq_true, Bool.or_eq_true, Bool.and_eq_false_iff, Bool.or_eq_false_iff, Bool.not_eq_true, Bool.not_eq_false, Bool.not_eq_true', Bool.not_eq_false', Bool.not_not, bne_iff_ne, beq_iff_eq] at h1)
    have hk : k = 0 := h1
    refine r_seq ?_
    refine r_region ?_
    refine r_p (p_move rfl) rfl ?_
    refine r_p (p_not rfl) rfl ?_
    refine r_p (p_move rfl) rfl ?_
    refine r_split (t := 20) rfl (fun h2 => False.elim (by simp at h2)) (fun h2 => ?_)
    refine r_gno rfl rfl rfl rfl ?_
    refine r_gno rfl rfl rfl rfl ?_
    refine r_p (p_pick rfl rfl rfl (by first | exact pick_and | exact pick_or |  rfl)) rfl ?_
    refine r_p (p_move rfl) rfl ?_
    refine r_split (t := 24) rfl (fun h3 => False.elim (by simp at h3)) (fun h3 => ?_)
    refine r_gno rfl rfl rfl rfl ?_
    refine r_gno rfl rfl rfl rfl ?_
    refine r_gno rfl rfl rfl rfl ?_
    refine r_p (p_pick rfl rfl rfl (by first | exact pick_and | exact pick_or |  rfl)) rfl ?_
    refine r_p (p_assign rfl) rfl ?_
    refine r_nil ?_
    refine r_cret ?_
    refine r_ret () trivial rfl (rs1 (rv_tmp rfl)) (congrArg Value.bool (by unfold lastB; rw [if_pos hk, decide_eq_false h0])) [] [] rfl rfl rfl
  · (try simp only [decide_eq_true_eq, decide_eq_false_iff_not, Bool.and_eq_true, Bool.or_eq_true, Bool.and_eq_false_iff, Bool.or_eq_false_iff, Bool.not_eq_true, Bool.not_eq_false, Bool.not_eq_true', Bool.not_eq_false', Bool.not_not, bne_iff_ne, beq_iff_eq] at h1)
    have hk : ¬ k = 0 := h1
    refine r_skip ?_
    refine r_seq ?_
    refine r_region ?_
    refine r_p (p_move rfl) rfl ?_
    refine r_p (p_move rfl) rfl ?_
    refine r_split (t := 30) rfl (fun h4 => ?_) (fun h4 => False.elim (by simp at h4))
    refine r_gyes rfl rfl ?_
    refine r_p (p_move rfl) rfl ?_
    refine r_gyes rfl rfl ?_
    refine r_p (p_move rfl) rfl ?_
    refine r_gyes rfl rfl ?_
    refine r_p (p_bin rfl rfl b_eq) rfl ?_
    refine r_p (p_pick rfl rfl rfl (by first | exact pick_and | exact pick_or |  rfl)) rfl ?_
    refine r_p (p_move rfl) rfl ?_
    refine r_split (t := 35) rfl (fun h5 => ?_) (fun h5 => ?_)
    · (try simp only [decide_eq_true_eq, decide_eq_false_iff_not, Bool.and_eq_true, Bool.or_eq_true, Bool.and_eq_false_iff, Bool.or_eq_false_iff, Bool.not_eq_true, Bool.not_eq_false, Bool.not_eq_true', Bool.not_eq_false', Bool.not_not, bne_iff_ne, beq_iff_eq] at h5)
      have hm : n = k := by simpa using h5
      refine r_gyes rfl rfl ?_
      refine r_p (p_loadA t59 rfl rfl rfl (g_all (k := 4) rfl)) rfl ?_
      refine r_gyes rfl rfl ?_
      refine r_p (p_loadA t59 rfl rfl rfl (g_all (k := 7) rfl)) rfl ?_
      refine r_gyes rfl rfl ?_
      refine r_call (xs := [.tmp 36, .tmp 37]) (same_spec s y hs2) cb34 [] [(false, 2), (false, 31)] [] [] rfl rfl rfl rfl rfl rfl rfl rfl (fun _ _ => rfl) (fun _ _ _ => rfl) rfl (fun _ _ => ?_)
      refine r_p (p_pick rfl rfl rfl (by first | exact pick_and | exact pick_or |  rfl)) rfl ?_
      refine r_p (p_assign rfl) rfl ?_
      refine r_nil ?_
      refine r_cret ?_
      refine r_ret () trivial rfl (rs1 (rv_tmp rfl)) (congrArg Value.bool (by unfold lastB; rw [if_neg hk]; first | (rw [decide_eq_true hm, Bool.true_and]; exact (Bool.true_and _).trans (by rw [hy]; exact decide_eq_decide.2 ⟨fun e => e.symm, fun e => e.symm⟩)) | (rw [decide_eq_false hm] <;> rfl))) [] [] rfl rfl rfl
    · (try simp only [decide_eq_true_eq, decide_eq_false_iff_not, Bool.and_eq_true, Bool.or_eq_true, Bool.and_eq_false_iff, Bool.or_eq_false_iff, Bool.not_eq_true, Bool.not_eq_false, Bool.not_eq_true', Bool.not_eq_false', Bool.not_not, bne_iff_ne, beq_iff_eq] at h5)
      have hm : ¬ n = k := by simpa using h5
      refine r_gno rfl rfl rfl rfl ?_
      refine r_gno rfl rfl rfl rfl ?_
      refine r_gno rfl rfl rfl rfl ?_
      refine r_p (p_pick rfl rfl rfl (by first | exact pick_and | exact pick_or |  rfl)) rfl ?_
      refine r_p (p_assign rfl) rfl ?_
      refine r_nil ?_
      refine r_cret ?_
      refine r_ret () trivial rfl (rs1 (rv_tmp rfl)) (congrArg Value.bool (by unfold lastB; rw [if_neg hk]; first | (rw [decide_eq_true hm, Bool.true_and]; exact (Bool.true_and _).trans (by rw [hy]; exact decide_eq_decide.2 ⟨fun e => e.symm, fun e => e.symm⟩)) | (rw [decide_eq_false hm] <;> rfl))) [] [] rfl rfl rfl
set_option maxRecDepth 100000 in
theorem last_spec38 (J D : Nat) (lst : Sp) (n : Int) (nxt : Sp) (vt : SV) (s : Sp) (k : Int) (hs : lst.Sm) (hs2 : s.Sm) :
    Spec Try.prog 38 [.pointer (some ⟨J, 0, none⟩), snV s, .int .i64 k] [] [row J 100 (jC D lst n nxt vt), snA lst, snA s] (X := Unit) (fun _ => True) (fun _ => .bool (lastB n lst.sn s.sn k)) (fun _ => []) (fun _ => []) := by
  by_cases h0 : n = 0
  · exact last_b0 J D lst n nxt vt s k h0 hs hs2
  · exact last_b1 J D lst n nxt vt s k h0 hs hs2


end Go.Proofs.Ytohenjmkhncoiaa
