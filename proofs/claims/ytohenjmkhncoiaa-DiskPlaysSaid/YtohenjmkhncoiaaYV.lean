/-
  The journal: what a slot holds. Conditions: sizes.
-/
import Derived.Test.YtohenjmkhncoiaaYU
namespace Go.Proofs.Ytohenjmkhncoiaa
set_option linter.unusedSimpArgs false
set_option linter.unusedVariables false
open Go.RowKit

/-- What is read of a sector while the power is on. -/
def cnt (dur : List ByteArray) (fr : List (Int × ByteArray)) (k : Int) : ByteArray := (rdF false dur fr k).1
theorem rdF_ok {dur : List ByteArray} {fr : List (Int × ByteArray)} {n : Int} (h : 0 ≤ n ∧ n < dur.length) : (rdF false dur fr n).2 = 0 := by
  unfold rdF
  rw [if_neg (by simp), if_neg (by omega)]
  split <;> rfl
def catC (c : Int → ByteArray) (base : Int) (k : Nat) : List Int := (List.range k).flatMap fun i : Nat => bytesI (c (base + (i : Int)))
theorem catC_succ (c : Int → ByteArray) (base : Int) (k : Nat) : catC c base (k + 1) = catC c base k ++ bytesI (c (base + (k : Int))) := by
  unfold catC
  rw [List.range_succ, List.flatMap_append]
  simp
theorem catC_By (c : Int → ByteArray) (base : Int) (k : Nat) : By (catC c base k) := fun x hx => by
  unfold catC at hx
  obtain ⟨i, _, hi⟩ := List.mem_flatMap.1 hx
  exact By_bytesI _ x hi
theorem catC_len {c : Int → ByteArray} {base : Int} : ∀ {k : Nat}, (∀ i : Nat, i < k → (c (base + (i : Int))).size = 64) → (catC c base k).length = 64 * k
  | 0, _ => rfl
  | k + 1, h => by rw [catC_succ, List.length_append, catC_len (fun i hi => h i (by omega)), bytesI_len, h k (by omega)]; omega
/-- The body of a checkpoint, from its sectors. -/
def bodyC (c : Int → ByteArray) (base : Int) (size : Int) : ByteArray := ofI ((catC c base ((size.toNat + 63) / 64)).take size.toNat)
/-- The checkpoint that a slot holds. -/
def storedF (c : Int → ByteArray) (room : Nat) (slot : Nat) : Option (Int × Sn) :=
  match (pInt.both pInt) (bytesI (c (slot : Int))) with
  | none => none
  | some ((n, size), _) => if n < 1 ∨ size < 0 ∨ (room : Int) * 64 < size then none else
    match readSn (bytesI (bodyC c (2 + (slot : Int) * (room : Int)) size)) with
    | none => none
    | some s => if hdrS n (bodyC c (2 + (slot : Int) * (room : Int)) size) = c (slot : Int) then some (n, s) else none
def StOk (c : Int → ByteArray) (room slot : Nat) (x : Sp × Int) : Prop := match storedF c room slot with
  | some (n, s) => x.1.sn = s ∧ x.2 = n
  | none => x = (zSp, 0)
theorem st_none {c : Int → ByteArray} {room slot : Nat} (h : storedF c room slot = none) : StOk c room slot (zSp, 0) := by unfold StOk; rw [h]
theorem st_bad {c : Int → ByteArray} {room slot : Nat} {y : Rd (Int × Int)} (h : RdOk (pInt.both pInt) (c (slot : Int)) false y) (hb : y.bad = true ∨ y.a.1 < 1 ∨ y.a.2 < 0 ∨ (room : Int) * 64 < y.a.2) : StOk c room slot (zSp, 0) := by
  refine st_none ?_
  unfold storedF
  cases hp : (pInt.both pInt) (bytesI (c (slot : Int))) with
  | none => rfl
  | some u =>
    obtain ⟨⟨n, size⟩, r⟩ := u
    obtain ⟨e1, e2, e3⟩ := h.good rfl _ _ hp
    dsimp only
    rcases hb with hb | hb
    · rw [e3] at hb; simp at hb
    · rw [e1] at hb
      rw [if_pos hb]
theorem st_go {c : Int → ByteArray} {room slot : Nat} {y : Rd (Int × Int)} (h : RdOk (pInt.both pInt) (c (slot : Int)) false y) (h1 : y.bad = false) (h2 : ¬ (y.a.1 < 1 ∨ y.a.2 < 0 ∨ (room : Int) * 64 < y.a.2)) :
    storedF c room slot = match readSn (bytesI (bodyC c (2 + (slot : Int) * (room : Int)) y.a.2)) with
      | none => none
      | some s => if hdrS y.a.1 (bodyC c (2 + (slot : Int) * (room : Int)) y.a.2) = c (slot : Int) then some (y.a.1, s) else none := by
  unfold storedF
  cases hp : (pInt.both pInt) (bytesI (c (slot : Int))) with
  | none => rw [h.fail (.inr hp)] at h1; simp at h1
  | some u =>
    obtain ⟨⟨n, size⟩, r⟩ := u
    obtain ⟨e1, e2, e3⟩ := h.good rfl _ _ hp
    rw [e1] at h2 ⊢
    dsimp only at h2 ⊢
    rw [if_neg h2]
theorem st_end1 {c : Int → ByteArray} {room slot : Nat} {y : Rd (Int × Int)} {z : Sp × Int} (h : RdOk (pInt.both pInt) (c (slot : Int)) false y) (h1 : y.bad = false) (h2 : ¬ (y.a.1 < 1 ∨ y.a.2 < 0 ∨ (room : Int) * 64 < y.a.2))
    (hz : RdSn (bodyC c (2 + (slot : Int) * (room : Int)) y.a.2) z) (hb : z.2 ≠ 0 ∨ hdrS y.a.1 (bodyC c (2 + (slot : Int) * (room : Int)) y.a.2) ≠ c (slot : Int)) : StOk c room slot (zSp, 0) := by
  refine st_none ?_
  rw [st_go h h1 h2]
  unfold RdSn at hz
  cases hr : readSn (bytesI (bodyC c (2 + (slot : Int) * (room : Int)) y.a.2)) with
  | none => rfl
  | some s =>
    rw [hr] at hz
    rcases hb with hb | hb
    · exact absurd hz.2 hb
    · dsimp only; rw [if_neg hb]
theorem st_end2 {c : Int → ByteArray} {room slot : Nat} {y : Rd (Int × Int)} {z : Sp × Int} (h : RdOk (pInt.both pInt) (c (slot : Int)) false y) (h1 : y.bad = false) (h2 : ¬ (y.a.1 < 1 ∨ y.a.2 < 0 ∨ (room : Int) * 64 < y.a.2))
    (hz : RdSn (bodyC c (2 + (slot : Int) * (room : Int)) y.a.2) z) (hb : z.2 = 0) (hh : hdrS y.a.1 (bodyC c (2 + (slot : Int) * (room : Int)) y.a.2) = c (slot : Int)) : StOk c room slot (z.1, y.a.1) := by
  unfold StOk
  rw [st_go h h1 h2]
  unfold RdSn at hz
  cases hr : readSn (bytesI (bodyC c (2 + (slot : Int) * (room : Int)) y.a.2)) with
  | none => rw [hr] at hz; rw [hz] at hb; simp at hb
  | some s =>
    rw [hr] at hz
    dsimp only
    rw [if_pos hh]
    exact ⟨hz.1, rfl⟩

set_option maxHeartbeats 2000000 in
set_option maxRecDepth 100000 in
theorem stored_spec (D : Nat) (v : SV) (ob : Option Nat) (armed : Bool) (left : Int) (dur : List ByteArray) (fr : List (Int × ByteArray)) (slot : Nat) (hslot : slot < 2) (hd1 : 4 ≤ dur.length) (hd2 : dur.length ≤ 1000) (hsz : ∀ k : Nat, k < dur.length → (cnt dur fr k).size = 64) :
    Spec Try.prog 47 [.pointer (some ⟨D, 0, none⟩), .int .i64 (slot : Int)] [row D 94 (dC v ob false armed left), mp mkI Prod.fst vS ob fr, own 9 1 eS (sv v) dur] [] (X := Sp × Int) (fun x => StOk (cnt dur fr) ((dur.length - 2) / 2) slot x) (fun x => .tuple #[snV x.1, .int .i64 x.2]) (fun _ => [row D 94 (dC v ob false armed left), mp mkI Prod.fst vS ob fr, own 9 1 eS (sv v) dur]) (fun x => [snA x.1]) := by
  refine r_enter Try.func47 rfl Try.ntmps47 rfl fun w0 M H => ?_
  have hpr : 0 ≤ (slot : Int) * ((((dur.length - 2) / 2) : Nat) : Int) ∧ (slot : Int) * ((((dur.length - 2) / 2) : Nat) : Int) ≤ ((((dur.length - 2) / 2) : Nat) : Int) := by
    rcases (by omega : slot = 0 ∨ slot = 1) with h | h
    · rw [h]; omega
    · rw [h]; omega
  have hcs : (cnt dur fr slot).size = 64 := hsz slot (by omega)
  refine r_nilown 60 (α := Int) (S := 5) (s := 1) (enc := eU8) ?_
  refine r_seq ?_
  refine r_region ?_
  refine r_alloc t59 rfl rfl fun b4 => ?_
  refine r_p (p_assign rfl) rfl ?_
  refine r_nil ?_
  refine r_seq ?_
  refine r_region ?_
  refine r_p (p_move rfl) rfl ?_
  refine r_p (p_move rfl) rfl ?_
  refine r_call (xs := [.tmp 19, .tmp 20]) (read_spec D v ob false armed left dur fr (slot : Int)) cb27 [] [(true, 0), (true, 1), (true, 2)] [] [] rfl rfl rfl rfl rfl rfl rfl rfl (fun _ _ => rfl) (fun _ _ _ => rfl) rfl (fun _ _ => ?_)
  refine r_p (p_move rfl) rfl ?_
  refine r_p (p_extract rfl rfl) rfl ?_
  refine r_p (p_extract rfl rfl) rfl ?_
  refine r_p (p_assign rfl) rfl ?_
  refine r_p (p_assign rfl) rfl ?_
  refine r_nil ?_
  refine r_seq ?_
  refine r_region ?_
  refine r_p (p_move rfl) rfl ?_
  refine r_p (p_build (parts := [(0, .tmp 24)]) t113 pl113 rfl rfl) rfl ?_
  refine r_boxA rfl rfl fun b26 => ?_
  refine r_p (p_assign rfl) rfl ?_
  refine r_nil ?_
  refine r_seq ?_
  refine r_region ?_
  refine r_p (p_move rfl) rfl ?_
  refine r_call (xs := [.tmp 27]) (int_spec b26 (cnt dur fr slot) false) cb52 [26] [] [26] [] rfl rfl rfl rfl rfl rfl rfl rfl (fun _ _ => rfl) (fun _ _ _ => rfl) rfl (fun x28 hx28 => ?_)
  refine r_p (p_move rfl) rfl ?_
  refine r_call (xs := [.tmp 29]) (int_spec b26 x28.s x28.bad) cb52 [26] [] [26] [] rfl rfl rfl rfl rfl rfl rfl rfl (fun _ _ => rfl) (fun _ _ _ => rfl) rfl (fun x30 hx30 => ?_)
  have ho28 := hx28.2
  have ho30 := hx30.2
  unfold okI at ho28 ho30
  have hrd : RdOk (pInt.both pInt) (cnt dur fr slot) false ⟨(x28.a, x30.a), x30.s, x30.bad⟩ := hx28.1.both hx30.1
  refine r_p (p_assign rfl) rfl ?_
  refine r_p (p_assign rfl) rfl ?_
  refine r_nil ?_
  refine r_seq ?_
  refine r_seq ?_
  refine r_region ?_
  refine r_p (p_move rfl) rfl ?_
  refine r_p (p_nilCheck rfl) rfl ?_
  refine r_p (p_field0 fo113_1 rfl) rfl ?_
  refine r_p (p_load1 t4 rfl rfl (g_row1 (k := 26) rfl rfl)) rfl ?_
  refine r_p (p_move rfl) rfl ?_
  refine r_gp [] rfl rfl trivial (fun hg1 => p_move rfl) rfl ?_
  refine r_gp [(36, _)] rfl rfl ⟨rfl, trivial⟩ (fun hg2 => p_bin rfl rfl b_lt) rfl ?_
  refine r_p (p_pick rfl rfl rfl (by first | exact pick_and | exact pick_or |  rfl)) rfl ?_
  refine r_p (p_move rfl) rfl ?_
  refine r_gp [] rfl rfl trivial (fun hg3 => p_move rfl) rfl ?_
  refine r_gp [(40, _)] rfl rfl ⟨rfl, trivial⟩ (fun hg4 => p_bin rfl rfl b_lt) rfl ?_
  refine r_p (p_pick rfl rfl rfl (by first | exact pick_and | exact pick_or |  rfl)) rfl ?_
  refine r_p (p_move rfl) rfl ?_
  refine r_split (t := 43) rfl (fun h5 => ?_) (fun h5 => ?_)
  · (try simp only [decide_eq_true_eq, decide_eq_false_iff_not, Bool.and_eq_true, Bool.or_eq_true, Bool.and_eq_false_iff, Bool.or_eq_false_iff, Bool.not_eq_true, Bool.not_eq_false, Bool.not_eq_true', Bool.not_eq_false', Bool.not_not, bne_iff_ne, beq_iff_eq] at h5)
    have hs4 := h5
    refine r_gno rfl rfl rfl rfl ?_
    refine r_gno rfl rfl rfl rfl ?_
    refine r_gno rfl rfl rfl rfl ?_
    refine r_gno rfl rfl rfl rfl ?_
    refine r_gno rfl rfl rfl rfl ?_
    refine r_p (p_pick rfl rfl rfl (by first | exact pick_and | exact pick_or |  rfl)) rfl ?_
    refine r_nil ?_
    refine r_cond rfl (fun h6 => ?_) (fun h6 => ?_)
    · have hbad : x30.bad = true ∨ x28.a < 1 ∨ x30.a < 0 ∨ ((((dur.length - 2) / 2) : Nat) : Int) * 64 < x30.a := by
        first
          | (rcases hs4 with (h | h) | h; exact .inl h; exact .inr (.inl h); exact .inr (.inr (.inl h)))
          | (have h9 := h6; rw [Bool.false_or] at h9; exact .inr (.inr (.inr (of_decide_eq_true h9))))
      refine r_seq ?_
      refine r_region ?_
      refine r_p (p_build (parts := []) t59 pl59 rfl rfl) rfl ?_
      refine r_store_all (k := 4) t59 rfl rfl rfl rfl rfl rfl ?_
      refine r_p (p_assign rfl) rfl ?_
      refine r_nil ?_
      refine r_cret ?_
      refine r_addR 90 (A := snA zSp) (fun _ => snA_zero) ?_
      refine r_ret (zSp, 0) (st_bad hrd hbad) rfl (rs2 (rv_cellA t59 rfl rfl rfl (g_all (k := 4) rfl)) (rv_tmp rfl)) rfl [0, 1, 2] [90] rfl rfl rfl
    · have hcond : x30.bad = false ∧ ¬ (x28.a < 1 ∨ x30.a < 0 ∨ ((((dur.length - 2) / 2) : Nat) : Int) * 64 < x30.a) := by
        first
          | (exfalso; simp at h6; done)
          | (have h9 := h6; rw [Bool.false_or] at h9; have h10 := of_decide_eq_false h9; exact ⟨hs4.1.1, by omega⟩)
      have hno : ¬ (x28.a < 1 ∨ x30.a < 0 ∨ ((((dur.length - 2) / 2) : Nat) : Int) * 64 < x30.a) := hcond.2
      refine r_skip ?_
      refine r_seq ?_
      refine r_region ?_
      refine r_p (p_assign rfl) rfl ?_
      refine r_nil ?_
      refine r_seq ?_
      refine r_seq ?_
      refine r_region ?_
      refine r_p (p_assign rfl) rfl ?_
      refine r_nil ?_
      refine r_block ?_
      refine r_loop (X := Nat × SV) (fun x => x.1 ≤ ((x30.a.toNat + 63) / 64)) (fun x => [(0, .pointer (some ⟨D, 0, none⟩)), (1, .int .i64 (slot : Int)), (4, .pointer (some ⟨b4, 0, none⟩)), (6, .string (cnt dur fr slot)), (9, .int .i64 x28.a), (10, .int .i64 x30.a), (11, sv x.2), (12, .int .i64 (x.1 : Int))]) (fun x => [(4, row b4 59 (snC zSp)), (60, own 5 1 eU8 (sv x.2) (catC (cnt dur fr) (2 + (slot : Int) * ((((dur.length - 2) / 2) : Nat) : Int)) x.1)), (0, row D 94 (dC v ob false armed left)), (1, mp mkI Prod.fst vS ob fr), (2, own 9 1 eS (sv v) dur)]) (fun x => []) (fun x => ((x30.a.toNat + 63) / 64) - x.1) (0, nilS) (Nat.zero_le _) rfl rfl rfl (fun x hk0 => ?_)
      obtain ⟨k, vk⟩ := x
      dsimp only at hk0 ⊢
      have hall : ∀ i : Nat, i < ((x30.a.toNat + 63) / 64) → (cnt dur fr ((2 + (slot : Int) * ((((dur.length - 2) / 2) : Nat) : Int)) + (i : Int))).size = 64 := fun i hi => by
        have := hsz (2 + slot * ((dur.length - 2) / 2) + i) (by rcases (by omega : slot = 0 ∨ slot = 1) with h | h <;> subst h <;> omega)
        rw [show ((2 + slot * ((dur.length - 2) / 2) + i : Nat) : Int) = (2 + (slot : Int) * ((((dur.length - 2) / 2) : Nat) : Int)) + (i : Int) by rw [Int.natCast_add, Int.natCast_add, Int.natCast_mul]; rfl] at this
        exact this
      have hcl : (catC (cnt dur fr) (2 + (slot : Int) * ((((dur.length - 2) / 2) : Nat) : Int)) k).length = 64 * k := catC_len fun i hi => hall i (by omega)
      refine r_seq ?_
      refine r_seq ?_
      refine r_region ?_
      refine r_p (p_move rfl) rfl ?_
      refine r_p (p_len_sl Try.underlying95 rfl (hs_own (k := 60) rfl)) rfl ?_
      refine r_p (p_move rfl) rfl ?_
      refine r_p (p_bin rfl rfl b_lt) rfl ?_
      refine r_nil ?_
      refine r_cond rfl (fun h7 => ?_) (fun h7 => ?_)
      · (try simp only [decide_eq_true_eq, decide_eq_false_iff_not, Bool.and_eq_true, Bool.or_eq_true, Bool.and_eq_false_iff, Bool.or_eq_false_iff, Bool.not_eq_true, Bool.not_eq_false, Bool.not_eq_true', Bool.not_eq_false', Bool.not_not, bne_iff_ne, beq_iff_eq] at h7)
        have hk : k < ((x30.a.toNat + 63) / 64) := by rw [hcl] at h7; omega
        have hck := hall k hk
        refine r_skip ?_
        refine r_seq ?_
        refine r_block ?_
        refine r_seq ?_
        refine r_region ?_
        refine r_p (p_move rfl) rfl ?_
        refine r_p (p_move rfl) rfl ?_
        refine r_p (p_move rfl) rfl ?_
        refine r_call (xs := [.tmp 60]) (room_spec D v ob false armed left dur (by omega) (by omega)) cb61 [] [(true, 0), (true, 2)] [] [] rfl rfl rfl rfl rfl rfl rfl rfl (fun _ _ => rfl) (fun _ _ _ => rfl) rfl (fun _ _ => ?_)
        refine r_p (p_bin rfl rfl (b_mul (by first | exact w_i64 (by omega) (by omega) | rfl))) rfl ?_
        refine r_p (p_bin rfl rfl (b_add (by first | exact w_i64 (by omega) (by omega) | rfl))) rfl ?_
        refine r_p (p_move rfl) rfl ?_
        refine r_p (p_bin rfl rfl (b_add (by first | exact w_i64 (by omega) (by omega) | rfl))) rfl ?_
        refine r_call (xs := [.tmp 58, .tmp 65]) (read_spec D v ob false armed left dur fr ((2 + (slot : Int) * ((((dur.length - 2) / 2) : Nat) : Int)) + (k : Int))) cb27 [] [(true, 0), (true, 1), (true, 2)] [] [] rfl rfl rfl rfl rfl rfl rfl rfl (fun _ _ => rfl) (fun _ _ _ => rfl) rfl (fun _ _ => ?_)
        refine r_p (p_move rfl) rfl ?_
        refine r_p (p_extract rfl rfl) rfl ?_
        refine r_p (p_extract rfl rfl) rfl ?_
        refine r_p (p_assign rfl) rfl ?_
        refine r_p (p_assign rfl) rfl ?_
        refine r_nil ?_
        refine r_seq ?_
        refine r_seq ?_
        refine r_region ?_
        refine r_p (p_move rfl) rfl ?_
        refine r_p (p_bin rfl rfl b_ne) rfl ?_
        refine r_nil ?_
        refine r_cond rfl (fun h8 => ?_) (fun h8 => ?_)
        · (exact absurd h8 (by rw [rdF_ok (by constructor <;> omega)]; simp))
        · (try simp only [decide_eq_true_eq, decide_eq_false_iff_not, Bool.and_eq_true, Bool.or_eq_true, Bool.and_eq_false_iff, Bool.or_eq_false_iff, Bool.not_eq_true, Bool.not_eq_false, Bool.not_eq_true', Bool.not_eq_false', Bool.not_not, bne_iff_ne, beq_iff_eq] at h8)
          refine r_skip ?_
          refine r_region ?_
          refine r_p (p_move rfl) rfl ?_
          refine r_p (p_move rfl) rfl ?_
          refine r_appendS 60 Try.underlying95 Try.underlying9 t5 rfl rfl rfl rfl (by rw [hcl, show (rdF false dur fr ((2 + (slot : Int) * ((((dur.length - 2) / 2) : Nat) : Int)) + (k : Int))).1.size = 64 from hck]; omega) rfl fun v74 => ?_
          refine r_p (p_assign rfl) rfl ?_
          refine r_nil ?_
          refine r_region ?_
          refine r_p (p_move rfl) rfl ?_
          refine r_p (p_bin rfl rfl (b_add (by first | exact w_i64 (by omega) (by omega) | rfl))) rfl ?_
          refine r_p (p_assign rfl) rfl ?_
          refine r_nil ?_
          refine r_here (k + 1, v74) ⟨by dsimp only; omega, by dsimp only; omega⟩ rfl (by rw [catC_succ]; rfl) rfl
      · (try simp only [decide_eq_true_eq, decide_eq_false_iff_not, Bool.and_eq_true, Bool.or_eq_true, Bool.and_eq_false_iff, Bool.or_eq_false_iff, Bool.not_eq_true, Bool.not_eq_false, Bool.not_eq_true', Bool.not_eq_false', Bool.not_not, bne_iff_ne, beq_iff_eq] at h7)
        have hk : k = ((x30.a.toNat + 63) / 64) := by rw [hcl] at h7; omega
        subst hk
        refine r_exit ?_
        refine r_seq ?_
        refine r_region ?_
        refine r_p (p_move rfl) rfl ?_
        refine r_p (p_move rfl) rfl ?_
        refine r_p (p_slice_hi (j := x30.a.toNat) Try.underlying95 t5 rfl rfl (hs_own (k := 60) rfl) (by omega) (by rw [hcl]; omega)) rfl ?_
        refine r_p (p_b2sE Try.underlying95 Try.underlying5 Try.underlying9 rfl (SlS.hi (SlS.of (hs_own (k := 60) rfl)) (by rw [hcl]; omega))) rfl ?_
        refine r_p (p_assign rfl) rfl ?_
        refine r_nil ?_
        refine r_seq ?_
        refine r_region ?_
        refine r_p (p_move rfl) rfl ?_
        refine r_call (xs := [.tmp 80]) (read_spec33 (bodyC (cnt dur fr) (2 + (slot : Int) * ((((dur.length - 2) / 2) : Nat) : Int)) x30.a) (by unfold bodyC; rw [ofI_size, List.length_take]; omega)) cb33 [] [] [] [20] rfl rfl rfl rfl rfl rfl rfl rfl (fun _ _ => rfl) (fun _ _ _ => rfl) rfl (fun z hz => ?_)
        refine r_p (p_move rfl) rfl ?_
        refine r_p (p_extract rfl rfl) rfl ?_
        refine r_p (p_extract rfl rfl) rfl ?_
        refine r_alloc t59 rfl rfl fun b16 => ?_
        refine r_store_all (k := 16) t59 rfl rfl rfl rfl rfl rfl ?_
        refine r_p (p_assign rfl) rfl ?_
        refine r_nil ?_
        refine r_seq ?_
        refine r_seq ?_
        refine r_region ?_
        refine r_p (p_move rfl) rfl ?_
        refine r_p (p_bin rfl rfl b_ne) rfl ?_
        refine r_p (p_move rfl) rfl ?_
        refine r_split (t := 86) rfl (fun h9 => ?_) (fun h9 => ?_)
        · (try simp only [decide_eq_true_eq, decide_eq_false_iff_not, Bool.and_eq_true, Bool.or_eq_true, Bool.and_eq_false_iff, Bool.or_eq_false_iff, Bool.not_eq_true, Bool.not_eq_false, Bool.not_eq_true', Bool.not_eq_false', Bool.not_not, bne_iff_ne, beq_iff_eq] at h9)
          have hz2 : z.2 ≠ 0 := h9
          refine r_gno rfl rfl rfl rfl ?_
          refine r_gno rfl rfl rfl rfl ?_
          refine r_gno rfl rfl rfl rfl ?_
          refine r_gno rfl rfl rfl rfl ?_
          refine r_gno rfl rfl rfl rfl ?_
          refine r_p (p_pick rfl rfl rfl (by first | exact pick_and | exact pick_or |  rfl)) rfl ?_
          refine r_nil ?_
          refine r_cond rfl (fun h10 => ?_) (fun h10 => ?_)
          · have hbad2 : z.2 ≠ 0 ∨ hdrS x28.a (bodyC (cnt dur fr) (2 + (slot : Int) * ((((dur.length - 2) / 2) : Nat) : Int)) x30.a) ≠ cnt dur fr slot := by
              first
                | exact .inl hz2
                | (right; have h9 := h10; rw [Bool.false_or, ba_eq] at h9; simpa only [Bool.not_eq_true', decide_eq_false_iff_not] using h9)
            refine r_seq ?_
            refine r_region ?_
            refine r_p (p_build (parts := []) t59 pl59 rfl rfl) rfl ?_
            refine r_store_all (k := 4) t59 rfl rfl rfl rfl rfl rfl ?_
            refine r_p (p_assign rfl) rfl ?_
            refine r_nil ?_
            refine r_cret ?_
            refine r_addR 90 (A := snA zSp) (fun _ => snA_zero) ?_
            refine r_ret (zSp, 0) (st_end1 hrd hcond.1 hno hz hbad2) rfl (rs2 (rv_cellA t59 rfl rfl rfl (g_all (k := 4) rfl)) (rv_tmp rfl)) rfl [0, 1, 2] [90] rfl rfl rfl
          · have hok2 : z.2 = 0 ∧ hdrS x28.a (bodyC (cnt dur fr) (2 + (slot : Int) * ((((dur.length - 2) / 2) : Nat) : Int)) x30.a) = cnt dur fr slot := by
              first
                | (exfalso; simp at h10; done)
                | (have h9 := h10; rw [Bool.false_or, ba_eq] at h9; exact ⟨hz2, by simpa only [Bool.not_eq_false', decide_eq_true_eq] using h9⟩)
            refine r_skip ?_
            refine r_seq ?_
            refine r_region ?_
            refine r_p (p_loadA t59 rfl rfl rfl (g_all (k := 16) rfl)) rfl ?_
            refine r_p (p_move rfl) rfl ?_
            refine r_store_all (k := 4) t59 rfl rfl rfl rfl rfl rfl ?_
            refine r_p (p_assign rfl) rfl ?_
            refine r_nil ?_
            refine r_cret ?_
            refine r_ret (z.1, x28.a) (st_end2 hrd hcond.1 hno hz hok2.1 hok2.2) rfl (rs2 (rv_cellA t59 rfl rfl rfl (g_all (k := 4) rfl)) (rv_tmp rfl)) rfl [0, 1, 2] [20] rfl rfl rfl
        · (try simp only [decide_eq_true_eq, decide_eq_false_iff_not, Bool.and_eq_true, Bool.or_eq_true, Bool.and_eq_false_iff, Bool.or_eq_false_iff, Bool.not_eq_true, Bool.not_eq_false, Bool.not_eq_true', Bool.not_eq_false', Bool.not_not, bne_iff_ne, beq_iff_eq] at h9)
          have hz2 : z.2 = 0 := h9
          refine r_gyes rfl rfl ?_
          refine r_p (p_move rfl) rfl ?_
          refine r_gyes rfl rfl ?_
          refine r_p (p_move rfl) rfl ?_
          refine r_gyes rfl rfl ?_
          refine r_call (xs := [.tmp 87, .tmp 88]) (header_spec x28.a (bodyC (cnt dur fr) (2 + (slot : Int) * ((((dur.length - 2) / 2) : Nat) : Int)) x30.a) (by unfold bodyC; rw [ofI_size, List.length_take]; omega)) cb65 [] [] [] [] rfl rfl rfl rfl rfl rfl rfl rfl (fun _ _ => rfl) (fun _ _ _ => rfl) rfl (fun _ _ => ?_)
          refine r_gyes rfl rfl ?_
          refine r_p (p_move rfl) rfl ?_
          refine r_gyes rfl rfl ?_
          refine r_p (p_bin rfl rfl b_sne) rfl ?_
          refine r_p (p_pick rfl rfl rfl (by first | exact pick_and | exact pick_or |  rfl)) rfl ?_
          refine r_nil ?_
          refine r_cond rfl (fun h11 => ?_) (fun h11 => ?_)
          · have hbad2 : z.2 ≠ 0 ∨ hdrS x28.a (bodyC (cnt dur fr) (2 + (slot : Int) * ((((dur.length - 2) / 2) : Nat) : Int)) x30.a) ≠ cnt dur fr slot := by
              first
                | exact .inl hz2
                | (right; have h9 := h11; rw [Bool.false_or, ba_eq] at h9; simpa only [Bool.not_eq_true', decide_eq_false_iff_not] using h9)
            refine r_seq ?_
            refine r_region ?_
            refine r_p (p_build (parts := []) t59 pl59 rfl rfl) rfl ?_
            refine r_store_all (k := 4) t59 rfl rfl rfl rfl rfl rfl ?_
            refine r_p (p_assign rfl) rfl ?_
            refine r_nil ?_
            refine r_cret ?_
            refine r_addR 90 (A := snA zSp) (fun _ => snA_zero) ?_
            refine r_ret (zSp, 0) (st_end1 hrd hcond.1 hno hz hbad2) rfl (rs2 (rv_cellA t59 rfl rfl rfl (g_all (k := 4) rfl)) (rv_tmp rfl)) rfl [0, 1, 2] [90] rfl rfl rfl
          · have hok2 : z.2 = 0 ∧ hdrS x28.a (bodyC (cnt dur fr) (2 + (slot : Int) * ((((dur.length - 2) / 2) : Nat) : Int)) x30.a) = cnt dur fr slot := by
              first
                | (exfalso; simp at h11; done)
                | (have h9 := h11; rw [Bool.false_or, ba_eq] at h9; exact ⟨hz2, by simpa only [Bool.not_eq_false', decide_eq_true_eq] using h9⟩)
            refine r_skip ?_
            refine r_seq ?_
            refine r_region ?_
            refine r_p (p_loadA t59 rfl rfl rfl (g_all (k := 16) rfl)) rfl ?_
            refine r_p (p_move rfl) rfl ?_
            refine r_store_all (k := 4) t59 rfl rfl rfl rfl rfl rfl ?_
            refine r_p (p_assign rfl) rfl ?_
            refine r_nil ?_
            refine r_cret ?_
            refine r_ret (z.1, x28.a) (st_end2 hrd hcond.1 hno hz hok2.1 hok2.2) rfl (rs2 (rv_cellA t59 rfl rfl rfl (g_all (k := 4) rfl)) (rv_tmp rfl)) rfl [0, 1, 2] [20] rfl rfl rfl
  · (try simp only [decide_eq_true_eq, decide_eq_false_iff_not, Bool.and_eq_true, Bool.or_eq_true, Bool.and_eq_false_iff, Bool.or_eq_false_iff, Bool.not_eq_true, Bool.not_eq_false, Bool.not_eq_true', Bool.not_eq_false', Bool.not_not, bne_iff_ne, beq_iff_eq] at h5)
    have hs4 := h5
    refine r_gyes rfl rfl ?_
    refine r_p (p_move rfl) rfl ?_
    refine r_gyes rfl rfl ?_
    refine r_p (p_move rfl) rfl ?_
    refine r_gyes rfl rfl ?_
    refine r_call (xs := [.tmp 45]) (room_spec D v ob false armed left dur (by omega) (by omega)) cb61 [] [(true, 0), (true, 2)] [] [] rfl rfl rfl rfl rfl rfl rfl rfl (fun _ _ => rfl) (fun _ _ _ => rfl) rfl (fun _ _ => ?_)
    refine r_gyes rfl rfl ?_
    refine r_p (p_bin rfl rfl (b_mul (by first | exact w_i64 (by omega) (by omega) | rfl))) rfl ?_
    refine r_gyes rfl rfl ?_
    refine r_p (p_bin rfl rfl b_gt) rfl ?_
    refine r_p (p_pick rfl rfl rfl (by first | exact pick_and | exact pick_or |  rfl)) rfl ?_
    refine r_nil ?_
    refine r_cond rfl (fun h12 => ?_) (fun h12 => ?_)
    · have hbad : x30.bad = true ∨ x28.a < 1 ∨ x30.a < 0 ∨ ((((dur.length - 2) / 2) : Nat) : Int) * 64 < x30.a := by
        first
          | (rcases hs4 with (h | h) | h; exact .inl h; exact .inr (.inl h); exact .inr (.inr (.inl h)))
          | (have h9 := h12; rw [Bool.false_or] at h9; exact .inr (.inr (.inr (of_decide_eq_true h9))))
      refine r_seq ?_
      refine r_region ?_
      refine r_p (p_build (parts := []) t59 pl59 rfl rfl) rfl ?_
      refine r_store_all (k := 4) t59 rfl rfl rfl rfl rfl rfl ?_
      refine r_p (p_assign rfl) rfl ?_
      refine r_nil ?_
      refine r_cret ?_
      refine r_addR 90 (A := snA zSp) (fun _ => snA_zero) ?_
      refine r_ret (zSp, 0) (st_bad hrd hbad) rfl (rs2 (rv_cellA t59 rfl rfl rfl (g_all (k := 4) rfl)) (rv_tmp rfl)) rfl [0, 1, 2] [90] rfl rfl rfl
    · have hcond : x30.bad = false ∧ ¬ (x28.a < 1 ∨ x30.a < 0 ∨ ((((dur.length - 2) / 2) : Nat) : Int) * 64 < x30.a) := by
        first
          | (exfalso; simp at h12; done)
          | (have h9 := h12; rw [Bool.false_or] at h9; have h10 := of_decide_eq_false h9; exact ⟨hs4.1.1, by omega⟩)
      have hno : ¬ (x28.a < 1 ∨ x30.a < 0 ∨ ((((dur.length - 2) / 2) : Nat) : Int) * 64 < x30.a) := hcond.2
      refine r_skip ?_
      refine r_seq ?_
      refine r_region ?_
      refine r_p (p_assign rfl) rfl ?_
      refine r_nil ?_
      refine r_seq ?_
      refine r_seq ?_
      refine r_region ?_
      refine r_p (p_assign rfl) rfl ?_
      refine r_nil ?_
      refine r_block ?_
      refine r_loop (X := Nat × SV) (fun x => x.1 ≤ ((x30.a.toNat + 63) / 64)) (fun x => [(0, .pointer (some ⟨D, 0, none⟩)), (1, .int .i64 (slot : Int)), (4, .pointer (some ⟨b4, 0, none⟩)), (6, .string (cnt dur fr slot)), (9, .int .i64 x28.a), (10, .int .i64 x30.a), (11, sv x.2), (12, .int .i64 (x.1 : Int))]) (fun x => [(4, row b4 59 (snC zSp)), (60, own 5 1 eU8 (sv x.2) (catC (cnt dur fr) (2 + (slot : Int) * ((((dur.length - 2) / 2) : Nat) : Int)) x.1)), (0, row D 94 (dC v ob false armed left)), (1, mp mkI Prod.fst vS ob fr), (2, own 9 1 eS (sv v) dur)]) (fun x => []) (fun x => ((x30.a.toNat + 63) / 64) - x.1) (0, nilS) (Nat.zero_le _) rfl rfl rfl (fun x hk0 => ?_)
      obtain ⟨k, vk⟩ := x
      dsimp only at hk0 ⊢
      have hall : ∀ i : Nat, i < ((x30.a.toNat + 63) / 64) → (cnt dur fr ((2 + (slot : Int) * ((((dur.length - 2) / 2) : Nat) : Int)) + (i : Int))).size = 64 := fun i hi => by
        have := hsz (2 + slot * ((dur.length - 2) / 2) + i) (by rcases (by omega : slot = 0 ∨ slot = 1) with h | h <;> subst h <;> omega)
        rw [show ((2 + slot * ((dur.length - 2) / 2) + i : Nat) : Int) = (2 + (slot : Int) * ((((dur.length - 2) / 2) : Nat) : Int)) + (i : Int) by rw [Int.natCast_add, Int.natCast_add, Int.natCast_mul]; rfl] at this
        exact this
      have hcl : (catC (cnt dur fr) (2 + (slot : Int) * ((((dur.length - 2) / 2) : Nat) : Int)) k).length = 64 * k := catC_len fun i hi => hall i (by omega)
      refine r_seq ?_
      refine r_seq ?_
      refine r_region ?_
      refine r_p (p_move rfl) rfl ?_
      refine r_p (p_len_sl Try.underlying95 rfl (hs_own (k := 60) rfl)) rfl ?_
      refine r_p (p_move rfl) rfl ?_
      refine r_p (p_bin rfl rfl b_lt) rfl ?_
      refine r_nil ?_
      refine r_cond rfl (fun h13 => ?_) (fun h13 => ?_)
      · (try simp only [decide_eq_true_eq, decide_eq_false_iff_not, Bool.and_eq_true, Bool.or_eq_true, Bool.and_eq_false_iff, Bool.or_eq_false_iff, Bool.not_eq_true, Bool.not_eq_false, Bool.not_eq_true', Bool.not_eq_false', Bool.not_not, bne_iff_ne, beq_iff_eq] at h13)
        have hk : k < ((x30.a.toNat + 63) / 64) := by rw [hcl] at h13; omega
        have hck := hall k hk
        refine r_skip ?_
        refine r_seq ?_
        refine r_block ?_
        refine r_seq ?_
        refine r_region ?_
        refine r_p (p_move rfl) rfl ?_
        refine r_p (p_move rfl) rfl ?_
        refine r_p (p_move rfl) rfl ?_
        refine r_call (xs := [.tmp 60]) (room_spec D v ob false armed left dur (by omega) (by omega)) cb61 [] [(true, 0), (true, 2)] [] [] rfl rfl rfl rfl rfl rfl rfl rfl (fun _ _ => rfl) (fun _ _ _ => rfl) rfl (fun _ _ => ?_)
        refine r_p (p_bin rfl rfl (b_mul (by first | exact w_i64 (by omega) (by omega) | rfl))) rfl ?_
        refine r_p (p_bin rfl rfl (b_add (by first | exact w_i64 (by omega) (by omega) | rfl))) rfl ?_
        refine r_p (p_move rfl) rfl ?_
        refine r_p (p_bin rfl rfl (b_add (by first | exact w_i64 (by omega) (by omega) | rfl))) rfl ?_
        refine r_call (xs := [.tmp 58, .tmp 65]) (read_spec D v ob false armed left dur fr ((2 + (slot : Int) * ((((dur.length - 2) / 2) : Nat) : Int)) + (k : Int))) cb27 [] [(true, 0), (true, 1), (true, 2)] [] [] rfl rfl rfl rfl rfl rfl rfl rfl (fun _ _ => rfl) (fun _ _ _ => rfl) rfl (fun _ _ => ?_)
        refine r_p (p_move rfl) rfl ?_
        refine r_p (p_extract rfl rfl) rfl ?_
        refine r_p (p_extract rfl rfl) rfl ?_
        refine r_p (p_assign rfl) rfl ?_
        refine r_p (p_assign rfl) rfl ?_
        refine r_nil ?_
        refine r_seq ?_
        refine r_seq ?_
        refine r_region ?_
        refine r_p (p_move rfl) rfl ?_
        refine r_p (p_bin rfl rfl b_ne) rfl ?_
        refine r_nil ?_
        refine r_cond rfl (fun h14 => ?_) (fun h14 => ?_)
        · (exact absurd h14 (by rw [rdF_ok (by constructor <;> omega)]; simp))
        · (try simp only [decide_eq_true_eq, decide_eq_false_iff_not, Bool.and_eq_true, Bool.or_eq_true, Bool.and_eq_false_iff, Bool.or_eq_false_iff, Bool.not_eq_true, Bool.not_eq_false, Bool.not_eq_true', Bool.not_eq_false', Bool.not_not, bne_iff_ne, beq_iff_eq] at h14)
          refine r_skip ?_
          refine r_region ?_
          refine r_p (p_move rfl) rfl ?_
          refine r_p (p_move rfl) rfl ?_
          refine r_appendS 60 Try.underlying95 Try.underlying9 t5 rfl rfl rfl rfl (by rw [hcl, show (rdF false dur fr ((2 + (slot : Int) * ((((dur.length - 2) / 2) : Nat) : Int)) + (k : Int))).1.size = 64 from hck]; omega) rfl fun v74 => ?_
          refine r_p (p_assign rfl) rfl ?_
          refine r_nil ?_
          refine r_region ?_
          refine r_p (p_move rfl) rfl ?_
          refine r_p (p_bin rfl rfl (b_add (by first | exact w_i64 (by omega) (by omega) | rfl))) rfl ?_
          refine r_p (p_assign rfl) rfl ?_
          refine r_nil ?_
          refine r_here (k + 1, v74) ⟨by dsimp only; omega, by dsimp only; omega⟩ rfl (by rw [catC_succ]; rfl) rfl
      · (try simp only [decide_eq_true_eq, decide_eq_false_iff_not, Bool.and_eq_true, Bool.or_eq_true, Bool.and_eq_false_iff, Bool.or_eq_false_iff, Bool.not_eq_true, Bool.not_eq_false, Bool.not_eq_true', Bool.not_eq_false', Bool.not_not, bne_iff_ne, beq_iff_eq] at h13)
        have hk : k = ((x30.a.toNat + 63) / 64) := by rw [hcl] at h13; omega
        subst hk
        refine r_exit ?_
        refine r_seq ?_
        refine r_region ?_
        refine r_p (p_move rfl) rfl ?_
        refine r_p (p_move rfl) rfl ?_
        refine r_p (p_slice_hi (j := x30.a.toNat) Try.underlying95 t5 rfl rfl (hs_own (k := 60) rfl) (by omega) (by rw [hcl]; omega)) rfl ?_
        refine r_p (p_b2sE Try.underlying95 Try.underlying5 Try.underlying9 rfl (SlS.hi (SlS.of (hs_own (k := 60) rfl)) (by rw [hcl]; omega))) rfl ?_
        refine r_p (p_assign rfl) rfl ?_
        refine r_nil ?_
        refine r_seq ?_
        refine r_region ?_
        refine r_p (p_move rfl) rfl ?_
        refine r_call (xs := [.tmp 80]) (read_spec33 (bodyC (cnt dur fr) (2 + (slot : Int) * ((((dur.length - 2) / 2) : Nat) : Int)) x30.a) (by unfold bodyC; rw [ofI_size, List.length_take]; omega)) cb33 [] [] [] [20] rfl rfl rfl rfl rfl rfl rfl rfl (fun _ _ => rfl) (fun _ _ _ => rfl) rfl (fun z hz => ?_)
        refine r_p (p_move rfl) rfl ?_
        refine r_p (p_extract rfl rfl) rfl ?_
        refine r_p (p_extract rfl rfl) rfl ?_
        refine r_alloc t59 rfl rfl fun b16 => ?_
        refine r_store_all (k := 16) t59 rfl rfl rfl rfl rfl rfl ?_
        refine r_p (p_assign rfl) rfl ?_
        refine r_nil ?_
        refine r_seq ?_
        refine r_seq ?_
        refine r_region ?_
        refine r_p (p_move rfl) rfl ?_
        refine r_p (p_bin rfl rfl b_ne) rfl ?_
        refine r_p (p_move rfl) rfl ?_
        refine r_split (t := 86) rfl (fun h15 => ?_) (fun h15 => ?_)
        · (try simp only [decide_eq_true_eq, decide_eq_false_iff_not, Bool.and_eq_true, Bool.or_eq_true, Bool.and_eq_false_iff, Bool.or_eq_false_iff, Bool.not_eq_true, Bool.not_eq_false, Bool.not_eq_true', Bool.not_eq_false', Bool.not_not, bne_iff_ne, beq_iff_eq] at h15)
          have hz2 : z.2 ≠ 0 := h15
          refine r_gno rfl rfl rfl rfl ?_
          refine r_gno rfl rfl rfl rfl ?_
          refine r_gno rfl rfl rfl rfl ?_
          refine r_gno rfl rfl rfl rfl ?_
          refine r_gno rfl rfl rfl rfl ?_
          refine r_p (p_pick rfl rfl rfl (by first | exact pick_and | exact pick_or |  rfl)) rfl ?_
          refine r_nil ?_
          refine r_cond rfl (fun h16 => ?_) (fun h16 => ?_)
          · have hbad2 : z.2 ≠ 0 ∨ hdrS x28.a (bodyC (cnt dur fr) (2 + (slot : Int) * ((((dur.length - 2) / 2) : Nat) : Int)) x30.a) ≠ cnt dur fr slot := by
              first
                | exact .inl hz2
                | (right; have h9 := h16; rw [Bool.false_or, ba_eq] at h9; simpa only [Bool.not_eq_true', decide_eq_false_iff_not] using h9)
            refine r_seq ?_
            refine r_region ?_
            refine r_p (p_build (parts := []) t59 pl59 rfl rfl) rfl ?_
            refine r_store_all (k := 4) t59 rfl rfl rfl rfl rfl rfl ?_
            refine r_p (p_assign rfl) rfl ?_
            refine r_nil ?_
            refine r_cret ?_
            refine r_addR 90 (A := snA zSp) (fun _ => snA_zero) ?_
            refine r_ret (zSp, 0) (st_end1 hrd hcond.1 hno hz hbad2) rfl (rs2 (rv_cellA t59 rfl rfl rfl (g_all (k := 4) rfl)) (rv_tmp rfl)) rfl [0, 1, 2] [90] rfl rfl rfl
          · have hok2 : z.2 = 0 ∧ hdrS x28.a (bodyC (cnt dur fr) (2 + (slot : Int) * ((((dur.length - 2) / 2) : Nat) : Int)) x30.a) = cnt dur fr slot := by
              first
                | (exfalso; simp at h16; done)
                | (have h9 := h16; rw [Bool.false_or, ba_eq] at h9; exact ⟨hz2, by simpa only [Bool.not_eq_false', decide_eq_true_eq] using h9⟩)
            refine r_skip ?_
            refine r_seq ?_
            refine r_region ?_
            refine r_p (p_loadA t59 rfl rfl rfl (g_all (k := 16) rfl)) rfl ?_
            refine r_p (p_move rfl) rfl ?_
            refine r_store_all (k := 4) t59 rfl rfl rfl rfl rfl rfl ?_
            refine r_p (p_assign rfl) rfl ?_
            refine r_nil ?_
            refine r_cret ?_
            refine r_ret (z.1, x28.a) (st_end2 hrd hcond.1 hno hz hok2.1 hok2.2) rfl (rs2 (rv_cellA t59 rfl rfl rfl (g_all (k := 4) rfl)) (rv_tmp rfl)) rfl [0, 1, 2] [20] rfl rfl rfl
        · (try simp only [decide_eq_true_eq, decide_eq_false_iff_not, Bool.and_eq_true, Bool.or_eq_true, Bool.and_eq_false_iff, Bool.or_eq_false_iff, Bool.not_eq_true, Bool.not_eq_false, Bool.not_eq_true', Bool.not_eq_false', Bool.not_not, bne_iff_ne, beq_iff_eq] at h15)
          have hz2 : z.2 = 0 := h15
          refine r_gyes rfl rfl ?_
          refine r_p (p_move rfl) rfl ?_
          refine r_gyes rfl rfl ?_
          refine r_p (p_move rfl) rfl ?_
          refine r_gyes rfl rfl ?_
          refine r_call (xs := [.tmp 87, .tmp 88]) (header_spec x28.a (bodyC (cnt dur fr) (2 + (slot : Int) * ((((dur.length - 2) / 2) : Nat) : Int)) x30.a) (by unfold bodyC; rw [ofI_size, List.length_take]; omega)) cb65 [] [] [] [] rfl rfl rfl rfl rfl rfl rfl rfl (fun _ _ => rfl) (fun _ _ _ => rfl) rfl (fun _ _ => ?_)
          refine r_gyes rfl rfl ?_
          refine r_p (p_move rfl) rfl ?_
          refine r_gyes rfl rfl ?_
          refine r_p (p_bin rfl rfl b_sne) rfl ?_
          refine r_p (p_pick rfl rfl rfl (by first | exact pick_and | exact pick_or |  rfl)) rfl ?_
          refine r_nil ?_
          refine r_cond rfl (fun h17 => ?_) (fun h17 => ?_)
          · have hbad2 : z.2 ≠ 0 ∨ hdrS x28.a (bodyC (cnt dur fr) (2 + (slot : Int) * ((((dur.length - 2) / 2) : Nat) : Int)) x30.a) ≠ cnt dur fr slot := by
              first
                | exact .inl hz2
                | (right; have h9 := h17; rw [Bool.false_or, ba_eq] at h9; simpa only [Bool.not_eq_true', decide_eq_false_iff_not] using h9)
            refine r_seq ?_
            refine r_region ?_
            refine r_p (p_build (parts := []) t59 pl59 rfl rfl) rfl ?_
            refine r_store_all (k := 4) t59 rfl rfl rfl rfl rfl rfl ?_
            refine r_p (p_assign rfl) rfl ?_
            refine r_nil ?_
            refine r_cret ?_
            refine r_addR 90 (A := snA zSp) (fun _ => snA_zero) ?_
            refine r_ret (zSp, 0) (st_end1 hrd hcond.1 hno hz hbad2) rfl (rs2 (rv_cellA t59 rfl rfl rfl (g_all (k := 4) rfl)) (rv_tmp rfl)) rfl [0, 1, 2] [90] rfl rfl rfl
          · have hok2 : z.2 = 0 ∧ hdrS x28.a (bodyC (cnt dur fr) (2 + (slot : Int) * ((((dur.length - 2) / 2) : Nat) : Int)) x30.a) = cnt dur fr slot := by
              first
                | (exfalso; simp at h17; done)
                | (have h9 := h17; rw [Bool.false_or, ba_eq] at h9; exact ⟨hz2, by simpa only [Bool.not_eq_false', decide_eq_true_eq] using h9⟩)
            refine r_skip ?_
            refine r_seq ?_
            refine r_region ?_
            refine r_p (p_loadA t59 rfl rfl rfl (g_all (k := 16) rfl)) rfl ?_
            refine r_p (p_move rfl) rfl ?_
            refine r_store_all (k := 4) t59 rfl rfl rfl rfl rfl rfl ?_
            refine r_p (p_assign rfl) rfl ?_
            refine r_nil ?_
            refine r_cret ?_
            refine r_ret (z.1, x28.a) (st_end2 hrd hcond.1 hno hz hok2.1 hok2.2) rfl (rs2 (rv_cellA t59 rfl rfl rfl (g_all (k := 4) rfl)) (rv_tmp rfl)) rfl [0, 1, 2] [20] rfl rfl rfl

end Go.Proofs.Ytohenjmkhncoiaa
