/-
  The walk of DiskCrash. No condition.
-/
import Derived.Test.YtohenjmkhncoiaaP2
namespace Go.Proofs.Ytohenjmkhncoiaa
set_option linter.unusedSimpArgs false
set_option linter.unusedVariables false
open Go.RowKit

set_option maxRecDepth 100000 in
theorem syncT_spec (D : Nat) (v : SV) (m : Nat) (armed : Bool) (left : Int) (dur : List ByteArray) (fr : List (Int × ByteArray)) :
    Spec Try.prog 21 [.pointer (some ⟨D, 0, none⟩)] [row D 94 (dC v (some m) true armed left), mp mkI Prod.fst vS (some m) fr, own 9 1 eS (sv v) dur] [] (X := List (Int × ByteArray) × DR) (fun x => x.1.Perm fr ∧ x.2 = dstep true armed left dur fr none x.1) (fun x => .int .i64 x.2.e) (fun x => [row D 94 (dC v (some m) x.2.off armed x.2.left), mp mkI Prod.fst vS (some m) x.2.fr, own 9 1 eS (sv v) x.2.dur]) (fun _ => []) := by
  refine r_enter Try.func21 rfl Try.ntmps21 rfl fun w0 M H => ?_
  refine r_seq ?_
  refine r_region ?_
  refine r_p (p_assign rfl) rfl ?_
  refine r_nil ?_
  refine r_seq ?_
  refine r_seq ?_
  refine r_region ?_
  refine r_p (p_move rfl) rfl ?_
  refine r_p (p_bin rfl rfl (b_eqPn Try.underlying24)) rfl ?_
  refine r_p (p_move rfl) rfl ?_
  refine r_split (t := 7) rfl (fun h1 => False.elim (by simp at h1)) (fun h1 => ?_)
  refine r_gyes rfl rfl ?_
  refine r_p (p_move rfl) rfl ?_
  refine r_gyes rfl rfl ?_
  refine r_p (p_nilCheck rfl) rfl ?_
  refine r_gyes rfl rfl ?_
  refine r_p (p_field0 fo94_2 rfl) rfl ?_
  refine r_gyes rfl rfl ?_
  refine r_p (p_load1 t4 rfl rfl (g_row1 (k := 0) rfl rfl)) rfl ?_
  refine r_p (p_pick rfl rfl rfl (by first | exact pick_and | exact pick_or |  rfl)) rfl ?_
  refine r_p (p_move rfl) rfl ?_
  refine r_split (t := 13) rfl (fun h2 => ?_) (fun h2 => False.elim (by simp at h2))
  refine r_gno rfl rfl rfl rfl ?_
  refine r_gno rfl rfl rfl rfl ?_
  refine r_gno rfl rfl rfl rfl ?_
  refine r_p (p_pick rfl rfl rfl (by first | exact pick_and | exact pick_or |  rfl)) rfl ?_
  refine r_nil ?_
  refine r_cond rfl (fun h3 => ?_) (fun h3 => ?_)
  · (try simp only [decide_eq_true_eq, decide_eq_false_iff_not, Bool.and_eq_true, Bool.or_eq_true, Bool.and_eq_false_iff, Bool.or_eq_false_iff, Bool.not_eq_true, Bool.not_eq_false, Bool.not_eq_true', Bool.not_eq_false', Bool.not_not, bne_iff_ne, beq_iff_eq] at h3)
    refine r_seq ?_
    refine r_region ?_
    refine r_p (p_assign rfl) rfl ?_
    refine r_nil ?_
    refine r_cret ?_
    refine r_ret (fr, dstep true armed left dur fr none fr) ⟨List.Perm.refl _, rfl⟩ rfl (rs1 (rv_tmp rfl)) rfl [0, 1, 2] [] rfl rfl rfl
  · exact absurd h3 (by simp)
set_option maxRecDepth 100000 in
theorem sync_spec (D : Nat) (v : SV) (m : Nat) (off armed : Bool) (left : Int) (dur : List ByteArray) (fr : List (Int × ByteArray)) (hb : ∀ p ∈ fr, 0 ≤ p.1 ∧ p.1 < dur.length) :
    Spec Try.prog 21 [.pointer (some ⟨D, 0, none⟩)] [row D 94 (dC v (some m) off armed left), mp mkI Prod.fst vS (some m) fr, own 9 1 eS (sv v) dur] [] (X := List (Int × ByteArray) × DR) (fun x => x.1.Perm fr ∧ x.2 = dstep off armed left dur fr none x.1) (fun x => .int .i64 x.2.e) (fun x => [row D 94 (dC v (some m) x.2.off armed x.2.left), mp mkI Prod.fst vS (some m) x.2.fr, own 9 1 eS (sv v) x.2.dur]) (fun _ => []) := by
  cases off with
  | true =>
    intro w M H hL
    obtain ⟨F, hF⟩ := hL
    have hro : LOk w M H [row D 94 (dC v (some m) true armed left), mp mkI Prod.fst vS (some m) fr, own 9 1 eS (sv v) dur] [] w := ⟨F, hF⟩
    exact syncT_spec D v m armed left dur fr w M H hro
  | false =>
    refine (sync_on D v m armed left dur fr hb).mono fun l hl => ⟨(l, dstep false armed left dur fr none l), ⟨hl, rfl⟩, ?_, ?_, rfl⟩
    · rw [dstep_sync]; cases pwO false armed left <;> rfl
    · rw [dstep_sync]; cases pwO false armed left <;> rfl
set_option maxRecDepth 100000 in
theorem write_spec' (D : Nat) (v : SV) (m : Nat) (off armed : Bool) (left : Int) (dur : List ByteArray) (fr : List (Int × ByteArray)) (n : Int) (s : ByteArray) :
    Spec Try.prog 19 [.pointer (some ⟨D, 0, none⟩), .int .i64 n, .string s] [row D 94 (dC v (some m) off armed left), mp mkI Prod.fst vS (some m) fr] [own 9 1 eS (sv v) dur] (X := DR) (fun d => d = dstep off armed left dur fr (some (n, s)) []) (fun d => .int .i64 d.e) (fun d => [row D 94 (dC v (some m) d.off armed d.left), mp mkI Prod.fst vS (some m) d.fr]) (fun _ => []) :=
  (write_spec D v m off armed left dur fr n s).mono fun _ _ => ⟨dstep off armed left dur fr (some (n, s)) [], rfl, rfl, rfl, rfl⟩

theorem find_putS (fr : List (Int × ByteArray)) (n : Int) (s : ByteArray) (k : Int) : (putS fr n s).find? (fun p => decide (p.1 = k)) = if k = n then some (n, s) else fr.find? (fun p => decide (p.1 = k)) := by
  unfold putS
  rw [List.find?_cons]
  by_cases h : k = n
  · subst h; simp
  · rw [if_neg h]
    have h' : ¬ n = k := fun e => h e.symm
    simp only [h', decide_false]
    induction fr with
    | nil => rfl
    | cons p r ih =>
      by_cases hp : p.1 = n
      · rw [List.filter_cons_of_neg (by simp [hp]), ih, List.find?_cons_of_neg (by simp [hp, h'])]
      · rw [List.filter_cons_of_pos (by simp [hp])]
        by_cases hk : p.1 = k
        · rw [List.find?_cons_of_pos (by simp [hk]), List.find?_cons_of_pos (by simp [hk])]
        · rw [List.find?_cons_of_neg (by simp [hk]), List.find?_cons_of_neg (by simp [hk]), ih]
theorem nd_putS {fr : List (Int × ByteArray)} (h : (fr.map Prod.fst).Nodup) (n : Int) (s : ByteArray) : ((putS fr n s).map Prod.fst).Nodup := by
  unfold putS
  rw [List.map_cons, List.nodup_cons]
  refine ⟨fun hm => ?_, (List.filter_sublist.map Prod.fst).nodup h⟩
  obtain ⟨p, hp, e⟩ := List.mem_map.1 hm
  have := (List.mem_filter.1 hp).2
  simp [e] at this
/-- What is written, up to sector i. -/
structure FrK (g : Nat → Bool) (f : Nat → ByteArray) (i : Nat) (fr : List (Int × ByteArray)) : Prop where
  nd : (fr.map Prod.fst).Nodup
  find : ∀ k : Nat, fr.find? (fun p => decide (p.1 = (k : Int))) = if k < i ∧ g k = true then some ((k : Int), f k) else none
  bd : ∀ p ∈ fr, 0 ≤ p.1 ∧ p.1 < 16
theorem FrK.nil (g : Nat → Bool) (f : Nat → ByteArray) : FrK g f 0 [] := ⟨by simp, fun k => by simp, by simp⟩
theorem FrK.put {g : Nat → Bool} {f : Nat → ByteArray} {i : Nat} {fr : List (Int × ByteArray)} (h : FrK g f i fr) (hi : i < 16) (hg : g i = true) : FrK g f (i + 1) (putS fr i (f i)) := ⟨nd_putS h.nd _ _, fun k => by
  rw [find_putS, h.find k]
  by_cases hk : (k : Int) = (i : Int)
  · have : k = i := by omega
    subst this
    rw [if_pos rfl, if_pos ⟨by omega, hg⟩]
  · rw [if_neg hk]
    by_cases h2 : k < i ∧ g k = true
    · rw [if_pos h2, if_pos ⟨by omega, h2.2⟩]
    · rw [if_neg h2, if_neg (fun h3 => h2 ⟨by omega, h3.2⟩)], fun p hp => by
  rcases List.mem_cons.1 hp with rfl | hp
  · dsimp only; omega
  · exact h.bd p (List.mem_filter.1 hp).1⟩
theorem FrK.skip {g : Nat → Bool} {f : Nat → ByteArray} {i : Nat} {fr : List (Int × ByteArray)} (h : FrK g f i fr) (hg : ¬ g i = true) : FrK g f (i + 1) fr := ⟨h.nd, fun k => by
  rw [h.find k]
  by_cases hk : k = i
  · subst hk; rw [if_neg (by omega), if_neg (fun h3 => hg h3.2)]
  · by_cases h2 : k < i ∧ g k = true
    · rw [if_pos h2, if_pos ⟨by omega, h2.2⟩]
    · rw [if_neg h2, if_neg (fun h3 => h2 ⟨by omega, h3.2⟩)], h.bd⟩
theorem FrK.durable {g : Nat → Bool} {f : Nat → ByteArray} {fr l : List (Int × ByteArray)} (h : FrK g f 16 fr) (hl : l.Perm fr) {dur : List ByteArray} (hd : dur.length = 16) (k : Nat) (hk : k < 16) (hg : g k = true) : (putL l dur).getD k ByteArray.empty = f k := by
  have hf := h.find k
  rw [if_pos ⟨hk, hg⟩] at hf
  have hm := List.mem_of_find?_eq_some hf
  exact putL_mem k (f k) l dur (by omega) ((hl.map Prod.fst).nodup_iff.2 h.nd) (fun p hp => (h.bd p (hl.mem_iff.1 hp)).1) (hl.mem_iff.2 hm)
/-- How many of the sectors below k are written. -/
def cn (g : Nat → Bool) : Nat → Nat
  | 0 => 0
  | k + 1 => if g k = true then cn g k + 1 else cn g k
theorem cn_le (g : Nat → Bool) : ∀ k, cn g k ≤ k
  | 0 => Nat.le_refl _
  | k + 1 => by
    have := cn_le g k
    unfold cn
    split <;> omega
structure CrX (q : List Int) (g : Nat → Bool) (f : Nat → ByteArray) (dur : List ByteArray) (j : Nat) (x : List ByteArray × List (Int × ByteArray) × Nat) : Prop where
  len : x.1.length = dur.length
  val : ∀ k : Nat, k < 16 → x.1.getD k ByteArray.empty = if k < j ∧ g k = true ∧ crB q (cn g k) = true then f k else dur.getD k ByteArray.empty
  at_ : x.2.2 = cn g j
  find : ∀ k : Nat, j ≤ k → k < 16 → x.2.1.find? (fun p => decide (p.1 = (k : Int))) = if g k = true then some ((k : Int), f k) else none
theorem find_filter (l : List (Int × ByteArray)) (j k : Int) (h : k ≠ j) : (l.filter (fun p => decide (p.1 ≠ j))).find? (fun p => decide (p.1 = k)) = l.find? (fun p => decide (p.1 = k)) := by
  induction l with
  | nil => rfl
  | cons p r ih =>
    by_cases hp : p.1 = j
    · rw [List.filter_cons_of_neg (by simp [hp]), ih, List.find?_cons_of_neg (by simp [hp]; exact fun e => h e.symm)]
    · rw [List.filter_cons_of_pos (by simp [hp])]
      by_cases hk : p.1 = k
      · rw [List.find?_cons_of_pos (by simp [hk]), List.find?_cons_of_pos (by simp [hk])]
      · rw [List.find?_cons_of_neg (by simp [hk]), List.find?_cons_of_neg (by simp [hk]), ih]
theorem crash_exact (q : List Int) {g : Nat → Bool} {f : Nat → ByteArray} {dur : List ByteArray} {fr : List (Int × ByteArray)} (h : FrK g f 16 fr) (hd : dur.length = 16) : ∀ j, j ≤ 16 → CrX q g f dur j (sdN q (dur, fr, 0) j)
  | 0, _ => ⟨rfl, fun k _ => by rw [if_neg (by omega)]; rfl, rfl, fun k _ hk => by
    show fr.find? _ = _
    rw [h.find k]
    by_cases hg : g k = true
    · rw [if_pos ⟨hk, hg⟩, if_pos hg]
    · rw [if_neg (fun e => hg e.2), if_neg hg]⟩
  | j + 1, hj => by
    have ih := crash_exact q h hd j (by omega)
    show CrX q g f dur (j + 1) (std q (sdN q (dur, fr, 0) j) j)
    obtain ⟨x, hx⟩ : ∃ x, sdN q (dur, fr, 0) j = x := ⟨_, rfl⟩
    rw [hx] at ih ⊢
    have hf := ih.find j (Nat.le_refl _) (by omega)
    unfold std
    rw [hf]
    by_cases hg : g j = true
    · rw [if_pos hg]
      dsimp only
      refine ⟨?_, fun k hk => ?_, ?_, fun k hjk hk => ?_⟩
      · dsimp only
        split
        · rw [List.length_set]; exact ih.len
        · exact ih.len
      · dsimp only
        rw [ih.at_]
        have hv := ih.val k hk
        by_cases hc : crB q (cn g j) = true
        · rw [if_pos hc, set_getD]
          by_cases hkj : j = k
          · subst hkj
            rw [if_pos ⟨rfl, by rw [ih.len, hd]; exact hk⟩, if_pos ⟨by omega, hg, hc⟩]
          · rw [if_neg (fun e => hkj e.1), hv]
            by_cases h2 : k < j ∧ g k = true ∧ crB q (cn g k) = true
            · rw [if_pos h2, if_pos ⟨by omega, h2.2⟩]
            · rw [if_neg h2, if_neg (fun e => h2 ⟨by omega, e.2⟩)]
        · rw [if_neg hc, hv]
          by_cases hkj : k = j
          · subst hkj
            rw [if_neg (by omega), if_neg (fun e => hc e.2.2)]
          · by_cases h2 : k < j ∧ g k = true ∧ crB q (cn g k) = true
            · rw [if_pos h2, if_pos ⟨by omega, h2.2⟩]
            · rw [if_neg h2, if_neg (fun e => h2 ⟨by omega, e.2⟩)]
      · show x.2.2 + 1 = cn g (j + 1)
        rw [ih.at_, cn, if_pos hg]
      · show (x.2.1.filter _).find? _ = _
        rw [find_filter _ _ _ (by omega)]
        exact ih.find k (by omega) hk
    · rw [if_neg hg]
      dsimp only
      refine ⟨ih.len, fun k hk => ?_, ?_, fun k hjk hk => ih.find k (by omega) hk⟩
      · rw [ih.val k hk]
        by_cases hkj : k = j
        · subst hkj
          rw [if_neg (by omega), if_neg (fun e => hg e.2.1)]
        · by_cases h2 : k < j ∧ g k = true ∧ crB q (cn g k) = true
          · rw [if_pos h2, if_pos ⟨by omega, h2.2⟩]
          · rw [if_neg h2, if_neg (fun e => h2 ⟨by omega, e.2⟩)]
      · show x.2.2 = cn g (j + 1)
        rw [ih.at_, cn, if_neg hg]
def bt (w : Int) (k : Nat) : Bool := decide (bits .and .u16 (w / 2 ^ (k : Int).toNat) 1 = 1)
def fX (a : Int) (k : Nat) : ByteArray := fillS (IntKind.u32.wrap (a + (k : Int))) (64 : Int).toNat
theorem fX_size (a : Int) (k : Nat) : (fX a k).size = 64 := fillS_size _ _
theorem rd_view {dur : List ByteArray} {k : Nat} (h : k < dur.length) : rdF false dur [] (k : Int) = (dur.getD k ByteArray.empty, 0) := by
  have h1 := view_get h
  have h2 := rdF_ok (dur := dur) (fr := []) (n := (k : Int)) (by omega)
  exact Prod.ext h1 h2

set_option maxHeartbeats 4000000 in
set_option maxRecDepth 100000 in
theorem crash_law_n (a b : Int) (w : Int) (hw : 0 ≤ w ∧ w < 65536) (vq : SV) (q : List Int) (hq : 0 < q.length) :
    Spec Try.prog 4 [.agg #[.int .u32 a, .int .u32 b], .int .u16 w, sv vq] [] [sl 1 eI (sv vq) q] (X := Unit) (fun _ => True) (fun _ => .bool true) (fun _ => []) (fun _ => []) := by
  refine r_enter Try.func4 rfl Try.ntmps4 rfl fun w0 M H => ?_
  refine r_seq ?_
  refine r_region ?_
  refine r_boxA rfl rfl fun b3 => ?_
  refine r_p (p_assign rfl) rfl ?_
  refine r_nil ?_
  refine r_seq ?_
  refine r_region ?_
  refine r_call (xs := []) sanity_spec cb15 [] [] [] [] rfl rfl rfl rfl rfl rfl rfl rfl (fun _ _ => rfl) (fun _ _ _ => rfl) rfl (fun _ _ => ?_)
  refine r_p (p_assign rfl) rfl ?_
  refine r_nil ?_
  refine r_seq ?_
  refine r_region ?_
  refine r_call (xs := [.const (.int .i64 16)]) (newdisk_spec 16) cb16 [] [] [60, 61, 62] [] rfl rfl rfl rfl rfl rfl rfl rfl (fun _ _ => rfl) (fun _ _ _ => rfl) rfl (fun d3 _ => ?_)
  obtain ⟨D, v, m⟩ := d3
  dsimp only
  refine r_conva (k := 62) (A' := own 9 1 eS (sv v) (List.replicate 16 zsec)) rfl (fun _ _ h => h) ?_
  refine r_p (p_assign rfl) rfl ?_
  refine r_nil ?_
  refine r_seq ?_
  refine r_seq ?_
  refine r_region ?_
  refine r_p (p_assign rfl) rfl ?_
  refine r_nil ?_
  refine r_block ?_
  refine r_loop (X := Nat × List (Int × ByteArray) × Int) (fun x => x.1 ≤ 16 ∧ FrK (fun _ => true) (fX a) x.1 x.2.1) (fun x => [(3, .pointer (some ⟨b3, 0, none⟩)), (1, .int .u16 w), (2, sv vq), (7, .bool true), (8, .pointer (some ⟨D, 0, none⟩)), (9, .int .i64 (x.1 : Int))]) (fun x => [(3, row b3 46 [.int .u32 a, .int .u32 b]), (60, row D 94 (dC v (some m) false false x.2.2)), (61, mp mkI Prod.fst vS (some m) x.2.1), (62, own 9 1 eS (sv v) (List.replicate 16 zsec))]) (fun x => [(0, sl 1 eI (sv vq) q)]) (fun x => 16 - x.1) (0, [], 0) ⟨Nat.zero_le _, FrK.nil _ _⟩ rfl rfl rfl (fun x hx0 => ?_)
  obtain ⟨k, fr, left⟩ := x
  dsimp only at hx0 ⊢
  have hk0 := hx0.1
  refine r_seq ?_
  refine r_seq ?_
  refine r_region ?_
  refine r_p (p_move rfl) rfl ?_
  refine r_p (p_bin rfl rfl b_lt) rfl ?_
  refine r_nil ?_
  refine r_cond rfl (fun h1 => ?_) (fun h1 => ?_)
  · (try simp only [decide_eq_true_eq, decide_eq_false_iff_not, Bool.and_eq_true, Bool.or_eq_true, Bool.and_eq_false_iff, Bool.or_eq_false_iff, Bool.not_eq_true, Bool.not_eq_false, Bool.not_eq_true', Bool.not_eq_false', Bool.not_not, bne_iff_ne, beq_iff_eq] at h1)
    have hk : k < 16 := by omega
    refine r_skip ?_
    refine r_seq ?_
    refine r_block ?_
    refine r_seq ?_
    refine r_region ?_
    refine r_p (p_move rfl) rfl ?_
    refine r_p (p_move rfl) rfl ?_
    refine r_p (p_idx_arr1 (j := 0) Try.underlying46 t32 rfl rfl (by rfl) (by decide)) rfl ?_
    refine r_p (p_load1 t32 rfl rfl (g_row1 (k := 3) rfl rfl)) rfl ?_
    refine r_p (p_move rfl) rfl ?_
    refine r_p (p_conv Try.underlying3 Try.underlying32 rfl (by first | exact w_u32 (by omega) (by omega) | rfl)) rfl ?_
    refine r_p (p_bin rfl rfl (b_add rfl)) rfl ?_
    refine r_call (xs := [.tmp 28, .const (.int .i64 64)]) (fill_spec (IntKind.u32.wrap (a + (k : Int))) 64 (by decide) (by decide)) cb18 [] [] [] [] rfl rfl rfl rfl rfl rfl rfl rfl (fun _ _ => rfl) (fun _ _ _ => rfl) rfl (fun _ _ => ?_)
    refine r_call (xs := [.tmp 22, .tmp 23, .tmp 29]) (write_spec' D v m false false left (List.replicate 16 zsec) fr (k : Int) (fX a k)) cb19 [60, 61] [(true, 62)] [60, 61] [] rfl rfl rfl rfl rfl rfl rfl rfl (fun _ _ => rfl) (fun _ _ _ => rfl) rfl (fun d hd => ?_)
    rw [dstep_wr _ _ _ _ _ _ _ _ (by rw [List.length_replicate]; omega) (fX_size a k), if_neg (by simp [pwO])] at hd
    subst hd
    dsimp only
    refine r_p (p_bin rfl rfl b_ne) rfl ?_
    refine r_nil ?_
    refine r_cond rfl (fun h2 => ?_) (fun h2 => ?_)
    · exact absurd h2 (by simp)
    · (try simp only [decide_eq_true_eq, decide_eq_false_iff_not, Bool.and_eq_true, Bool.or_eq_true, Bool.and_eq_false_iff, Bool.or_eq_false_iff, Bool.not_eq_true, Bool.not_eq_false, Bool.not_eq_true', Bool.not_eq_false', Bool.not_not, bne_iff_ne, beq_iff_eq] at h2)
      refine r_skip ?_
      refine r_region ?_
      refine r_p (p_move rfl) rfl ?_
      refine r_p (p_bin rfl rfl (b_add (by first | exact w_i64 (by omega) (by omega) | rfl))) rfl ?_
      refine r_p (p_assign rfl) rfl ?_
      refine r_nil ?_
      refine r_here (k + 1, putS fr (k : Int) (fX a k), IntKind.i64.wrap (left - 1)) ⟨⟨by dsimp only; omega, hx0.2.put hk rfl⟩, by dsimp only; omega⟩ rfl rfl rfl
  · (try simp only [decide_eq_true_eq, decide_eq_false_iff_not, Bool.and_eq_true, Bool.or_eq_true, Bool.and_eq_false_iff, Bool.or_eq_false_iff, Bool.not_eq_true, Bool.not_eq_false, Bool.not_eq_true', Bool.not_eq_false', Bool.not_not, bne_iff_ne, beq_iff_eq] at h1)
    have hk : k = 16 := by omega
    subst hk
    have hF1 := hx0.2
    refine r_exit ?_
    refine r_seq ?_
    refine r_seq ?_
    refine r_region ?_
    refine r_p (p_move rfl) rfl ?_
    refine r_call (xs := [.tmp 32]) (sync_spec D v m false false left (List.replicate 16 zsec) fr (by rw [List.length_replicate]; exact hF1.bd)) cb21 [60, 61, 62] [] [60, 61, 62] [] rfl rfl rfl rfl rfl rfl rfl rfl (fun _ _ => rfl) (fun _ _ _ => rfl) rfl (fun y hy => ?_)
    obtain ⟨l, d⟩ := y
    obtain ⟨hl, hd⟩ := hy
    dsimp only at hl hd ⊢
    rw [dstep_sync, if_neg (by simp [pwO])] at hd
    subst hd
    dsimp only
    have hdA : ∀ k : Nat, k < 16 → (putL l (List.replicate 16 zsec)).getD k ByteArray.empty = fX a k := fun k hk => hF1.durable hl (List.length_replicate ..) k hk rfl
    have hdl : (putL l (List.replicate 16 zsec)).length = 16 := (putL_len _ _).trans (List.length_replicate ..)
    obtain ⟨dur, hdur⟩ : ∃ z, putL l (List.replicate 16 zsec) = z := ⟨_, rfl⟩
    rw [hdur] at hdA hdl ⊢
    refine r_p (p_bin rfl rfl b_ne) rfl ?_
    refine r_nil ?_
    refine r_cond rfl (fun h3 => ?_) (fun h3 => ?_)
    · exact absurd h3 (by simp)
    · (try simp only [decide_eq_true_eq, decide_eq_false_iff_not, Bool.and_eq_true, Bool.or_eq_true, Bool.and_eq_false_iff, Bool.or_eq_false_iff, Bool.not_eq_true, Bool.not_eq_false, Bool.not_eq_true', Bool.not_eq_false', Bool.not_not, bne_iff_ne, beq_iff_eq] at h3)
      refine r_skip ?_
      refine r_seq ?_
      refine r_seq ?_
      refine r_region ?_
      refine r_p (p_assign rfl) rfl ?_
      refine r_nil ?_
      refine r_block ?_
      refine r_loop (X := Nat × List (Int × ByteArray) × Int) (fun x => x.1 ≤ 16 ∧ FrK (bt w) (fX b) x.1 x.2.1) (fun x => [(3, .pointer (some ⟨b3, 0, none⟩)), (1, .int .u16 w), (2, sv vq), (7, .bool true), (8, .pointer (some ⟨D, 0, none⟩)), (10, .int .i64 (x.1 : Int))]) (fun x => [(3, row b3 46 [.int .u32 a, .int .u32 b]), (60, row D 94 (dC v (some m) false false x.2.2)), (61, mp mkI Prod.fst vS (some m) x.2.1), (62, own 9 1 eS (sv v) dur)]) (fun x => [(0, sl 1 eI (sv vq) q)]) (fun x => 16 - x.1) (0, [], IntKind.i64.wrap (left - 1)) ⟨Nat.zero_le _, FrK.nil _ _⟩ rfl rfl rfl (fun x hx0 => ?_)
      obtain ⟨k, fr, left⟩ := x
      dsimp only at hx0 ⊢
      have hk0 := hx0.1
      refine r_seq ?_
      refine r_seq ?_
      refine r_region ?_
      refine r_p (p_move rfl) rfl ?_
      refine r_p (p_bin rfl rfl b_lt) rfl ?_
      refine r_nil ?_
      refine r_cond rfl (fun h4 => ?_) (fun h4 => ?_)
      · (try simp only [decide_eq_true_eq, decide_eq_false_iff_not, Bool.and_eq_true, Bool.or_eq_true, Bool.and_eq_false_iff, Bool.or_eq_false_iff, Bool.not_eq_true, Bool.not_eq_false, Bool.not_eq_true', Bool.not_eq_false', Bool.not_not, bne_iff_ne, beq_iff_eq] at h4)
        have hk : k < 16 := by omega
        refine r_skip ?_
        refine r_seq ?_
        refine r_block ?_
        refine r_seq ?_
        refine r_region ?_
        refine r_p (p_move rfl) rfl ?_
        refine r_p (p_move rfl) rfl ?_
        refine r_p (p_bin rfl rfl (b_shr (by omega) (by first | decide | (simp [IntKind.bits]; omega)) rfl)) rfl ?_
        refine r_p (p_bin rfl rfl (b_and rfl)) rfl ?_
        refine r_p (p_bin rfl rfl b_eq) rfl ?_
        refine r_p (p_move rfl) rfl ?_
        refine r_split (t := 44) rfl (fun h5 => ?_) (fun h5 => ?_)
        · (try simp only [decide_eq_true_eq, decide_eq_false_iff_not, Bool.and_eq_true, Bool.or_eq_true, Bool.and_eq_false_iff, Bool.or_eq_false_iff, Bool.not_eq_true, Bool.not_eq_false, Bool.not_eq_true', Bool.not_eq_false', Bool.not_not, bne_iff_ne, beq_iff_eq] at h5)
          have hbt : bt w k = true := by unfold bt; exact decide_eq_true h5
          refine r_gyes rfl rfl ?_
          refine r_p (p_move rfl) rfl ?_
          refine r_gyes rfl rfl ?_
          refine r_p (p_move rfl) rfl ?_
          refine r_gyes rfl rfl ?_
          refine r_p (p_idx_arr1 (j := 1) Try.underlying46 t32 rfl rfl (by rfl) (by decide)) rfl ?_
          refine r_gyes rfl rfl ?_
          refine r_p (p_load1 t32 rfl rfl (g_row1 (k := 3) rfl rfl)) rfl ?_
          refine r_gyes rfl rfl ?_
          refine r_p (p_move rfl) rfl ?_
          refine r_gyes rfl rfl ?_
          refine r_p (p_conv Try.underlying3 Try.underlying32 rfl (by first | exact w_u32 (by omega) (by omega) | rfl)) rfl ?_
          refine r_gyes rfl rfl ?_
          refine r_p (p_bin rfl rfl (b_add rfl)) rfl ?_
          refine r_gyes rfl rfl ?_
          refine r_call (xs := [.tmp 51, .const (.int .i64 64)]) (fill_spec (IntKind.u32.wrap (b + (k : Int))) 64 (by decide) (by decide)) cb18 [] [] [] [] rfl rfl rfl rfl rfl rfl rfl rfl (fun _ _ => rfl) (fun _ _ _ => rfl) rfl (fun _ _ => ?_)
          refine r_gyes rfl rfl ?_
          refine r_call (xs := [.tmp 45, .tmp 46, .tmp 52]) (write_spec' D v m false false left dur fr (k : Int) (fX b k)) cb19 [60, 61] [(true, 62)] [60, 61] [] rfl rfl rfl rfl rfl rfl rfl rfl (fun _ _ => rfl) (fun _ _ _ => rfl) rfl (fun d hd => ?_)
          rw [dstep_wr _ _ _ _ _ _ _ _ (by rw [hdl]; omega) (fX_size b k), if_neg (by simp [pwO])] at hd
          subst hd
          dsimp only
          refine r_gyes rfl rfl ?_
          refine r_p (p_bin rfl rfl b_ne) rfl ?_
          refine r_p (p_pick rfl rfl rfl (by first | exact pick_and | exact pick_or |  rfl)) rfl ?_
          refine r_nil ?_
          refine r_cond rfl (fun h6 => ?_) (fun h6 => ?_)
          · (simp at h6)
          · (try simp only [decide_eq_true_eq, decide_eq_false_iff_not, Bool.and_eq_true, Bool.or_eq_true, Bool.and_eq_false_iff, Bool.or_eq_false_iff, Bool.not_eq_true, Bool.not_eq_false, Bool.not_eq_true', Bool.not_eq_false', Bool.not_not, bne_iff_ne, beq_iff_eq] at h6)
            refine r_skip ?_
            refine r_region ?_
            refine r_p (p_move rfl) rfl ?_
            refine r_p (p_bin rfl rfl (b_add (by first | exact w_i64 (by omega) (by omega) | rfl))) rfl ?_
            refine r_p (p_assign rfl) rfl ?_
            refine r_nil ?_
            first
              | refine r_here (k + 1, putS fr (k : Int) (fX b k), IntKind.i64.wrap (left - 1)) ⟨⟨by dsimp only; omega, hx0.2.put hk hbt⟩, by dsimp only; omega⟩ rfl rfl rfl
              | refine r_here (k + 1, fr, left) ⟨⟨by dsimp only; omega, hx0.2.skip hbt⟩, by dsimp only; omega⟩ rfl rfl rfl
        · (try simp only [decide_eq_true_eq, decide_eq_false_iff_not, Bool.and_eq_true, Bool.or_eq_true, Bool.and_eq_false_iff, Bool.or_eq_false_iff, Bool.not_eq_true, Bool.not_eq_false, Bool.not_eq_true', Bool.not_eq_false', Bool.not_not, bne_iff_ne, beq_iff_eq] at h5)
          have hbt : ¬ bt w k = true := by unfold bt; rw [decide_eq_false h5]; simp
          refine r_gno rfl rfl rfl rfl ?_
          refine r_gno rfl rfl rfl rfl ?_
          refine r_gno rfl rfl rfl rfl ?_
          refine r_gno rfl rfl rfl rfl ?_
          refine r_gno rfl rfl rfl rfl ?_
          refine r_gno rfl rfl rfl rfl ?_
          refine r_gno rfl rfl rfl rfl ?_
          refine r_gno rfl rfl rfl rfl ?_
          refine r_gno rfl rfl rfl rfl ?_
          refine r_gno rfl rfl rfl rfl ?_
          refine r_p (p_pick rfl rfl rfl (by first | exact pick_and | exact pick_or |  rfl)) rfl ?_
          refine r_nil ?_
          refine r_cond rfl (fun h7 => ?_) (fun h7 => ?_)
          · (simp at h7)
          · (try simp only [decide_eq_true_eq, decide_eq_false_iff_not, Bool.and_eq_true, Bool.or_eq_true, Bool.and_eq_false_iff, Bool.or_eq_false_iff, Bool.not_eq_true, Bool.not_eq_false, Bool.not_eq_true', Bool.not_eq_false', Bool.not_not, bne_iff_ne, beq_iff_eq] at h7)
            refine r_skip ?_
            refine r_region ?_
            refine r_p (p_move rfl) rfl ?_
            refine r_p (p_bin rfl rfl (b_add (by first | exact w_i64 (by omega) (by omega) | rfl))) rfl ?_
            refine r_p (p_assign rfl) rfl ?_
            refine r_nil ?_
            first
              | refine r_here (k + 1, putS fr (k : Int) (fX b k), IntKind.i64.wrap (left - 1)) ⟨⟨by dsimp only; omega, hx0.2.put hk hbt⟩, by dsimp only; omega⟩ rfl rfl rfl
              | refine r_here (k + 1, fr, left) ⟨⟨by dsimp only; omega, hx0.2.skip hbt⟩, by dsimp only; omega⟩ rfl rfl rfl
      · (try simp only [decide_eq_true_eq, decide_eq_false_iff_not, Bool.and_eq_true, Bool.or_eq_true, Bool.and_eq_false_iff, Bool.or_eq_false_iff, Bool.not_eq_true, Bool.not_eq_false, Bool.not_eq_true', Bool.not_eq_false', Bool.not_not, bne_iff_ne, beq_iff_eq] at h4)
        have hk : k = 16 := by omega
        subst hk
        have hF2 := hx0.2
        refine r_exit ?_
        refine r_seq ?_
        refine r_region ?_
        refine r_p (p_move rfl) rfl ?_
        refine r_p (p_move rfl) rfl ?_
        refine r_call (xs := [.tmp 56, .tmp 57]) (crash_spec D v m false false left dur fr vq q (by omega)) cb25 [60, 61, 62] [(false, 0)] [60, 61, 62] [] rfl rfl rfl rfl rfl rfl rfl rfl (fun _ _ => rfl) (fun _ _ _ => rfl) rfl (fun _ _ => ?_)
        have hX := crash_exact q hF2 hdl 16 (Nat.le_refl _)
        have hdn := crash_done (q := q) (dur := dur) (fr := fr) (by rw [hdl]; exact hF2.bd)
        rw [hdl] at hdn ⊢
        obtain ⟨xx, hxx⟩ : ∃ xx, sdN q (dur, fr, 0) 16 = xx := ⟨_, rfl⟩
        rw [hxx] at hX hdn ⊢
        rw [hdn]
        have hxl : xx.1.length = 16 := hX.len.trans hdl
        refine r_nil ?_
        refine r_seq ?_
        refine r_region ?_
        refine r_p (p_assign rfl) rfl ?_
        refine r_nil ?_
        refine r_seq ?_
        refine r_seq ?_
        refine r_region ?_
        refine r_p (p_assign rfl) rfl ?_
        refine r_nil ?_
        refine r_block ?_
        refine r_loop (X := Nat) (fun k => k ≤ 16) (fun k => [(3, .pointer (some ⟨b3, 0, none⟩)), (1, .int .u16 w), (2, sv vq), (7, .bool true), (8, .pointer (some ⟨D, 0, none⟩)), (11, .int .i64 (cn (bt w) k : Int)), (12, .int .i64 (k : Int))]) (fun k => [(3, row b3 46 [.int .u32 a, .int .u32 b]), (60, row D 94 (dC v (some m) false false left)), (61, mp mkI Prod.fst vS (some m) []), (62, own 9 1 eS (sv v) xx.1)]) (fun k => [(0, sl 1 eI (sv vq) q)]) (fun k => 16 - k) 0 (Nat.zero_le _) rfl rfl rfl (fun k hk0 => ?_)
        have hcl := cn_le (bt w) k
        refine r_seq ?_
        refine r_seq ?_
        refine r_region ?_
        refine r_p (p_move rfl) rfl ?_
        refine r_p (p_bin rfl rfl b_lt) rfl ?_
        refine r_nil ?_
        refine r_cond rfl (fun h8 => ?_) (fun h8 => ?_)
        · (try simp only [decide_eq_true_eq, decide_eq_false_iff_not, Bool.and_eq_true, Bool.or_eq_true, Bool.and_eq_false_iff, Bool.or_eq_false_iff, Bool.not_eq_true, Bool.not_eq_false, Bool.not_eq_true', Bool.not_eq_false', Bool.not_not, bne_iff_ne, beq_iff_eq] at h8)
          have hk : k < 16 := by omega
          refine r_skip ?_
          refine r_seq ?_
          refine r_block ?_
          refine r_seq ?_
          refine r_region ?_
          refine r_p (p_idx_arr1 (j := 0) Try.underlying46 t32 rfl rfl (by rfl) (by decide)) rfl ?_
          refine r_p (p_load1 t32 rfl rfl (g_row1 (k := 3) rfl rfl)) rfl ?_
          refine r_p (p_move rfl) rfl ?_
          refine r_p (p_conv Try.underlying3 Try.underlying32 rfl (by first | exact w_u32 (by omega) (by omega) | rfl)) rfl ?_
          refine r_p (p_bin rfl rfl (b_add rfl)) rfl ?_
          refine r_call (xs := [.tmp 67, .const (.int .i64 64)]) (fill_spec (IntKind.u32.wrap (a + (k : Int))) 64 (by decide) (by decide)) cb18 [] [] [] [] rfl rfl rfl rfl rfl rfl rfl rfl (fun _ _ => rfl) (fun _ _ _ => rfl) rfl (fun _ _ => ?_)
          refine r_p (p_assign rfl) rfl ?_
          refine r_nil ?_
          refine r_seq ?_
          refine r_seq ?_
          refine r_region ?_
          refine r_p (p_move rfl) rfl ?_
          refine r_p (p_move rfl) rfl ?_
          refine r_p (p_bin rfl rfl (b_shr (by omega) (by first | decide | (simp [IntKind.bits]; omega)) rfl)) rfl ?_
          refine r_p (p_bin rfl rfl (b_and rfl)) rfl ?_
          refine r_p (p_bin rfl rfl b_eq) rfl ?_
          refine r_nil ?_
          refine r_cond rfl (fun h9 => ?_) (fun h9 => ?_)
          · have hbt : bt w k = true := h9
            refine r_seq ?_
            refine r_seq ?_
            refine r_region ?_
            refine r_p (p_move rfl) rfl ?_
            refine r_p (p_len_sl Try.underlying28 rfl (hs_sl (k := 0) rfl)) rfl ?_
            refine r_p (p_bin rfl rfl b_gt) rfl ?_
            refine r_p (p_move rfl) rfl ?_
            refine r_split (t := 77) rfl (fun h10 => ?_) (fun h10 => False.elim (by have := of_decide_eq_false h10; omega))
            refine r_gyes rfl rfl ?_
            refine r_p (p_move rfl) rfl ?_
            refine r_gyes rfl rfl ?_
            refine r_p (p_move rfl) rfl ?_
            refine r_gyes rfl rfl ?_
            refine r_p (p_move rfl) rfl ?_
            refine r_gyes rfl rfl ?_
            refine r_p (p_len_sl Try.underlying28 rfl (hs_sl (k := 0) rfl)) rfl ?_
            refine r_gyes rfl rfl ?_
            refine r_p (p_bin rfl rfl (b_rem (by omega) (tmod_pos (by omega)))) rfl ?_
            refine r_gyes rfl rfl ?_
            refine r_p (p_idx_sl (j := (cn (bt w) k % q.length)) Try.underlying28 t3 rfl rfl (hs_sl (k := 0) rfl) (by rw [Int.natCast_emod]) (Nat.mod_lt _ hq)) rfl ?_
            refine r_gyes rfl rfl ?_
            refine r_p (p_load1 t3 rfl rfl (g_el' (hs_sl (k := 0) rfl) (by intro _; rfl) (getD_get 0 (Nat.mod_lt _ hq)) (by rfl))) rfl ?_
            refine r_gyes rfl rfl ?_
            refine r_p (p_bin rfl rfl (b_and rfl)) rfl ?_
            refine r_gyes rfl rfl ?_
            refine r_p (p_bin rfl rfl b_eq) rfl ?_
            refine r_p (p_pick rfl rfl rfl (by first | exact pick_and | exact pick_or |  rfl)) rfl ?_
            refine r_nil ?_
            refine r_cond rfl (fun h11 => ?_) (fun h11 => ?_)
            · have hcr : crB q (cn (bt w) k) = true := by unfold crB; rw [decide_eq_true hq]; simpa using h11
              refine r_region ?_
              refine r_p (p_idx_arr1 (j := 1) Try.underlying46 t32 rfl rfl (by rfl) (by decide)) rfl ?_
              refine r_p (p_load1 t32 rfl rfl (g_row1 (k := 3) rfl rfl)) rfl ?_
              refine r_p (p_move rfl) rfl ?_
              refine r_p (p_conv Try.underlying3 Try.underlying32 rfl (by first | exact w_u32 (by omega) (by omega) | rfl)) rfl ?_
              refine r_p (p_bin rfl rfl (b_add rfl)) rfl ?_
              refine r_call (xs := [.tmp 92, .const (.int .i64 64)]) (fill_spec (IntKind.u32.wrap (b + (k : Int))) 64 (by decide) (by decide)) cb18 [] [] [] [] rfl rfl rfl rfl rfl rfl rfl rfl (fun _ _ => rfl) (fun _ _ _ => rfl) rfl (fun _ _ => ?_)
              refine r_p (p_assign rfl) rfl ?_
              refine r_nil ?_
              refine r_region ?_
              refine r_p (p_move rfl) rfl ?_
              refine r_p (p_bin rfl rfl (b_add (by first | exact w_i64 (by omega) (by omega) | rfl))) rfl ?_
              refine r_p (p_assign rfl) rfl ?_
              refine r_nil ?_
              refine r_seq ?_
              refine r_region ?_
              refine r_p (p_move rfl) rfl ?_
              refine r_p (p_move rfl) rfl ?_
              refine r_call (xs := [.tmp 97, .tmp 98]) (read_spec D v (some m) false false left xx.1 [] (k : Int)) cb27 [] [(true, 60), (true, 61), (true, 62)] [] [] rfl rfl rfl rfl rfl rfl rfl rfl (fun _ _ => rfl) (fun _ _ _ => rfl) rfl (fun _ _ => ?_)
              rw [rd_view (by omega)]
              have hval := hX.val k hk
              refine r_p (p_move rfl) rfl ?_
              refine r_p (p_extract rfl rfl) rfl ?_
              refine r_p (p_extract rfl rfl) rfl ?_
              refine r_p (p_assign rfl) rfl ?_
              refine r_p (p_assign rfl) rfl ?_
              refine r_nil ?_
              refine r_seq ?_
              refine r_region ?_
              refine r_p (p_move rfl) rfl ?_
              refine r_p (p_move rfl) rfl ?_
              refine r_p (p_bin rfl rfl b_sne) rfl ?_
              refine r_p (p_move rfl) rfl ?_
              refine r_gp [] rfl rfl trivial (fun hg12 => p_move rfl) rfl ?_
              refine r_gp [(106, _)] rfl rfl ⟨rfl, trivial⟩ (fun hg13 => p_bin rfl rfl b_ne) rfl ?_
              refine r_p (p_pick rfl rfl rfl (by first | exact pick_and | exact pick_or |  rfl)) rfl ?_
              refine r_nil ?_
              rw [if_pos ⟨hk, hbt, hcr⟩] at hval
              rw [hval]
              refine r_cond rfl (fun h14 => ?_) (fun h14 => ?_)
              · (simp [ba_eq, fX] at h14)
              · (try simp only [decide_eq_true_eq, decide_eq_false_iff_not, Bool.and_eq_true, Bool.or_eq_true, Bool.and_eq_false_iff, Bool.or_eq_false_iff, Bool.not_eq_true, Bool.not_eq_false, Bool.not_eq_true', Bool.not_eq_false', Bool.not_not, bne_iff_ne, beq_iff_eq] at h14)
                refine r_skip ?_
                refine r_region ?_
                refine r_p (p_move rfl) rfl ?_
                refine r_p (p_bin rfl rfl (b_add (by first | exact w_i64 (by omega) (by omega) | rfl))) rfl ?_
                refine r_p (p_assign rfl) rfl ?_
                refine r_nil ?_
                refine r_here (k + 1) ⟨by omega, by omega⟩ (by rw [cn, if_pos hbt]; rfl) rfl rfl
            · have hcr : ¬ crB q (cn (bt w) k) = true := by unfold crB; rw [decide_eq_true hq]; simpa using h11
              refine r_skip ?_
              refine r_region ?_
              refine r_p (p_move rfl) rfl ?_
              refine r_p (p_bin rfl rfl (b_add (by first | exact w_i64 (by omega) (by omega) | rfl))) rfl ?_
              refine r_p (p_assign rfl) rfl ?_
              refine r_nil ?_
              refine r_seq ?_
              refine r_region ?_
              refine r_p (p_move rfl) rfl ?_
              refine r_p (p_move rfl) rfl ?_
              refine r_call (xs := [.tmp 97, .tmp 98]) (read_spec D v (some m) false false left xx.1 [] (k : Int)) cb27 [] [(true, 60), (true, 61), (true, 62)] [] [] rfl rfl rfl rfl rfl rfl rfl rfl (fun _ _ => rfl) (fun _ _ _ => rfl) rfl (fun _ _ => ?_)
              rw [rd_view (by omega)]
              have hval := hX.val k hk
              refine r_p (p_move rfl) rfl ?_
              refine r_p (p_extract rfl rfl) rfl ?_
              refine r_p (p_extract rfl rfl) rfl ?_
              refine r_p (p_assign rfl) rfl ?_
              refine r_p (p_assign rfl) rfl ?_
              refine r_nil ?_
              refine r_seq ?_
              refine r_region ?_
              refine r_p (p_move rfl) rfl ?_
              refine r_p (p_move rfl) rfl ?_
              refine r_p (p_bin rfl rfl b_sne) rfl ?_
              refine r_p (p_move rfl) rfl ?_
              refine r_gp [] rfl rfl trivial (fun hg15 => p_move rfl) rfl ?_
              refine r_gp [(106, _)] rfl rfl ⟨rfl, trivial⟩ (fun hg16 => p_bin rfl rfl b_ne) rfl ?_
              refine r_p (p_pick rfl rfl rfl (by first | exact pick_and | exact pick_or |  rfl)) rfl ?_
              refine r_nil ?_
              rw [if_neg (fun e => hcr e.2.2), hdA k hk] at hval
              rw [hval]
              refine r_cond rfl (fun h17 => ?_) (fun h17 => ?_)
              · (simp [ba_eq, fX] at h17)
              · (try simp only [decide_eq_true_eq, decide_eq_false_iff_not, Bool.and_eq_true, Bool.or_eq_true, Bool.and_eq_false_iff, Bool.or_eq_false_iff, Bool.not_eq_true, Bool.not_eq_false, Bool.not_eq_true', Bool.not_eq_false', Bool.not_not, bne_iff_ne, beq_iff_eq] at h17)
                refine r_skip ?_
                refine r_region ?_
                refine r_p (p_move rfl) rfl ?_
                refine r_p (p_bin rfl rfl (b_add (by first | exact w_i64 (by omega) (by omega) | rfl))) rfl ?_
                refine r_p (p_assign rfl) rfl ?_
                refine r_nil ?_
                refine r_here (k + 1) ⟨by omega, by omega⟩ (by rw [cn, if_pos hbt]; rfl) rfl rfl
          · have hbt : ¬ bt w k = true := by unfold bt; rw [h9]; simp
            refine r_skip ?_
            refine r_seq ?_
            refine r_region ?_
            refine r_p (p_move rfl) rfl ?_
            refine r_p (p_move rfl) rfl ?_
            refine r_call (xs := [.tmp 97, .tmp 98]) (read_spec D v (some m) false false left xx.1 [] (k : Int)) cb27 [] [(true, 60), (true, 61), (true, 62)] [] [] rfl rfl rfl rfl rfl rfl rfl rfl (fun _ _ => rfl) (fun _ _ _ => rfl) rfl (fun _ _ => ?_)
            rw [rd_view (by omega)]
            have hval := hX.val k hk
            refine r_p (p_move rfl) rfl ?_
            refine r_p (p_extract rfl rfl) rfl ?_
            refine r_p (p_extract rfl rfl) rfl ?_
            refine r_p (p_assign rfl) rfl ?_
            refine r_p (p_assign rfl) rfl ?_
            refine r_nil ?_
            refine r_seq ?_
            refine r_region ?_
            refine r_p (p_move rfl) rfl ?_
            refine r_p (p_move rfl) rfl ?_
            refine r_p (p_bin rfl rfl b_sne) rfl ?_
            refine r_p (p_move rfl) rfl ?_
            refine r_gp [] rfl rfl trivial (fun hg18 => p_move rfl) rfl ?_
            refine r_gp [(106, _)] rfl rfl ⟨rfl, trivial⟩ (fun hg19 => p_bin rfl rfl b_ne) rfl ?_
            refine r_p (p_pick rfl rfl rfl (by first | exact pick_and | exact pick_or |  rfl)) rfl ?_
            refine r_nil ?_
            rw [if_neg (fun e => hbt e.2.1), hdA k hk] at hval
            rw [hval]
            refine r_cond rfl (fun h20 => ?_) (fun h20 => ?_)
            · (simp [ba_eq, fX] at h20)
            · (try simp only [decide_eq_true_eq, decide_eq_false_iff_not, Bool.and_eq_true, Bool.or_eq_true, Bool.and_eq_false_iff, Bool.or_eq_false_iff, Bool.not_eq_true, Bool.not_eq_false, Bool.not_eq_true', Bool.not_eq_false', Bool.not_not, bne_iff_ne, beq_iff_eq] at h20)
              refine r_skip ?_
              refine r_region ?_
              refine r_p (p_move rfl) rfl ?_
              refine r_p (p_bin rfl rfl (b_add (by first | exact w_i64 (by omega) (by omega) | rfl))) rfl ?_
              refine r_p (p_assign rfl) rfl ?_
              refine r_nil ?_
              refine r_here (k + 1) ⟨by omega, by omega⟩ (by rw [cn, if_neg hbt]; rfl) rfl rfl
        · (try simp only [decide_eq_true_eq, decide_eq_false_iff_not, Bool.and_eq_true, Bool.or_eq_true, Bool.and_eq_false_iff, Bool.or_eq_false_iff, Bool.not_eq_true, Bool.not_eq_false, Bool.not_eq_true', Bool.not_eq_false', Bool.not_not, bne_iff_ne, beq_iff_eq] at h8)
          have hk : k = 16 := by omega
          subst hk
          refine r_exit ?_
          refine r_seq ?_
          refine r_region ?_
          refine r_p (p_move rfl) rfl ?_
          refine r_p (p_assign rfl) rfl ?_
          refine r_nil ?_
          refine r_cret ?_
          refine r_ret () trivial rfl (rs1 (rv_tmp rfl)) rfl [] [] rfl rfl rfl
set_option maxHeartbeats 4000000 in
set_option maxRecDepth 100000 in
theorem crash_law_e (a b : Int) (w : Int) (hw : 0 ≤ w ∧ w < 65536) (vq : SV) (q : List Int) (hq : ¬ 0 < q.length) :
    Spec Try.prog 4 [.agg #[.int .u32 a, .int .u32 b], .int .u16 w, sv vq] [] [sl 1 eI (sv vq) q] (X := Unit) (fun _ => True) (fun _ => .bool true) (fun _ => []) (fun _ => []) := by
  refine r_enter Try.func4 rfl Try.ntmps4 rfl fun w0 M H => ?_
  refine r_seq ?_
  refine r_region ?_
  refine r_boxA rfl rfl fun b3 => ?_
  refine r_p (p_assign rfl) rfl ?_
  refine r_nil ?_
  refine r_seq ?_
  refine r_region ?_
  refine r_call (xs := []) sanity_spec cb15 [] [] [] [] rfl rfl rfl rfl rfl rfl rfl rfl (fun _ _ => rfl) (fun _ _ _ => rfl) rfl (fun _ _ => ?_)
  refine r_p (p_assign rfl) rfl ?_
  refine r_nil ?_
  refine r_seq ?_
  refine r_region ?_
  refine r_call (xs := [.const (.int .i64 16)]) (newdisk_spec 16) cb16 [] [] [60, 61, 62] [] rfl rfl rfl rfl rfl rfl rfl rfl (fun _ _ => rfl) (fun _ _ _ => rfl) rfl (fun d3 _ => ?_)
  obtain ⟨D, v, m⟩ := d3
  dsimp only
  refine r_conva (k := 62) (A' := own 9 1 eS (sv v) (List.replicate 16 zsec)) rfl (fun _ _ h => h) ?_
  refine r_p (p_assign rfl) rfl ?_
  refine r_nil ?_
  refine r_seq ?_
  refine r_seq ?_
  refine r_region ?_
  refine r_p (p_assign rfl) rfl ?_
  refine r_nil ?_
  refine r_block ?_
  refine r_loop (X := Nat × List (Int × ByteArray) × Int) (fun x => x.1 ≤ 16 ∧ FrK (fun _ => true) (fX a) x.1 x.2.1) (fun x => [(3, .pointer (some ⟨b3, 0, none⟩)), (1, .int .u16 w), (2, sv vq), (7, .bool true), (8, .pointer (some ⟨D, 0, none⟩)), (9, .int .i64 (x.1 : Int))]) (fun x => [(3, row b3 46 [.int .u32 a, .int .u32 b]), (60, row D 94 (dC v (some m) false false x.2.2)), (61, mp mkI Prod.fst vS (some m) x.2.1), (62, own 9 1 eS (sv v) (List.replicate 16 zsec))]) (fun x => [(0, sl 1 eI (sv vq) q)]) (fun x => 16 - x.1) (0, [], 0) ⟨Nat.zero_le _, FrK.nil _ _⟩ rfl rfl rfl (fun x hx0 => ?_)
  obtain ⟨k, fr, left⟩ := x
  dsimp only at hx0 ⊢
  have hk0 := hx0.1
  refine r_seq ?_
  refine r_seq ?_
  refine r_region ?_
  refine r_p (p_move rfl) rfl ?_
  refine r_p (p_bin rfl rfl b_lt) rfl ?_
  refine r_nil ?_
  refine r_cond rfl (fun h1 => ?_) (fun h1 => ?_)
  · (try simp only [decide_eq_true_eq, decide_eq_false_iff_not, Bool.and_eq_true, Bool.or_eq_true, Bool.and_eq_false_iff, Bool.or_eq_false_iff, Bool.not_eq_true, Bool.not_eq_false, Bool.not_eq_true', Bool.not_eq_false', Bool.not_not, bne_iff_ne, beq_iff_eq] at h1)
    have hk : k < 16 := by omega
    refine r_skip ?_
    refine r_seq ?_
    refine r_block ?_
    refine r_seq ?_
    refine r_region ?_
    refine r_p (p_move rfl) rfl ?_
    refine r_p (p_move rfl) rfl ?_
    refine r_p (p_idx_arr1 (j := 0) Try.underlying46 t32 rfl rfl (by rfl) (by decide)) rfl ?_
    refine r_p (p_load1 t32 rfl rfl (g_row1 (k := 3) rfl rfl)) rfl ?_
    refine r_p (p_move rfl) rfl ?_
    refine r_p (p_conv Try.underlying3 Try.underlying32 rfl (by first | exact w_u32 (by omega) (by omega) | rfl)) rfl ?_
    refine r_p (p_bin rfl rfl (b_add rfl)) rfl ?_
    refine r_call (xs := [.tmp 28, .const (.int .i64 64)]) (fill_spec (IntKind.u32.wrap (a + (k : Int))) 64 (by decide) (by decide)) cb18 [] [] [] [] rfl rfl rfl rfl rfl rfl rfl rfl (fun _ _ => rfl) (fun _ _ _ => rfl) rfl (fun _ _ => ?_)
    refine r_call (xs := [.tmp 22, .tmp 23, .tmp 29]) (write_spec' D v m false false left (List.replicate 16 zsec) fr (k : Int) (fX a k)) cb19 [60, 61] [(true, 62)] [60, 61] [] rfl rfl rfl rfl rfl rfl rfl rfl (fun _ _ => rfl) (fun _ _ _ => rfl) rfl (fun d hd => ?_)
    rw [dstep_wr _ _ _ _ _ _ _ _ (by rw [List.length_replicate]; omega) (fX_size a k), if_neg (by simp [pwO])] at hd
    subst hd
    dsimp only
    refine r_p (p_bin rfl rfl b_ne) rfl ?_
    refine r_nil ?_
    refine r_cond rfl (fun h2 => ?_) (fun h2 => ?_)
    · exact absurd h2 (by simp)
    · (try simp only [decide_eq_true_eq, decide_eq_false_iff_not, Bool.and_eq_true, Bool.or_eq_true, Bool.and_eq_false_iff, Bool.or_eq_false_iff, Bool.not_eq_true, Bool.not_eq_false, Bool.not_eq_true', Bool.not_eq_false', Bool.not_not, bne_iff_ne, beq_iff_eq] at h2)
      refine r_skip ?_
      refine r_region ?_
      refine r_p (p_move rfl) rfl ?_
      refine r_p (p_bin rfl rfl (b_add (by first | exact w_i64 (by omega) (by omega) | rfl))) rfl ?_
      refine r_p (p_assign rfl) rfl ?_
      refine r_nil ?_
      refine r_here (k + 1, putS fr (k : Int) (fX a k), IntKind.i64.wrap (left - 1)) ⟨⟨by dsimp only; omega, hx0.2.put hk rfl⟩, by dsimp only; omega⟩ rfl rfl rfl
  · (try simp only [decide_eq_true_eq, decide_eq_false_iff_not, Bool.and_eq_true, Bool.or_eq_true, Bool.and_eq_false_iff, Bool.or_eq_false_iff, Bool.not_eq_true, Bool.not_eq_false, Bool.not_eq_true', Bool.not_eq_false', Bool.not_not, bne_iff_ne, beq_iff_eq] at h1)
    have hk : k = 16 := by omega
    subst hk
    have hF1 := hx0.2
    refine r_exit ?_
    refine r_seq ?_
    refine r_seq ?_
    refine r_region ?_
    refine r_p (p_move rfl) rfl ?_
    refine r_call (xs := [.tmp 32]) (sync_spec D v m false false left (List.replicate 16 zsec) fr (by rw [List.length_replicate]; exact hF1.bd)) cb21 [60, 61, 62] [] [60, 61, 62] [] rfl rfl rfl rfl rfl rfl rfl rfl (fun _ _ => rfl) (fun _ _ _ => rfl) rfl (fun y hy => ?_)
    obtain ⟨l, d⟩ := y
    obtain ⟨hl, hd⟩ := hy
    dsimp only at hl hd ⊢
    rw [dstep_sync, if_neg (by simp [pwO])] at hd
    subst hd
    dsimp only
    have hdA : ∀ k : Nat, k < 16 → (putL l (List.replicate 16 zsec)).getD k ByteArray.empty = fX a k := fun k hk => hF1.durable hl (List.length_replicate ..) k hk rfl
    have hdl : (putL l (List.replicate 16 zsec)).length = 16 := (putL_len _ _).trans (List.length_replicate ..)
    obtain ⟨dur, hdur⟩ : ∃ z, putL l (List.replicate 16 zsec) = z := ⟨_, rfl⟩
    rw [hdur] at hdA hdl ⊢
    refine r_p (p_bin rfl rfl b_ne) rfl ?_
    refine r_nil ?_
    refine r_cond rfl (fun h3 => ?_) (fun h3 => ?_)
    · exact absurd h3 (by simp)
    · (try simp only [decide_eq_true_eq, decide_eq_false_iff_not, Bool.and_eq_true, Bool.or_eq_true, Bool.and_eq_false_iff, Bool.or_eq_false_iff, Bool.not_eq_true, Bool.not_eq_false, Bool.not_eq_true', Bool.not_eq_false', Bool.not_not, bne_iff_ne, beq_iff_eq] at h3)
      refine r_skip ?_
      refine r_seq ?_
      refine r_seq ?_
      refine r_region ?_
      refine r_p (p_assign rfl) rfl ?_
      refine r_nil ?_
      refine r_block ?_
      refine r_loop (X := Nat × List (Int × ByteArray) × Int) (fun x => x.1 ≤ 16 ∧ FrK (bt w) (fX b) x.1 x.2.1) (fun x => [(3, .pointer (some ⟨b3, 0, none⟩)), (1, .int .u16 w), (2, sv vq), (7, .bool true), (8, .pointer (some ⟨D, 0, none⟩)), (10, .int .i64 (x.1 : Int))]) (fun x => [(3, row b3 46 [.int .u32 a, .int .u32 b]), (60, row D 94 (dC v (some m) false false x.2.2)), (61, mp mkI Prod.fst vS (some m) x.2.1), (62, own 9 1 eS (sv v) dur)]) (fun x => [(0, sl 1 eI (sv vq) q)]) (fun x => 16 - x.1) (0, [], IntKind.i64.wrap (left - 1)) ⟨Nat.zero_le _, FrK.nil _ _⟩ rfl rfl rfl (fun x hx0 => ?_)
      obtain ⟨k, fr, left⟩ := x
      dsimp only at hx0 ⊢
      have hk0 := hx0.1
      refine r_seq ?_
      refine r_seq ?_
      refine r_region ?_
      refine r_p (p_move rfl) rfl ?_
      refine r_p (p_bin rfl rfl b_lt) rfl ?_
      refine r_nil ?_
      refine r_cond rfl (fun h4 => ?_) (fun h4 => ?_)
      · (try simp only [decide_eq_true_eq, decide_eq_false_iff_not, Bool.and_eq_true, Bool.or_eq_true, Bool.and_eq_false_iff, Bool.or_eq_false_iff, Bool.not_eq_true, Bool.not_eq_false, Bool.not_eq_true', Bool.not_eq_false', Bool.not_not, bne_iff_ne, beq_iff_eq] at h4)
        have hk : k < 16 := by omega
        refine r_skip ?_
        refine r_seq ?_
        refine r_block ?_
        refine r_seq ?_
        refine r_region ?_
        refine r_p (p_move rfl) rfl ?_
        refine r_p (p_move rfl) rfl ?_
        refine r_p (p_bin rfl rfl (b_shr (by omega) (by first | decide | (simp [IntKind.bits]; omega)) rfl)) rfl ?_
        refine r_p (p_bin rfl rfl (b_and rfl)) rfl ?_
        refine r_p (p_bin rfl rfl b_eq) rfl ?_
        refine r_p (p_move rfl) rfl ?_
        refine r_split (t := 44) rfl (fun h5 => ?_) (fun h5 => ?_)
        · (try simp only [decide_eq_true_eq, decide_eq_false_iff_not, Bool.and_eq_true, Bool.or_eq_true, Bool.and_eq_false_iff, Bool.or_eq_false_iff, Bool.not_eq_true, Bool.not_eq_false, Bool.not_eq_true', Bool.not_eq_false', Bool.not_not, bne_iff_ne, beq_iff_eq] at h5)
          have hbt : bt w k = true := by unfold bt; exact decide_eq_true h5
          refine r_gyes rfl rfl ?_
          refine r_p (p_move rfl) rfl ?_
          refine r_gyes rfl rfl ?_
          refine r_p (p_move rfl) rfl ?_
          refine r_gyes rfl rfl ?_
          refine r_p (p_idx_arr1 (j := 1) Try.underlying46 t32 rfl rfl (by rfl) (by decide)) rfl ?_
          refine r_gyes rfl rfl ?_
          refine r_p (p_load1 t32 rfl rfl (g_row1 (k := 3) rfl rfl)) rfl ?_
          refine r_gyes rfl rfl ?_
          refine r_p (p_move rfl) rfl ?_
          refine r_gyes rfl rfl ?_
          refine r_p (p_conv Try.underlying3 Try.underlying32 rfl (by first | exact w_u32 (by omega) (by omega) | rfl)) rfl ?_
          refine r_gyes rfl rfl ?_
          refine r_p (p_bin rfl rfl (b_add rfl)) rfl ?_
          refine r_gyes rfl rfl ?_
          refine r_call (xs := [.tmp 51, .const (.int .i64 64)]) (fill_spec (IntKind.u32.wrap (b + (k : Int))) 64 (by decide) (by decide)) cb18 [] [] [] [] rfl rfl rfl rfl rfl rfl rfl rfl (fun _ _ => rfl) (fun _ _ _ => rfl) rfl (fun _ _ => ?_)
          refine r_gyes rfl rfl ?_
          refine r_call (xs := [.tmp 45, .tmp 46, .tmp 52]) (write_spec' D v m false false left dur fr (k : Int) (fX b k)) cb19 [60, 61] [(true, 62)] [60, 61] [] rfl rfl rfl rfl rfl rfl rfl rfl (fun _ _ => rfl) (fun _ _ _ => rfl) rfl (fun d hd => ?_)
          rw [dstep_wr _ _ _ _ _ _ _ _ (by rw [hdl]; omega) (fX_size b k), if_neg (by simp [pwO])] at hd
          subst hd
          dsimp only
          refine r_gyes rfl rfl ?_
          refine r_p (p_bin rfl rfl b_ne) rfl ?_
          refine r_p (p_pick rfl rfl rfl (by first | exact pick_and | exact pick_or |  rfl)) rfl ?_
          refine r_nil ?_
          refine r_cond rfl (fun h6 => ?_) (fun h6 => ?_)
          · (simp at h6)
          · (try simp only [decide_eq_true_eq, decide_eq_false_iff_not, Bool.and_eq_true, Bool.or_eq_true, Bool.and_eq_false_iff, Bool.or_eq_false_iff, Bool.not_eq_true, Bool.not_eq_false, Bool.not_eq_true', Bool.not_eq_false', Bool.not_not, bne_iff_ne, beq_iff_eq] at h6)
            refine r_skip ?_
            refine r_region ?_
            refine r_p (p_move rfl) rfl ?_
            refine r_p (p_bin rfl rfl (b_add (by first | exact w_i64 (by omega) (by omega) | rfl))) rfl ?_
            refine r_p (p_assign rfl) rfl ?_
            refine r_nil ?_
            first
              | refine r_here (k + 1, putS fr (k : Int) (fX b k), IntKind.i64.wrap (left - 1)) ⟨⟨by dsimp only; omega, hx0.2.put hk hbt⟩, by dsimp only; omega⟩ rfl rfl rfl
              | refine r_here (k + 1, fr, left) ⟨⟨by dsimp only; omega, hx0.2.skip hbt⟩, by dsimp only; omega⟩ rfl rfl rfl
        · (try simp only [decide_eq_true_eq, decide_eq_false_iff_not, Bool.and_eq_true, Bool.or_eq_true, Bool.and_eq_false_iff, Bool.or_eq_false_iff, Bool.not_eq_true, Bool.not_eq_false, Bool.not_eq_true', Bool.not_eq_false', Bool.not_not, bne_iff_ne, beq_iff_eq] at h5)
          have hbt : ¬ bt w k = true := by unfold bt; rw [decide_eq_false h5]; simp
          refine r_gno rfl rfl rfl rfl ?_
          refine r_gno rfl rfl rfl rfl ?_
          refine r_gno rfl rfl rfl rfl ?_
          refine r_gno rfl rfl rfl rfl ?_
          refine r_gno rfl rfl rfl rfl ?_
          refine r_gno rfl rfl rfl rfl ?_
          refine r_gno rfl rfl rfl rfl ?_
          refine r_gno rfl rfl rfl rfl ?_
          refine r_gno rfl rfl rfl rfl ?_
          refine r_gno rfl rfl rfl rfl ?_
          refine r_p (p_pick rfl rfl rfl (by first | exact pick_and | exact pick_or |  rfl)) rfl ?_
          refine r_nil ?_
          refine r_cond rfl (fun h7 => ?_) (fun h7 => ?_)
          · (simp at h7)
          · (try simp only [decide_eq_true_eq, decide_eq_false_iff_not, Bool.and_eq_true, Bool.or_eq_true, Bool.and_eq_false_iff, Bool.or_eq_false_iff, Bool.not_eq_true, Bool.not_eq_false, Bool.not_eq_true', Bool.not_eq_false', Bool.not_not, bne_iff_ne, beq_iff_eq] at h7)
            refine r_skip ?_
            refine r_region ?_
            refine r_p (p_move rfl) rfl ?_
            refine r_p (p_bin rfl rfl (b_add (by first | exact w_i64 (by omega) (by omega) | rfl))) rfl ?_
            refine r_p (p_assign rfl) rfl ?_
            refine r_nil ?_
            first
              | refine r_here (k + 1, putS fr (k : Int) (fX b k), IntKind.i64.wrap (left - 1)) ⟨⟨by dsimp only; omega, hx0.2.put hk hbt⟩, by dsimp only; omega⟩ rfl rfl rfl
              | refine r_here (k + 1, fr, left) ⟨⟨by dsimp only; omega, hx0.2.skip hbt⟩, by dsimp only; omega⟩ rfl rfl rfl
      · (try simp only [decide_eq_true_eq, decide_eq_false_iff_not, Bool.and_eq_true, Bool.or_eq_true, Bool.and_eq_false_iff, Bool.or_eq_false_iff, Bool.not_eq_true, Bool.not_eq_false, Bool.not_eq_true', Bool.not_eq_false', Bool.not_not, bne_iff_ne, beq_iff_eq] at h4)
        have hk : k = 16 := by omega
        subst hk
        have hF2 := hx0.2
        refine r_exit ?_
        refine r_seq ?_
        refine r_region ?_
        refine r_p (p_move rfl) rfl ?_
        refine r_p (p_move rfl) rfl ?_
        refine r_call (xs := [.tmp 56, .tmp 57]) (crash_spec D v m false false left dur fr vq q (by omega)) cb25 [60, 61, 62] [(false, 0)] [60, 61, 62] [] rfl rfl rfl rfl rfl rfl rfl rfl (fun _ _ => rfl) (fun _ _ _ => rfl) rfl (fun _ _ => ?_)
        have hX := crash_exact q hF2 hdl 16 (Nat.le_refl _)
        have hdn := crash_done (q := q) (dur := dur) (fr := fr) (by rw [hdl]; exact hF2.bd)
        rw [hdl] at hdn ⊢
        obtain ⟨xx, hxx⟩ : ∃ xx, sdN q (dur, fr, 0) 16 = xx := ⟨_, rfl⟩
        rw [hxx] at hX hdn ⊢
        rw [hdn]
        have hxl : xx.1.length = 16 := hX.len.trans hdl
        refine r_nil ?_
        refine r_seq ?_
        refine r_region ?_
        refine r_p (p_assign rfl) rfl ?_
        refine r_nil ?_
        refine r_seq ?_
        refine r_seq ?_
        refine r_region ?_
        refine r_p (p_assign rfl) rfl ?_
        refine r_nil ?_
        refine r_block ?_
        refine r_loop (X := Nat) (fun k => k ≤ 16) (fun k => [(3, .pointer (some ⟨b3, 0, none⟩)), (1, .int .u16 w), (2, sv vq), (7, .bool true), (8, .pointer (some ⟨D, 0, none⟩)), (11, .int .i64 (cn (bt w) k : Int)), (12, .int .i64 (k : Int))]) (fun k => [(3, row b3 46 [.int .u32 a, .int .u32 b]), (60, row D 94 (dC v (some m) false false left)), (61, mp mkI Prod.fst vS (some m) []), (62, own 9 1 eS (sv v) xx.1)]) (fun k => [(0, sl 1 eI (sv vq) q)]) (fun k => 16 - k) 0 (Nat.zero_le _) rfl rfl rfl (fun k hk0 => ?_)
        have hcl := cn_le (bt w) k
        refine r_seq ?_
        refine r_seq ?_
        refine r_region ?_
        refine r_p (p_move rfl) rfl ?_
        refine r_p (p_bin rfl rfl b_lt) rfl ?_
        refine r_nil ?_
        refine r_cond rfl (fun h8 => ?_) (fun h8 => ?_)
        · (try simp only [decide_eq_true_eq, decide_eq_false_iff_not, Bool.and_eq_true, Bool.or_eq_true, Bool.and_eq_false_iff, Bool.or_eq_false_iff, Bool.not_eq_true, Bool.not_eq_false, Bool.not_eq_true', Bool.not_eq_false', Bool.not_not, bne_iff_ne, beq_iff_eq] at h8)
          have hk : k < 16 := by omega
          refine r_skip ?_
          refine r_seq ?_
          refine r_block ?_
          refine r_seq ?_
          refine r_region ?_
          refine r_p (p_idx_arr1 (j := 0) Try.underlying46 t32 rfl rfl (by rfl) (by decide)) rfl ?_
          refine r_p (p_load1 t32 rfl rfl (g_row1 (k := 3) rfl rfl)) rfl ?_
          refine r_p (p_move rfl) rfl ?_
          refine r_p (p_conv Try.underlying3 Try.underlying32 rfl (by first | exact w_u32 (by omega) (by omega) | rfl)) rfl ?_
          refine r_p (p_bin rfl rfl (b_add rfl)) rfl ?_
          refine r_call (xs := [.tmp 67, .const (.int .i64 64)]) (fill_spec (IntKind.u32.wrap (a + (k : Int))) 64 (by decide) (by decide)) cb18 [] [] [] [] rfl rfl rfl rfl rfl rfl rfl rfl (fun _ _ => rfl) (fun _ _ _ => rfl) rfl (fun _ _ => ?_)
          refine r_p (p_assign rfl) rfl ?_
          refine r_nil ?_
          refine r_seq ?_
          refine r_seq ?_
          refine r_region ?_
          refine r_p (p_move rfl) rfl ?_
          refine r_p (p_move rfl) rfl ?_
          refine r_p (p_bin rfl rfl (b_shr (by omega) (by first | decide | (simp [IntKind.bits]; omega)) rfl)) rfl ?_
          refine r_p (p_bin rfl rfl (b_and rfl)) rfl ?_
          refine r_p (p_bin rfl rfl b_eq) rfl ?_
          refine r_nil ?_
          refine r_cond rfl (fun h9 => ?_) (fun h9 => ?_)
          · have hbt : bt w k = true := h9
            refine r_seq ?_
            refine r_seq ?_
            refine r_region ?_
            refine r_p (p_move rfl) rfl ?_
            refine r_p (p_len_sl Try.underlying28 rfl (hs_sl (k := 0) rfl)) rfl ?_
            refine r_p (p_bin rfl rfl b_gt) rfl ?_
            refine r_p (p_move rfl) rfl ?_
            refine r_split (t := 77) rfl (fun h10 => False.elim (by have := of_decide_eq_true h10; omega)) (fun h10 => ?_)
            refine r_gno rfl rfl rfl rfl ?_
            refine r_gno rfl rfl rfl rfl ?_
            refine r_gno rfl rfl rfl rfl ?_
            refine r_gno rfl rfl rfl rfl ?_
            refine r_gno rfl rfl rfl rfl ?_
            refine r_gno rfl rfl rfl rfl ?_
            refine r_gno rfl rfl rfl rfl ?_
            refine r_gno rfl rfl rfl rfl ?_
            refine r_gno rfl rfl rfl rfl ?_
            refine r_p (p_pick rfl rfl rfl (by first | exact pick_and | exact pick_or |  rfl)) rfl ?_
            refine r_nil ?_
            refine r_cond rfl (fun h11 => ?_) (fun h11 => ?_)
            · have hcr : crB q (cn (bt w) k) = true := by simp at h11
              refine r_region ?_
              refine r_p (p_idx_arr1 (j := 1) Try.underlying46 t32 rfl rfl (by rfl) (by decide)) rfl ?_
              refine r_p (p_load1 t32 rfl rfl (g_row1 (k := 3) rfl rfl)) rfl ?_
              refine r_p (p_move rfl) rfl ?_
              refine r_p (p_conv Try.underlying3 Try.underlying32 rfl (by first | exact w_u32 (by omega) (by omega) | rfl)) rfl ?_
              refine r_p (p_bin rfl rfl (b_add rfl)) rfl ?_
              refine r_call (xs := [.tmp 92, .const (.int .i64 64)]) (fill_spec (IntKind.u32.wrap (b + (k : Int))) 64 (by decide) (by decide)) cb18 [] [] [] [] rfl rfl rfl rfl rfl rfl rfl rfl (fun _ _ => rfl) (fun _ _ _ => rfl) rfl (fun _ _ => ?_)
              refine r_p (p_assign rfl) rfl ?_
              refine r_nil ?_
              refine r_region ?_
              refine r_p (p_move rfl) rfl ?_
              refine r_p (p_bin rfl rfl (b_add (by first | exact w_i64 (by omega) (by omega) | rfl))) rfl ?_
              refine r_p (p_assign rfl) rfl ?_
              refine r_nil ?_
              refine r_seq ?_
              refine r_region ?_
              refine r_p (p_move rfl) rfl ?_
              refine r_p (p_move rfl) rfl ?_
              refine r_call (xs := [.tmp 97, .tmp 98]) (read_spec D v (some m) false false left xx.1 [] (k : Int)) cb27 [] [(true, 60), (true, 61), (true, 62)] [] [] rfl rfl rfl rfl rfl rfl rfl rfl (fun _ _ => rfl) (fun _ _ _ => rfl) rfl (fun _ _ => ?_)
              rw [rd_view (by omega)]
              have hval := hX.val k hk
              refine r_p (p_move rfl) rfl ?_
              refine r_p (p_extract rfl rfl) rfl ?_
              refine r_p (p_extract rfl rfl) rfl ?_
              refine r_p (p_assign rfl) rfl ?_
              refine r_p (p_assign rfl) rfl ?_
              refine r_nil ?_
              refine r_seq ?_
              refine r_region ?_
              refine r_p (p_move rfl) rfl ?_
              refine r_p (p_move rfl) rfl ?_
              refine r_p (p_bin rfl rfl b_sne) rfl ?_
              refine r_p (p_move rfl) rfl ?_
              refine r_gp [] rfl rfl trivial (fun hg12 => p_move rfl) rfl ?_
              refine r_gp [(106, _)] rfl rfl ⟨rfl, trivial⟩ (fun hg13 => p_bin rfl rfl b_ne) rfl ?_
              refine r_p (p_pick rfl rfl rfl (by first | exact pick_and | exact pick_or |  rfl)) rfl ?_
              refine r_nil ?_
              rw [if_pos ⟨hk, hbt, hcr⟩] at hval
              rw [hval]
              refine r_cond rfl (fun h14 => ?_) (fun h14 => ?_)
              · (simp [ba_eq, fX] at h14)
              · (try simp only [decide_eq_true_eq, decide_eq_false_iff_not, Bool.and_eq_true, Bool.or_eq_true, Bool.and_eq_false_iff, Bool.or_eq_false_iff, Bool.not_eq_true, Bool.not_eq_false, Bool.not_eq_true', Bool.not_eq_false', Bool.not_not, bne_iff_ne, beq_iff_eq] at h14)
                refine r_skip ?_
                refine r_region ?_
                refine r_p (p_move rfl) rfl ?_
                refine r_p (p_bin rfl rfl (b_add (by first | exact w_i64 (by omega) (by omega) | rfl))) rfl ?_
                refine r_p (p_assign rfl) rfl ?_
                refine r_nil ?_
                refine r_here (k + 1) ⟨by omega, by omega⟩ (by rw [cn, if_pos hbt]; rfl) rfl rfl
            · have hcr : ¬ crB q (cn (bt w) k) = true := by unfold crB; rw [decide_eq_false hq]; simp
              refine r_skip ?_
              refine r_region ?_
              refine r_p (p_move rfl) rfl ?_
              refine r_p (p_bin rfl rfl (b_add (by first | exact w_i64 (by omega) (by omega) | rfl))) rfl ?_
              refine r_p (p_assign rfl) rfl ?_
              refine r_nil ?_
              refine r_seq ?_
              refine r_region ?_
              refine r_p (p_move rfl) rfl ?_
              refine r_p (p_move rfl) rfl ?_
              refine r_call (xs := [.tmp 97, .tmp 98]) (read_spec D v (some m) false false left xx.1 [] (k : Int)) cb27 [] [(true, 60), (true, 61), (true, 62)] [] [] rfl rfl rfl rfl rfl rfl rfl rfl (fun _ _ => rfl) (fun _ _ _ => rfl) rfl (fun _ _ => ?_)
              rw [rd_view (by omega)]
              have hval := hX.val k hk
              refine r_p (p_move rfl) rfl ?_
              refine r_p (p_extract rfl rfl) rfl ?_
              refine r_p (p_extract rfl rfl) rfl ?_
              refine r_p (p_assign rfl) rfl ?_
              refine r_p (p_assign rfl) rfl ?_
              refine r_nil ?_
              refine r_seq ?_
              refine r_region ?_
              refine r_p (p_move rfl) rfl ?_
              refine r_p (p_move rfl) rfl ?_
              refine r_p (p_bin rfl rfl b_sne) rfl ?_
              refine r_p (p_move rfl) rfl ?_
              refine r_gp [] rfl rfl trivial (fun hg15 => p_move rfl) rfl ?_
              refine r_gp [(106, _)] rfl rfl ⟨rfl, trivial⟩ (fun hg16 => p_bin rfl rfl b_ne) rfl ?_
              refine r_p (p_pick rfl rfl rfl (by first | exact pick_and | exact pick_or |  rfl)) rfl ?_
              refine r_nil ?_
              rw [if_neg (fun e => hcr e.2.2), hdA k hk] at hval
              rw [hval]
              refine r_cond rfl (fun h17 => ?_) (fun h17 => ?_)
              · (simp [ba_eq, fX] at h17)
              · (try simp only [decide_eq_true_eq, decide_eq_false_iff_not, Bool.and_eq_true, Bool.or_eq_true, Bool.and_eq_false_iff, Bool.or_eq_false_iff, Bool.not_eq_true, Bool.not_eq_false, Bool.not_eq_true', Bool.not_eq_false', Bool.not_not, bne_iff_ne, beq_iff_eq] at h17)
                refine r_skip ?_
                refine r_region ?_
                refine r_p (p_move rfl) rfl ?_
                refine r_p (p_bin rfl rfl (b_add (by first | exact w_i64 (by omega) (by omega) | rfl))) rfl ?_
                refine r_p (p_assign rfl) rfl ?_
                refine r_nil ?_
                refine r_here (k + 1) ⟨by omega, by omega⟩ (by rw [cn, if_pos hbt]; rfl) rfl rfl
          · have hbt : ¬ bt w k = true := by unfold bt; rw [h9]; simp
            refine r_skip ?_
            refine r_seq ?_
            refine r_region ?_
            refine r_p (p_move rfl) rfl ?_
            refine r_p (p_move rfl) rfl ?_
            refine r_call (xs := [.tmp 97, .tmp 98]) (read_spec D v (some m) false false left xx.1 [] (k : Int)) cb27 [] [(true, 60), (true, 61), (true, 62)] [] [] rfl rfl rfl rfl rfl rfl rfl rfl (fun _ _ => rfl) (fun _ _ _ => rfl) rfl (fun _ _ => ?_)
            rw [rd_view (by omega)]
            have hval := hX.val k hk
            refine r_p (p_move rfl) rfl ?_
            refine r_p (p_extract rfl rfl) rfl ?_
            refine r_p (p_extract rfl rfl) rfl ?_
            refine r_p (p_assign rfl) rfl ?_
            refine r_p (p_assign rfl) rfl ?_
            refine r_nil ?_
            refine r_seq ?_
            refine r_region ?_
            refine r_p (p_move rfl) rfl ?_
            refine r_p (p_move rfl) rfl ?_
            refine r_p (p_bin rfl rfl b_sne) rfl ?_
            refine r_p (p_move rfl) rfl ?_
            refine r_gp [] rfl rfl trivial (fun hg18 => p_move rfl) rfl ?_
            refine r_gp [(106, _)] rfl rfl ⟨rfl, trivial⟩ (fun hg19 => p_bin rfl rfl b_ne) rfl ?_
            refine r_p (p_pick rfl rfl rfl (by first | exact pick_and | exact pick_or |  rfl)) rfl ?_
            refine r_nil ?_
            rw [if_neg (fun e => hbt e.2.1), hdA k hk] at hval
            rw [hval]
            refine r_cond rfl (fun h20 => ?_) (fun h20 => ?_)
            · (simp [ba_eq, fX] at h20)
            · (try simp only [decide_eq_true_eq, decide_eq_false_iff_not, Bool.and_eq_true, Bool.or_eq_true, Bool.and_eq_false_iff, Bool.or_eq_false_iff, Bool.not_eq_true, Bool.not_eq_false, Bool.not_eq_true', Bool.not_eq_false', Bool.not_not, bne_iff_ne, beq_iff_eq] at h20)
              refine r_skip ?_
              refine r_region ?_
              refine r_p (p_move rfl) rfl ?_
              refine r_p (p_bin rfl rfl (b_add (by first | exact w_i64 (by omega) (by omega) | rfl))) rfl ?_
              refine r_p (p_assign rfl) rfl ?_
              refine r_nil ?_
              refine r_here (k + 1) ⟨by omega, by omega⟩ (by rw [cn, if_neg hbt]; rfl) rfl rfl
        · (try simp only [decide_eq_true_eq, decide_eq_false_iff_not, Bool.and_eq_true, Bool.or_eq_true, Bool.and_eq_false_iff, Bool.or_eq_false_iff, Bool.not_eq_true, Bool.not_eq_false, Bool.not_eq_true', Bool.not_eq_false', Bool.not_not, bne_iff_ne, beq_iff_eq] at h8)
          have hk : k = 16 := by omega
          subst hk
          refine r_exit ?_
          refine r_seq ?_
          refine r_region ?_
          refine r_p (p_move rfl) rfl ?_
          refine r_p (p_assign rfl) rfl ?_
          refine r_nil ?_
          refine r_cret ?_
          refine r_ret () trivial rfl (rs1 (rv_tmp rfl)) rfl [] [] rfl rfl rfl
set_option maxRecDepth 100000 in
theorem crash_law (a b : Int) (ha : 0 ≤ a ∧ a < 4294967296) (hb : 0 ≤ b ∧ b < 4294967296) (w : Int) (hw : 0 ≤ w ∧ w < 65536) (vq : SV) (q : List Int) (hq : ∀ x ∈ q, okI x) :
    Spec Try.prog 4 [.agg #[.int .u32 a, .int .u32 b], .int .u16 w, sv vq] [] [sl 1 eI (sv vq) q] (X := Unit) (fun _ => True) (fun _ => .bool true) (fun _ => []) (fun _ => []) := by
  by_cases hq : 0 < q.length
  · exact crash_law_n a b w hw vq q hq
  · exact crash_law_e a b w hw vq q hq


end Go.Proofs.Ytohenjmkhncoiaa
