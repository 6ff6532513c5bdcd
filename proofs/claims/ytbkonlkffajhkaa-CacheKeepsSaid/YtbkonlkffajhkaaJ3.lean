/-
  CacheKeeps walks. No condition.
-/
import Derived.Test.YtbkonlkffajhkaaI5
namespace Go.Proofs.Ytbkonlkffajhkaa
set_option linter.unusedSimpArgs false
set_option linter.unusedVariables false
open Go.RowKit

theorem addF_fit {base size cur : Int} {L : List En} {K : List Lk} {e : En} (h0 : 0 < e.bytes.size) (h1 : (e.bytes.size : Int) ≤ size) : (addF base size cur L K e).err = 0 ∧ (addF base size cur L K e).b = base + curN size cur e.bytes.size ∧ putE base (curN size cur e.bytes.size) e ∈ (addF base size cur L K e).L := by
  unfold addF
  rw [if_neg (by omega), if_neg (by omega)]
  exact ⟨rfl, rfl, (insD_perm _ _ _).mem_iff.2 (List.mem_cons_self ..)⟩
theorem addF_empty {base size cur : Int} {L : List En} {K : List Lk} {e : En} (h0 : e.bytes.size = 0) : addF base size cur L K e = ⟨cur, L, K, 0, [], [], 1⟩ := by
  unfold addF; rw [if_pos h0]
theorem addF_full {base size cur : Int} {L : List En} {K : List Lk} {e : En} (h0 : 0 < e.bytes.size) (h1 : size < (e.bytes.size : Int)) : addF base size cur L K e = ⟨cur, L, K, 0, [], [], 30⟩ := by
  unfold addF; rw [if_neg (by omega), if_pos h1]
theorem b_empty (s : ByteArray) : (s == ByteArray.mk #[]) = decide (s.size = 0) := by
  obtain ⟨⟨x⟩⟩ := s
  show ((⟨x⟩ : Array UInt8) == ⟨[]⟩) = decide (x.length = 0)
  cases x with
  | nil => rfl
  | cons a r => simp

/-- What a run of additions has put there and not overwritten. -/
def Kept (base size cur used g : Int) (L : List En) (i : Nat) : Prop := 0 ≤ used ∧ used ≤ size ∧ 0 ≤ g ∧ g ≤ size ∧ ∃ s0 : Int, 0 ≤ s0 ∧ s0 ≤ size ∧
  ((cur = s0 + used ∧ ∀ j : Nat, j < i → ∃ x ∈ L, x.pc = 4 * (j : Int) ∧ s0 ≤ x.base - base ∧ x.base - base + x.bytes.size ≤ cur) ∨
   (size < s0 + (used - cur) + g ∧ ∀ j : Nat, j < i → ∃ x ∈ L, x.pc = 4 * (j : Int) ∧ (s0 ≤ x.base - base ∨ x.base - base + x.bytes.size ≤ cur)))
theorem Kept.zero {PS : List Int} {base size cur : Int} {L : List En} {K : List Lk} (h : CInv PS base size cur L K) : Kept base size cur 0 0 L 0 := by
  have := h.cu
  have := h.sz
  exact ⟨by omega, by omega, by omega, by omega, cur, by omega, by omega, .inl ⟨by omega, fun j hj => by omega⟩⟩
theorem stays {PS : List Int} {base size cur : Int} {L : List En} {K : List Lk} (h : CInv PS base size cur L K) {c1 n : Int} {e x : En} {q : En → Bool} {y : En} (hx : x ∈ L) (hpc : x.pc ≠ e.pc) (hw : c1 + n ≤ x.base - base ∨ x.base - base + x.bytes.size ≤ c1) : x ∈ insD q y (L.filter (keepE ((remL L base c1 n e).map En.pc))) := by
  refine (insD_perm _ _ _).mem_iff.2 (List.mem_cons_of_mem _ (List.mem_filter.2 ⟨hx, ?_⟩))
  have hno : x.pc ∉ (remL L base c1 n e).map En.pc := fun hc => by
    obtain ⟨y, hy, he⟩ := List.mem_map.1 hc
    obtain ⟨h1, h2⟩ := List.mem_filter.1 hy
    have := pc_inj h.pcs h1 hx he
    subst this
    unfold inWay at h2
    rw [h.off h1] at h2
    simp only [Bool.or_eq_true, Bool.and_eq_true, decide_eq_true_eq] at h2
    omega
  simp [keepE, hno]
theorem Kept.add {PS : List Int} {base size cur used g : Int} {L : List En} {K : List Lk} (h : CInv PS base size cur L K) {i : Nat} (hk : Kept base size cur used g L i) {e : En} {n : Int} (hpc : e.pc = 4 * (i : Int)) (hn : (e.bytes.size : Int) = n) (h0 : 0 < n) (hfit : used + n + max g n ≤ size) : Kept base size (addF base size cur L K e).cur (used + n) (max g n) (addF base size cur L K e).L (i + 1) := by
  obtain ⟨u0, u1, g0, g1, s0, s1, s2, hk⟩ := hk
  have hc := h.cu
  unfold addF
  rw [if_neg (by omega), if_neg (by omega), hn]
  dsimp only
  have hnew : putE base (curN size cur n) e ∈ insD (qE base (curN size cur n)) (putE base (curN size cur n) e) (L.filter (keepE ((remL L base (curN size cur n) n e).map En.pc))) := (insD_perm _ _ _).mem_iff.2 (List.mem_cons_self ..)
  have hb : (putE base (curN size cur n) e).base - base = curN size cur n := by
    show base + curN size cur n - base = _
    omega
  have hbs : ((putE base (curN size cur n) e).bytes.size : Int) = n := hn
  have hpn : (putE base (curN size cur n) e).pc = 4 * (i : Int) := hpc
  refine ⟨by omega, by omega, by omega, by omega, s0, s1, s2, ?_⟩
  rcases hk with ⟨hcur, hall⟩ | ⟨hskip, hall⟩
  · by_cases hw : cur + n > size
    · have hc1 : curN size cur n = 0 := by unfold curN; rw [if_pos hw]
      rw [hc1] at hnew hb hbs hpn ⊢
      refine .inr ⟨by omega, fun j hj => ?_⟩
      by_cases hji : j = i
      · exact ⟨_, hnew, by rw [hpn, hji], .inr (by omega)⟩
      · obtain ⟨x, hx, e1, e2, e3⟩ := hall j (by omega)
        exact ⟨x, stays h hx (by omega) (.inl (by omega)), e1, .inl e2⟩
    · have hc1 : curN size cur n = cur := by unfold curN; rw [if_neg hw]
      rw [hc1] at hnew hb hbs hpn ⊢
      refine .inl ⟨by omega, fun j hj => ?_⟩
      by_cases hji : j = i
      · exact ⟨_, hnew, by rw [hpn, hji], by omega, by omega⟩
      · obtain ⟨x, hx, e1, e2, e3⟩ := hall j (by omega)
        exact ⟨x, stays h hx (by omega) (.inr (by omega)), e1, e2, by omega⟩
  · have hw : ¬ cur + n > size := by omega
    have hc1 : curN size cur n = cur := by unfold curN; rw [if_neg hw]
    rw [hc1] at hnew hb hbs hpn ⊢
    refine .inr ⟨by omega, fun j hj => ?_⟩
    by_cases hji : j = i
    · exact ⟨_, hnew, by rw [hpn, hji], .inr (by omega)⟩
    · obtain ⟨x, hx, e1, e2⟩ := hall j (by omega)
      exact ⟨x, stays h hx (by omega) (by omega), e1, by omega⟩
theorem Kept.found {PS : List Int} {base size cur used g : Int} {L : List En} {K : List Lk} (h : CInv PS base size cur L K) {i : Nat} (hk : Kept base size cur used g L i) {j : Nat} (hj : j < i) : ∃ x, L.find? (fun a => decide (a.pc = 4 * (j : Int))) = some x := by
  obtain ⟨_, _, _, _, s0, _, _, hk⟩ := hk
  have : ∃ x ∈ L, x.pc = 4 * (j : Int) := by
    rcases hk with ⟨_, hall⟩ | ⟨_, hall⟩
    · obtain ⟨x, hx, e1, _⟩ := hall j hj
      exact ⟨x, hx, e1⟩
    · obtain ⟨x, hx, e1, _⟩ := hall j hj
      exact ⟨x, hx, e1⟩
  obtain ⟨x, hx, e1⟩ := this
  exact ⟨x, by rw [← e1]; exact h.findpc hx⟩

set_option maxHeartbeats 1000000 in
set_option maxRecDepth 100000 in
theorem keeps_law (sz : Int) (vs : SV) (l : List Q4) (ns : SV) (nl : List Int) :
    Spec Try.prog 3 [.int .i64 sz, sv vs, sv ns] [] [sl 4 eQ (sv vs) l, sl 1 eI (sv ns) nl] (X := Unit) (fun _ => True) (fun _ => .bool true) (fun _ => []) (fun _ => []) := by
  refine r_enter Try.func3 rfl Try.ntmps3 rfl fun w0 M H => ?_
  refine r_seq ?_
  refine r_region ?_
  refine r_p (p_assign rfl) rfl ?_
  refine r_nil ?_
  refine r_seq ?_
  refine r_region ?_
  refine r_call (xs := []) sanity_spec cb15 [] [] [] [] rfl rfl rfl rfl rfl rfl rfl rfl (fun _ _ => rfl) (fun _ _ _ => rfl) rfl (fun _ _ => ?_)
  refine r_p (p_assign rfl) rfl ?_
  refine r_nil ?_
  refine r_seq ?_
  refine r_region ?_
  refine r_p (p_move rfl) rfl ?_
  refine r_p (p_move rfl) rfl ?_
  refine r_call (xs := [.tmp 20, .tmp 21]) (played_spec sz vs l) cb16 [] [(false, 0)] [500, 501, 502, 503, 504, 505] [7] rfl rfl rfl rfl rfl rfl rfl rfl (fun _ _ => rfl) (fun _ _ _ => rfl) rfl (fun ⟨C, r, ⟨cur, L, K, ob, ol, vL, vC, S⟩⟩ hpl => ?_)
  obtain ⟨hi, hS⟩ := hpl
  dsimp only at hi hS ⊢
  have hlen := hi.hlen ps12_len
  have hlenK := hi.hlenK ps12_len
  have h60 := m60 sz
  have hsz := hi.sz
  have hcu := hi.cu
  have hse := size60 sz
  obtain ⟨cur0, hcur0⟩ : ∃ c, cur = c := ⟨_, rfl⟩
  rw [show (row r 34 (cR 4096 (sizeN 4096 (sz % 60)) cur vL vC)) = row r 34 (cR 4096 (sizeN 4096 (sz % 60)) cur0 vL vC) by rw [hcur0]]
  refine r_p (p_move rfl) rfl ?_
  refine r_p (p_extract rfl rfl) rfl ?_
  refine r_p (p_extract rfl rfl) rfl ?_
  refine r_p (p_assign rfl) rfl ?_
  refine r_p (p_assign rfl) rfl ?_
  refine r_nil ?_
  refine r_seq ?_
  refine r_seq ?_
  refine r_region ?_
  refine r_p (p_move rfl) rfl ?_
  refine r_p (p_bin rfl rfl (b_eqPn Try.underlying25)) rfl ?_
  refine r_nil ?_
  refine r_cond rfl (fun h1 => ?_) (fun h1 => ?_)
  · exact absurd h1 (by simp)
  · (try simp only [decide_eq_true_eq, decide_eq_false_iff_not, Bool.and_eq_true, Bool.or_eq_true, Bool.and_eq_false_iff, Bool.or_eq_false_iff, Bool.not_eq_true, Bool.not_eq_false, Bool.not_eq_true', Bool.not_eq_false', Bool.not_not, bne_iff_ne, beq_iff_eq] at h1)
    refine r_skip ?_
    refine r_seq ?_
    refine r_region ?_
    refine r_p (p_assign rfl) rfl ?_
    refine r_nil ?_
    refine r_seq ?_
    refine r_region ?_
    refine r_p (p_assign rfl) rfl ?_
    refine r_nil ?_
    refine r_seq ?_
    refine r_region ?_
    refine r_p (p_assign rfl) rfl ?_
    refine r_nil ?_
    refine r_seq ?_
    refine r_block ?_
    refine r_loop (X := Nat × Int × Int × Int × List En × List Lk × Option Nat) (fun x => x.1 ≤ 12 ∧ CInv PS12 4096 (sizeN 4096 (sz % 60)) x.2.2.2.1 x.2.2.2.2.1 x.2.2.2.2.2.1 ∧ Kept 4096 (sizeN 4096 (sz % 60)) x.2.2.2.1 x.2.1 x.2.2.1 x.2.2.2.2.1 x.1) (fun x => [(2, sv ns), (7, .bool true), (8, .pointer (some ⟨C, 0, none⟩)), (9, .pointer (some ⟨r, 0, none⟩)), (10, .int .i64 x.2.1), (11, .int .i64 x.2.2.1), (12, .int .i64 (x.1 : Int))]) (fun x => [(500, row C 84 (cC 4096 (sizeN 4096 (sz % 60)) x.2.2.2.1 x.2.2.2.2.2.2 ol)), (501, mpB x.2.2.2.2.2.2 x.2.2.2.2.1), (502, mpL ol x.2.2.2.2.2.1), (503, row r 34 (cR 4096 (sizeN 4096 (sz % 60)) cur0 vL vC))]) (fun x => [(0, sl 4 eQ (sv vs) l), (1, sl 1 eI (sv ns) nl), (7, pgP S)]) (fun x => 12 - x.1) (0, 0, 0, cur, L, K, ob) ⟨Nat.zero_le _, hi, Kept.zero hi⟩ rfl rfl rfl (fun ⟨k, u, g, cur, L, K, ob⟩ hx0 => ?_)
    obtain ⟨hk0, hi, hkept⟩ := hx0
    dsimp only at hk0 hi hkept ⊢
    have hlen := hi.hlen ps12_len
    have hlenK := hi.hlenK ps12_len
    have hcu := hi.cu
    obtain ⟨u0, u1, g0, g1, -⟩ := id hkept
    refine r_seq ?_
    refine r_seq ?_
    refine r_region ?_
    refine r_p (p_move rfl) rfl ?_
    refine r_p (p_move rfl) rfl ?_
    refine r_p (p_len_sl Try.underlying23 rfl (hs_sl (k := 1) rfl)) rfl ?_
    refine r_p (p_bin rfl rfl b_lt) rfl ?_
    refine r_p (p_move rfl) rfl ?_
    refine r_gp [] rfl rfl trivial (fun hg2 => p_move rfl) rfl ?_
    refine r_gp [(32, _)] rfl rfl ⟨rfl, trivial⟩ (fun hg3 => p_bin rfl rfl b_lt) rfl ?_
    refine r_p (p_pick rfl rfl rfl (by first | exact pick_and | exact pick_or |  rfl)) rfl ?_
    refine r_nil ?_
    refine r_cond rfl (fun h4 => ?_) (fun h4 => ?_)
    · (try simp only [decide_eq_true_eq, decide_eq_false_iff_not, Bool.and_eq_true, Bool.or_eq_true, Bool.and_eq_false_iff, Bool.or_eq_false_iff, Bool.not_eq_true, Bool.not_eq_false, Bool.not_eq_true', Bool.not_eq_false', Bool.not_not, bne_iff_ne, beq_iff_eq] at h4)
      have hk : k < nl.length := by omega
      have hk12 : k < 12 := by omega
      refine r_skip ?_
      refine r_block ?_
      refine r_seq ?_
      refine r_region ?_
      refine r_p (p_move rfl) rfl ?_
      refine r_p (p_move rfl) rfl ?_
      refine r_p (p_idx_sl (j := k) Try.underlying23 t3 rfl rfl (hs_sl (k := 1) rfl) (by first | rfl | omega) (by first | omega | (simp; done) | (simp; omega))) rfl ?_
      refine r_p (p_load1 t3 rfl rfl (g_el' (hs_sl (k := 1) rfl) (by intro _; rfl) (getD_get 0 (by omega)) (by rfl))) rfl ?_
      refine r_call (xs := [.tmp 38, .const (.int .i64 12)]) (mod_spec (nl.getD k 0) 12 (by omega) (by omega)) cb17 [] [] [] [] rfl rfl rfl rfl rfl rfl rfl rfl (fun _ _ => rfl) (fun _ _ _ => rfl) rfl (fun _ _ => ?_)
      have h12 := m12 (nl.getD k 0)
      refine r_p (p_bin rfl rfl (b_add (by first | exact w_i64 (by omega) (by omega) | rfl))) rfl ?_
      refine r_p (p_assign rfl) rfl ?_
      refine r_nil ?_
      refine r_seq ?_
      refine r_seq ?_
      refine r_region ?_
      refine r_p (p_move rfl) rfl ?_
      refine r_p (p_move rfl) rfl ?_
      refine r_p (p_bin rfl rfl (b_add (by first | exact w_i64 (by omega) (by omega) | rfl))) rfl ?_
      refine r_p (p_move rfl) rfl ?_
      refine r_p (p_move rfl) rfl ?_
      refine r_p (p_max rfl rfl rfl) rfl ?_
      refine r_p (p_bin rfl rfl (b_add (by first | exact w_i64 (by omega) (by omega) | rfl))) rfl ?_
      refine r_p (p_move rfl) rfl ?_
      refine r_p (p_nilCheck rfl) rfl ?_
      refine r_p (p_field0 fo34_1 rfl) rfl ?_
      refine r_p (p_load1 t3 rfl rfl (g_row1 (k := 503) rfl rfl)) rfl ?_
      refine r_p (p_bin rfl rfl b_gt) rfl ?_
      refine r_nil ?_
      refine r_cond rfl (fun h5 => ?_) (fun h5 => ?_)
      · (try simp only [decide_eq_true_eq, decide_eq_false_iff_not, Bool.and_eq_true, Bool.or_eq_true, Bool.and_eq_false_iff, Bool.or_eq_false_iff, Bool.not_eq_true, Bool.not_eq_false, Bool.not_eq_true', Bool.not_eq_false', Bool.not_not, bne_iff_ne, beq_iff_eq] at h5)
        refine r_exit ?_
        refine r_seq ?_
        refine r_seq ?_
        refine r_region ?_
        refine r_p (p_assign rfl) rfl ?_
        refine r_nil ?_
        refine r_block ?_
        refine r_loop (X := Nat) (fun j => j ≤ k) (fun j => [(7, .bool true), (8, .pointer (some ⟨C, 0, none⟩)), (12, .int .i64 (k : Int)), (15, .int .i64 (j : Int))]) (fun j => [(500, row C 84 (cC 4096 (sizeN 4096 (sz % 60)) cur ob ol)), (501, mpB ob L), (502, mpL ol K)]) (fun j => [(0, sl 4 eQ (sv vs) l), (1, sl 1 eI (sv ns) nl), (7, pgP S)]) (fun j => k - j) 0 (Nat.zero_le _) rfl rfl rfl (fun j hj0 => ?_)
        refine r_seq ?_
        refine r_seq ?_
        refine r_region ?_
        refine r_p (p_move rfl) rfl ?_
        refine r_p (p_move rfl) rfl ?_
        refine r_p (p_bin rfl rfl b_lt) rfl ?_
        refine r_nil ?_
        refine r_cond rfl (fun h6 => ?_) (fun h6 => ?_)
        · (try simp only [decide_eq_true_eq, decide_eq_false_iff_not, Bool.and_eq_true, Bool.or_eq_true, Bool.and_eq_false_iff, Bool.or_eq_false_iff, Bool.not_eq_true, Bool.not_eq_false, Bool.not_eq_true', Bool.not_eq_false', Bool.not_not, bne_iff_ne, beq_iff_eq] at h6)
          have hj : j < k := by omega
          obtain ⟨x, hfx⟩ := hkept.found hi hj
          refine r_skip ?_
          refine r_seq ?_
          refine r_block ?_
          refine r_seq ?_
          refine r_region ?_
          refine r_p (p_move rfl) rfl ?_
          refine r_p (p_move rfl) rfl ?_
          refine r_p (p_bin rfl rfl (b_mul (by first | exact w_i64 (by omega) (by omega) | rfl))) rfl ?_
          refine r_p (p_conv Try.underlying3 Try.underlying30 rfl (by first | exact w_u32 (by omega) (by omega) | rfl)) rfl ?_
          refine r_call (xs := [.tmp 75, .tmp 78]) (find_spec C 4096 (sizeN 4096 (sz % 60)) cur ob ol L _ _ hfx) cb21 [] [(true, 500), (true, 501)] [] [] rfl rfl rfl rfl rfl rfl rfl rfl (fun _ _ => rfl) (fun _ _ _ => rfl) rfl (fun _ _ => ?_)
          refine r_p (p_move rfl) rfl ?_
          refine r_p (p_extract rfl rfl) rfl ?_
          refine r_p (p_extract rfl rfl) rfl ?_
          refine r_alloc t54 rfl rfl fun b16 => ?_
          refine r_store_all (k := 16) t54 rfl rfl rfl rfl rfl rfl ?_
          refine r_p (p_assign rfl) rfl ?_
          refine r_nil ?_
          refine r_seq ?_
          refine r_region ?_
          refine r_p (p_move rfl) rfl ?_
          refine r_p (p_not rfl) rfl ?_
          refine r_nil ?_
          refine r_cond rfl (fun h7 => ?_) (fun h7 => ?_)
          · exact absurd h7 (by simp)
          · (try simp only [decide_eq_true_eq, decide_eq_false_iff_not, Bool.and_eq_true, Bool.or_eq_true, Bool.and_eq_false_iff, Bool.or_eq_false_iff, Bool.not_eq_true, Bool.not_eq_false, Bool.not_eq_true', Bool.not_eq_false', Bool.not_not, bne_iff_ne, beq_iff_eq] at h7)
            refine r_skip ?_
            refine r_region ?_
            refine r_p (p_move rfl) rfl ?_
            refine r_p (p_bin rfl rfl (b_add (by first | exact w_i64 (by omega) (by omega) | rfl))) rfl ?_
            refine r_p (p_assign rfl) rfl ?_
            refine r_nil ?_
            refine r_here (j + 1) ⟨by omega, by omega⟩ rfl rfl rfl
        · (try simp only [decide_eq_true_eq, decide_eq_false_iff_not, Bool.and_eq_true, Bool.or_eq_true, Bool.and_eq_false_iff, Bool.or_eq_false_iff, Bool.not_eq_true, Bool.not_eq_false, Bool.not_eq_true', Bool.not_eq_false', Bool.not_not, bne_iff_ne, beq_iff_eq] at h6)
          refine r_exit ?_
          refine r_seq ?_
          refine r_region ?_
          refine r_p (p_move rfl) rfl ?_
          refine r_p (p_assign rfl) rfl ?_
          refine r_nil ?_
          refine r_cret ?_
          refine r_ret () trivial rfl (rs1 (rv_tmp rfl)) (congrArg Value.bool (by simp)) [] [] rfl rfl rfl
      · (try simp only [decide_eq_true_eq, decide_eq_false_iff_not, Bool.and_eq_true, Bool.or_eq_true, Bool.and_eq_false_iff, Bool.or_eq_false_iff, Bool.not_eq_true, Bool.not_eq_false, Bool.not_eq_true', Bool.not_eq_false', Bool.not_not, bne_iff_ne, beq_iff_eq] at h5)
        refine r_skip ?_
        refine r_seq ?_
        refine r_region ?_
        refine r_p (p_move rfl) rfl ?_
        refine r_p (p_move rfl) rfl ?_
        refine r_p (p_bin rfl rfl (b_add (by first | exact w_i64 (by omega) (by omega) | rfl))) rfl ?_
        refine r_p (p_assign rfl) rfl ?_
        refine r_nil ?_
        refine r_seq ?_
        refine r_region ?_
        refine r_p (p_move rfl) rfl ?_
        refine r_p (p_move rfl) rfl ?_
        refine r_p (p_max rfl rfl rfl) rfl ?_
        refine r_p (p_assign rfl) rfl ?_
        refine r_nil ?_
        refine r_seq ?_
        refine r_region ?_
        refine r_p (p_move rfl) rfl ?_
        refine r_p (p_move rfl) rfl ?_
        refine r_p (p_buildA (D := .bool) (parts := [(0, .tmp 59), (1, .tmp 60), (2, .const (.int .i64 1)), (3, .const (.int .i64 3))]) t38 t3 rfl rfl) rfl ?_
        refine r_call (xs := [.tmp 61, .const (.int .i64 12)]) (made_spec (f4 ⟨(k : Int), (1 + nl.getD k 0 % 12), 1, 3⟩) 12 (by omega)) cb18 [] [] [300] [] rfl rfl rfl rfl rfl rfl rfl rfl (fun _ _ => rfl) (fun _ _ _ => rfl) rfl (fun e he => ?_)
        obtain ⟨hepc, heb, hen, hest, hepg⟩ := he
        change e.pc = 4 * ((k : Int) % 12) at hepc
        change (e.bytes.size : Int) = (1 + nl.getD k 0 % 12) % (12 + 1) at hen
        change e.st = 1 % 4 at hest
        have hep0 : e.pc = 4 * (k : Int) := by omega
        have hen0 : (e.bytes.size : Int) = (1 + nl.getD k 0 % 12) := by omega
        refine r_alloc t36 rfl rfl fun b14 => ?_
        refine r_store_all (k := 14) t36 rfl rfl rfl rfl rfl rfl ?_
        refine r_nil ?_
        refine r_seq ?_
        refine r_region ?_
        refine r_p (p_move rfl) rfl ?_
        refine r_p (p_loadA t36 rfl rfl rfl (g_all (k := 14) rfl)) rfl ?_
        refine r_call (xs := [.tmp 64]) (entry_spec e (by omega)) cb20 [] [] [] [] rfl rfl rfl rfl rfl rfl rfl rfl (fun _ _ => rfl) (fun _ _ _ => rfl) rfl (fun ⟨ea, es⟩ hes => ?_)
        dsimp only at hes ⊢
        refine r_call (xs := [.tmp 63, .tmp 65]) (add_spec C 4096 (sizeN 4096 (sz % 60)) cur ob ol hi ps12_len (entE e ea es) (by simp only [entE]; omega)) cb19 [500, 501, 502] [] [500, 501, 502, 400, 401] [] rfl rfl rfl rfl rfl rfl rfl rfl (fun _ _ => rfl) (fun _ _ _ => rfl) rfl (fun ⟨va, vb, o⟩ _ => ?_)
        dsimp only
        have hnew := hi.add (e := (entE e ea es)) (by simp only [entE, hepc]; exact ps12_mem _) (by simp only [entE]; omega) (by simp only [entE]; exact hes) rfl (by simp only [entE]; exact hepg) (by simp only [entE]; omega)
        have hkept1 := Kept.add (e := (entE e ea es)) (n := (1 + nl.getD k 0 % 12)) hi hkept hep0 hen0 (by omega) (by omega)
        refine r_nil ?_
        refine r_region ?_
        refine r_p (p_move rfl) rfl ?_
        refine r_p (p_bin rfl rfl (b_add (by first | exact w_i64 (by omega) (by omega) | rfl))) rfl ?_
        refine r_p (p_assign rfl) rfl ?_
        refine r_nil ?_
        refine r_here (k + 1, u + (1 + nl.getD k 0 % 12), max g (1 + nl.getD k 0 % 12), (addF 4096 (sizeN 4096 (sz % 60)) cur L K (entE e ea es)).cur, (addF 4096 (sizeN 4096 (sz % 60)) cur L K (entE e ea es)).L, (addF 4096 (sizeN 4096 (sz % 60)) cur L K (entE e ea es)).K, o) ⟨⟨by dsimp only; omega, hnew, hkept1⟩, by dsimp only; omega⟩ rfl rfl rfl
    · (try simp only [decide_eq_true_eq, decide_eq_false_iff_not, Bool.and_eq_true, Bool.or_eq_true, Bool.and_eq_false_iff, Bool.or_eq_false_iff, Bool.not_eq_true, Bool.not_eq_false, Bool.not_eq_true', Bool.not_eq_false', Bool.not_not, bne_iff_ne, beq_iff_eq] at h4)
      refine r_exit ?_
      refine r_seq ?_
      refine r_seq ?_
      refine r_region ?_
      refine r_p (p_assign rfl) rfl ?_
      refine r_nil ?_
      refine r_block ?_
      refine r_loop (X := Nat) (fun j => j ≤ k) (fun j => [(7, .bool true), (8, .pointer (some ⟨C, 0, none⟩)), (12, .int .i64 (k : Int)), (15, .int .i64 (j : Int))]) (fun j => [(500, row C 84 (cC 4096 (sizeN 4096 (sz % 60)) cur ob ol)), (501, mpB ob L), (502, mpL ol K)]) (fun j => [(0, sl 4 eQ (sv vs) l), (1, sl 1 eI (sv ns) nl), (7, pgP S)]) (fun j => k - j) 0 (Nat.zero_le _) rfl rfl rfl (fun j hj0 => ?_)
      refine r_seq ?_
      refine r_seq ?_
      refine r_region ?_
      refine r_p (p_move rfl) rfl ?_
      refine r_p (p_move rfl) rfl ?_
      refine r_p (p_bin rfl rfl b_lt) rfl ?_
      refine r_nil ?_
      refine r_cond rfl (fun h8 => ?_) (fun h8 => ?_)
      · (try simp only [decide_eq_true_eq, decide_eq_false_iff_not, Bool.and_eq_true, Bool.or_eq_true, Bool.and_eq_false_iff, Bool.or_eq_false_iff, Bool.not_eq_true, Bool.not_eq_false, Bool.not_eq_true', Bool.not_eq_false', Bool.not_not, bne_iff_ne, beq_iff_eq] at h8)
        have hj : j < k := by omega
        obtain ⟨x, hfx⟩ := hkept.found hi hj
        refine r_skip ?_
        refine r_seq ?_
        refine r_block ?_
        refine r_seq ?_
        refine r_region ?_
        refine r_p (p_move rfl) rfl ?_
        refine r_p (p_move rfl) rfl ?_
        refine r_p (p_bin rfl rfl (b_mul (by first | exact w_i64 (by omega) (by omega) | rfl))) rfl ?_
        refine r_p (p_conv Try.underlying3 Try.underlying30 rfl (by first | exact w_u32 (by omega) (by omega) | rfl)) rfl ?_
        refine r_call (xs := [.tmp 75, .tmp 78]) (find_spec C 4096 (sizeN 4096 (sz % 60)) cur ob ol L _ _ hfx) cb21 [] [(true, 500), (true, 501)] [] [] rfl rfl rfl rfl rfl rfl rfl rfl (fun _ _ => rfl) (fun _ _ _ => rfl) rfl (fun _ _ => ?_)
        refine r_p (p_move rfl) rfl ?_
        refine r_p (p_extract rfl rfl) rfl ?_
        refine r_p (p_extract rfl rfl) rfl ?_
        refine r_alloc t54 rfl rfl fun b16 => ?_
        refine r_store_all (k := 16) t54 rfl rfl rfl rfl rfl rfl ?_
        refine r_p (p_assign rfl) rfl ?_
        refine r_nil ?_
        refine r_seq ?_
        refine r_region ?_
        refine r_p (p_move rfl) rfl ?_
        refine r_p (p_not rfl) rfl ?_
        refine r_nil ?_
        refine r_cond rfl (fun h9 => ?_) (fun h9 => ?_)
        · exact absurd h9 (by simp)
        · (try simp only [decide_eq_true_eq, decide_eq_false_iff_not, Bool.and_eq_true, Bool.or_eq_true, Bool.and_eq_false_iff, Bool.or_eq_false_iff, Bool.not_eq_true, Bool.not_eq_false, Bool.not_eq_true', Bool.not_eq_false', Bool.not_not, bne_iff_ne, beq_iff_eq] at h9)
          refine r_skip ?_
          refine r_region ?_
          refine r_p (p_move rfl) rfl ?_
          refine r_p (p_bin rfl rfl (b_add (by first | exact w_i64 (by omega) (by omega) | rfl))) rfl ?_
          refine r_p (p_assign rfl) rfl ?_
          refine r_nil ?_
          refine r_here (j + 1) ⟨by omega, by omega⟩ rfl rfl rfl
      · (try simp only [decide_eq_true_eq, decide_eq_false_iff_not, Bool.and_eq_true, Bool.or_eq_true, Bool.and_eq_false_iff, Bool.or_eq_false_iff, Bool.not_eq_true, Bool.not_eq_false, Bool.not_eq_true', Bool.not_eq_false', Bool.not_not, bne_iff_ne, beq_iff_eq] at h8)
        refine r_exit ?_
        refine r_seq ?_
        refine r_region ?_
        refine r_p (p_move rfl) rfl ?_
        refine r_p (p_assign rfl) rfl ?_
        refine r_nil ?_
        refine r_cret ?_
        refine r_ret () trivial rfl (rs1 (rv_tmp rfl)) (congrArg Value.bool (by simp)) [] [] rfl rfl rfl

end Go.Proofs.Ytbkonlkffajhkaa
