/-
  The function values of the cache, and deleting links. Conditions: numbers are below 2^32.
-/
import Derived.Test.YtbkonlkffajhkaaQ3
namespace Go.Proofs.Ytbkonlkffajhkaa
set_option linter.unusedSimpArgs false
set_option linter.unusedVariables false
open Go.RowKit

def vfG (_ : Int) : Value := .bool true
abbrev mpG (o : Option Nat) (G : List Int) : Asn := mp mkU (fun n : Int => n) vfG o G
theorem p_has {N : Nat} {w0 : World} {M H : Nat → Prop} {E : Env} {Γ R : Ctx} {x y : Operand} {o : Option Nat} {k : Int} {G : List Int} (hx : ev E x = some (.map o)) (hy : ev E y = some (.int .u32 k)) (hm : HasMp Γ R mkU (fun n : Int => n) vfG o G) :
    PR Try.prog N w0 M H E Γ R (.lookup 111 x y false) (.bool (decide (k ∈ G))) := by
  have h := p_lookup (N := N) (w0 := w0) (M := M) (H := H) (r := G.find? fun a => decide (a = k)) (ok := false) Try.underlying111 keyU t4 hx (show ev E y = some (mkU k) from hy) hm rfl
  have e : (bif false then Value.tuple #[((G.find? fun a => decide (a = k)).map vfG).getD (.bool false), .bool (G.find? fun a => decide (a = k)).isSome] else ((G.find? fun a => decide (a = k)).map vfG).getD (.bool false)) = .bool (decide (k ∈ G)) := by
    by_cases hk : k ∈ G
    · cases hf : G.find? (fun a => decide (a = k)) with
      | none =>
        have := List.find?_eq_none.1 hf k hk
        simp at this
      | some a => simp [vfG, hk]
    · have : G.find? (fun a => decide (a = k)) = none := List.find?_eq_none.2 fun a ha => by
        simp
        rintro rfl
        exact hk ha
      simp [this, hk]
  rw [e] at h
  exact h
def inWay (base cur n : Int) (e o : En) : Bool := decide (o.pc = e.pc) || (decide (offW base o < cur + n) && decide (cur < offW base o + o.bytes.size))
def atW (a : Int) (x : En) : Bool := decide (x.base ≤ a) && decide (IntKind.u32.wrap (a - x.base) < x.bytes.size)

set_option maxRecDepth 100000 in
theorem linksT_spec (A1 A2 : Asn) (x : Lk) :
    Spec Try.prog 49 [veL x] [] [A1, A2] (X := Unit) (fun _ => True) (fun _ => .bool true) (fun _ => []) (fun _ => []) := by
  refine r_enter Try.func49 rfl Try.ntmps49 rfl fun w0 M H => ?_
  refine r_seq ?_
  refine r_region ?_
  refine r_boxA rfl rfl fun b1 => ?_
  refine r_p (p_assign rfl) rfl ?_
  refine r_nil ?_
  refine r_seq ?_
  refine r_region ?_
  refine r_p (p_assign rfl) rfl ?_
  refine r_nil ?_
  refine r_cret ?_
  refine r_ret () trivial rfl (rs1 (rv_tmp rfl)) rfl [] [] rfl rfl rfl
set_option maxRecDepth 100000 in
theorem allT_spec (A0 A1 A2 A3 : Asn) (x : En) :
    Spec Try.prog 50 [veEnt x] [] [A0, A1, A2, A3] (X := Unit) (fun _ => True) (fun _ => .bool true) (fun _ => []) (fun _ => []) := by
  refine r_enter Try.func50 rfl Try.ntmps50 rfl fun w0 M H => ?_
  refine r_seq ?_
  refine r_region ?_
  refine r_boxA rfl rfl fun b1 => ?_
  refine r_p (p_assign rfl) rfl ?_
  refine r_nil ?_
  refine r_seq ?_
  refine r_region ?_
  refine r_p (p_assign rfl) rfl ?_
  refine r_nil ?_
  refine r_cret ?_
  refine r_ret () trivial rfl (rs1 (rv_tmp rfl)) rfl [] [] rfl rfl rfl
set_option maxRecDepth 100000 in
theorem atT_spec (A0 A2 A3 : Asn) (b : Nat) (a : Int) (x : En) :
    Spec Try.prog 51 [veEnt x, .pointer (some ⟨b, 0, none⟩)] [] [A0, row b 30 [.int .u32 a], A2, A3] (X := Unit) (fun _ => True) (fun _ => .bool (atW a x)) (fun _ => []) (fun _ => []) := by
  refine r_enter Try.func51 rfl Try.ntmps51 rfl fun w0 M H => ?_
  have hwb := wrap_u32_bd (a - x.base)
  refine r_seq ?_
  refine r_region ?_
  refine r_boxA rfl rfl fun b2 => ?_
  refine r_p (p_assign rfl) rfl ?_
  refine r_nil ?_
  refine r_seq ?_
  refine r_region ?_
  refine r_p (p_load1 t30 rfl rfl (g_row1R (k := 1) rfl rfl)) rfl ?_
  refine r_p (p_field0 fo54_1 rfl) rfl ?_
  refine r_p (p_load1 t30 rfl rfl (g_row1 (k := 2) rfl rfl)) rfl ?_
  refine r_p (p_bin rfl rfl b_ge) rfl ?_
  refine r_p (p_move rfl) rfl ?_
  refine r_gp [] rfl rfl trivial (fun hg1 => p_load1 t30 rfl rfl (g_row1R (k := 1) rfl rfl)) rfl ?_
  refine r_gp [(9, _)] rfl rfl ⟨rfl, trivial⟩ (fun hg2 => p_field0 fo54_1 rfl) rfl ?_
  refine r_gp [(9, _), (10, _)] rfl rfl ⟨rfl, rfl, trivial⟩ (fun hg3 => p_load1 t30 rfl rfl (g_row1 (k := 2) rfl rfl)) rfl ?_
  refine r_gp [(9, _), (10, _), (11, _)] rfl rfl ⟨rfl, rfl, rfl, trivial⟩ (fun hg4 => p_bin rfl rfl (b_sub rfl)) rfl ?_
  refine r_gp [(9, _), (10, _), (11, _), (12, _)] rfl rfl ⟨rfl, rfl, rfl, rfl, trivial⟩ (fun hg5 => p_conv Try.underlying30 Try.underlying3 rfl (by first | exact w_i64 (by omega) (by omega) | rfl)) rfl ?_
  refine r_gp [(9, _), (10, _), (11, _), (12, _), (13, _)] rfl rfl ⟨rfl, rfl, rfl, rfl, rfl, trivial⟩ (fun hg6 => p_field0 fo54_4 rfl) rfl ?_
  refine r_gp [(9, _), (10, _), (11, _), (12, _), (13, _), (14, _)] rfl rfl ⟨rfl, rfl, rfl, rfl, rfl, rfl, trivial⟩ (fun hg7 => p_field fo52_0 rfl) rfl ?_
  refine r_gp [(9, _), (10, _), (11, _), (12, _), (13, _), (14, _), (15, _)] rfl rfl ⟨rfl, rfl, rfl, rfl, rfl, rfl, rfl, trivial⟩ (fun hg8 => p_load1 t9 rfl rfl (g_row1 (k := 2) rfl rfl)) rfl ?_
  refine r_gp [(9, _), (10, _), (11, _), (12, _), (13, _), (14, _), (15, _), (16, _)] rfl rfl ⟨rfl, rfl, rfl, rfl, rfl, rfl, rfl, rfl, trivial⟩ (fun hg9 => p_len_str Try.underlying9 rfl) rfl ?_
  refine r_gp [(9, _), (10, _), (11, _), (12, _), (13, _), (14, _), (15, _), (16, _), (17, _)] rfl rfl ⟨rfl, rfl, rfl, rfl, rfl, rfl, rfl, rfl, rfl, trivial⟩ (fun hg10 => p_bin rfl rfl b_lt) rfl ?_
  refine r_p (p_pick rfl rfl rfl (by first | exact pick_and | exact pick_or |  rfl)) rfl ?_
  refine r_p (p_assign rfl) rfl ?_
  refine r_nil ?_
  refine r_cret ?_
  refine r_ret () trivial rfl (rs1 (rv_tmp rfl)) rfl [] [] rfl rfl rfl
set_option maxRecDepth 100000 in
theorem addT_spec (C : Nat) (base size cur : Int) (ob ol : Option Nat) (b1 b2 b3 : Nat) (n : Int) (e o : En) (hc : 0 ≤ cur ∧ cur ≤ 4294967296) (hn : 0 ≤ n ∧ n ≤ 4294967296) (ho : o.bytes.size ≤ 4294967296) :
    Spec Try.prog 43 [veEnt o, .pointer (some ⟨b1, 0, none⟩), .pointer (some ⟨b2, 0, none⟩), .pointer (some ⟨b3, 0, none⟩)] [] [row C 84 (cC base size cur ob ol), row b1 25 [.pointer (some ⟨C, 0, none⟩)], row b2 54 (eEnt e), row b3 3 [.int .i64 n]] (X := Unit) (fun _ => True) (fun _ => .bool (inWay base cur n e o)) (fun _ => []) (fun _ => []) := by
  refine r_enter Try.func43 rfl Try.ntmps43 rfl fun w0 M H => ?_
  have hwb := wrap_u32_bd (o.base - base)
  have hwe : offW base o = IntKind.u32.wrap (o.base - base) := rfl
  refine r_seq ?_
  refine r_region ?_
  refine r_boxA rfl rfl fun b4 => ?_
  refine r_p (p_assign rfl) rfl ?_
  refine r_nil ?_
  refine r_seq ?_
  refine r_region ?_
  refine r_p (p_load1 t25 rfl rfl (g_row1R (k := 1) rfl rfl)) rfl ?_
  refine r_p (p_loadA t54 rfl rfl rfl (g_all (k := 4) rfl)) rfl ?_
  refine r_call (xs := [.tmp 7, .tmp 8]) (off_spec C base size cur ob ol o) cb44 [] [(false, 0)] [] [] rfl rfl rfl rfl rfl rfl rfl rfl (fun _ _ => rfl) (fun _ _ _ => rfl) rfl (fun _ _ => ?_)
  refine r_p (p_assign rfl) rfl ?_
  refine r_nil ?_
  refine r_seq ?_
  refine r_draw [10, 11, 12, 13, 14, 15, 16, 17, 18, 19, 20, 21, 22, 23, 24, 25, 26, 27, 28, 29, 30, 31, 32, 33, 34, 35, 36, 37, 5] _ rfl (stg_end (V := [(0, 10, _), (1, 11, _), (2, 12, _), (3, 13, _), (4, 14, _), (5, 15, _), (6, 16, _), (7, 17, _), (8, 18, _), (9, 19, _), (10, 20, _), (11, 21, _), (12, 22, _), (13, 23, _), (14, 24, _), (15, 25, _), (16, 26, _), (17, 27, _), (18, 28, _), (19, 29, _), (20, 30, _), (21, 31, _), (22, 32, _), (23, 33, _), (24, 34, _), (25, 35, _), (26, 36, _), (27, 37, _), (28, 5, _)]) [0, 1, 2, 3, 4, 5, 6, 7, 8, 9, 10, 11, 12, 13, 14, 15, 16, 17, 18, 19, 20, 21, 22, 23, 24, 25, 26, 27, 28] rfl rfl (prs_cons (pri rfl (p_field0 fo54_0 rfl)) (prs_cons (pri rfl (p_load1 t30 rfl rfl (g_row1 (k := 4) rfl rfl))) (prs_cons (pri rfl (p_field0 fo54_0 rfl)) (prs_cons (pri rfl (p_load1 t30 rfl rfl (g_row1R (k := 2) rfl rfl))) (prs_cons (pri rfl (p_bin rfl rfl b_eq)) (prs_cons (pri rfl (p_move rfl)) (prs_cons (prig_s [] rfl rfl rfl trivial (fun hg1 => p_move rfl)) (prs_cons (prig_s [] rfl rfl rfl trivial (fun hg2 => p_load1 t25 rfl rfl (g_row1R (k := 1) rfl rfl))) (prs_cons (prig_s [(17, _)] rfl rfl rfl ⟨rfl, trivial⟩ (fun hg3 => p_nilCheck rfl)) (prs_cons (prig_s [(18, _)] rfl rfl rfl ⟨rfl, trivial⟩ (fun hg4 => p_field0 fo84_2 rfl)) (prs_cons (prig_s [(19, _)] rfl rfl rfl ⟨rfl, trivial⟩ (fun hg5 => p_load1 t3 rfl rfl (g_row1R (k := 0) rfl rfl))) (prs_cons (prig_s [] rfl rfl rfl trivial (fun hg6 => p_load1 t3 rfl rfl (g_row1R (k := 3) rfl rfl))) (prs_cons (prig_s [(20, _), (21, _)] rfl rfl rfl ⟨rfl, rfl, trivial⟩ (fun hg7 => p_bin rfl rfl (b_add (by first | exact w_i64 (by omega) (by omega) | rfl)))) (prs_cons (prig_s [(16, _), (22, _)] rfl rfl rfl ⟨rfl, rfl, trivial⟩ (fun hg8 => p_bin rfl rfl b_lt)) (prs_cons (prig_s [(23, _)] rfl rfl rfl ⟨rfl, trivial⟩ (fun hg9 => p_move rfl)) (prs_cons (prig_s2 [] [(24, _)] rfl rfl rfl trivial ⟨rfl, trivial⟩ (fun hg10 hg10' => p_load1 t25 rfl rfl (g_row1R (k := 1) rfl rfl))) (prs_cons (prig_s2 [(25, _)] [(24, _)] rfl rfl rfl ⟨rfl, trivial⟩ ⟨rfl, trivial⟩ (fun hg11 hg11' => p_nilCheck rfl)) (prs_cons (prig_s2 [(26, _)] [(24, _)] rfl rfl rfl ⟨rfl, trivial⟩ ⟨rfl, trivial⟩ (fun hg12 hg12' => p_field0 fo84_2 rfl)) (prs_cons (prig_s2 [(27, _)] [(24, _)] rfl rfl rfl ⟨rfl, trivial⟩ ⟨rfl, trivial⟩ (fun hg13 hg13' => p_load1 t3 rfl rfl (g_row1R (k := 0) rfl rfl))) (prs_cons (prig_s2 [] [(24, _)] rfl rfl rfl trivial ⟨rfl, trivial⟩ (fun hg14 hg14' => p_move rfl)) (prs_cons (prig_s2 [] [(24, _)] rfl rfl rfl trivial ⟨rfl, trivial⟩ (fun hg15 hg15' => p_field0 fo54_4 rfl)) (prs_cons (prig_s2 [(30, _)] [(24, _)] rfl rfl rfl ⟨rfl, trivial⟩ ⟨rfl, trivial⟩ (fun hg16 hg16' => p_field fo52_0 rfl)) (prs_cons (prig_s2 [(31, _)] [(24, _)] rfl rfl rfl ⟨rfl, trivial⟩ ⟨rfl, trivial⟩ (fun hg17 hg17' => p_load1 t9 rfl rfl (g_row1 (k := 4) rfl rfl))) (prs_cons (prig_s2 [(32, _)] [(24, _)] rfl rfl rfl ⟨rfl, trivial⟩ ⟨rfl, trivial⟩ (fun hg18 hg18' => p_len_str Try.underlying9 rfl)) (prs_cons (prig_s2 [(29, _), (33, _)] [(24, _)] rfl rfl rfl ⟨rfl, rfl, trivial⟩ ⟨rfl, trivial⟩ (fun hg19 hg19' => p_bin rfl rfl (b_add (by first | exact w_i64 (by omega) (by omega) | rfl)))) (prs_cons (prig_s2 [(28, _), (34, _)] [(24, _)] rfl rfl rfl ⟨rfl, rfl, trivial⟩ ⟨rfl, trivial⟩ (fun hg20 hg20' => p_bin rfl rfl b_lt)) (prs_cons (prig_s [(24, _)] rfl rfl rfl ⟨rfl, trivial⟩ (fun hg21 => p_pick rfl rfl rfl (by first | exact pick_and | exact pick_or | exact pick_and2 hg21 | exact pick_or2 hg21 | rfl))) (prs_cons (pri rfl (p_pick rfl rfl rfl (by first | exact pick_and | exact pick_or |  rfl))) (prs_cons (pri rfl (p_assign rfl)) prs_nil))))))))))))))))))))))))))))) rfl rfl rfl ?_)
  refine r_cret ?_
  refine r_ret () trivial rfl (rs1 (rv_tmp rfl)) rfl [] [] rfl rfl rfl
set_option maxRecDepth 100000 in
theorem drop1_spec (b5 g : Nat) (G : List Int) (x : Lk) :
    Spec Try.prog 61 [veL x, .pointer (some ⟨b5, 0, none⟩)] [] [row b5 111 [.map (some g)], mpG (some g) G] (X := Unit) (fun _ => True) (fun _ => .bool (decide (x.t ∈ G) && !decide (x.f ∈ G))) (fun _ => []) (fun _ => []) := by
  refine r_enter Try.func61 rfl Try.ntmps61 rfl fun w0 M H => ?_
  refine r_seq ?_
  refine r_region ?_
  refine r_boxA rfl rfl fun b2 => ?_
  refine r_p (p_assign rfl) rfl ?_
  refine r_nil ?_
  refine r_seq ?_
  refine r_region ?_
  refine r_p (p_load1 t111 rfl rfl (g_row1R (k := 0) rfl rfl)) rfl ?_
  refine r_p (p_field0 fo64_2 rfl) rfl ?_
  refine r_p (p_load1 t30 rfl rfl (g_row1 (k := 2) rfl rfl)) rfl ?_
  refine r_p (p_has rfl rfl (hm_ro (k := 1) rfl)) rfl ?_
  refine r_p (p_move rfl) rfl ?_
  refine r_gp [] rfl rfl trivial (fun hg1 => p_load1 t111 rfl rfl (g_row1R (k := 0) rfl rfl)) rfl ?_
  refine r_gp [(9, _)] rfl rfl ⟨rfl, trivial⟩ (fun hg2 => p_field0 fo64_0 rfl) rfl ?_
  refine r_gp [(9, _), (10, _)] rfl rfl ⟨rfl, rfl, trivial⟩ (fun hg3 => p_load1 t30 rfl rfl (g_row1 (k := 2) rfl rfl)) rfl ?_
  refine r_gp [(9, _), (10, _), (11, _)] rfl rfl ⟨rfl, rfl, rfl, trivial⟩ (fun hg4 => p_has rfl rfl (hm_ro (k := 1) rfl)) rfl ?_
  refine r_gp [(9, _), (10, _), (11, _), (12, _)] rfl rfl ⟨rfl, rfl, rfl, rfl, trivial⟩ (fun hg5 => p_not rfl) rfl ?_
  refine r_p (p_pick rfl rfl rfl (by first | exact pick_and | exact pick_or |  rfl)) rfl ?_
  refine r_p (p_assign rfl) rfl ?_
  refine r_nil ?_
  refine r_cret ?_
  refine r_ret () trivial rfl (rs1 (rv_tmp rfl)) rfl [] [] rfl rfl rfl
set_option maxRecDepth 100000 in
theorem drop2_spec (b5 g : Nat) (G : List Int) (x : Lk) :
    Spec Try.prog 63 [mkS (kfS x), vfS x, .pointer (some ⟨b5, 0, none⟩)] [] [row b5 111 [.map (some g)], mpG (some g) G] (X := Unit) (fun _ => True) (fun _ => .bool (decide (x.f ∈ G) || decide (x.t ∈ G))) (fun _ => []) (fun _ => []) := by
  refine r_enter Try.func63 rfl Try.ntmps63 rfl fun w0 M H => ?_
  refine r_seq ?_
  refine r_region ?_
  refine r_boxA rfl rfl fun b3 => ?_
  refine r_p (p_assign rfl) rfl ?_
  refine r_nil ?_
  refine r_seq ?_
  refine r_region ?_
  refine r_p (p_load1 t111 rfl rfl (g_row1R (k := 0) rfl rfl)) rfl ?_
  refine r_p (p_field0 fo107_0 rfl) rfl ?_
  refine r_p (p_load1 t30 rfl rfl (g_row1 (k := 3) rfl rfl)) rfl ?_
  refine r_p (p_has rfl rfl (hm_ro (k := 1) rfl)) rfl ?_
  refine r_p (p_move rfl) rfl ?_
  refine r_gp [] rfl rfl trivial (fun hg1 => p_load1 t111 rfl rfl (g_row1R (k := 0) rfl rfl)) rfl ?_
  refine r_gp [(11, _)] rfl rfl ⟨rfl, trivial⟩ (fun hg2 => p_move rfl) rfl ?_
  refine r_gp [(11, _), (12, _)] rfl rfl ⟨rfl, rfl, trivial⟩ (fun hg3 => p_has rfl rfl (hm_ro (k := 1) rfl)) rfl ?_
  refine r_p (p_pick rfl rfl rfl (by first | exact pick_and | exact pick_or |  rfl)) rfl ?_
  refine r_p (p_assign rfl) rfl ?_
  refine r_nil ?_
  refine r_cret ?_
  refine r_ret () trivial rfl (rs1 (rv_tmp rfl)) rfl [] [] rfl rfl rfl
theorem key_inj {α κ : Type} [DecidableEq κ] {kf : α → κ} {ms : List (α × Nat)} {clk : Nat} (h : MW kf ms clk) {x y : α × Nat} (hx : x ∈ ms) (hy : y ∈ ms) : (kf x.1 = kf y.1 ↔ x.2 = y.2) := by
  obtain ⟨i, hi, ei⟩ := List.getElem_of_mem hx
  obtain ⟨j, hj, ej⟩ := List.getElem_of_mem hy
  have hk := List.pairwise_iff_getElem.1 h.keys
  have hb := List.pairwise_iff_getElem.1 h.born
  rcases Nat.lt_trichotomy i j with hlt | he | hlt
  · have h1 := hk i j (by simpa using hi) (by simpa using hj) hlt
    have h2 := hb i j (by simpa using hi) (by simpa using hj) hlt
    simp [ei, ej] at h1 h2
    exact ⟨fun e => absurd e h1, fun e => absurd e h2⟩
  · subst he
    rw [← ei, ← ej]
    simp
  · have h1 := hk j i (by simpa using hj) (by simpa using hi) hlt
    have h2 := hb j i (by simpa using hj) (by simpa using hi) hlt
    simp [ei, ej] at h1 h2
    exact ⟨fun e => absurd e.symm h1, fun e => absurd e.symm h2⟩
/-- What is left of a map of links, when those of done were asked. -/
def curK (q : Lk → Bool) (ms done : List (Lk × Nat)) : List (Lk × Nat) := ms.filter fun m => !(q m.1 && decide (m.2 ∈ done.map (·.2)))
theorem curK_nil (q : Lk → Bool) (ms : List (Lk × Nat)) : curK q ms [] = ms := by
  unfold curK
  rw [List.filter_eq_self]
  intro m _
  simp
theorem curK_del {q : Lk → Bool} {ms done : List (Lk × Nat)} {clk : Nat} (h : MW kfS ms clk) {m : Lk × Nat} (hm : m ∈ ms) (hq : q m.1 = true) : (curK q ms done).filter (fun x => decide (kfS x.1 ≠ kfS m.1)) = curK q ms (done ++ [m]) := by
  unfold curK
  rw [List.filter_filter]
  refine List.filter_congr fun x hx => ?_
  have hi := key_inj h hx hm
  by_cases e : x.2 = m.2
  · have e2 := hi.2 e
    simp only [e2, ne_eq, not_true, decide_false, Bool.false_and, List.map_append, List.mem_append, List.map_cons, List.map_nil, List.mem_singleton, e, or_true, decide_true, Bool.and_true]
    have hxm : x = m := by
      obtain ⟨i, hi', ei⟩ := List.getElem_of_mem hx
      obtain ⟨j, hj', ej⟩ := List.getElem_of_mem hm
      have hb := List.pairwise_iff_getElem.1 h.born
      rcases Nat.lt_trichotomy i j with hlt | he | hlt
      · have := hb i j (by simpa using hi') (by simpa using hj') hlt
        simp [ei, ej, e] at this
      · subst he; rw [← ei, ← ej]
      · have := hb j i (by simpa using hj') (by simpa using hi') hlt
        simp [ei, ej, e] at this
    rw [hxm, hq]
    rfl
  · have e2 : ¬ kfS x.1 = kfS m.1 := fun h => e (hi.1 h)
    have e3 : x.2 ∈ (done ++ [m]).map (·.2) ↔ x.2 ∈ done.map (·.2) := by rw [List.map_append, List.mem_append]; simp [e]
    simp only [e2, e3, ne_eq, not_false_eq_true, decide_true, Bool.true_and]
theorem curK_keep {q : Lk → Bool} {ms done : List (Lk × Nat)} {clk : Nat} (h : MW kfS ms clk) {m : Lk × Nat} (hm : m ∈ ms) (hq : q m.1 = false) : curK q ms done = curK q ms (done ++ [m]) := by
  unfold curK
  refine List.filter_congr fun x hx => ?_
  have hi := key_inj h hx hm
  by_cases e : x.2 = m.2
  · have e2 := hi.2 e
    have hxm : x = m := by
      obtain ⟨i, hi', ei⟩ := List.getElem_of_mem hx
      obtain ⟨j, hj', ej⟩ := List.getElem_of_mem hm
      have hb := List.pairwise_iff_getElem.1 h.born
      rcases Nat.lt_trichotomy i j with hlt | he | hlt
      · have := hb i j (by simpa using hi') (by simpa using hj') hlt
        simp [ei, ej, e] at this
      · subst he; rw [← ei, ← ej]
      · have := hb j i (by simpa using hj') (by simpa using hi') hlt
        simp [ei, ej, e] at this
    rw [hxm, hq]
    simp
  · have e3 : x.2 ∈ (done ++ [m]).map (·.2) ↔ x.2 ∈ done.map (·.2) := by rw [List.map_append, List.mem_append]; simp [e]
    simp only [e3]
theorem curK_over {q : Lk → Bool} {ms done : List (Lk × Nat)} (hall : ∀ m ∈ curK q ms done, m.2 ∈ done.map (·.2)) : curK q ms done = ms.filter fun m => !q m.1 := by
  unfold curK at *
  refine List.filter_congr fun x hx => ?_
  cases hq : q x.1 with
  | false => simp
  | true =>
    by_cases hd : x.2 ∈ done.map (·.2)
    · simp only [hd, decide_true]; rfl
    · exact absurd (hall x (List.mem_filter.2 ⟨hx, by rw [hq, decide_eq_false hd]; rfl⟩)) hd
theorem filter_map_fst {α : Type} {p : α → Bool} (ms : List (α × Nat)) : (ms.filter fun m => p m.1).map (·.1) = (ms.map (·.1)).filter p := by
  rw [List.filter_map]
  rfl

set_option maxHeartbeats 1000000 in
set_option maxRecDepth 100000 in
theorem delf_spec (nf : Nat) (caps : List Value) (A1 A2 : Asn) (q : Lk → Bool) (K : List Lk) (ol : Option Nat) (hcb : Cb Try.prog nf) (hok : ∀ x ∈ K, Spec Try.prog nf ([mkS (kfS x), vfS x] ++ caps) [] [A1, A2] (X := Unit) (fun _ => True) (fun _ => .bool (q x)) (fun _ => []) (fun _ => [])) :
    Spec Try.prog 62 [.map ol, .func (.func nf) #[] caps.toArray] [mpL ol K] [A1, A2] (X := Unit) (fun _ => True) (fun _ => .tuple #[]) (fun _ => [mpL ol (K.filter fun x => !q x)]) (fun _ => []) := by
  refine r_enter Try.func62 rfl Try.ntmps62 rfl fun w0 M H => ?_
  refine r_mpo 0 rfl (fun ms clk hpm hW => ?_)
  refine r_seq ?_
  refine r_region ?_
  refine r_p (p_move rfl) rfl ?_
  refine r_range Try.underlying82 rfl (hms_own (k := 0) rfl) rfl fun i7 => ?_
  refine r_nil ?_
  refine r_block ?_
  refine r_loop (X := List (Lk × Nat)) (fun x => Vis ms x) (fun x => [(0, .map ol), (1, .func (.func nf) #[] caps.toArray), (7, .pointer (some ⟨i7, 0, none⟩))]) (fun x => [(0, mps mkS kfS vfS ol (curK q ms x) clk), (7, itr i7 ol clk x)]) (fun x => [(0, A1), (1, A2)]) (fun x => lft ms x) [] (Vis.zero ms) rfl (by rw [curK_nil]; rfl) rfl (fun done hv => ?_)
  refine r_seq ?_
  refine r_region ?_
  refine r_next (ki := 7) rfl rfl (hms_own (k := 0) rfl) rfl (fun hover => ?_) (fun m hm hno => ?_)
  · refine r_p (p_extract rfl rfl) rfl ?_
    refine r_nil ?_
    refine r_seq ?_
    refine r_cond rfl (fun h1 => ?_) (fun h1 => ?_)
    · exact absurd h1 (by simp)
    · (try simp only [decide_eq_true_eq, decide_eq_false_iff_not, Bool.and_eq_true, Bool.or_eq_true, Bool.and_eq_false_iff, Bool.or_eq_false_iff, Bool.not_eq_true, Bool.not_eq_false, Bool.not_eq_true', Bool.not_eq_false', Bool.not_not, bne_iff_ne, beq_iff_eq] at h1)
      have hov := curK_over (q := q) hover
      refine r_exit ?_
      refine r_conva (k := 0) rfl (mps_mp (L := K.filter fun x => !q x) (by rw [hov, filter_map_fst (p := fun x => !q x)]; exact hpm.filter _)) ?_
      refine r_end () trivial rfl rs0 rfl [0] [] rfl rfl rfl
  · have hm0 : m ∈ ms := (List.mem_filter.1 hm).1
    refine r_p (p_extract rfl rfl) rfl ?_
    refine r_nil ?_
    refine r_seq ?_
    refine r_cond rfl (fun h2 => ?_) (fun h2 => ?_)
    · (try simp only [decide_eq_true_eq, decide_eq_false_iff_not, Bool.and_eq_true, Bool.or_eq_true, Bool.and_eq_false_iff, Bool.or_eq_false_iff, Bool.not_eq_true, Bool.not_eq_false, Bool.not_eq_true', Bool.not_eq_false', Bool.not_not, bne_iff_ne, beq_iff_eq] at h2)
      refine r_skip ?_
      refine r_block ?_
      refine r_seq ?_
      refine r_region ?_
      refine r_p (p_entry (ki := 7) rfl rfl (hms_own (k := 0) rfl) hm) rfl ?_
      refine r_p (p_extract rfl rfl) rfl ?_
      refine r_p (p_extract rfl rfl) rfl ?_
      refine r_alloc t107 rfl rfl fun b4 => ?_
      refine r_store_all (k := 4) t107 rfl rfl rfl rfl rfl rfl ?_
      refine r_p (p_assign rfl) rfl ?_
      refine r_nil ?_
      refine r_seq ?_
      refine r_region ?_
      refine r_p (p_move rfl) rfl ?_
      refine r_p (p_loadA t107 rfl rfl rfl (g_all (k := 4) rfl)) rfl ?_
      refine r_p (p_move rfl) rfl ?_
      refine r_call (xs := [.tmp 14, .tmp 15]) (hok m.1 (hpm.mem_iff.1 (List.mem_map.2 ⟨m, hm0, rfl⟩))) hcb [] [(false, 0), (false, 1)] [] [] rfl rfl rfl rfl rfl rfl rfl rfl (fun _ _ => rfl) (fun _ _ _ => rfl) rfl (fun _ _ => ?_)
      refine r_nil ?_
      refine r_cond rfl (fun h3 => ?_) (fun h3 => ?_)
      · (try simp only [decide_eq_true_eq, decide_eq_false_iff_not, Bool.and_eq_true, Bool.or_eq_true, Bool.and_eq_false_iff, Bool.or_eq_false_iff, Bool.not_eq_true, Bool.not_eq_false, Bool.not_eq_true', Bool.not_eq_false', Bool.not_not, bne_iff_ne, beq_iff_eq] at h3)
        have hpT : q m.1 = true := by simpa using h3
        refine r_region ?_
        refine r_p (p_move rfl) rfl ?_
        refine r_p (p_loadA t107 rfl rfl rfl (g_all (k := 4) rfl)) rfl ?_
        refine r_ms0 (ms_deleteS (kn := 0) Try.underlying82 keyS (k := kfS m.1) rfl rfl rfl) fun _ _ => ?_
        refine r_nil ?_
        refine r_here (done ++ [m]) ⟨hv.step hm0 hno, lft_lt hm0 hno⟩ rfl (by rw [← curK_del hW hm0 hpT]; rfl) rfl
      · (try simp only [decide_eq_true_eq, decide_eq_false_iff_not, Bool.and_eq_true, Bool.or_eq_true, Bool.and_eq_false_iff, Bool.or_eq_false_iff, Bool.not_eq_true, Bool.not_eq_false, Bool.not_eq_true', Bool.not_eq_false', Bool.not_not, bne_iff_ne, beq_iff_eq] at h3)
        have hpF : q m.1 = false := by simpa using h3
        refine r_skip ?_
        refine r_here (done ++ [m]) ⟨hv.step hm0 hno, lft_lt hm0 hno⟩ rfl (by rw [← curK_keep hW hm0 hpF]; rfl) rfl
    · exact absurd h2 (by simp)

end Go.Proofs.Ytbkonlkffajhkaa
