/-
  Counting down: plain. Condition: the number is small.
-/
import Derived.Test.YtdcbbkpdlcojfaaAY
namespace Go.Proofs.Ytdcbbkpdlcojfaa
set_option linter.unusedSimpArgs false
set_option linter.unusedVariables false
open Go.RowKit

theorem vget_put (vs : Vs) (x : ByteArray) (n : Int) : vget (vput vs x n) x = n := by
  unfold vget vput
  rw [List.find?_cons_of_pos (by simp)]
theorem biF_sub (a b : Int) : biF oSub a b = some (wU (a - b)) := rfl
theorem wU_id {n : Int} (h : oW n) : wU n = n := w_u32 h.1 h.2
section
variable {v1 v2 v3 v4 v5 : SV} {fs : List Tf} {d : Nat}
abbrev lpL (v3 v4 v5 : SV) : List Ty := [yOut v3 (tName nX1), .mk 2 nX1 v4 [tBin oSub v5 (tName nX1) (tNum 1)] nilS [] nilS []]
theorem ev_name {g : Nat} {vs : Vs} {x : ByteArray} {s : Ms} (hf : ¬ s.fuel ≤ 0) : evX (g + 2) fs d vs (tName x) s = some (.ok (vget vs x) { s with fuel := s.fuel - 1 }) := by
  simp [evX, evK, hf, Tx.kids, Tx.kind, Tx.name]
theorem ev_num {g : Nat} {vs : Vs} {n : Int} {s : Ms} (hf : ¬ s.fuel ≤ 0) : evX (g + 2) fs d vs (tNum n) s = some (.ok n { s with fuel := s.fuel - 1 }) := by
  simp [evX, evK, hf, Tx.kids, Tx.kind, Tx.n]
theorem ev_bin {g : Nat} {vs : Vs} {op : ByteArray} {v : SV} {a b : Tx} {x y : Int} {s s1 s2 : Ms} (hf : ¬ s.fuel ≤ 0) (ha : evX (g + 1) fs d vs a { s with fuel := s.fuel - 1 } = some (.ok x s1)) (hb : evX g fs d vs b s1 = some (.ok y s2)) (hg : 0 < g) :
    evX (g + 3) fs d vs (tBin op v a b) s = some (.ok ((biF op x y).getD 0) s2) := by
  have h3 : evK g fs d vs [x, y] [] s2 = some (.ok [x, y] s2) := by
    cases g with
    | zero => omega
    | succ g => rw [evK]
  rw [evX, if_neg hf]
  simp only [Tx.kids, Tx.kind, Tx.name]
  rw [evK, ha]
  simp only [List.nil_append]
  rw [evK, hb]
  simp only [List.cons_append, List.nil_append]
  rw [h3]
  rfl
theorem ev_out {g : Nat} {vs : Vs} {v : SV} {t : Tx} {x : Int} {s s1 : Ms} (hf : ¬ s.fuel ≤ 0) (ht : evX g fs d vs t { s with fuel := s.fuel - 1 } = some (.ok x s1)) : evS (g + 1) fs d vs (yOut v t) s = some (.ok (vs, none) { s1 with out := s1.out ++ [x] }) := by
  rw [evS, if_neg hf]
  simp only [Ty.es]
  rw [ht]
  rfl
theorem ev_set {g : Nat} {vs : Vs} {v : SV} {t : Tx} {k : Int} {nm : ByteArray} {x : Int} {s s1 : Ms} (hk : k = 1 ∨ k = 2) (hf : ¬ s.fuel ≤ 0) (ht : evX g fs d vs t { s with fuel := s.fuel - 1 } = some (.ok x s1)) : evS (g + 1) fs d vs (.mk k nm v [t] nilS [] nilS []) s = some (.ok (vput vs nm x, none) s1) := by
  rw [evS, if_neg hf]
  simp only [Ty.es, Ty.kind, Ty.name]
  rw [ht]
  exact if_pos hk
theorem lp_body {k : Int} (hk : 1 ≤ k ∧ k ≤ 1000) {vs : Vs} (hv : vget vs nX1 = k) {s : Ms} (hf : 6 ≤ s.fuel) : evB 12 fs d vs (lpL v3 v4 v5) s = some (.ok (vput vs nX1 (k - 1), none) { s with fuel := s.fuel - 6, out := s.out ++ [k] }) := by
  have h1 : evS 11 fs d vs (yOut v3 (tName nX1)) s = some (.ok (vs, none) { s with fuel := s.fuel - 1 - 1, out := s.out ++ [k] }) := by
    rw [ev_out (g := 10) (by omega) (ev_name (g := 8) (by show ¬ s.fuel - 1 ≤ 0; omega)), hv]
  have h2 : evS 10 fs d vs (.mk 2 nX1 v4 [tBin oSub v5 (tName nX1) (tNum 1)] nilS [] nilS []) { s with fuel := s.fuel - 1 - 1, out := s.out ++ [k] } = some (.ok (vput vs nX1 (k - 1), none) { s with fuel := s.fuel - 1 - 1 - 1 - 1 - 1 - 1, out := s.out ++ [k] }) := by
    rw [ev_set (g := 9) (.inr rfl) (by show ¬ s.fuel - 1 - 1 ≤ 0; omega) (ev_bin (g := 6) (by show ¬ s.fuel - 1 - 1 - 1 ≤ 0; omega) (ev_name (g := 5) (by show ¬ s.fuel - 1 - 1 - 1 - 1 ≤ 0; omega)) (ev_num (g := 4) (by show ¬ s.fuel - 1 - 1 - 1 - 1 - 1 ≤ 0; omega)) (by omega)), hv, biF_sub, Option.getD_some, wU_id ⟨by omega, by omega⟩]
  rw [evB, h1]
  dsimp only
  rw [evB, h2]
  dsimp only
  rw [evB, show s.fuel - 1 - 1 - 1 - 1 - 1 - 1 = s.fuel - 6 by omega]
/-- What a countdown from k writes. -/
def cnt : Nat → List Int
  | 0 => []
  | k + 1 => ((k + 1 : Nat) : Int) :: cnt k
theorem cnt_len : ∀ k, (cnt k).length = k
  | 0 => rfl
  | k + 1 => by rw [cnt, List.length_cons, cnt_len k]
theorem cnt_get : ∀ (k i : Nat), i < k → (cnt k)[i]? = some ((k : Int) - (i : Int))
  | 0, i, h => by omega
  | k + 1, 0, h => by simp [cnt]
  | k + 1, i + 1, h => by
    rw [cnt, List.getElem?_cons_succ, cnt_get k i (by omega)]
    congr 1
    omega
theorem lp_while : ∀ (k : Nat) (vs : Vs) (s : Ms), k ≤ 1000 → vget vs nX1 = (k : Int) → s.fuel = 7 * (k : Int) → ∃ g vs', evW g fs d vs (tName nX1) (lpL v3 v4 v5) (k : Int) s = some (.ok (vs', none) { s with fuel := 0, out := s.out ++ cnt k })
  | 0, vs, s, _, hv, hf => ⟨1, vs, by
    rw [evW, if_pos (show ((0 : Nat) : Int) = 0 from rfl)]
    have : s.fuel = 0 := by omega
    simp [cnt, ← this]⟩
  | k + 1, vs, s, hk, hv, hf => by
    have h1 := lp_body (fs := fs) (d := d) (v3 := v3) (v4 := v4) (v5 := v5) (k := ((k + 1 : Nat) : Int)) ⟨by omega, by omega⟩ hv (s := s) (by omega)
    have hv2 : vget (vput vs nX1 (((k + 1 : Nat) : Int) - 1)) nX1 = (k : Int) := by rw [vget_put]; omega
    obtain ⟨g, vs', h2⟩ := lp_while k (vput vs nX1 (((k + 1 : Nat) : Int) - 1)) { s with fuel := s.fuel - 6 - 1, out := s.out ++ [((k + 1 : Nat) : Int)] } (by omega) hv2 (by show s.fuel - 6 - 1 = _; omega)
    refine ⟨g + 12 + 1, vs', ?_⟩
    rw [evW, if_neg (by omega), mono_b (by omega : 12 ≤ g + 12) h1]
    dsimp only
    rw [show g + 12 = (g + 10) + 2 from rfl, ev_name (by show ¬ s.fuel - 6 ≤ 0; omega)]
    dsimp only
    rw [hv2, mono_w (by omega : g ≤ g + 10 + 2) h2]
    simp [cnt, List.append_assoc]
theorem lp_while_no : ∀ (k : Nat) (vs : Vs) (s : Ms), 1 ≤ k → k ≤ 1000 → vget vs nX1 = (k : Int) → s.fuel = 7 * (k : Int) - 1 → ∃ g, evW g fs d vs (tName nX1) (lpL v3 v4 v5) (k : Int) s = some (.err 25)
  | 0, vs, s, h, _, hv, hf => by omega
  | k + 1, vs, s, _, hk, hv, hf => by
    have h1 := lp_body (fs := fs) (d := d) (v3 := v3) (v4 := v4) (v5 := v5) (k := ((k + 1 : Nat) : Int)) ⟨by omega, by omega⟩ hv (s := s) (by omega)
    have hv2 : vget (vput vs nX1 (((k + 1 : Nat) : Int) - 1)) nX1 = (k : Int) := by rw [vget_put]; omega
    by_cases hk0 : k = 0
    · refine ⟨13, ?_⟩
      rw [evW, if_neg (by omega), h1]
      dsimp only
      rw [evX, if_pos (by show s.fuel - 6 ≤ 0; omega)]
    · obtain ⟨g, h2⟩ := lp_while_no k (vput vs nX1 (((k + 1 : Nat) : Int) - 1)) { s with fuel := s.fuel - 6 - 1, out := s.out ++ [((k + 1 : Nat) : Int)] } (by omega) (by omega) hv2 (by show s.fuel - 6 - 1 = _; omega)
      refine ⟨g + 12 + 1, ?_⟩
      rw [evW, if_neg (by omega), mono_b (by omega : 12 ≤ g + 12) h1]
      dsimp only
      rw [show g + 12 = (g + 10) + 2 from rfl, ev_name (by show ¬ s.fuel - 6 ≤ 0; omega)]
      dsimp only
      rw [hv2, mono_w (by omega : g ≤ g + 10 + 2) h2]
end
theorem lp_run_ok (k : Nat) (hk : k ≤ 1000) (x : Lv) : RunIs (x.p (k : Int)) [] (4 + 7 * (k : Int)) ⟨0, cnt k, (List.range 256).map fun _ => 0⟩ := by
  have hv : vget (vput [] nX1 (k : Int)) nX1 = (k : Int) := vget_put _ _ _
  obtain ⟨g, vs', hw⟩ := lp_while (fs := x.p (k : Int)) (d := 1) (v3 := x.v3) (v4 := x.v4) (v5 := x.v5) k (vput [] nX1 (k : Int)) ⟨[], [], fun _ => 0, 4 + 7 * (k : Int) - 1 - 1 - 1 - 1⟩ hk hv (by show 4 + 7 * (k : Int) - 1 - 1 - 1 - 1 = _; omega)
  have h1 : evS (g + 7) (x.p (k : Int)) 1 [] (.mk 1 nX1 x.v0 [tNum (k : Int)] nilS [] nilS []) (ms0 [] (4 + 7 * (k : Int))) = some (.ok (vput [] nX1 (k : Int), none) ⟨[], [], fun _ => 0, 4 + 7 * (k : Int) - 1 - 1⟩) :=
    ev_set (g := g + 6) (.inl rfl) (by show ¬ 4 + 7 * (k : Int) ≤ 0; omega) (ev_num (g := g + 4) (by show ¬ 4 + 7 * (k : Int) - 1 ≤ 0; omega))
  have h2 : evS (g + 6) (x.p (k : Int)) 1 (vput [] nX1 (k : Int)) (lpWhile x.v1 x.v2 x.v3 x.v4 x.v5) ⟨[], [], fun _ => 0, 4 + 7 * (k : Int) - 1 - 1⟩ = some (.ok (vs', none) ⟨[], cnt k, fun _ => 0, 0⟩) := by
    rw [evS, if_neg (by show ¬ 4 + 7 * (k : Int) - 1 - 1 ≤ 0; omega)]
    simp only [Ty.es]
    rw [show g + 5 = (g + 3) + 2 from rfl, ev_name (by show ¬ 4 + 7 * (k : Int) - 1 - 1 - 1 ≤ 0; omega)]
    dsimp only
    rw [hv]
    simp only [Ty.kind, Ty.body]
    exact mono_w (by omega : g ≤ g + 3 + 2) hw
  have h3 : evC (g + 9) (x.p (k : Int)) 0 (fMain x.v6 (lpBody (k : Int) x.v0 x.v1 x.v2 x.v3 x.v4 x.v5)) [] (ms0 [] (4 + 7 * (k : Int))) = some (.ok 0 ⟨[], cnt k, fun _ => 0, 0⟩) := by
    rw [evC, if_neg (by decide)]
    simp only [vbind]
    rw [evB, h1]
    dsimp only
    rw [evB, h2]
    dsimp only
    rw [evB]
    rfl
  exact .run _ _ _ (lp_chk _ x) rfl h3
theorem lp_run_no (k : Nat) (hk : k ≤ 1000) (x : Lv) : RunIs (x.p (k : Int)) [] (4 + 7 * (k : Int) - 1) ⟨25, [], []⟩ := by
  have hv : vget (vput [] nX1 (k : Int)) nX1 = (k : Int) := vget_put _ _ _
  have key : ∃ g, evC (g + 9) (x.p (k : Int)) 0 (fMain x.v6 (lpBody (k : Int) x.v0 x.v1 x.v2 x.v3 x.v4 x.v5)) [] (ms0 [] (4 + 7 * (k : Int) - 1)) = some (.err 25) := by
    have h1 : ∀ g, evS (g + 7) (x.p (k : Int)) 1 [] (.mk 1 nX1 x.v0 [tNum (k : Int)] nilS [] nilS []) (ms0 [] (4 + 7 * (k : Int) - 1)) = some (.ok (vput [] nX1 (k : Int), none) ⟨[], [], fun _ => 0, 4 + 7 * (k : Int) - 1 - 1 - 1⟩) := fun g =>
      ev_set (g := g + 6) (.inl rfl) (by show ¬ 4 + 7 * (k : Int) - 1 ≤ 0; omega) (ev_num (g := g + 4) (by show ¬ 4 + 7 * (k : Int) - 1 - 1 ≤ 0; omega))
    by_cases hk0 : k = 0
    · refine ⟨0, ?_⟩
      rw [evC, if_neg (by decide)]
      simp only [vbind]
      rw [evB, h1 0]
      dsimp only
      rw [evB, evS, if_neg (by show ¬ 4 + 7 * (k : Int) - 1 - 1 - 1 ≤ 0; omega)]
      simp only [Ty.es]
      rw [evX, if_pos (by show 4 + 7 * (k : Int) - 1 - 1 - 1 - 1 ≤ 0; omega)]
    · obtain ⟨g, hw⟩ := lp_while_no (fs := x.p (k : Int)) (d := 1) (v3 := x.v3) (v4 := x.v4) (v5 := x.v5) k (vput [] nX1 (k : Int)) ⟨[], [], fun _ => 0, 4 + 7 * (k : Int) - 1 - 1 - 1 - 1 - 1⟩ (by omega) hk hv (by show 4 + 7 * (k : Int) - 1 - 1 - 1 - 1 - 1 = _; omega)
      refine ⟨g, ?_⟩
      rw [evC, if_neg (by decide)]
      simp only [vbind]
      rw [evB, h1 g]
      dsimp only
      rw [evB, evS, if_neg (by show ¬ 4 + 7 * (k : Int) - 1 - 1 - 1 ≤ 0; omega)]
      simp only [Ty.es]
      rw [show g + 5 = (g + 3) + 2 from rfl, ev_name (by show ¬ 4 + 7 * (k : Int) - 1 - 1 - 1 - 1 ≤ 0; omega)]
      dsimp only
      rw [hv]
      simp only [Ty.kind, Ty.body]
      rw [mono_w (by omega : g ≤ g + 3 + 2) hw]
      rfl
  obtain ⟨g, hg⟩ := key
  exact .run _ _ (.err 25) (lp_chk _ x) rfl hg
end Go.Proofs.Ytdcbbkpdlcojfaa
