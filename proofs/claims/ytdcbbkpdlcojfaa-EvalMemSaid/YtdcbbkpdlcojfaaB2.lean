/-
  Storing and reading mem: plain. Condition: the list is short.
-/
import Derived.Test.YtdcbbkpdlcojfaaB0
namespace Go.Proofs.Ytdcbbkpdlcojfaa
set_option linter.unusedSimpArgs false
set_option linter.unusedVariables false
open Go.RowKit

abbrev putS (v : SV) : Ty := .mk 3 oNil v [tIn, tIn] nilS [] nilS []
abbrev memX (u : SV) (a : Int) : Tx := .mk 4 0 oNil u [tNum a]
abbrev outS (o : Int × SV × SV) : Ty := yOut o.2.2 (memX o.2.1 o.1)
def flatP : List (Int × Int) → List Int
  | [] => []
  | p :: r => p.1 :: p.2 :: flatP r
theorem flatP_app : ∀ a b : List (Int × Int), flatP (a ++ b) = flatP a ++ flatP b
  | [], b => rfl
  | p :: r, b => by simp [flatP, flatP_app r b]
def wantM (m : Nat → Int) (l : List (Int × Int)) : Nat → Int := l.foldl (fun m p => mput m (p.1 % 256).toNat p.2) m
theorem wantM_app (m : Nat → Int) (a b : List (Int × Int)) : wantM m (a ++ b) = wantM (wantM m a) b := List.foldl_append
section
variable {fs : List Tf} {d : Nat} {vs : Vs}
theorem ev_in {g : Nat} {s : Ms} {a : Int} {r : List Int} (hf : ¬ s.fuel ≤ 0) (hi : s.inp = a :: r) : evX (g + 2) fs d vs tIn s = some (.ok a { s with fuel := s.fuel - 1, inp := r }) := by
  simp [evX, evK, hf, hi, Tx.kids, Tx.kind, Tx.n]
theorem ev_memx {g : Nat} {u : SV} {a : Int} {s : Ms} (hf : 2 ≤ s.fuel) : evX (g + 4) fs d vs (memX u a) s = some (.ok (s.mem (a % 256).toNat) { s with fuel := s.fuel - 1 - 1 }) := by
  rw [evX, if_neg (by omega)]
  simp only [Tx.kids, Tx.kind]
  rw [evK, ev_num (by show ¬ s.fuel - 1 ≤ 0; omega)]
  simp only [List.nil_append]
  rw [evK]
  rfl
theorem ev_put {g : Nat} {v : SV} {a b : Int} {r : List Int} {s : Ms} (hf : 3 ≤ s.fuel) (hi : s.inp = a :: b :: r) : evS (g + 3) fs d vs (putS v) s = some (.ok (vs, none) { s with fuel := s.fuel - 3, inp := r, mem := mput s.mem (a % 256).toNat b }) := by
  rw [evS, if_neg (by omega)]
  simp only [Ty.es]
  rw [ev_in (s := { s with fuel := s.fuel - 1 }) (a := a) (r := b :: r) (by show ¬ s.fuel - 1 ≤ 0; omega) hi]
  simp only [Ty.kind]
  rw [ev_in (s := { s with fuel := s.fuel - 1 - 1, inp := b :: r }) (a := b) (r := r) (by show ¬ s.fuel - 1 - 1 ≤ 0; omega) rfl]
  simp only
  rw [show s.fuel - 1 - 1 - 1 = s.fuel - 3 by omega]
  rfl
theorem ev_puts : ∀ (l : List (Int × Int)) (sl : List SV) (r : List Int) (rest : List Ty) (g : Nat) (s : Ms), sl.length = l.length → s.inp = flatP l ++ r → 3 * (l.length : Int) ≤ s.fuel →
    evB (l.length + (g + 6)) fs d vs (sl.map putS ++ rest) s = evB (g + 6) fs d vs rest { s with inp := r, mem := wantM s.mem l, fuel := s.fuel - 3 * (l.length : Int) }
  | [], sl, r, rest, g, s, h1, h2, h3 => by
    have : sl = [] := List.eq_nil_of_length_eq_zero h1
    subst this
    have h2 : r = s.inp := h2.symm
    subst h2
    simp [wantM]
  | p :: l, [], r, rest, g, s, h1, h2, h3 => by simp at h1
  | p :: l, v :: sl, r, rest, g, s, h1, h2, h3 => by
    rw [List.length_cons] at h3
    rw [show (p :: l).length + (g + 6) = (l.length + g + 3 + 3) + 1 by rw [List.length_cons]; omega, List.map_cons, List.cons_append, evB, ev_put (a := p.1) (b := p.2) (r := flatP l ++ r) (by omega) h2]
    simp only
    rw [show l.length + g + 3 + 3 = l.length + (g + 6) by omega, ev_puts l sl r rest g _ (by simpa using h1) rfl (by show _ ≤ s.fuel - 3; omega)]
    simp only [wantM, List.foldl_cons, List.length_cons]
    rw [show s.fuel - 3 - 3 * (l.length : Int) = s.fuel - 3 * ((l.length + 1 : Nat) : Int) by omega]
theorem ev_outs : ∀ (os : List (Int × SV × SV)) (g : Nat) (s : Ms), 3 * (os.length : Int) ≤ s.fuel →
    evB (os.length + (g + 6)) fs d vs (os.map outS) s = some (.ok (vs, none) { s with out := s.out ++ os.map (fun o => s.mem (o.1 % 256).toNat), fuel := s.fuel - 3 * (os.length : Int) })
  | [], g, s, h => by
    rw [List.map_nil, show ([] : List (Int × SV × SV)).length + (g + 6) = (g + 5) + 1 by rw [List.length_nil]; omega, evB]
    simp
  | o :: os, g, s, h => by
    rw [List.length_cons] at h
    rw [show (o :: os).length + (g + 6) = (os.length + g + 1 + 4 + 1) + 1 by rw [List.length_cons]; omega, List.map_cons, evB, ev_out (g := os.length + g + 1 + 4) (by omega) (ev_memx (by show 2 ≤ s.fuel - 1; omega))]
    simp only
    rw [show os.length + g + 1 + 4 + 1 = os.length + (g + 6) by omega, ev_outs os g _ (by show _ ≤ s.fuel - 1 - 1 - 1; omega)]
    simp only [List.length_cons, List.map_cons, List.append_assoc, List.singleton_append]
    rw [show s.fuel - 1 - 1 - 1 - 3 * (os.length : Int) = s.fuel - 3 * ((os.length + 1 : Nat) : Int) by omega]
end
theorem chk_main {vb : SV} {l : List Ty} (h1 : rYs l = true) (h2 : vYs l = 0) (h3 : nYs l ≤ 400) (h4 : dpYs 1 l = false) (h5 : (bYs [fMain vb l] [] l).2 = 0) : chk [fMain vb l] = 0 := by
  have hr : rP [fMain vb l] = true := by
    show (rF (fMain vb l) && true) = true
    have : rF (fMain vb l) = (true && true && rYs l) := rfl
    rw [this, h1]
    rfl
  have ho : once [fMain vb l] = true := by kernel_rfl
  rw [chk_0 (f := fMain vb l) hr (by simp) ho rfl (by simp)]
  have hb : ¬ big (fMain vb l) := by
    unfold big
    show ¬ ((0 : Nat) > 4 ∨ 0 + vYs l > 12 ∨ nYs l > 400 ∨ dpYs 1 l = true)
    rw [h2, h4]
    rintro (h | h | h | h)
    · omega
    · omega
    · omega
    · cases h
  show fst (chkF _ (fMain vb l)) 0 = 0
  rw [fst_zero, chkF_eq, if_neg hb]
  show fst 0 (fst 0 (bYs [fMain vb l] [] l).2) = 0
  rw [h5]
  rfl
section
variable {fs : List Tf}
theorem bYs_const : ∀ (l : List Ty), (∀ t ∈ l, bY fs [] t = ([], 0)) → bYs fs [] l = ([], 0)
  | [], _ => rfl
  | t :: r, h => by rw [bYs, h t (by simp)]; simp only; rw [bYs_const r fun u hu => h u (by simp [hu])]; rfl
theorem vYs_const : ∀ (l : List Ty), (∀ t ∈ l, vY t = 0) → vYs l = 0
  | [], _ => rfl
  | t :: r, h => by rw [vYs, h t (by simp), vYs_const r fun u hu => h u (by simp [hu])]
theorem nYs_const : ∀ (l : List Ty), (∀ t ∈ l, nY t = 3) → nYs l = 3 * l.length
  | [], _ => rfl
  | t :: r, h => by rw [nYs, h t (by simp), nYs_const r fun u hu => h u (by simp [hu]), List.length_cons]; omega
theorem dpYs_const : ∀ (l : List Ty), (∀ t ∈ l, dpY 1 t = false) → dpYs 1 l = false
  | [], _ => rfl
  | t :: r, h => by rw [dpYs, h t (by simp), dpYs_const r fun u hu => h u (by simp [hu])]; rfl
end
/-- The body of the program: stores, then outputs. -/
abbrev memB9 (sl : List SV) (os : List (Int × SV × SV)) : List Ty := sl.map putS ++ os.map outS
theorem memB_all {P : Ty → Prop} {sl : List SV} {os : List (Int × SV × SV)} (h1 : ∀ v, P (putS v)) (h2 : ∀ o ∈ os, P (outS o)) : ∀ t ∈ memB9 sl os, P t := fun t ht => by
  rcases List.mem_append.1 ht with ht | ht
  · obtain ⟨v, _, rfl⟩ := List.mem_map.1 ht
    exact h1 v
  · obtain ⟨o, ho, rfl⟩ := List.mem_map.1 ht
    exact h2 o ho
theorem memB_chk {vb : SV} {sl : List SV} {os : List (Int × SV × SV)} (h : sl.length + os.length ≤ 100) : chk [fMain vb (memB9 sl os)] = 0 := by
  refine chk_main ?_ ?_ ?_ ?_ ?_
  · rw [rYs_all, List.all_eq_true]
    exact memB_all (fun v => rfl) fun o _ => rfl
  · exact vYs_const _ (memB_all (fun v => rfl) fun o _ => rfl)
  · rw [nYs_const _ (memB_all (fun v => rfl) fun o _ => rfl)]
    simp only [List.length_append, List.length_map]
    omega
  · exact dpYs_const _ (memB_all (fun v => rfl) fun o _ => rfl)
  · rw [bYs_const _ (memB_all (fun v => rfl) fun o _ => rfl)]
theorem GYs_of : ∀ {l : List Ty}, (∀ t ∈ l, GY t) → GYs l
  | [], _ => trivial
  | t :: r, h => ⟨h t (by simp), GYs_of fun u hu => h u (by simp [hu])⟩
theorem memB_gp {vb : SV} {sl : List SV} {os : List (Int × SV × SV)} (h : sl.length + os.length ≤ 100) (ho : ∀ o ∈ os, oW o.1) : GP [fMain vb (memB9 sl os)] := by
  refine gp_main (by simp only [List.length_append, List.length_map]; omega) (GYs_of (memB_all (fun v => ?_) fun o hm => ?_)) ?_
  · exact ⟨nmB_of rfl, ⟨by show 2 ≤ 1000000; decide, gx_in, gx_in, trivial⟩, ⟨Nat.zero_le _, trivial⟩, Nat.zero_le _, trivial⟩
  · exact gy_one (nmB_of rfl) ⟨oW0, nmB_of rfl, by show 1 ≤ 1000000; decide, gx_num (ho o hm), trivial⟩
  · rw [nYs_const _ (memB_all (fun v => rfl) fun o _ => rfl)]
    simp only [List.length_append, List.length_map]
    omega
theorem memB_run {vb : SV} {l : List (Int × Int)} {sl : List SV} {os : List (Int × SV × SV)} (hl : l.length ≤ 20) (h1 : sl.length = l.length) (h2 : os.map (fun o => o.1) = l.map (fun p => p.1)) :
    RunIs [fMain vb (memB9 sl os)] (flatP l) 1000 ⟨0, l.map fun p => wantM (fun _ => 0) l (p.1 % 256).toNat, (List.range 256).map (wantM (fun _ => 0) l)⟩ := by
  have h3 : os.length = l.length := by simpa using congrArg List.length h2
  have h4 : evC (l.length + (os.length + (0 + 6) + 6) + 1) [fMain vb (memB9 sl os)] 0 (fMain vb (memB9 sl os)) [] (ms0 (flatP l) 1000) = some (.ok 0 { inp := [], out := l.map fun p => wantM (fun _ => 0) l (p.1 % 256).toNat, mem := wantM (fun _ => 0) l, fuel := 1000 - 3 * (l.length : Int) - 3 * (l.length : Int) }) := by
    rw [evC, if_neg (by decide)]
    simp only [vbind]
    rw [ev_puts l sl [] (os.map outS) (os.length + (0 + 6)) _ h1 (by show flatP l = _; simp) (by show _ ≤ (1000 : Int); omega)]
    rw [mono_b (by omega : os.length + (0 + 6) ≤ os.length + (0 + 6) + 6) (ev_outs os 0 _ (by show _ ≤ (1000 : Int) - _; omega))]
    simp only [Option.getD_none]
    have h5 : os.map (fun o => wantM (ms0 (flatP l) 1000).mem l (o.1 % 256).toNat) = l.map fun p => wantM (fun _ => 0) l (p.1 % 256).toNat := by
      have e1 : os.map (fun o => wantM (ms0 (flatP l) 1000).mem l (o.1 % 256).toNat) = (os.map (fun o => o.1)).map (fun a => wantM (fun _ => 0) l (a % 256).toNat) := by rw [List.map_map]; rfl
      rw [e1, h2, List.map_map]
      rfl
    rw [h5, h3]
    rfl
  exact .run _ _ _ (memB_chk (by omega)) rfl h4
end Go.Proofs.Ytdcbbkpdlcojfaa
