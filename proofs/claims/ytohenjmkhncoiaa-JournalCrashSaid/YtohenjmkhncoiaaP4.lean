/-
  Histories: continuing a checkpoint. Conditions: few.
-/
import Derived.Test.YtohenjmkhncoiaaP3
namespace Go.Proofs.Ytohenjmkhncoiaa
set_option linter.unusedSimpArgs false
set_option linter.unusedVariables false
open Go.RowKit

/-- The cells of a history. -/
def hC (D J : Nat) (s nx : Sp) (n : Int) (busy stepped off : Bool) : List Value := .pointer (some ⟨D, 0, none⟩) :: .pointer (some ⟨J, 0, none⟩) :: (snC s ++ (snC nx ++ [.int .i64 n, .bool busy, .bool stepped, .bool off]))
/-- A history. -/
structure Hs where
  J : Nat
  s : Sp
  nx : Sp
  n : Int
  busy : Bool
  stepped : Bool
  off : Bool
  jl : Sp
  jx : Sp
  i : Nat
  todo : List Ac
  vt : SV
  armed : Bool
  left : Int
  dur : List ByteArray
  fr : List (Int × ByteArray)
/-- What holds of it; there were at most c checkpoints. -/
structure HI (S c : Nat) (x : Hs) : Prop where
  geo : Geo x.dur S
  hold : Hold (view x.dur) (rm S) x.n x.s.sn
  n0 : 0 ≤ x.n ∧ x.n ≤ (c : Int)
  jl : x.jl.sn = x.s.sn
  sm : x.s.Sm
  idle : x.busy = false → x.todo = [] ∧ x.fr = [] ∧ x.off = false
  on : x.busy = true → Phase x.n S (ofI (eSn x.nx.sn)) x.dur x.fr x.i (x.todo.map Ac.plain) ∧ 0 < x.todo.length ∧ Fits S (ofI (eSn x.nx.sn)) x.nx.sn ∧ x.jx.sn = x.nx.sn ∧ x.nx.Sm ∧ (x.stepped = false → x.i = 0)
theorem HI.jsm {S c : Nat} {x : Hs} (h : HI S c x) : x.jl.Sm := h.sm.congr h.jl
theorem HI.mono {S c c' : Nat} {x : Hs} (h : HI S c x) (hc : c ≤ c') : HI S c' x := ⟨h.geo, h.hold, ⟨h.n0.1, by have := h.n0.2; omega⟩, h.jl, h.sm, h.idle, h.on⟩
theorem HI.range {S c : Nat} {x : Hs} (h : HI S c x) : ∀ p ∈ x.fr, 0 ≤ p.1 ∧ p.1 < (S : Int) := by
  cases hb : x.busy with
  | false => rw [(h.idle hb).2.1]; simp
  | true => exact (h.on hb).1.range h.geo.lo (h.on hb).2.2.1.nb
/-- What a crash leaves of it. -/
theorem HI.crash {S c : Nat} {x : Hs} (h : HI S c x) (hc : c ≤ 1000) (q : List Int) :
    Geo (sdN q (x.dur, x.fr, 0) x.dur.length).1 S ∧ (sdN q (x.dur, x.fr, 0) x.dur.length).2.1 = [] ∧ ∃ nn ss, Hold (view (sdN q (x.dur, x.fr, 0) x.dur.length).1) (rm S) nn ss ∧ ((nn = x.n ∧ ss = x.s.sn) ∨ (nn = x.n + 1 ∧ ss = x.nx.sn ∧ x.busy = true ∧ x.stepped = true)) := by
  cases hb : x.busy with
  | false =>
    obtain ⟨h1, h2, h3⟩ := h.idle hb
    rw [h2, crash_idle]
    exact ⟨h.geo, rfl, x.n, x.s.sn, h.hold, .inl ⟨rfl, rfl⟩⟩
  | true =>
    obtain ⟨h1, h2, h3, h4, h5, h6⟩ := h.on hb
    obtain ⟨c1, c2, c3⟩ := crash_good q h.geo h.hold h3 (by have := h.n0.2; omega) h1
    refine ⟨c1, c2, ?_⟩
    rcases c3 with c3 | ⟨c3, c4⟩
    · exact ⟨x.n, x.s.sn, c3, .inl ⟨rfl, rfl⟩⟩
    · refine ⟨x.n + 1, x.nx.sn, c4, .inr ⟨rfl, rfl, rfl, ?_⟩⟩
      cases hs : x.stepped with
      | true => rfl
      | false => have := h6 hs; omega

/-- The state of a round: on its way, with the number of the start. -/
structure HR1 (S c : Nat) (n0 : Int) (z : Hs) : Prop where
  hi : HI S (c + 1) z
  n : (z.busy = true ∧ z.n = n0) ∨ (z.busy = false ∧ z.n ≤ n0 + 1)

set_option maxHeartbeats 4000000 in
set_option maxRecDepth 100000 in
theorem hsteps_idle (h D : Nat) (v : SV) (m : Nat) (S c : Nat) (x : Hs) (hx : HI S c x) (hc : c ≤ 1000) (many : Int) (hm : 0 ≤ many ∧ many ≤ 1000) (hb : x.busy = false) :
    Spec Try.prog 40 [.pointer (some ⟨h, 0, none⟩), .int .i64 many] [row h 77 (hC D x.J x.s x.nx x.n x.busy x.stepped x.off), row x.J 100 (jC D x.jl x.n x.jx x.vt), ownX 35 (acV D) x.vt x.todo, row D 94 (dC v (some m) x.off x.armed x.left), mp mkI Prod.fst vS (some m) x.fr, own 9 1 eS (sv v) x.dur] [snA x.s, snA x.nx, snA x.jl, snA x.jx, actsA x.J x.todo] (X := Hs) (fun y => y = x) (fun _ => .bool true) (fun y => [row h 77 (hC D y.J y.s y.nx y.n y.busy y.stepped y.off), row y.J 100 (jC D y.jl y.n y.jx y.vt), ownX 35 (acV D) y.vt y.todo, row D 94 (dC v (some m) y.off y.armed y.left), mp mkI Prod.fst vS (some m) y.fr, own 9 1 eS (sv v) y.dur]) (fun y => [snA y.s, snA y.nx, snA y.jl, snA y.jx, actsA y.J y.todo]) := by
  refine r_enter Try.func40 rfl Try.ntmps40 rfl fun w0 M H => ?_
  obtain ⟨J, s, nx, n, busy, stepped, off, jl, jx, i, todo, vt, armed, left, dur, fr⟩ := x
  obtain ⟨hgeo, hhold, hn0, hjl, hsm, hidle, hon⟩ := hx
  dsimp only at hgeo hhold hn0 hjl hsm hidle hon ⊢
  have hlen := hgeo.len
  have hlo := hgeo.lo
  have hhi := hgeo.hi
  have hjsm : jl.Sm := hsm.congr hjl
  obtain ⟨h1, h2, h3⟩ := hidle hb
  subst hb
  subst h1
  subst h2
  subst h3
  refine r_seq ?_
  refine r_region ?_
  refine r_p (p_assign rfl) rfl ?_
  refine r_nil ?_
  refine r_seq ?_
  refine r_seq ?_
  refine r_region ?_
  refine r_p (p_assign rfl) rfl ?_
  refine r_nil ?_
  refine r_block ?_
  refine r_loop (X := Nat) (fun k => k = 0) (fun k => [(0, .pointer (some ⟨h, 0, none⟩)), (1, .int .i64 many), (5, .int .i64 (k : Int))]) (fun k => [(0, row h 77 (hC D (⟨J, s, nx, n, false, stepped, false, jl, jx, i, [], vt, armed, left, dur, []⟩ : Hs).J (⟨J, s, nx, n, false, stepped, false, jl, jx, i, [], vt, armed, left, dur, []⟩ : Hs).s (⟨J, s, nx, n, false, stepped, false, jl, jx, i, [], vt, armed, left, dur, []⟩ : Hs).nx (⟨J, s, nx, n, false, stepped, false, jl, jx, i, [], vt, armed, left, dur, []⟩ : Hs).n (⟨J, s, nx, n, false, stepped, false, jl, jx, i, [], vt, armed, left, dur, []⟩ : Hs).busy (⟨J, s, nx, n, false, stepped, false, jl, jx, i, [], vt, armed, left, dur, []⟩ : Hs).stepped (⟨J, s, nx, n, false, stepped, false, jl, jx, i, [], vt, armed, left, dur, []⟩ : Hs).off)), (1, row (⟨J, s, nx, n, false, stepped, false, jl, jx, i, [], vt, armed, left, dur, []⟩ : Hs).J 100 (jC D (⟨J, s, nx, n, false, stepped, false, jl, jx, i, [], vt, armed, left, dur, []⟩ : Hs).jl (⟨J, s, nx, n, false, stepped, false, jl, jx, i, [], vt, armed, left, dur, []⟩ : Hs).n (⟨J, s, nx, n, false, stepped, false, jl, jx, i, [], vt, armed, left, dur, []⟩ : Hs).jx (⟨J, s, nx, n, false, stepped, false, jl, jx, i, [], vt, armed, left, dur, []⟩ : Hs).vt)), (2, ownX 35 (acV D) (⟨J, s, nx, n, false, stepped, false, jl, jx, i, [], vt, armed, left, dur, []⟩ : Hs).vt (⟨J, s, nx, n, false, stepped, false, jl, jx, i, [], vt, armed, left, dur, []⟩ : Hs).todo), (3, row D 94 (dC v (some m) (⟨J, s, nx, n, false, stepped, false, jl, jx, i, [], vt, armed, left, dur, []⟩ : Hs).off (⟨J, s, nx, n, false, stepped, false, jl, jx, i, [], vt, armed, left, dur, []⟩ : Hs).armed (⟨J, s, nx, n, false, stepped, false, jl, jx, i, [], vt, armed, left, dur, []⟩ : Hs).left)), (4, mp mkI Prod.fst vS (some m) (⟨J, s, nx, n, false, stepped, false, jl, jx, i, [], vt, armed, left, dur, []⟩ : Hs).fr), (5, own 9 1 eS (sv v) (⟨J, s, nx, n, false, stepped, false, jl, jx, i, [], vt, armed, left, dur, []⟩ : Hs).dur)]) (fun k => [(0, snA (⟨J, s, nx, n, false, stepped, false, jl, jx, i, [], vt, armed, left, dur, []⟩ : Hs).s), (1, snA (⟨J, s, nx, n, false, stepped, false, jl, jx, i, [], vt, armed, left, dur, []⟩ : Hs).nx), (2, snA (⟨J, s, nx, n, false, stepped, false, jl, jx, i, [], vt, armed, left, dur, []⟩ : Hs).jl), (3, snA (⟨J, s, nx, n, false, stepped, false, jl, jx, i, [], vt, armed, left, dur, []⟩ : Hs).jx), (4, actsA (⟨J, s, nx, n, false, stepped, false, jl, jx, i, [], vt, armed, left, dur, []⟩ : Hs).J (⟨J, s, nx, n, false, stepped, false, jl, jx, i, [], vt, armed, left, dur, []⟩ : Hs).todo)]) (fun k => 1 - k) 0 rfl rfl rfl rfl (fun k hk0 => ?_)
  subst hk0
  refine r_seq ?_
  refine r_seq ?_
  refine r_region ?_
  refine r_p (p_move rfl) rfl ?_
  refine r_p (p_move rfl) rfl ?_
  refine r_p (p_bin rfl rfl b_lt) rfl ?_
  refine r_nil ?_
  refine r_cond rfl (fun h1 => ?_) (fun h1 => ?_)
  · (try simp only [decide_eq_true_eq, decide_eq_false_iff_not, Bool.and_eq_true, Bool.or_eq_true, Bool.and_eq_false_iff, Bool.or_eq_false_iff, Bool.not_eq_true, Bool.not_eq_false, Bool.not_eq_true', Bool.not_eq_false', Bool.not_not, bne_iff_ne, beq_iff_eq] at h1)
    refine r_skip ?_
    refine r_seq ?_
    refine r_block ?_
    refine r_seq ?_
    refine r_region ?_
    refine r_p (p_move rfl) rfl ?_
    refine r_p (p_nilCheck rfl) rfl ?_
    refine r_p (p_field0 fo77_1 rfl) rfl ?_
    refine r_p (p_load1 t49 rfl rfl (g_row1 (k := 0) rfl rfl)) rfl ?_
    refine r_call (xs := [.tmp 17]) (step_none J D jl n jx vt) cb43 [] [(true, 1), (true, 2)] [] [] rfl rfl rfl rfl rfl rfl rfl rfl (fun _ _ => rfl) (fun _ _ _ => rfl) rfl (fun _ _ => ?_)
    refine r_p (p_move rfl) rfl ?_
    refine r_p (p_extract rfl rfl) rfl ?_
    refine r_p (p_extract rfl rfl) rfl ?_
    refine r_p (p_assign rfl) rfl ?_
    refine r_p (p_assign rfl) rfl ?_
    refine r_nil ?_
    refine r_seq ?_
    refine r_seq ?_
    refine r_region ?_
    refine r_p (p_move rfl) rfl ?_
    refine r_p (p_nilCheck rfl) rfl ?_
    refine r_p (p_field0 fo77_5 rfl) rfl ?_
    refine r_p (p_load1 t4 rfl rfl (g_row1 (k := 0) rfl rfl)) rfl ?_
    refine r_p (p_not rfl) rfl ?_
    refine r_nil ?_
    refine r_cond rfl (fun h2 => ?_) (fun h2 => ?_)
    · (try simp only [decide_eq_true_eq, decide_eq_false_iff_not, Bool.and_eq_true, Bool.or_eq_true, Bool.and_eq_false_iff, Bool.or_eq_false_iff, Bool.not_eq_true, Bool.not_eq_false, Bool.not_eq_true', Bool.not_eq_false', Bool.not_not, bne_iff_ne, beq_iff_eq] at h2)
      refine r_seq ?_
      refine r_region ?_
      refine r_p (p_move rfl) rfl ?_
      refine r_p (p_not rfl) rfl ?_
      refine r_p (p_move rfl) rfl ?_
      refine r_gp [] rfl rfl trivial (fun hg3 => p_move rfl) rfl ?_
      refine r_gp [(29, _)] rfl rfl ⟨rfl, trivial⟩ (fun hg4 => p_bin rfl rfl b_eq) rfl ?_
      refine r_p (p_pick rfl rfl rfl (by first | exact pick_and | exact pick_or |  rfl)) rfl ?_
      refine r_p (p_assign rfl) rfl ?_
      refine r_nil ?_
      refine r_cret ?_
      refine r_ret (⟨J, s, nx, n, false, stepped, false, jl, jx, i, [], vt, armed, left, dur, []⟩ : Hs) rfl rfl (rs1 (rv_tmp rfl)) (by first | rfl | simp) [0, 1, 2, 3, 4, 5] [0, 1, 2, 3, 4] rfl rfl rfl
    · exact absurd h2 (by simp)
  · (try simp only [decide_eq_true_eq, decide_eq_false_iff_not, Bool.and_eq_true, Bool.or_eq_true, Bool.and_eq_false_iff, Bool.or_eq_false_iff, Bool.not_eq_true, Bool.not_eq_false, Bool.not_eq_true', Bool.not_eq_false', Bool.not_not, bne_iff_ne, beq_iff_eq] at h1)
    refine r_exit ?_
    refine r_seq ?_
    refine r_region ?_
    refine r_p (p_assign rfl) rfl ?_
    refine r_nil ?_
    refine r_cret ?_
    refine r_ret (⟨J, s, nx, n, false, stepped, false, jl, jx, i, [], vt, armed, left, dur, []⟩ : Hs) rfl rfl (rs1 (rv_tmp rfl)) (by first | rfl | simp) [0, 1, 2, 3, 4, 5] [0, 1, 2, 3, 4] rfl rfl rfl
set_option maxHeartbeats 4000000 in
set_option maxRecDepth 100000 in
theorem hsteps_busy (h D : Nat) (v : SV) (m : Nat) (S c : Nat) (x : Hs) (hx : HI S c x) (hc : c ≤ 1000) (many : Int) (hm : 0 ≤ many ∧ many ≤ 1000) (hb : x.busy = true) :
    Spec Try.prog 40 [.pointer (some ⟨h, 0, none⟩), .int .i64 many] [row h 77 (hC D x.J x.s x.nx x.n x.busy x.stepped x.off), row x.J 100 (jC D x.jl x.n x.jx x.vt), ownX 35 (acV D) x.vt x.todo, row D 94 (dC v (some m) x.off x.armed x.left), mp mkI Prod.fst vS (some m) x.fr, own 9 1 eS (sv v) x.dur] [snA x.s, snA x.nx, snA x.jl, snA x.jx, actsA x.J x.todo] (X := Hs) (fun y => HI S (c + 1) y) (fun _ => .bool true) (fun y => [row h 77 (hC D y.J y.s y.nx y.n y.busy y.stepped y.off), row y.J 100 (jC D y.jl y.n y.jx y.vt), ownX 35 (acV D) y.vt y.todo, row D 94 (dC v (some m) y.off y.armed y.left), mp mkI Prod.fst vS (some m) y.fr, own 9 1 eS (sv v) y.dur]) (fun y => [snA y.s, snA y.nx, snA y.jl, snA y.jx, actsA y.J y.todo]) := by
  refine r_enter Try.func40 rfl Try.ntmps40 rfl fun w0 M H => ?_
  obtain ⟨J, s, nx, n, busy, stepped, off, jl, jx, i, todo, vt, armed, left, dur, fr⟩ := x
  have hx1 := hx.mono (Nat.le_succ c)
  have hx2 := hx
  obtain ⟨hgeo, hhold, hn0, hjl, hsm, hidle, hon⟩ := hx
  dsimp only at hgeo hhold hn0 hjl hsm hidle hon hb ⊢
  subst hb
  have hlo := hgeo.lo
  have hhi := hgeo.hi
  have hjsm : jl.Sm := hsm.congr hjl
  obtain ⟨hp0, ht0, hF, hjx, hnxm, hs0⟩ := hon rfl
  refine r_seq ?_
  refine r_region ?_
  refine r_p (p_assign rfl) rfl ?_
  refine r_nil ?_
  refine r_seq ?_
  refine r_seq ?_
  refine r_region ?_
  refine r_p (p_assign rfl) rfl ?_
  refine r_nil ?_
  refine r_block ?_
  refine r_loop (X := Nat × Hs) (fun y => (y.1 : Int) ≤ many ∧ HI S c (⟨J, s, nx, n, true, y.2.stepped, y.2.off, jl, jx, y.2.i, y.2.todo, y.2.vt, armed, y.2.left, y.2.dur, y.2.fr⟩ : Hs)) (fun y => [(0, .pointer (some ⟨h, 0, none⟩)), (1, .int .i64 many), (5, .int .i64 (y.1 : Int))]) (fun y => [(0, row h 77 (hC D (⟨J, s, nx, n, true, y.2.stepped, y.2.off, jl, jx, y.2.i, y.2.todo, y.2.vt, armed, y.2.left, y.2.dur, y.2.fr⟩ : Hs).J (⟨J, s, nx, n, true, y.2.stepped, y.2.off, jl, jx, y.2.i, y.2.todo, y.2.vt, armed, y.2.left, y.2.dur, y.2.fr⟩ : Hs).s (⟨J, s, nx, n, true, y.2.stepped, y.2.off, jl, jx, y.2.i, y.2.todo, y.2.vt, armed, y.2.left, y.2.dur, y.2.fr⟩ : Hs).nx (⟨J, s, nx, n, true, y.2.stepped, y.2.off, jl, jx, y.2.i, y.2.todo, y.2.vt, armed, y.2.left, y.2.dur, y.2.fr⟩ : Hs).n (⟨J, s, nx, n, true, y.2.stepped, y.2.off, jl, jx, y.2.i, y.2.todo, y.2.vt, armed, y.2.left, y.2.dur, y.2.fr⟩ : Hs).busy (⟨J, s, nx, n, true, y.2.stepped, y.2.off, jl, jx, y.2.i, y.2.todo, y.2.vt, armed, y.2.left, y.2.dur, y.2.fr⟩ : Hs).stepped (⟨J, s, nx, n, true, y.2.stepped, y.2.off, jl, jx, y.2.i, y.2.todo, y.2.vt, armed, y.2.left, y.2.dur, y.2.fr⟩ : Hs).off)), (1, row (⟨J, s, nx, n, true, y.2.stepped, y.2.off, jl, jx, y.2.i, y.2.todo, y.2.vt, armed, y.2.left, y.2.dur, y.2.fr⟩ : Hs).J 100 (jC D (⟨J, s, nx, n, true, y.2.stepped, y.2.off, jl, jx, y.2.i, y.2.todo, y.2.vt, armed, y.2.left, y.2.dur, y.2.fr⟩ : Hs).jl (⟨J, s, nx, n, true, y.2.stepped, y.2.off, jl, jx, y.2.i, y.2.todo, y.2.vt, armed, y.2.left, y.2.dur, y.2.fr⟩ : Hs).n (⟨J, s, nx, n, true, y.2.stepped, y.2.off, jl, jx, y.2.i, y.2.todo, y.2.vt, armed, y.2.left, y.2.dur, y.2.fr⟩ : Hs).jx (⟨J, s, nx, n, true, y.2.stepped, y.2.off, jl, jx, y.2.i, y.2.todo, y.2.vt, armed, y.2.left, y.2.dur, y.2.fr⟩ : Hs).vt)), (2, ownX 35 (acV D) (⟨J, s, nx, n, true, y.2.stepped, y.2.off, jl, jx, y.2.i, y.2.todo, y.2.vt, armed, y.2.left, y.2.dur, y.2.fr⟩ : Hs).vt (⟨J, s, nx, n, true, y.2.stepped, y.2.off, jl, jx, y.2.i, y.2.todo, y.2.vt, armed, y.2.left, y.2.dur, y.2.fr⟩ : Hs).todo), (3, row D 94 (dC v (some m) (⟨J, s, nx, n, true, y.2.stepped, y.2.off, jl, jx, y.2.i, y.2.todo, y.2.vt, armed, y.2.left, y.2.dur, y.2.fr⟩ : Hs).off (⟨J, s, nx, n, true, y.2.stepped, y.2.off, jl, jx, y.2.i, y.2.todo, y.2.vt, armed, y.2.left, y.2.dur, y.2.fr⟩ : Hs).armed (⟨J, s, nx, n, true, y.2.stepped, y.2.off, jl, jx, y.2.i, y.2.todo, y.2.vt, armed, y.2.left, y.2.dur, y.2.fr⟩ : Hs).left)), (4, mp mkI Prod.fst vS (some m) (⟨J, s, nx, n, true, y.2.stepped, y.2.off, jl, jx, y.2.i, y.2.todo, y.2.vt, armed, y.2.left, y.2.dur, y.2.fr⟩ : Hs).fr), (5, own 9 1 eS (sv v) (⟨J, s, nx, n, true, y.2.stepped, y.2.off, jl, jx, y.2.i, y.2.todo, y.2.vt, armed, y.2.left, y.2.dur, y.2.fr⟩ : Hs).dur)]) (fun y => [(0, snA (⟨J, s, nx, n, true, y.2.stepped, y.2.off, jl, jx, y.2.i, y.2.todo, y.2.vt, armed, y.2.left, y.2.dur, y.2.fr⟩ : Hs).s), (1, snA (⟨J, s, nx, n, true, y.2.stepped, y.2.off, jl, jx, y.2.i, y.2.todo, y.2.vt, armed, y.2.left, y.2.dur, y.2.fr⟩ : Hs).nx), (2, snA (⟨J, s, nx, n, true, y.2.stepped, y.2.off, jl, jx, y.2.i, y.2.todo, y.2.vt, armed, y.2.left, y.2.dur, y.2.fr⟩ : Hs).jl), (3, snA (⟨J, s, nx, n, true, y.2.stepped, y.2.off, jl, jx, y.2.i, y.2.todo, y.2.vt, armed, y.2.left, y.2.dur, y.2.fr⟩ : Hs).jx), (4, actsA (⟨J, s, nx, n, true, y.2.stepped, y.2.off, jl, jx, y.2.i, y.2.todo, y.2.vt, armed, y.2.left, y.2.dur, y.2.fr⟩ : Hs).J (⟨J, s, nx, n, true, y.2.stepped, y.2.off, jl, jx, y.2.i, y.2.todo, y.2.vt, armed, y.2.left, y.2.dur, y.2.fr⟩ : Hs).todo)]) (fun y => (many - y.1).toNat) (0, ⟨J, s, nx, n, true, stepped, off, jl, jx, i, todo, vt, armed, left, dur, fr⟩) ⟨by dsimp only; omega, hx2⟩ rfl rfl rfl (fun y hy0 => ?_)
  obtain ⟨k, z⟩ := y
  obtain ⟨hk0, hz⟩ := hy0
  obtain ⟨zJ, zs, znx, zn, zbusy, zst, zoff, zjl, zjx, zi, ztodo, zvt, zarmed, zleft, zdur, zfr⟩ := z
  dsimp only at hk0 hz ⊢
  obtain ⟨hp, ht, -, -, -, hsi⟩ := hz.on rfl
  dsimp only at hp ht hsi
  obtain ⟨a, rest, rfl⟩ : ∃ a rest, ztodo = a :: rest := by
    cases ztodo with
    | nil => simp at ht
    | cons a rest => exact ⟨a, rest, rfl⟩
  refine r_seq ?_
  refine r_seq ?_
  refine r_region ?_
  refine r_p (p_move rfl) rfl ?_
  refine r_p (p_move rfl) rfl ?_
  refine r_p (p_bin rfl rfl b_lt) rfl ?_
  refine r_nil ?_
  refine r_cond rfl (fun h1 => ?_) (fun h1 => ?_)
  · (try simp only [decide_eq_true_eq, decide_eq_false_iff_not, Bool.and_eq_true, Bool.or_eq_true, Bool.and_eq_false_iff, Bool.or_eq_false_iff, Bool.not_eq_true, Bool.not_eq_false, Bool.not_eq_true', Bool.not_eq_false', Bool.not_not, bne_iff_ne, beq_iff_eq] at h1)
    have hk : (k : Int) < many := by omega
    refine r_skip ?_
    refine r_seq ?_
    refine r_block ?_
    refine r_seq ?_
    refine r_region ?_
    refine r_p (p_move rfl) rfl ?_
    refine r_p (p_nilCheck rfl) rfl ?_
    refine r_p (p_field0 fo77_1 rfl) rfl ?_
    refine r_p (p_load1 t49 rfl rfl (g_row1 (k := 0) rfl rfl)) rfl ?_
    refine r_call (xs := [.tmp 17]) (step_run J D jl n jx zvt v m zoff armed zleft zdur zfr a rest (by omega) hz.geo hz.hold hF hp) cb43 [1, 2, 3, 4, 5] [(false, 4)] [1, 2, 3, 4, 5] [] rfl rfl rfl rfl rfl rfl rfl rfl (fun _ _ => rfl) (fun _ _ _ => rfl) rfl (fun t ht2 => ?_)
    obtain ⟨so, d⟩ := t
    obtain ⟨hst, hso⟩ := ht2
    dsimp only at hst hso ⊢
    obtain ⟨pw, hpw⟩ : ∃ b, pwO zoff armed zleft = b := ⟨_, rfl⟩
    refine r_p (p_move rfl) rfl ?_
    refine r_p (p_extract rfl rfl) rfl ?_
    refine r_p (p_extract rfl rfl) rfl ?_
    refine r_p (p_assign rfl) rfl ?_
    refine r_p (p_assign rfl) rfl ?_
    refine r_nil ?_
    refine r_seq ?_
    refine r_seq ?_
    refine r_region ?_
    refine r_p (p_move rfl) rfl ?_
    refine r_p (p_nilCheck rfl) rfl ?_
    refine r_p (p_field0 fo77_5 rfl) rfl ?_
    refine r_p (p_load1 t4 rfl rfl (g_row1 (k := 0) rfl rfl)) rfl ?_
    refine r_p (p_not rfl) rfl ?_
    refine r_nil ?_
    refine r_cond rfl (fun h2 => ?_) (fun h2 => ?_)
    · exact absurd h2 (by simp)
    · (try simp only [decide_eq_true_eq, decide_eq_false_iff_not, Bool.and_eq_true, Bool.or_eq_true, Bool.and_eq_false_iff, Bool.or_eq_false_iff, Bool.not_eq_true, Bool.not_eq_false, Bool.not_eq_true', Bool.not_eq_false', Bool.not_not, bne_iff_ne, beq_iff_eq] at h2)
      refine r_skip ?_
      refine r_seq ?_
      refine r_seq ?_
      refine r_region ?_
      refine r_p (p_move rfl) rfl ?_
      refine r_p (p_bin rfl rfl b_eq) rfl ?_
      refine r_nil ?_
      refine r_cond rfl (fun h3 => ?_) (fun h3 => ?_)
      · have hpt : pwO zoff armed zleft = true := by
          cases hq : pwO zoff armed zleft with
          | true => rfl
          | false =>
            have hde : d.e = 0 := hst.he.trans (if_neg (by simp [hq]))
            rw [hso, hde, stepO_e0] at h3
            simp at h3
        have hde : d.e = 50 := hst.he.trans (if_pos hpt)
        have hbad := hst.bad hpt
        rw [hde, stepO_err] at hso
        subst hso
        refine r_seq ?_
        refine r_region ?_
        refine r_p (p_move rfl) rfl ?_
        refine r_p (p_nilCheck rfl) rfl ?_
        refine r_p (p_field0 fo77_7 rfl) rfl ?_
        refine r_store_row (k := 0) t4 rfl rfl rfl rfl rfl rfl rfl rfl ?_
        refine r_nil ?_
        refine r_seq ?_
        refine r_region ?_
        refine r_p (p_move rfl) rfl ?_
        refine r_p (p_not rfl) rfl ?_
        refine r_p (p_move rfl) rfl ?_
        refine r_split (t := 39) rfl (fun h4 => ?_) (fun h4 => False.elim (by simp at h4))
        refine r_gyes rfl rfl ?_
        refine r_p (p_move rfl) rfl ?_
        refine r_gyes rfl rfl ?_
        refine r_p (p_nilCheck rfl) rfl ?_
        refine r_gyes rfl rfl ?_
        refine r_p (p_field0 fo77_1 rfl) rfl ?_
        refine r_gyes rfl rfl ?_
        refine r_p (p_load1 t49 rfl rfl (g_row1 (k := 0) rfl rfl)) rfl ?_
        refine r_gyes rfl rfl ?_
        refine r_call (xs := [.tmp 43]) (busy_spec J D jl n jx zvt (a :: rest)) cb36 [] [(true, 1), (true, 2)] [] [] rfl rfl rfl rfl rfl rfl rfl rfl (fun _ _ => rfl) (fun _ _ _ => rfl) rfl (fun _ _ => ?_)
        refine r_p (p_pick rfl rfl rfl (by first | exact pick_and | exact pick_or |  rfl)) rfl ?_
        refine r_p (p_assign rfl) rfl ?_
        refine r_nil ?_
        refine r_cret ?_
        refine r_ret (⟨J, s, nx, n, true, zst, true, jl, jx, zi, a :: rest, zvt, armed, d.left, zdur, zfr⟩ : Hs) ⟨hz.geo, hz.hold, ⟨by dsimp only; omega, by dsimp only; omega⟩, hjl, hsm, fun h => by simp at h, fun _ => ⟨hp, by simp, hF, hjx, hnxm, hsi⟩⟩ rfl (rs1 (rv_tmp rfl)) (by first | rfl | simp) [0, 1, 2, 3, 4, 5] [0, 1, 2, 3, 4] rfl (by rw [show d.dur = zdur from hbad.1, show d.fr = zfr from hbad.2, show d.off = true from hst.ho.trans hpt]; rfl) rfl
      · have hpf : pwO zoff armed zleft = false := by
          cases hq : pwO zoff armed zleft with
          | false => rfl
          | true =>
            have hde : d.e = 50 := hst.he.trans (if_pos hq)
            rw [hso, hde, stepO_err] at h3
            simp at h3
        have hde : d.e = 0 := hst.he.trans (if_neg (by simp [hpf]))
        have hgd := hst.good hpf
        rw [hde] at hso
        have hzo := pw_off hpf
        subst hzo
        refine r_skip ?_
        refine r_seq ?_
        refine r_seq ?_
        refine r_region ?_
        refine r_p (p_move rfl) rfl ?_
        refine r_p (p_bin rfl rfl b_ne) rfl ?_
        refine r_nil ?_
        refine r_cond rfl (fun h5 => ?_) (fun h5 => ?_)
        · (exact absurd h5 (by rw [hso, stepO_e0]; simp))
        · (try simp only [decide_eq_true_eq, decide_eq_false_iff_not, Bool.and_eq_true, Bool.or_eq_true, Bool.and_eq_false_iff, Bool.or_eq_false_iff, Bool.not_eq_true, Bool.not_eq_false, Bool.not_eq_true', Bool.not_eq_false', Bool.not_not, bne_iff_ne, beq_iff_eq] at h5)
          refine r_skip ?_
          refine r_seq ?_
          refine r_region ?_
          refine r_p (p_move rfl) rfl ?_
          refine r_p (p_nilCheck rfl) rfl ?_
          refine r_p (p_field0 fo77_6 rfl) rfl ?_
          refine r_store_row (k := 0) t4 rfl rfl rfl rfl rfl rfl rfl rfl ?_
          refine r_nil ?_
          refine r_seq ?_
          refine r_seq ?_
          refine r_region ?_
          refine r_p (p_move rfl) rfl ?_
          refine r_nil ?_
          refine r_cond rfl (fun h6 => ?_) (fun h6 => ?_)
          · have hr : rest = [] := by
              rw [hso, stepO_done] at h6
              have : ¬ 0 < rest.length := by simpa using h6
              exact List.eq_nil_of_length_eq_zero (by omega)
            subst hr
            rw [stepO_last] at hso
            subst hso
            have hgl := hgd.2.resolve_left (fun h => h.1 rfl)
            refine r_seq ?_
            refine r_region ?_
            refine r_p (p_move rfl) rfl ?_
            refine r_p (p_move rfl) rfl ?_
            refine r_p (p_nilCheck rfl) rfl ?_
            refine r_p (p_field0 fo77_3 rfl) rfl ?_
            refine r_p (p_loadA t59 rfl rfl rfl (g_row (us := (snC nx)) (k := 0) rfl rfl)) rfl ?_
            refine r_p (p_nilCheck rfl) rfl ?_
            refine r_p (p_field0 fo77_2 rfl) rfl ?_
            refine r_store_row (k := 0) t59 rfl rfl rfl rfl rfl rfl rfl rfl ?_
            refine r_nil ?_
            refine r_seq ?_
            refine r_region ?_
            refine r_p (p_move rfl) rfl ?_
            refine r_p (p_move rfl) rfl ?_
            refine r_p (p_nilCheck rfl) rfl ?_
            refine r_p (p_field0 fo77_4 rfl) rfl ?_
            refine r_p (p_load1 t3 rfl rfl (g_row1 (k := 0) rfl rfl)) rfl ?_
            refine r_p (p_bin rfl rfl (b_add (by first | exact w_i64 (by omega) (by omega) | rfl))) rfl ?_
            refine r_p (p_nilCheck rfl) rfl ?_
            refine r_p (p_field0 fo77_4 rfl) rfl ?_
            refine r_store_row (k := 0) t3 rfl rfl rfl rfl rfl rfl rfl rfl ?_
            refine r_nil ?_
            refine r_seq ?_
            refine r_region ?_
            refine r_p (p_move rfl) rfl ?_
            refine r_p (p_nilCheck rfl) rfl ?_
            refine r_p (p_field0 fo77_5 rfl) rfl ?_
            refine r_store_row (k := 0) t4 rfl rfl rfl rfl rfl rfl rfl rfl ?_
            refine r_nil ?_
            refine r_seq ?_
            refine r_draw [70, 71, 72, 73, 74, 75, 76, 77, 78, 79, 80, 81, 82, 83, 84, 85, 86, 87, 88, 89, 90, 4] _ rfl (stg_mem (V := [(0, 70, _), (1, 71, _), (2, 72, _), (3, 73, _)]) [0, 1, 2, 3] 4 [4, 3, 2, 1, 0] [5, 6, 7, 8, 9, 10, 11, 12, 13, 14, 15, 16, 17, 18] (fun _ => [(5, 75, _), (6, 76, _), (7, 77, _), (8, 78, _), (9, 79, _), (10, 80, _), (11, 81, _), (12, 82, _), (13, 83, _), (14, 84, _), (15, 85, _), (16, 86, _), (17, 87, _), (18, 88, _)]) rfl rfl (prs_cons (pri rfl (p_move rfl)) (prs_cons (pri rfl (p_nilCheck rfl)) (prs_cons (pri rfl (p_field0 fo77_1 rfl)) (prs_cons (pri rfl (p_load1 t49 rfl rfl (g_row1 (k := 0) rfl rfl))) prs_nil)))) rfl rfl rfl rfl rfl rfl rfl rfl rfl rfl rfl (fun _ _ => rfl) rfl (ms_call (xs := [.tmp 73]) (busy_spec J D jx (n + 1) jx (loS zvt 1 1) []) cb36 [] [(true, 1), (true, 2)] [] [] rfl rfl rfl rfl rfl rfl rfl rfl (fun _ _ => rfl) (fun _ _ _ => rfl)) (fun _ _ => stg_memg [5, 6, 7, 8, 9, 10, 11, 12, 13, 14, 15, 16, 17, 18] 19 [19, 18, 17, 16, 15, 14, 13, 12, 11, 10, 9, 8, 7, 6, 5, 4, 3, 2, 1, 0] [20, 21] (fun _ => [(20, 90, _), (21, 4, _)]) rfl rfl (prs_cons (pri rfl (p_not rfl)) (prs_cons (pri rfl (p_move rfl)) (prs_cons (prig_y rfl rfl rfl (by simp) (p_move rfl)) (prs_cons (prig_y rfl rfl rfl (by simp) (p_nilCheck rfl)) (prs_cons (prig_y rfl rfl rfl (by simp) (p_field0 fo77_1 rfl)) (prs_cons (prig_y rfl rfl rfl (by simp) (p_load1 t49 rfl rfl (g_row1 (k := 0) rfl rfl))) (prs_cons (prig_y rfl rfl rfl (by simp) (p_move rfl)) (prs_cons (prig_y rfl rfl rfl (by simp) (p_nilCheck rfl)) (prs_cons (prig_y rfl rfl rfl (by simp) (p_field0 fo77_2 rfl)) (prs_cons (prig_y rfl rfl rfl (by simp) (p_loadA t59 rfl rfl rfl (g_row (us := (snC nx)) (k := 0) rfl rfl))) (prs_cons (prig_y rfl rfl rfl (by simp) (p_move rfl)) (prs_cons (prig_y rfl rfl rfl (by simp) (p_nilCheck rfl)) (prs_cons (prig_y rfl rfl rfl (by simp) (p_field0 fo77_4 rfl)) (prs_cons (prig_y rfl rfl rfl (by simp) (p_load1 t3 rfl rfl (g_row1 (k := 0) rfl rfl))) prs_nil)))))))))))))) rfl rfl rfl rfl rfl (by simp) rfl rfl rfl rfl rfl rfl (fun _ _ => rfl) rfl (ms_call (xs := [.tmp 80, .tmp 84, .tmp 88]) (last_is true J D jx (n + 1) jx (loS zvt 1 1) nx (n + 1) (hnxm.congr hjx) hnxm (last_same (by omega) hjx)) cb38 [] [(true, 1), (false, 3), (false, 1)] [] [] rfl rfl rfl rfl rfl rfl rfl rfl (fun _ _ => rfl) (fun _ _ _ => rfl)) (fun _ _ => stg_end [20, 21] rfl rfl (prs_cons (pri rfl (p_pick rfl rfl rfl (pick_t (by simp)))) (prs_cons (pri rfl (p_assign rfl)) prs_nil)) rfl rfl rfl ?_)))
            refine r_cret ?_
            refine r_more 4 4 rfl (actsA_sub (l' := []) fun c hc => by simp at hc) ?_
            refine r_ret (⟨J, nx, nx, n + 1, false, true, false, jx, jx, 0, [], loS zvt 1 1, armed, d.left, d.dur, []⟩ : Hs) ⟨hgd.1, hgl.2.2, ⟨by dsimp only; omega, by dsimp only; omega⟩, hjx, hnxm, fun _ => ⟨rfl, rfl, rfl⟩, fun h => by simp at h⟩ rfl (rs1 (rv_tmp rfl)) (by first | rfl | simp) [0, 1, 2, 3, 4, 5] [1, 1, 3, 3, 4] rfl (by rw [show d.off = false from hst.ho.trans hpf, hgl.2.1]; rfl) rfl
          · have hr : 0 < rest.length := by
              rw [hso, stepO_done] at h6
              simpa using h6
            rw [stepO_more hr] at hso
            subst hso
            have hgm := hgd.2.resolve_right (fun h => by have := h.1; rw [List.map_eq_nil_iff] at this; rw [this] at hr; simp at hr)
            refine r_skip ?_
            refine r_seq ?_
            refine r_region ?_
            refine r_p (p_move rfl) rfl ?_
            refine r_p (p_nilCheck rfl) rfl ?_
            refine r_p (p_field0 fo77_1 rfl) rfl ?_
            refine r_p (p_load1 t49 rfl rfl (g_row1 (k := 0) rfl rfl)) rfl ?_
            refine r_call (xs := [.tmp 94]) (busy_spec J D jl n jx (loS zvt 1 1) rest) cb36 [] [(true, 1), (true, 2)] [] [] rfl rfl rfl rfl rfl rfl rfl rfl (fun _ _ => rfl) (fun _ _ _ => rfl) rfl (fun _ _ => ?_)
            refine r_p (p_not rfl) rfl ?_
            refine r_nil ?_
            refine r_cond rfl (fun h7 => ?_) (fun h7 => ?_)
            · (simp [hr] at h7)
            · (try simp only [decide_eq_true_eq, decide_eq_false_iff_not, Bool.and_eq_true, Bool.or_eq_true, Bool.and_eq_false_iff, Bool.or_eq_false_iff, Bool.not_eq_true, Bool.not_eq_false, Bool.not_eq_true', Bool.not_eq_false', Bool.not_not, bne_iff_ne, beq_iff_eq] at h7)
              refine r_skip ?_
              refine r_region ?_
              refine r_p (p_move rfl) rfl ?_
              refine r_p (p_bin rfl rfl (b_add (by first | exact w_i64 (by omega) (by omega) | rfl))) rfl ?_
              refine r_p (p_assign rfl) rfl ?_
              refine r_nil ?_
              refine r_more 4 4 rfl (actsA_sub (l' := rest) fun c hc => List.mem_cons_of_mem _ hc) ?_
              refine r_here (k + 1, ⟨J, s, nx, n, true, true, false, jl, jx, zi + 1, rest, loS zvt 1 1, armed, d.left, d.dur, d.fr⟩) ⟨⟨by dsimp only; omega, ⟨hgd.1, hgm.2.1, hn0, hjl, hsm, fun h => by simp at h, fun _ => ⟨hgm.2.2, hr, hF, hjx, hnxm, fun h => by simp at h⟩⟩⟩, by dsimp only; omega⟩ rfl (by rw [show d.off = false from hst.ho.trans hpf]; rfl) rfl
  · (try simp only [decide_eq_true_eq, decide_eq_false_iff_not, Bool.and_eq_true, Bool.or_eq_true, Bool.and_eq_false_iff, Bool.or_eq_false_iff, Bool.not_eq_true, Bool.not_eq_false, Bool.not_eq_true', Bool.not_eq_false', Bool.not_not, bne_iff_ne, beq_iff_eq] at h1)
    refine r_exit ?_
    refine r_seq ?_
    refine r_region ?_
    refine r_p (p_assign rfl) rfl ?_
    refine r_nil ?_
    refine r_cret ?_
    refine r_ret (⟨J, s, nx, n, true, zst, zoff, jl, jx, zi, a :: rest, zvt, armed, zleft, zdur, zfr⟩ : Hs) (hz.mono (Nat.le_succ c)) rfl (rs1 (rv_tmp rfl)) rfl [0, 1, 2, 3, 4, 5] [0, 1, 2, 3, 4] rfl rfl rfl

end Go.Proofs.Ytohenjmkhncoiaa
