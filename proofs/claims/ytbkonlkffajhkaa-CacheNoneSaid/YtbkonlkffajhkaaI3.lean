/-
  Playing calls on both caches. No condition.
-/
import Derived.Test.YtbkonlkffajhkaaI2
namespace Go.Proofs.Ytbkonlkffajhkaa
set_option linter.unusedSimpArgs false
set_option linter.unusedVariables false
open Go.RowKit

structure Q4 where
  a : Int
  b : Int
  c : Int
  d : Int
def eQ (q : Q4) : List Value := [.int .i64 q.a, .int .i64 q.b, .int .i64 q.c, .int .i64 q.d]
def f4 (q : Q4) : Nat → Int
  | 0 => q.a
  | 1 => q.b
  | 2 => q.c
  | _ => q.d
def q0 : Q4 := ⟨0, 0, 0, 0⟩
theorem r_pgnil {N : Nat} {w0 : World} {M H : Nat → Prop} {E : Env} {Γ R : Ctx} (r : Nat) {Rel : Act → World → Prop} (h : At N w0 M H E Γ ((r, pgP []) :: R) Rel) : At N w0 M H E Γ R Rel :=
  h.weak (fun _ h => h) fun w hC => by
    obtain ⟨F, hF⟩ := hC
    refine ⟨F, hF.touch, hF.has, hF.lt, hF.mine, hF.apart, fun j B hj => ?_⟩
    simp only [cget] at hj
    cases hb : Nat.beq r j with
    | true =>
      rw [hb] at hj
      simp at hj
      subst hj
      exact ⟨fun _ => False, pgA_nil w _, fun b hb => hb.elim⟩
    | false => rw [hb] at hj; exact hF.ro j B hj
theorem CInv.new {PS : List Int} {base size : Int} (hb : 0 ≤ base ∧ base < 4294967296) : CInv PS base (sizeN base size) 0 [] [] := by
  unfold sizeN
  exact ⟨by omega, by omega, List.Pairwise.nil, by simp, by simp, by simp, by simp, List.Pairwise.nil⟩
/-- What playing gives: the two caches, their size and their state. -/
structure Pl where
  C : Nat
  r : Nat
  s : St
theorem size60 (n : Int) : sizeN 4096 (n % 60) = n % 60 := by unfold sizeN; omega
theorem m60 (n : Int) : 0 ≤ n % 60 ∧ n % 60 < 60 := by omega

set_option maxHeartbeats 1000000 in
set_option maxRecDepth 100000 in
theorem played_spec (sz : Int) (vs : SV) (l : List Q4) :
    Spec Try.prog 16 [.int .i64 sz, sv vs] [] [sl 4 eQ (sv vs) l] (X := Pl) (fun x => CInv PS12 4096 (sizeN 4096 (sz % 60)) x.s.cur x.s.L x.s.K ∧ ∀ e ∈ x.s.L, e ∈ x.s.S) (fun x => .tuple #[.pointer (some ⟨x.C, 0, none⟩), .pointer (some ⟨x.r, 0, none⟩)]) (fun x => [row x.C 84 (cC 4096 (sizeN 4096 (sz % 60)) x.s.cur x.s.ob x.s.ol), mpB x.s.ob x.s.L, mpL x.s.ol x.s.K, row x.r 34 (cR 4096 (sizeN 4096 (sz % 60)) x.s.cur x.s.vL x.s.vC), own 36 5 eR (sv x.s.vL) x.s.L, own 100 3 eL (sv x.s.vC) x.s.K]) (fun x => [pgP x.s.S]) := by
  refine r_enter Try.func16 rfl Try.ntmps16 rfl fun w0 M H => ?_
  have h60 := m60 sz
  refine r_pgnil 1 ?_
  refine r_seq ?_
  refine r_region ?_
  refine r_p (p_assign rfl) rfl ?_
  refine r_p (p_assign rfl) rfl ?_
  refine r_nil ?_
  refine r_seq ?_
  refine r_region ?_
  refine r_p (p_move rfl) rfl ?_
  refine r_call (xs := [.tmp 11, .const (.int .i64 60)]) (mod_spec sz 60 (by omega) (by omega)) cb17 [] [] [] [] rfl rfl rfl rfl rfl rfl rfl rfl (fun _ _ => rfl) (fun _ _ _ => rfl) rfl (fun _ _ => ?_)
  refine r_p (p_assign rfl) rfl ?_
  refine r_nil ?_
  refine r_seq ?_
  refine r_region ?_
  refine r_p (p_move rfl) rfl ?_
  refine r_call (xs := [.const (.int .u32 4096), .tmp 13]) (new_spec 4096 (sz % 60) (by omega)) cb22 [] [] [500, 501, 502] [] rfl rfl rfl rfl rfl rfl rfl rfl (fun _ _ => rfl) (fun _ _ _ => rfl) rfl (fun C _ => ?_)
  refine r_p (p_assign rfl) rfl ?_
  refine r_nil ?_
  refine r_seq ?_
  refine r_region ?_
  refine r_p (p_move rfl) rfl ?_
  refine r_call (xs := [.const (.int .u32 4096), .tmp 15]) (rnew_spec 4096 (sz % 60) (by omega)) cb32 [] [] [503, 504, 505] [] rfl rfl rfl rfl rfl rfl rfl rfl (fun _ _ => rfl) (fun _ _ _ => rfl) rfl (fun r _ => ?_)
  refine r_p (p_assign rfl) rfl ?_
  refine r_nil ?_
  refine r_seq ?_
  refine r_seq ?_
  refine r_region ?_
  refine r_p (p_move rfl) rfl ?_
  refine r_p (p_bin rfl rfl (b_eqPn Try.underlying25)) rfl ?_
  refine r_nil ?_
  refine r_cond rfl (fun h1 => ?_) (fun h1 => ?_)
  · exact absurd h1 (by simp)
  · (try simp only [decide_eq_true_eq, decide_eq_false_iff_not, Bool.and_eq_true, Bool.or_eq_true, Bool.and_eq_false_iff, Bool.or_eq_false_iff, Bool.not_eq_true, Bool.not_eq_false, Bool.not_eq_true', Bool.not_eq_false', Bool.not_not, bne_iff_ne, beq_iff_eq] at h1)
    refine r_skip ?_
    refine r_seq ?_
    refine r_seq ?_
    refine r_region ?_
    refine r_p (p_assign rfl) rfl ?_
    refine r_nil ?_
    refine r_block ?_
    refine r_loop (X := Nat × St) (fun x => x.1 ≤ 80 ∧ CInv PS12 4096 (sizeN 4096 (sz % 60)) x.2.cur x.2.L x.2.K ∧ ∀ e ∈ x.2.L, e ∈ x.2.S) (fun x => [(1, sv vs), (7, .pointer (some ⟨C, 0, none⟩)), (8, .pointer (some ⟨r, 0, none⟩)), (9, .int .i64 (x.1 : Int))]) (fun x => [(500, row C 84 (cC 4096 (sizeN 4096 (sz % 60)) x.2.cur x.2.ob x.2.ol)), (501, mpB x.2.ob x.2.L), (502, mpL x.2.ol x.2.K), (503, row r 34 (cR 4096 (sizeN 4096 (sz % 60)) x.2.cur x.2.vL x.2.vC)), (504, own 36 5 eR (sv x.2.vL) x.2.L), (505, own 100 3 eL (sv x.2.vC) x.2.K)]) (fun x => [(0, sl 4 eQ (sv vs) l), (1, pgP x.2.S)]) (fun x => 80 - x.1) (0, ⟨0, [], [], none, none, nilS, nilS, []⟩) ⟨Nat.zero_le _, CInv.new (by omega), by simp⟩ rfl rfl rfl (fun ⟨k, s⟩ hx0 => ?_)
    obtain ⟨hk0, hi, hs⟩ := hx0
    dsimp only at hk0 hi hs ⊢
    refine r_seq ?_
    refine r_seq ?_
    refine r_region ?_
    refine r_p (p_move rfl) rfl ?_
    refine r_p (p_move rfl) rfl ?_
    refine r_p (p_len_sl Try.underlying22 rfl (hs_sl (k := 0) rfl)) rfl ?_
    refine r_p (p_bin rfl rfl b_lt) rfl ?_
    refine r_p (p_move rfl) rfl ?_
    refine r_gp [] rfl rfl trivial (fun hg2 => p_move rfl) rfl ?_
    refine r_gp [(25, _)] rfl rfl ⟨rfl, trivial⟩ (fun hg3 => p_bin rfl rfl b_lt) rfl ?_
    refine r_p (p_pick rfl rfl rfl (by first | exact pick_and | exact pick_or |  rfl)) rfl ?_
    refine r_nil ?_
    refine r_cond rfl (fun h4 => ?_) (fun h4 => ?_)
    · (try simp only [decide_eq_true_eq, decide_eq_false_iff_not, Bool.and_eq_true, Bool.or_eq_true, Bool.and_eq_false_iff, Bool.or_eq_false_iff, Bool.not_eq_true, Bool.not_eq_false, Bool.not_eq_true', Bool.not_eq_false', Bool.not_not, bne_iff_ne, beq_iff_eq] at h4)
      have hk : k < l.length := by omega
      refine r_skip ?_
      refine r_seq ?_
      refine r_block ?_
      refine r_seq ?_
      refine r_region ?_
      refine r_p (p_move rfl) rfl ?_
      refine r_p (p_move rfl) rfl ?_
      refine r_p (p_move rfl) rfl ?_
      refine r_p (p_move rfl) rfl ?_
      refine r_p (p_idx_sl (j := k) Try.underlying22 t38 rfl rfl (hs_sl (k := 0) rfl) (by first | rfl | omega) (by first | omega | (simp; done) | (simp; omega))) rfl ?_
      refine r_p (p_loadA t38 rfl rfl rfl (g_el' (hs_sl (k := 0) rfl) (by intro _; rfl) (getD_get q0 (by omega)) (by rfl))) rfl ?_
      refine r_call (xs := [.tmp 30, .tmp 31, .tmp 35, .const (.int .i64 12)]) (does_spec C r 4096 (sizeN 4096 (sz % 60)) s.cur s.L s.S s.K s.ob s.ol s.vL s.vC (f4 (l.getD k q0)) 12 (by omega) hi hs) cb41 [500, 501, 502, 503, 504, 505] [(false, 1)] [500, 501, 502, 503, 504, 505] [1] rfl rfl rfl rfl rfl rfl rfl rfl (fun _ _ => rfl) (fun _ _ _ => rfl) rfl (fun x hx => ?_)
      obtain ⟨hxi, hxs, hxm⟩ := hx
      refine r_p (p_assign rfl) rfl ?_
      refine r_nil ?_
      refine r_seq ?_
      refine r_region ?_
      refine r_p (p_move rfl) rfl ?_
      refine r_p (p_not rfl) rfl ?_
      refine r_nil ?_
      refine r_cond rfl (fun h5 => ?_) (fun h5 => ?_)
      · exact absurd h5 (by simp)
      · (try simp only [decide_eq_true_eq, decide_eq_false_iff_not, Bool.and_eq_true, Bool.or_eq_true, Bool.and_eq_false_iff, Bool.or_eq_false_iff, Bool.not_eq_true, Bool.not_eq_false, Bool.not_eq_true', Bool.not_eq_false', Bool.not_not, bne_iff_ne, beq_iff_eq] at h5)
        refine r_skip ?_
        refine r_region ?_
        refine r_p (p_move rfl) rfl ?_
        refine r_p (p_bin rfl rfl (b_add (by first | exact w_i64 (by omega) (by omega) | rfl))) rfl ?_
        refine r_p (p_assign rfl) rfl ?_
        refine r_nil ?_
        refine r_here (k + 1, x) ⟨⟨by dsimp only; omega, hxi, hxs⟩, by dsimp only; omega⟩ rfl rfl rfl
    · (try simp only [decide_eq_true_eq, decide_eq_false_iff_not, Bool.and_eq_true, Bool.or_eq_true, Bool.and_eq_false_iff, Bool.or_eq_false_iff, Bool.not_eq_true, Bool.not_eq_false, Bool.not_eq_true', Bool.not_eq_false', Bool.not_not, bne_iff_ne, beq_iff_eq] at h4)
      refine r_exit ?_
      refine r_seq ?_
      refine r_region ?_
      refine r_p (p_move rfl) rfl ?_
      refine r_p (p_move rfl) rfl ?_
      refine r_p (p_assign rfl) rfl ?_
      refine r_p (p_assign rfl) rfl ?_
      refine r_nil ?_
      refine r_cret ?_
      refine r_ret ⟨C, r, s⟩ ⟨hi, hs⟩ rfl (rs2 (rv_tmp rfl) (rv_tmp rfl)) rfl [500, 501, 502, 503, 504, 505] [1] rfl rfl rfl

end Go.Proofs.Ytbkonlkffajhkaa
