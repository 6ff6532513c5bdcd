/-
  CachePages walks. No condition.
-/
import Derived.Test.YtbkonlkffajhkaaN3
namespace Go.Proofs.Ytbkonlkffajhkaa
set_option linter.unusedSimpArgs false
set_option linter.unusedVariables false
open Go.RowKit

theorem on_eq {pg : Int} {L : List En} {ys : List Int} (h : ys.Perm ((L.filter fun x => decide (pg ∈ x.pg)).map En.pc) ∧ Srt 0 (fun x y : Int => x ≤ y) ys 0 ys.length) : ys = onL pg L :=
  List.Perm.eq_of_pairwise (le := fun x y : Int => x ≤ y) (fun a b _ _ h1 h2 => Int.le_antisymm h1 h2) (srt_pair h.2) (onL_ok pg L).2 (h.1.trans (onL_ok pg L).1.symm)

set_option maxHeartbeats 1000000 in
set_option maxRecDepth 100000 in
theorem pages_law (sz : Int) (vs : SV) (l : List Q4) :
    Spec Try.prog 13 [.int .i64 sz, sv vs] [] [sl 4 eQ (sv vs) l] (X := Unit) (fun _ => True) (fun _ => .bool true) (fun _ => []) (fun _ => []) := by
  refine r_enter Try.func13 rfl Try.ntmps13 rfl fun w0 M H => ?_
  refine r_seq ?_
  refine r_region ?_
  refine r_p (p_assign rfl) rfl ?_
  refine r_nil ?_
  refine r_seq ?_
  refine r_region ?_
  refine r_call (xs := []) sanity_spec cb15 [] [] [] [] rfl rfl rfl rfl rfl rfl rfl rfl (fun _ _ => rfl) (fun _ _ _ => rfl) rfl (fun _ _ => ?_)
  refine r_p (p_assign rfl) rfl ?_
  refine r_nil ?_
  refine r_seq ?_
  refine r_region ?_
  refine r_p (p_move rfl) rfl ?_
  refine r_p (p_move rfl) rfl ?_
  refine r_call (xs := [.tmp 12, .tmp 13]) (played_spec sz vs l) cb16 [] [(false, 0)] [500, 501, 502, 503, 504, 505] [1] rfl rfl rfl rfl rfl rfl rfl rfl (fun _ _ => rfl) (fun _ _ _ => rfl) rfl (fun ⟨C, r, ⟨cur, L, K, ob, ol, vL, vC, S⟩⟩ hpl => ?_)
  obtain ⟨hi, hS⟩ := hpl
  dsimp only at hi hS ⊢
  have hlen := hi.hlen ps12_len
  have hlenK := hi.hlenK ps12_len
  have h60 := m60 sz
  have hsz := hi.sz
  have hcu := hi.cu
  have hse := size60 sz
  refine r_p (p_move rfl) rfl ?_
  refine r_p (p_extract rfl rfl) rfl ?_
  refine r_p (p_extract rfl rfl) rfl ?_
  refine r_p (p_assign rfl) rfl ?_
  refine r_p (p_assign rfl) rfl ?_
  refine r_nil ?_
  refine r_seq ?_
  refine r_seq ?_
  refine r_region ?_
  refine r_p (p_move rfl) rfl ?_
  refine r_p (p_bin rfl rfl (b_eqPn Try.underlying25)) rfl ?_
  refine r_nil ?_
  refine r_cond rfl (fun h1 => ?_) (fun h1 => ?_)
  · exact absurd h1 (by simp)
  · (try simp only [decide_eq_true_eq, decide_eq_false_iff_not, Bool.and_eq_true, Bool.or_eq_true, Bool.and_eq_false_iff, Bool.or_eq_false_iff, Bool.not_eq_true, Bool.not_eq_false, Bool.not_eq_true', Bool.not_eq_false', Bool.not_not, bne_iff_ne, beq_iff_eq] at h1)
    refine r_skip ?_
    refine r_seq ?_
    refine r_seq ?_
    refine r_region ?_
    refine r_p (p_assign rfl) rfl ?_
    refine r_nil ?_
    refine r_block ?_
    refine r_loop (X := Nat) (fun k => k ≤ 6) (fun k => [(5, .bool true), (6, .pointer (some ⟨C, 0, none⟩)), (7, .pointer (some ⟨r, 0, none⟩)), (8, .int .i64 ((k : Int) - 1))]) (fun k => [(500, row C 84 (cC 4096 (sizeN 4096 (sz % 60)) cur ob ol)), (501, mpB ob L), (502, mpL ol K), (503, row r 34 (cR 4096 (sizeN 4096 (sz % 60)) cur vL vC)), (504, own 36 5 eR (sv vL) L), (505, own 100 3 eL (sv vC) K)]) (fun k => [(0, sl 4 eQ (sv vs) l), (1, pgP S)]) (fun k => 6 - k) 0 (Nat.zero_le _) rfl rfl rfl (fun k hk0 => ?_)
    refine r_seq ?_
    refine r_seq ?_
    refine r_region ?_
    refine r_p (p_move rfl) rfl ?_
    refine r_p (p_bin rfl rfl b_lt) rfl ?_
    refine r_nil ?_
    refine r_cond rfl (fun h2 => ?_) (fun h2 => ?_)
    · (try simp only [decide_eq_true_eq, decide_eq_false_iff_not, Bool.and_eq_true, Bool.or_eq_true, Bool.and_eq_false_iff, Bool.or_eq_false_iff, Bool.not_eq_true, Bool.not_eq_false, Bool.not_eq_true', Bool.not_eq_false', Bool.not_not, bne_iff_ne, beq_iff_eq] at h2)
      have hk : k < 6 := by omega
      refine r_skip ?_
      refine r_seq ?_
      refine r_block ?_
      refine r_seq ?_
      refine r_region ?_
      refine r_p (p_move rfl) rfl ?_
      refine r_p (p_move rfl) rfl ?_
      refine r_call (xs := [.tmp 23, .tmp 24]) (on_spec C 4096 (sizeN 4096 (sz % 60)) cur ob ol L S ((k : Int) - 1) hi.hL hlen (hi.same hS)) cb38 [] [(true, 500), (true, 501), (false, 1)] [25] [] rfl rfl rfl rfl rfl rfl rfl rfl (fun _ _ => rfl) (fun _ _ _ => rfl) rfl (fun ⟨v25, ys⟩ hys => ?_)
      dsimp only at hys ⊢
      have heq := on_eq hys
      subst heq
      have hol := onL_len ((k : Int) - 1) L
      refine r_p (p_move rfl) rfl ?_
      refine r_p (p_move rfl) rfl ?_
      refine r_call (xs := [.tmp 26, .tmp 27]) (ron_spec r 4096 (sizeN 4096 (sz % 60)) cur vL vC L S ((k : Int) - 1) hlen (hi.same hS)) cb39 [] [(true, 503), (true, 504), (false, 1)] [28] [] rfl rfl rfl rfl rfl rfl rfl rfl (fun _ _ => rfl) (fun _ _ _ => rfl) rfl (fun v28 _ => ?_)
      refine r_call (xs := [.tmp 25, .tmp 28]) (pcs_spec v25 v28 _ (by omega)) cb37 [] [(true, 25), (true, 28)] [] [] rfl rfl rfl rfl rfl rfl rfl rfl (fun _ _ => rfl) (fun _ _ _ => rfl) rfl (fun _ _ => ?_)
      refine r_p (p_assign rfl) rfl ?_
      refine r_nil ?_
      refine r_seq ?_
      refine r_region ?_
      refine r_p (p_move rfl) rfl ?_
      refine r_p (p_not rfl) rfl ?_
      refine r_nil ?_
      refine r_cond rfl (fun h3 => ?_) (fun h3 => ?_)
      · exact absurd h3 (by simp)
      · (try simp only [decide_eq_true_eq, decide_eq_false_iff_not, Bool.and_eq_true, Bool.or_eq_true, Bool.and_eq_false_iff, Bool.or_eq_false_iff, Bool.not_eq_true, Bool.not_eq_false, Bool.not_eq_true', Bool.not_eq_false', Bool.not_not, bne_iff_ne, beq_iff_eq] at h3)
        refine r_skip ?_
        refine r_region ?_
        refine r_p (p_move rfl) rfl ?_
        refine r_p (p_bin rfl rfl (b_add (by first | exact w_i64 (by omega) (by omega) | rfl))) rfl ?_
        refine r_p (p_assign rfl) rfl ?_
        refine r_nil ?_
        refine r_here (k + 1) ⟨by omega, by omega⟩ (by rw [show (((k + 1 : Nat) : Int) - 1) = (k : Int) - 1 + 1 by omega]; rfl) rfl rfl
    · (try simp only [decide_eq_true_eq, decide_eq_false_iff_not, Bool.and_eq_true, Bool.or_eq_true, Bool.and_eq_false_iff, Bool.or_eq_false_iff, Bool.not_eq_true, Bool.not_eq_false, Bool.not_eq_true', Bool.not_eq_false', Bool.not_not, bne_iff_ne, beq_iff_eq] at h2)
      refine r_exit ?_
      refine r_seq ?_
      refine r_region ?_
      refine r_p (p_move rfl) rfl ?_
      refine r_p (p_assign rfl) rfl ?_
      refine r_nil ?_
      refine r_cret ?_
      refine r_ret () trivial rfl (rs1 (rv_tmp rfl)) (congrArg Value.bool (by simp)) [] [] rfl rfl rfl

end Go.Proofs.Ytbkonlkffajhkaa
