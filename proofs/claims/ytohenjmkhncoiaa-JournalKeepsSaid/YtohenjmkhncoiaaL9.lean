/-
  The walk of JournalKeeps. Condition: the numbers are of 64 bits.
-/
import Derived.Test.YtohenjmkhncoiaaP3
import Derived.Test.YtohenjmkhncoiaaOG
namespace Go.Proofs.Ytohenjmkhncoiaa
set_option linter.unusedSimpArgs false
set_option linter.unusedVariables false
open Go.RowKit

structure Kst where
  k : Nat
  J : Nat
  lst : Sp
  nxt : Sp
  vt : SV
  left : Int
  dur : List ByteArray
  s : Sn
set_option maxHeartbeats 4000000 in
set_option maxRecDepth 100000 in
theorem keeps_law (vl : SV) (ls : List Ql) (hls : ∀ q ∈ ls, ∀ n ∈ q.l, okI n) (crash : Bool) :
    Spec Try.prog 9 [sv vl, .bool crash] [] [sl 1 eQl (sv vl) ls, qlsA ls] (X := Unit) (fun _ => True) (fun _ => .bool true) (fun _ => []) (fun _ => []) := by
  refine r_enter Try.func9 rfl Try.ntmps9 rfl fun w0 M H => ?_
  refine r_seq ?_
  refine r_region ?_
  refine r_p (p_assign rfl) rfl ?_
  refine r_nil ?_
  refine r_seq ?_
  refine r_region ?_
  refine r_call (xs := []) sanity_spec cb15 [] [] [] [] rfl rfl rfl rfl rfl rfl rfl rfl (fun _ _ => rfl) (fun _ _ _ => rfl) rfl (fun _ _ => ?_)
  refine r_p (p_assign rfl) rfl ?_
  refine r_nil ?_
  refine r_seq ?_
  refine r_region ?_
  refine r_call (xs := [.const (.int .i64 120)]) (newdisk_spec 120) cb16 [] [] [160, 161, 162] [] rfl rfl rfl rfl rfl rfl rfl rfl (fun _ _ => rfl) (fun _ _ _ => rfl) rfl (fun d3 _ => ?_)
  obtain ⟨D, v, m⟩ := d3
  dsimp only
  refine r_conva (k := 162) (A' := own 9 1 eS (sv v) (List.replicate 120 zsec)) rfl (fun _ _ h => h) ?_
  obtain ⟨hg0, hh0⟩ := hold_new (S := 120) (by decide) (by decide)
  have hrm : rm 120 = 59 := rfl
  refine r_p (p_assign rfl) rfl ?_
  refine r_nil ?_
  refine r_seq ?_
  refine r_region ?_
  refine r_p (p_move rfl) rfl ?_
  refine r_call (xs := [.tmp 14]) (open_run D v m false 0 (List.replicate 120 zsec) hg0 hh0) cb30 [160, 161, 162] [] [163, 160, 161, 162] [52] rfl rfl rfl rfl rfl rfl rfl rfl (fun _ _ => rfl) (fun _ _ _ => rfl) rfl (fun jx hjx => ?_)
  obtain ⟨J0, ls0⟩ := jx
  dsimp only at hjx ⊢
  have hls0 : ls0.sn = zSp.sn := hjx
  refine r_addG 164 (A := ownX 35 (acV D) nilS []) ownX_nil ?_
  refine r_p (p_move rfl) rfl ?_
  refine r_p (p_extract rfl rfl) rfl ?_
  refine r_p (p_extract rfl rfl) rfl ?_
  refine r_p (p_assign rfl) rfl ?_
  refine r_p (p_assign rfl) rfl ?_
  refine r_nil ?_
  refine r_seq ?_
  refine r_seq ?_
  refine r_region ?_
  refine r_p (p_move rfl) rfl ?_
  refine r_p (p_bin rfl rfl (b_eqPn Try.underlying49)) rfl ?_
  refine r_p (p_move rfl) rfl ?_
  refine r_split (t := 20) rfl (fun h1 => False.elim (by simp at h1)) (fun h1 => ?_)
  refine r_gyes rfl rfl ?_
  refine r_p (p_move rfl) rfl ?_
  refine r_gyes rfl rfl ?_
  refine r_p (p_bin rfl rfl b_ne) rfl ?_
  refine r_p (p_pick rfl rfl rfl (by first | exact pick_and | exact pick_or |  rfl)) rfl ?_
  refine r_p (p_move rfl) rfl ?_
  refine r_split (t := 24) rfl (fun h2 => False.elim (by simp at h2)) (fun h2 => ?_)
  refine r_gyes rfl rfl ?_
  refine r_p (p_move rfl) rfl ?_
  refine r_gyes rfl rfl ?_
  refine r_call (xs := [.tmp 25]) (busy_spec J0 D ls0 0 zSp nilS []) cb36 [] [(true, 163), (true, 164)] [] [] rfl rfl rfl rfl rfl rfl rfl rfl (fun _ _ => rfl) (fun _ _ _ => rfl) rfl (fun _ _ => ?_)
  refine r_p (p_pick rfl rfl rfl (by first | exact pick_and | exact pick_or |  rfl)) rfl ?_
  refine r_nil ?_
  refine r_cond rfl (fun h3 => ?_) (fun h3 => ?_)
  · exact absurd h3 (by simp)
  · (try simp only [decide_eq_true_eq, decide_eq_false_iff_not, Bool.and_eq_true, Bool.or_eq_true, Bool.and_eq_false_iff, Bool.or_eq_false_iff, Bool.not_eq_true, Bool.not_eq_false, Bool.not_eq_true', Bool.not_eq_false', Bool.not_not, bne_iff_ne, beq_iff_eq] at h3)
    refine r_skip ?_
    refine r_seq ?_
    refine r_seq ?_
    refine r_region ?_
    refine r_p (p_assign rfl) rfl ?_
    refine r_nil ?_
    refine r_block ?_
    refine r_loop (X := Kst) (fun x => x.k ≤ 5 ∧ Geo x.dur 120 ∧ Hold (view x.dur) (rm 120) (x.k : Int) x.s) (fun x => [(0, sv vl), (1, .bool crash), (5, .bool true), (6, .pointer (some ⟨D, 0, none⟩)), (7, .pointer (some ⟨x.J, 0, none⟩)), (9, .int .i64 (x.k : Int))]) (fun x => [(163, row x.J 100 (jC D x.lst (x.k : Int) x.nxt x.vt)), (164, ownX 35 (acV D) x.vt []), (160, row D 94 (dC v (some m) false false x.left)), (161, mp mkI Prod.fst vS (some m) []), (162, own 9 1 eS (sv v) x.dur)]) (fun x => [(0, sl 1 eQl (sv vl) ls), (1, qlsA ls)]) (fun x => 5 - x.k) ⟨0, J0, ls0, zSp, nilS, 0, List.replicate 120 zsec, zSp.sn⟩ ⟨Nat.zero_le _, hg0, hh0⟩ rfl rfl rfl (fun x hx0 => ?_)
    obtain ⟨k, J, lst, nxt, vt, left, dur, s⟩ := x
    obtain ⟨hk0, hg, hh⟩ := hx0
    dsimp only at hk0 hg hh ⊢
    refine r_seq ?_
    refine r_seq ?_
    refine r_region ?_
    refine r_p (p_move rfl) rfl ?_
    refine r_p (p_move rfl) rfl ?_
    refine r_p (p_len_sl Try.underlying70 rfl (hs_sl (k := 0) rfl)) rfl ?_
    refine r_p (p_bin rfl rfl b_lt) rfl ?_
    refine r_p (p_move rfl) rfl ?_
    refine r_gp [] rfl rfl trivial (fun hg4 => p_move rfl) rfl ?_
    refine r_gp [(33, _)] rfl rfl ⟨rfl, trivial⟩ (fun hg5 => p_bin rfl rfl b_lt) rfl ?_
    refine r_p (p_pick rfl rfl rfl (by first | exact pick_and | exact pick_or |  rfl)) rfl ?_
    refine r_nil ?_
    refine r_cond rfl (fun h6 => ?_) (fun h6 => ?_)
    · (try simp only [decide_eq_true_eq, decide_eq_false_iff_not, Bool.and_eq_true, Bool.or_eq_true, Bool.and_eq_false_iff, Bool.or_eq_false_iff, Bool.not_eq_true, Bool.not_eq_false, Bool.not_eq_true', Bool.not_eq_false', Bool.not_not, bne_iff_ne, beq_iff_eq] at h6)
      have hk : k < ls.length ∧ k < 5 := by omega
      obtain ⟨q, hq⟩ : ∃ q, ls[k]? = some q := ⟨_, List.getElem?_eq_getElem hk.1⟩
      refine r_skip ?_
      refine r_seq ?_
      refine r_block ?_
      refine r_seq ?_
      refine r_region ?_
      refine r_p (p_move rfl) rfl ?_
      refine r_p (p_move rfl) rfl ?_
      refine r_p (p_idx_sl (j := k) Try.underlying70 t28 rfl rfl (hs_sl (k := 0) rfl) (by first | rfl | omega) (by first | omega | (simp; done) | (simp; omega))) rfl ?_
      refine r_p (p_load1 t28 rfl rfl (g_el' (hs_sl (k := 0) rfl) (by intro _; rfl) hq (by rfl))) rfl ?_
      refine r_more 1 70 rfl (qls_get (List.mem_of_getElem? hq)) ?_
      refine r_call (xs := [.tmp 41]) (made_q q.v q.l) cb31 [] [(false, 70)] [] [50] rfl rfl rfl rfl rfl rfl rfl rfl (fun _ _ => rfl) (fun _ _ _ => rfl) rfl (fun xa hxa => ?_)
      obtain ⟨xaa0, xaa1, xaa2, xaa3, xaa4, hxa⟩ := hxa
      have exa : xa.sn = madeF q.l := by rw [hxa]; exact madeS_sn _ _ _ _ _ _
      have oxa : xa.sn.Ok := by rw [exa]; exact made_ok _ (okI_xq (hls q (List.mem_of_getElem? hq)))
      have lxa : (eSn xa.sn).length ≤ 1000 := by rw [exa]; exact made_len _
      have mxa : xa.Sm := Sp.Sm.of (by omega)
      clear hxa exa
      refine r_alloc t59 rfl rfl fun b10 => ?_
      refine r_store_all (k := 10) t59 rfl rfl rfl rfl rfl rfl ?_
      refine r_nil ?_
      refine r_seq ?_
      refine r_seq ?_
      refine r_region ?_
      refine r_p (p_move rfl) rfl ?_
      refine r_p (p_loadA t59 rfl rfl rfl (g_all (k := 10) rfl)) rfl ?_
      refine r_call (xs := [.tmp 43, .tmp 44]) (written_spec J D lst (k : Int) nxt vt v m left dur (by omega) hg hh xa oxa (by omega) (by omega)) cb37 [163, 164, 160, 161, 162] [(false, 50)] [163, 164, 160, 161, 162] [53] rfl rfl rfl rfl rfl rfl rfl rfl (fun _ _ => rfl) (fun _ _ _ => rfl) rfl (fun y hy => ?_)
      obtain ⟨z, vz, left2, dur2⟩ := y
      obtain ⟨hz, hg2, hh2⟩ := hy
      dsimp only at hz hg2 hh2 ⊢
      have mz : z.Sm := mxa.congr hz
      refine r_p (p_not rfl) rfl ?_
      refine r_p (p_move rfl) rfl ?_
      refine r_split (t := 47) rfl (fun h7 => False.elim (by simp at h7)) (fun h7 => ?_)
      refine r_gyes rfl rfl ?_
      refine r_p (p_move rfl) rfl ?_
      refine r_gyes rfl rfl ?_
      refine r_call (xs := [.tmp 48]) (busy_spec J D z ((k : Int) + 1) z vz []) cb36 [] [(true, 163), (true, 164)] [] [] rfl rfl rfl rfl rfl rfl rfl rfl (fun _ _ => rfl) (fun _ _ _ => rfl) rfl (fun _ _ => ?_)
      refine r_p (p_pick rfl rfl rfl (by first | exact pick_and | exact pick_or |  rfl)) rfl ?_
      refine r_p (p_move rfl) rfl ?_
      refine r_split (t := 51) rfl (fun h8 => False.elim (by simp at h8)) (fun h8 => ?_)
      refine r_gyes rfl rfl ?_
      refine r_p (p_move rfl) rfl ?_
      refine r_gyes rfl rfl ?_
      refine r_p (p_loadA t59 rfl rfl rfl (g_all (k := 10) rfl)) rfl ?_
      refine r_gyes rfl rfl ?_
      refine r_p (p_move rfl) rfl ?_
      refine r_gyes rfl rfl ?_
      refine r_p (p_bin rfl rfl (b_add (by first | exact w_i64 (by omega) (by omega) | rfl))) rfl ?_
      refine r_gyes rfl rfl ?_
      refine r_call (xs := [.tmp 52, .tmp 53, .tmp 55]) (last_is true J D z ((k : Int) + 1) z vz xa ((k : Int) + 1) mz mxa (last_same (by omega) hz)) cb38 [] [(true, 163), (false, 53), (false, 50)] [] [] rfl rfl rfl rfl rfl rfl rfl rfl (fun _ _ => rfl) (fun _ _ _ => rfl) rfl (fun _ _ => ?_)
      refine r_gyes rfl rfl ?_
      refine r_p (p_not rfl) rfl ?_
      refine r_p (p_pick rfl rfl rfl (by first | exact pick_and | exact pick_or |  rfl)) rfl ?_
      refine r_nil ?_
      refine r_cond rfl (fun h9 => ?_) (fun h9 => ?_)
      · exact absurd h9 (by simp)
      · (try simp only [decide_eq_true_eq, decide_eq_false_iff_not, Bool.and_eq_true, Bool.or_eq_true, Bool.and_eq_false_iff, Bool.or_eq_false_iff, Bool.not_eq_true, Bool.not_eq_false, Bool.not_eq_true', Bool.not_eq_false', Bool.not_not, bne_iff_ne, beq_iff_eq] at h9)
        refine r_skip ?_
        refine r_seq ?_
        refine r_seq ?_
        refine r_region ?_
        refine r_p (p_move rfl) rfl ?_
        refine r_nil ?_
        refine r_cond rfl (fun h10 => ?_) (fun h10 => ?_)
        · refine r_region ?_
          refine r_p (p_move rfl) rfl ?_
          refine r_p (p_move rfl) rfl ?_
          refine r_bslice1 eI _ Try.underlying28 t3 rfl (by decide) (by decide) rfl rfl rfl rfl fun v62 => ?_
          refine r_freeze 62 62 rfl own_to_sl ?_
          refine r_call (xs := [.tmp 60, .tmp 62]) (crash_spec D v m false false left2 dur2 [] v62 [(k : Int)] (by have := hg2.len; omega)) cb25 [160, 161, 162] [(false, 62)] [160, 161, 162] [] rfl rfl rfl rfl rfl rfl rfl rfl (fun _ _ => rfl) (fun _ _ _ => rfl) rfl (fun _ _ => ?_)
          rw [crash_idle]
          refine r_nil ?_
          refine r_seq ?_
          refine r_region ?_
          refine r_p (p_move rfl) rfl ?_
          refine r_call (xs := [.tmp 65]) (open_run D v m false left2 dur2 hg2 hh2) cb30 [160, 161, 162] [] [163, 160, 161, 162] [58] rfl rfl rfl rfl rfl rfl rfl rfl (fun _ _ => rfl) (fun _ _ _ => rfl) rfl (fun jx hjx => ?_)
          obtain ⟨J2, ls2⟩ := jx
          dsimp only at hjx ⊢
          have hls2 : ls2.sn = xa.sn := hjx
          refine r_addG 164 (A := ownX 35 (acV D) nilS []) ownX_nil ?_
          have ml2 : ls2.Sm := mxa.congr hls2
          refine r_p (p_move rfl) rfl ?_
          refine r_p (p_extract rfl rfl) rfl ?_
          refine r_p (p_extract rfl rfl) rfl ?_
          refine r_p (p_assign rfl) rfl ?_
          refine r_p (p_assign rfl) rfl ?_
          refine r_nil ?_
          refine r_seq ?_
          refine r_region ?_
          refine r_p (p_move rfl) rfl ?_
          refine r_p (p_bin rfl rfl (b_eqPn Try.underlying49)) rfl ?_
          refine r_p (p_move rfl) rfl ?_
          refine r_split (t := 71) rfl (fun h11 => False.elim (by simp at h11)) (fun h11 => ?_)
          refine r_gyes rfl rfl ?_
          refine r_p (p_move rfl) rfl ?_
          refine r_gyes rfl rfl ?_
          refine r_p (p_bin rfl rfl b_ne) rfl ?_
          refine r_p (p_pick rfl rfl rfl (by first | exact pick_and | exact pick_or |  rfl)) rfl ?_
          refine r_p (p_move rfl) rfl ?_
          refine r_split (t := 75) rfl (fun h12 => False.elim (by simp at h12)) (fun h12 => ?_)
          refine r_gyes rfl rfl ?_
          refine r_p (p_move rfl) rfl ?_
          refine r_gyes rfl rfl ?_
          refine r_p (p_loadA t59 rfl rfl rfl (g_all (k := 10) rfl)) rfl ?_
          refine r_gyes rfl rfl ?_
          refine r_p (p_move rfl) rfl ?_
          refine r_gyes rfl rfl ?_
          refine r_p (p_bin rfl rfl (b_add (by first | exact w_i64 (by omega) (by omega) | rfl))) rfl ?_
          refine r_gyes rfl rfl ?_
          refine r_call (xs := [.tmp 76, .tmp 77, .tmp 79]) (last_is true J2 D ls2 ((k : Int) + 1) zSp nilS xa ((k : Int) + 1) ml2 mxa (last_same (by omega) hls2)) cb38 [] [(true, 163), (false, 58), (false, 50)] [] [] rfl rfl rfl rfl rfl rfl rfl rfl (fun _ _ => rfl) (fun _ _ _ => rfl) rfl (fun _ _ => ?_)
          refine r_gyes rfl rfl ?_
          refine r_p (p_not rfl) rfl ?_
          refine r_p (p_pick rfl rfl rfl (by first | exact pick_and | exact pick_or |  rfl)) rfl ?_
          refine r_nil ?_
          refine r_cond rfl (fun h13 => ?_) (fun h13 => ?_)
          · exact absurd h13 (by simp)
          · (try simp only [decide_eq_true_eq, decide_eq_false_iff_not, Bool.and_eq_true, Bool.or_eq_true, Bool.and_eq_false_iff, Bool.or_eq_false_iff, Bool.not_eq_true, Bool.not_eq_false, Bool.not_eq_true', Bool.not_eq_false', Bool.not_not, bne_iff_ne, beq_iff_eq] at h13)
            refine r_skip ?_
            refine r_region ?_
            refine r_p (p_move rfl) rfl ?_
            refine r_p (p_bin rfl rfl (b_add (by first | exact w_i64 (by omega) (by omega) | rfl))) rfl ?_
            refine r_p (p_assign rfl) rfl ?_
            refine r_nil ?_
            refine r_here ⟨k + 1, J2, ls2, zSp, nilS, left2, dur2, xa.sn⟩ ⟨⟨by dsimp only; omega, hg2, hh2⟩, by dsimp only; omega⟩ rfl rfl rfl
        · refine r_skip ?_
          refine r_seq ?_
          refine r_region ?_
          refine r_p (p_move rfl) rfl ?_
          refine r_call (xs := [.tmp 65]) (open_run D v m false left2 dur2 hg2 hh2) cb30 [160, 161, 162] [] [163, 160, 161, 162] [58] rfl rfl rfl rfl rfl rfl rfl rfl (fun _ _ => rfl) (fun _ _ _ => rfl) rfl (fun jx hjx => ?_)
          obtain ⟨J2, ls2⟩ := jx
          dsimp only at hjx ⊢
          have hls2 : ls2.sn = xa.sn := hjx
          refine r_addG 164 (A := ownX 35 (acV D) nilS []) ownX_nil ?_
          have ml2 : ls2.Sm := mxa.congr hls2
          refine r_p (p_move rfl) rfl ?_
          refine r_p (p_extract rfl rfl) rfl ?_
          refine r_p (p_extract rfl rfl) rfl ?_
          refine r_p (p_assign rfl) rfl ?_
          refine r_p (p_assign rfl) rfl ?_
          refine r_nil ?_
          refine r_seq ?_
          refine r_region ?_
          refine r_p (p_move rfl) rfl ?_
          refine r_p (p_bin rfl rfl (b_eqPn Try.underlying49)) rfl ?_
          refine r_p (p_move rfl) rfl ?_
          refine r_split (t := 71) rfl (fun h14 => False.elim (by simp at h14)) (fun h14 => ?_)
          refine r_gyes rfl rfl ?_
          refine r_p (p_move rfl) rfl ?_
          refine r_gyes rfl rfl ?_
          refine r_p (p_bin rfl rfl b_ne) rfl ?_
          refine r_p (p_pick rfl rfl rfl (by first | exact pick_and | exact pick_or |  rfl)) rfl ?_
          refine r_p (p_move rfl) rfl ?_
          refine r_split (t := 75) rfl (fun h15 => False.elim (by simp at h15)) (fun h15 => ?_)
          refine r_gyes rfl rfl ?_
          refine r_p (p_move rfl) rfl ?_
          refine r_gyes rfl rfl ?_
          refine r_p (p_loadA t59 rfl rfl rfl (g_all (k := 10) rfl)) rfl ?_
          refine r_gyes rfl rfl ?_
          refine r_p (p_move rfl) rfl ?_
          refine r_gyes rfl rfl ?_
          refine r_p (p_bin rfl rfl (b_add (by first | exact w_i64 (by omega) (by omega) | rfl))) rfl ?_
          refine r_gyes rfl rfl ?_
          refine r_call (xs := [.tmp 76, .tmp 77, .tmp 79]) (last_is true J2 D ls2 ((k : Int) + 1) zSp nilS xa ((k : Int) + 1) ml2 mxa (last_same (by omega) hls2)) cb38 [] [(true, 163), (false, 58), (false, 50)] [] [] rfl rfl rfl rfl rfl rfl rfl rfl (fun _ _ => rfl) (fun _ _ _ => rfl) rfl (fun _ _ => ?_)
          refine r_gyes rfl rfl ?_
          refine r_p (p_not rfl) rfl ?_
          refine r_p (p_pick rfl rfl rfl (by first | exact pick_and | exact pick_or |  rfl)) rfl ?_
          refine r_nil ?_
          refine r_cond rfl (fun h16 => ?_) (fun h16 => ?_)
          · exact absurd h16 (by simp)
          · (try simp only [decide_eq_true_eq, decide_eq_false_iff_not, Bool.and_eq_true, Bool.or_eq_true, Bool.and_eq_false_iff, Bool.or_eq_false_iff, Bool.not_eq_true, Bool.not_eq_false, Bool.not_eq_true', Bool.not_eq_false', Bool.not_not, bne_iff_ne, beq_iff_eq] at h16)
            refine r_skip ?_
            refine r_region ?_
            refine r_p (p_move rfl) rfl ?_
            refine r_p (p_bin rfl rfl (b_add (by first | exact w_i64 (by omega) (by omega) | rfl))) rfl ?_
            refine r_p (p_assign rfl) rfl ?_
            refine r_nil ?_
            refine r_here ⟨k + 1, J2, ls2, zSp, nilS, left2, dur2, xa.sn⟩ ⟨⟨by dsimp only; omega, hg2, hh2⟩, by dsimp only; omega⟩ rfl rfl rfl
    · (try simp only [decide_eq_true_eq, decide_eq_false_iff_not, Bool.and_eq_true, Bool.or_eq_true, Bool.and_eq_false_iff, Bool.or_eq_false_iff, Bool.not_eq_true, Bool.not_eq_false, Bool.not_eq_true', Bool.not_eq_false', Bool.not_not, bne_iff_ne, beq_iff_eq] at h6)
      refine r_exit ?_
      refine r_seq ?_
      refine r_region ?_
      refine r_p (p_move rfl) rfl ?_
      refine r_p (p_assign rfl) rfl ?_
      refine r_nil ?_
      refine r_cret ?_
      refine r_ret () trivial rfl (rs1 (rv_tmp rfl)) rfl [] [] rfl rfl rfl

end Go.Proofs.Ytohenjmkhncoiaa
