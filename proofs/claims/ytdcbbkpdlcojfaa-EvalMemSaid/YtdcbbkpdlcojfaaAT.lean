/-
  The checker: names in expressions. Condition: lists are not longer than a million.
-/
import Derived.Test.YtdcbbkpdlcojfaaAS
namespace Go.Proofs.Ytdcbbkpdlcojfaa
set_option linter.unusedSimpArgs false
set_option linter.unusedVariables false
open Go.RowKit

/-- The error of an expression itself. -/
def nE (fs : List Tf) (ns : List ByteArray) (t : Tx) : Int := if t.kind = 2 then (if memB t.name ns = true then 0 else 21) else if t.kind = 3 then (match ffind fs t.name with
      | none => 21
      | some f => if f.ps.length = t.kids.length then 0 else 23) else 0
theorem eX_eq (fs : List Tf) (ns : List ByteArray) (t : Tx) : eX fs ns t = fst (nE fs ns t) (eXs fs ns t.kids) := by cases t; rfl
theorem eXs_app (fs : List Tf) (ns : List ByteArray) : ∀ a b : List Tx, eXs fs ns (a ++ b) = fst (eXs fs ns a) (eXs fs ns b)
  | [], b => rfl
  | t :: r, b => by rw [List.cons_append, eXs, eXs_app fs ns r b, eXs, fst_assoc]
theorem eXs_take {fs : List Tf} {ns : List ByteArray} {l : List Tx} {i : Nat} {k : Tx} (h : l[i]? = some k) : eXs fs ns (l.take (i + 1)) = fst (eXs fs ns (l.take i)) (eX fs ns k) := by
  rw [take_snoc h, eXs_app]
  show fst _ (fst (eX fs ns k) 0) = _
  rw [fst_zero]
theorem nE_2 {fs : List Tf} {ns : List ByteArray} {t : Tx} (h : t.kind = 2) : nE fs ns t = if memB t.name ns = true then 0 else 21 := if_pos h
theorem nE_none {fs : List Tf} {ns : List ByteArray} {t : Tx} (h : t.kind = 3) (hf : ffind fs t.name = none) : nE fs ns t = 21 := by
  unfold nE
  rw [if_neg (by omega), if_pos h, hf]
theorem nE_some {fs : List Tf} {ns : List ByteArray} {t : Tx} {f : Tf} (h : t.kind = 3) (hf : ffind fs t.name = some f) : nE fs ns t = if f.ps.length = t.kids.length then 0 else 23 := by
  unfold nE
  rw [if_neg (by omega), if_pos h, hf]
theorem nE_0 {fs : List Tf} {ns : List ByteArray} {t : Tx} (h2 : ¬ t.kind = 2) (h3 : ¬ t.kind = 3) : nE fs ns t = 0 := by
  unfold nE
  rw [if_neg h2, if_neg h3]
/-- The error of an assignment, and of a declaration. -/
def aE (ns : List ByteArray) (t : Ty) : Int := if t.kind = 2 then (if memB t.name ns = true then 0 else 21) else 0
def dE (ns : List ByteArray) (t : Ty) : Int := if t.kind = 1 then (if memB t.name ns = true then 22 else 0) else 0
def dN (ns : List ByteArray) (t : Ty) : List ByteArray := if t.kind = 1 then ns ++ [t.name] else ns
theorem bY_eq (fs : List Tf) (ns : List ByteArray) (t : Ty) : bY fs ns t = ((bYs fs (bYs fs (dN ns t) t.body).1 t.els).1, fst (aE ns t) (fst (eXs fs ns t.es) (fst (dE ns t) (fst (bYs fs (dN ns t) t.body).2 (bYs fs (bYs fs (dN ns t) t.body).1 t.els).2)))) := by cases t; rfl
theorem bYs_app (fs : List Tf) : ∀ (ns : List ByteArray) (a b : List Ty), bYs fs ns (a ++ b) = ((bYs fs (bYs fs ns a).1 b).1, fst (bYs fs ns a).2 (bYs fs (bYs fs ns a).1 b).2)
  | ns, [], b => rfl
  | ns, t :: r, b => by
    rw [List.cons_append, bYs, bYs_app fs _ r b, bYs]
    simp only [fst_assoc]
theorem bYs_take {fs : List Tf} {ns : List ByteArray} {l : List Ty} {i : Nat} {k : Ty} (h : l[i]? = some k) : bYs fs ns (l.take (i + 1)) = ((bY fs (bYs fs ns (l.take i)).1 k).1, fst (bYs fs ns (l.take i)).2 (bY fs (bYs fs ns (l.take i)).1 k).2) := by
  rw [take_snoc h, bYs_app]
  show ((bY fs _ k).1, fst _ (fst (bY fs _ k).2 0)) = _
  rw [fst_zero]
mutual
theorem bY_len (fs : List Tf) : ∀ (ns : List ByteArray) (t : Ty), (bY fs ns t).1.length = ns.length + vY t
  | ns, .mk k nm _ es _ body _ els => by
    show (bYs fs (bYs fs (if k = 1 then ns ++ [nm] else ns) body).1 els).1.length = _
    rw [bYs_len fs _ els, bYs_len fs _ body, vY]
    split <;> simp <;> omega
theorem bYs_len (fs : List Tf) : ∀ (ns : List ByteArray) (l : List Ty), (bYs fs ns l).1.length = ns.length + vYs l
  | ns, [] => by simp [bYs, vYs]
  | ns, t :: r => by
    show (bYs fs (bY fs ns t).1 r).1.length = _
    rw [bYs_len fs _ r, bY_len fs ns t, vYs]
    omega
end
theorem vYs_take_le {l : List Ty} {i : Nat} {k : Ty} (h : l[i]? = some k) : vYs (l.take i) + vY k ≤ vYs l := by
  have h2 := vYs_app (l.take (i + 1)) (l.drop (i + 1))
  rw [List.take_append_drop, vYs_take h] at h2
  omega
theorem dN_len (ns : List ByteArray) (t : Ty) : (dN ns t).length = ns.length + if t.kind = 1 then 1 else 0 := by
  unfold dN
  split
  · simp
  · rfl
set_option maxHeartbeats 4000000 in
set_option maxRecDepth 100000 in
theorem cexpr_step (c : Nat) (vp vn : SV) (nd va : Int) (dp : Bool) (fs : List Tf) (hfl : fs.length ≤ 1000000) (ns : List ByteArray) (hns : ns.length ≤ 1000000) (t : Tx) (ht : GX t) (ih : ∀ u ∈ t.kids, ∀ er : Int, Spec Try.prog 98 [.pointer (some ⟨c, 0, none⟩), xV u] [row c 109 (cR vp vn nd va dp er), own 9 1 eS (sv vn) ns] [txsA u.v u.kids, tfsA vp fs] (X := Unit) (fun _ => True) (fun _ => .tuple #[]) (fun _ => [row c 109 (cR vp vn nd va dp (fst er (eX fs ns u))), own 9 1 eS (sv vn) ns]) (fun _ => [])) (er : Int) :
    Spec Try.prog 98 [.pointer (some ⟨c, 0, none⟩), xV t] [row c 109 (cR vp vn nd va dp (er)), own 9 1 eS (sv vn) (ns)] [txsA t.v t.kids, tfsA vp fs] (X := Unit) (fun _ => True) (fun _ => .tuple #[]) (fun _ => [row c 109 (cR vp vn nd va dp (fst er (eX fs ns t))), own 9 1 eS (sv vn) (ns)]) (fun _ => []) := by
  refine r_enter Try.func98 rfl Try.ntmps98 rfl fun w0 M H => ?_
  have hkl := GX_len ht
  refine r_more 0 2 rfl txs_sl ?_
  refine r_more 1 3 rfl tfs_sl ?_
  refine r_seq ?_
  refine r_region ?_
  refine r_boxA rfl rfl fun b3 => ?_
  refine r_nil ?_
  refine r_seq_cut (X := Unit) (fun _ => True) (fun _ => [(0, .pointer (some ⟨c, 0, none⟩)), (3, .pointer (some ⟨b3, 0, none⟩))]) (fun _ => [(0, row c 109 (cR vp vn nd va dp (fst er (nE fs ns t)))), (1, own 9 1 eS (sv vn) (ns)), (3, row b3 57 (eTx t))]) (fun _ => [(0, txsA t.v t.kids), (1, tfsA vp fs), (2, sl 4 eTx (sv t.v) t.kids), (3, sl 3 eTf (sv vp) fs)]) ?_ (fun _ _ => ?_)
  · refine r_seq ?_
    refine r_region ?_
    refine r_p (p_field0 fo57_0 rfl) rfl ?_
    refine r_p (p_load1 t3 rfl rfl (g_row1 (k := 3) rfl rfl)) rfl ?_
    refine r_nil ?_
    refine r_block ?_
    refine r_seq ?_
    refine r_region ?_
    refine r_p (p_bin rfl rfl b_eq) rfl ?_
    refine r_p (p_assign rfl) rfl ?_
    refine r_nil ?_
    refine r_cond rfl (fun h1 => ?_) (fun h1 => ?_)
    · have q2 : t.kind = 2 := of_decide_eq_true h1
      refine r_region ?_
      refine r_p (p_move rfl) rfl ?_
      refine r_p (p_field0 fo57_2 rfl) rfl ?_
      refine r_p (p_load1 t9 rfl rfl (g_row1 (k := 3) rfl rfl)) rfl ?_
      refine r_call (xs := [.tmp 11, .tmp 13]) (cvar_spec c vp vn nd va dp er ns hns t.name) cb97 [0, 1] [] [0, 1] [] rfl rfl rfl rfl rfl rfl rfl rfl (fun _ _ => rfl) (fun _ _ _ => rfl) rfl (fun _ _ => ?_)
      refine r_nil ?_
      refine r_here () trivial rfl (by rw [nE_2 q2]; rfl) rfl
    · have q2 : ¬ t.kind = 2 := of_decide_eq_false h1
      refine r_seq ?_
      refine r_region ?_
      refine r_p (p_bin rfl rfl b_eq) rfl ?_
      refine r_p (p_assign rfl) rfl ?_
      refine r_nil ?_
      refine r_cond rfl (fun h2 => ?_) (fun h2 => ?_)
      · have q3 : t.kind = 3 := of_decide_eq_true h2
        refine r_seq ?_
        refine r_region ?_
        refine r_p (p_move rfl) rfl ?_
        refine r_p (p_field0 fo57_2 rfl) rfl ?_
        refine r_p (p_load1 t9 rfl rfl (g_row1 (k := 3) rfl rfl)) rfl ?_
        refine r_call (xs := [.tmp 17, .tmp 19]) (cfind_spec c vp vn nd va dp er t.name fs hfl) cb67 [0] [(false, 3)] [0] [] rfl rfl rfl rfl rfl rfl rfl rfl (fun _ _ => rfl) (fun _ _ _ => rfl) rfl (fun _ _ => ?_)
        refine r_p (p_assign rfl) rfl ?_
        refine r_nil ?_
        refine r_seq ?_
        refine r_region ?_
        refine r_p (p_move rfl) rfl ?_
        refine r_p (p_bin rfl rfl b_lt) rfl ?_
        refine r_nil ?_
        refine r_cond rfl (fun h3 => ?_) (fun h3 => ?_)
        · have hff : ffind fs t.name = none := ffind_fix.1.1 (of_decide_eq_true h3)
          refine r_region ?_
          refine r_p (p_move rfl) rfl ?_
          refine r_call (xs := [.tmp 23, .const (.int .i64 21)]) (cfail_spec c vp vn nd va dp er 21) cb82 [0] [] [0] [] rfl rfl rfl rfl rfl rfl rfl rfl (fun _ _ => rfl) (fun _ _ _ => rfl) rfl (fun _ _ => ?_)
          refine r_nil ?_
          refine r_here () trivial rfl (by rw [nE_none q3 hff]; rfl) rfl
        · obtain ⟨f, hff⟩ : ∃ f, ffind fs t.name = some f := by
            cases hf : ffind fs t.name with
            | none => exact absurd (ffind_fix.1.2 hf) (of_decide_eq_false h3)
            | some f => exact ⟨f, rfl⟩
          obtain ⟨j, hj1, hj2⟩ := ffind_fix.2 f hff
          have hjl := (List.getElem?_eq_some_iff.1 hj2).1
          rw [hj1]
          refine r_more 1 7 rfl (tfs_f (ffind_mem hff)) ?_
          refine r_more 7 9 rfl tf_ps ?_
          refine r_seq ?_
          refine r_draw [25, 26, 27, 28, 29, 30, 31, 32, 33, 34, 35, 36, 37, 38] _ rfl (stg_end (V := [(0, 25, _), (1, 26, _), (2, 27, _), (3, 28, _), (4, 29, _), (5, 30, _), (6, 31, _), (7, 32, _), (8, 33, _), (9, 34, _), (10, 35, _), (11, 36, _), (12, 37, _), (13, 38, _)]) [0, 1, 2, 3, 4, 5, 6, 7, 8, 9, 10, 11, 12, 13] rfl rfl (prs_cons (pri rfl (p_move rfl)) (prs_cons (pri rfl (p_nilCheck rfl)) (prs_cons (pri rfl (p_field0 fo109_0 rfl)) (prs_cons (pri rfl (p_field0 fo40_0 rfl)) (prs_cons (pri rfl (p_load1 t38 rfl rfl (g_row1 (k := 0) rfl rfl))) (prs_cons (pri rfl (p_move rfl)) (prs_cons (pri rfl (p_idx_sl (j := j) Try.underlying38 t64 rfl rfl (hs_sl (k := 3) rfl) rfl hjl)) (prs_cons (pri rfl (p_field fo64_1 rfl)) (prs_cons (pri rfl (p_load1 t62 rfl rfl (g_elp (hs_sl (k := 3) rfl) (by intro _; rfl) hj2 rfl))) (prs_cons (pri rfl (p_len_sl Try.underlying62 rfl (hs_sl (k := 9) rfl))) (prs_cons (pri rfl (p_field0 fo57_3 rfl)) (prs_cons (pri rfl (p_load1 t51 rfl rfl (g_row1 (k := 3) rfl rfl))) (prs_cons (pri rfl (p_len_sl Try.underlying51 rfl (hs_sl (k := 2) rfl))) (prs_cons (pri rfl (p_bin rfl rfl b_ne)) prs_nil)))))))))))))) rfl rfl rfl ?_)
          refine r_cond rfl (fun h4 => ?_) (fun h4 => ?_)
          · have hne : ¬ f.ps.length = t.kids.length := fun e => by rw [e] at h4; simp at h4
            refine r_region ?_
            refine r_p (p_move rfl) rfl ?_
            refine r_call (xs := [.tmp 39, .const (.int .i64 23)]) (cfail_spec c vp vn nd va dp er 23) cb82 [0] [] [0] [] rfl rfl rfl rfl rfl rfl rfl rfl (fun _ _ => rfl) (fun _ _ _ => rfl) rfl (fun _ _ => ?_)
            refine r_nil ?_
            refine r_here () trivial rfl (by rw [nE_some q3 hff, if_neg hne]; rfl) rfl
          · have hne : f.ps.length = t.kids.length := by
              have := h4
              simp only [Bool.not_eq_false', decide_eq_true_eq] at this
              omega
            refine r_skip ?_
            refine r_here () trivial rfl (by rw [nE_some q3 hff, if_pos hne, fst_zero]; rfl) rfl
      · have q3 : ¬ t.kind = 3 := of_decide_eq_false h2
        refine r_skip ?_
        refine r_here () trivial rfl (by rw [nE_0 q2 q3, fst_zero]; rfl) rfl
  · refine r_seq ?_
    refine r_region ?_
    refine r_p (p_field0 fo57_3 rfl) rfl ?_
    refine r_p (p_load1 t51 rfl rfl (g_row1 (k := 3) rfl rfl)) rfl ?_
    refine r_p (p_len_sl Try.underlying51 rfl (hs_sl (k := 2) rfl)) rfl ?_
    refine r_p (p_move rfl) rfl ?_
    refine r_nil ?_
    refine r_block ?_
    refine r_loop (X := Nat) (fun i => i ≤ t.kids.length) (fun i => [(0, .pointer (some ⟨c, 0, none⟩)), (3, .pointer (some ⟨b3, 0, none⟩)), (42, sv t.v), (43, .int .i64 (t.kids.length : Int)), (44, .int .i64 (i : Int))]) (fun i => [(0, row c 109 (cR vp vn nd va dp (fst er (fst (nE fs ns t) (eXs fs ns (t.kids.take i)))))), (1, own 9 1 eS (sv vn) (ns)), (3, row b3 57 (eTx t))]) (fun i => [(0, txsA t.v t.kids), (1, tfsA vp fs), (2, sl 4 eTx (sv t.v) t.kids), (3, sl 3 eTf (sv vp) fs)]) (fun i => t.kids.length - i) 0 (Nat.zero_le _) rfl (by rw [show eXs fs ns (t.kids.take 0) = 0 by simp [eXs], fst_zero]; rfl) rfl (fun i n1 => ?_)
    refine r_seq ?_
    refine r_region ?_
    refine r_p (p_bin rfl rfl b_lt) rfl ?_
    refine r_nil ?_
    refine r_seq ?_
    refine r_cond rfl (fun h5 => ?_) (fun h5 => ?_)
    · (try simp only [decide_eq_true_eq, decide_eq_false_iff_not, Bool.and_eq_true, Bool.or_eq_true, Bool.and_eq_false_iff, Bool.or_eq_false_iff, Bool.not_eq_true, Bool.not_eq_false, Bool.not_eq_true', Bool.not_eq_false', Bool.not_not, bne_iff_ne, beq_iff_eq] at h5)
      have hi : i < t.kids.length := by omega
      obtain ⟨kid, hkid⟩ : ∃ k, t.kids[i]? = some k := ⟨_, List.getElem?_eq_getElem hi⟩
      have hkm := List.mem_of_getElem? hkid
      refine r_skip ?_
      refine r_seq ?_
      refine r_block ?_
      refine r_seq ?_
      refine r_region ?_
      refine r_p (p_idx_sl (j := i) Try.underlying51 t57 rfl rfl (hs_sl (k := 2) rfl) (by first | rfl | omega) (by first | omega | (simp; done) | (simp; omega))) rfl ?_
      refine r_p (p_loadA t57 rfl rfl rfl (g_el' (hs_sl (k := 2) rfl) (by intro _; rfl) hkid (by rfl))) rfl ?_
      refine r_alloc t57 rfl rfl fun b6 => ?_
      refine r_store_all (k := 6) t57 rfl rfl rfl rfl rfl rfl ?_
      refine r_nil ?_
      refine r_region ?_
      refine r_p (p_move rfl) rfl ?_
      refine r_p (p_loadA t57 rfl rfl rfl (g_all (k := 6) rfl)) rfl ?_
      refine r_more 0 8 rfl (txs_kid hkm) ?_
      refine r_call (xs := [.tmp 48, .tmp 49]) (ih kid hkm (fst er (fst (nE fs ns t) (eXs fs ns (t.kids.take i))))) cb98 [0, 1] [(false, 8), (false, 1)] [0, 1] [] rfl rfl rfl rfl rfl rfl rfl rfl (fun _ _ => rfl) (fun _ _ _ => rfl) rfl (fun _ _ => ?_)
      refine r_nil ?_
      refine r_region ?_
      refine r_p (p_bin rfl rfl (b_add (by first | exact w_i64 (by omega) (by omega) | rfl))) rfl ?_
      refine r_p (p_move rfl) rfl ?_
      refine r_nil ?_
      refine r_here (i + 1) ⟨by omega, by omega⟩ rfl (by rw [eXs_take hkid]; simp only [fst_assoc]; rfl) rfl
    · (try simp only [decide_eq_true_eq, decide_eq_false_iff_not, Bool.and_eq_true, Bool.or_eq_true, Bool.and_eq_false_iff, Bool.or_eq_false_iff, Bool.not_eq_true, Bool.not_eq_false, Bool.not_eq_true', Bool.not_eq_false', Bool.not_not, bne_iff_ne, beq_iff_eq] at h5)
      have hi : i = t.kids.length := by omega
      subst hi
      rw [List.take_length, ← eX_eq]
      refine r_exit ?_
      refine r_end () trivial rfl rs0 rfl [0, 1] [] rfl rfl rfl
theorem cexpr_all (c : Nat) (vp vn : SV) (nd va : Int) (dp : Bool) (fs : List Tf) (hfl : fs.length ≤ 1000000) (ns : List ByteArray) (hns : ns.length ≤ 1000000) : ∀ (n : Nat) (t : Tx), SizeOf.sizeOf t < n → GX t → ∀ er : Int, Spec Try.prog 98 [.pointer (some ⟨c, 0, none⟩), xV t] [row c 109 (cR vp vn nd va dp er), own 9 1 eS (sv vn) ns] [txsA t.v t.kids, tfsA vp fs] (X := Unit) (fun _ => True) (fun _ => .tuple #[]) (fun _ => [row c 109 (cR vp vn nd va dp (fst er (eX fs ns t))), own 9 1 eS (sv vn) ns]) (fun _ => [])
  | 0, _, h, _ => absurd h (Nat.not_lt_zero _)
  | n + 1, t, h, ht => cexpr_step c vp vn nd va dp fs hfl ns hns t ht fun u hu => cexpr_all c vp vn nd va dp fs hfl ns hns n u (by have := tx_lt hu; omega) ((GX_kids ht).mem u hu)
theorem cexpr_spec (c : Nat) (vp vn : SV) (nd va : Int) (dp : Bool) (fs : List Tf) (hfl : fs.length ≤ 1000000) (ns : List ByteArray) (hns : ns.length ≤ 1000000) (t : Tx) (ht : GX t) (er : Int) : Spec Try.prog 98 [.pointer (some ⟨c, 0, none⟩), xV t] [row c 109 (cR vp vn nd va dp er), own 9 1 eS (sv vn) ns] [txsA t.v t.kids, tfsA vp fs] (X := Unit) (fun _ => True) (fun _ => .tuple #[]) (fun _ => [row c 109 (cR vp vn nd va dp (fst er (eX fs ns t))), own 9 1 eS (sv vn) ns]) (fun _ => []) := cexpr_all c vp vn nd va dp fs hfl ns hns _ t (Nat.lt_succ_self _) ht er
set_option maxHeartbeats 8000000 in
set_option maxRecDepth 100000 in
theorem cblock_step (c : Nat) (vp vn : SV) (nd va : Int) (dp : Bool) (fs : List Tf) (hfl : fs.length ≤ 1000000) (v : SV) (l : List Ty) (hl : l.length ≤ 1000000) (hg : GYs l) (ihb : ∀ u ∈ l, (∀ (vn : SV) (ns : List ByteArray) (er : Int), ns.length + vYs u.body ≤ 1000000 → Spec Try.prog 84 [.pointer (some ⟨c, 0, none⟩), sv u.vb] [row c 109 (cR vp vn nd va dp er), own 9 1 eS (sv vn) ns] [tysA u.vb u.body, tfsA vp fs] (X := SV) (fun _ => True) (fun _ => .tuple #[]) (fun x => [row c 109 (cR vp x nd va dp (fst er (bYs fs ns u.body).2)), own 9 1 eS (sv x) (bYs fs ns u.body).1]) (fun _ => []))) (ihe : ∀ u ∈ l, (∀ (vn : SV) (ns : List ByteArray) (er : Int), ns.length + vYs u.els ≤ 1000000 → Spec Try.prog 84 [.pointer (some ⟨c, 0, none⟩), sv u.vl] [row c 109 (cR vp vn nd va dp er), own 9 1 eS (sv vn) ns] [tysA u.vl u.els, tfsA vp fs] (X := SV) (fun _ => True) (fun _ => .tuple #[]) (fun x => [row c 109 (cR vp x nd va dp (fst er (bYs fs ns u.els).2)), own 9 1 eS (sv x) (bYs fs ns u.els).1]) (fun _ => []))) (ns : List ByteArray) (er : Int) (hnv : ns.length + vYs l ≤ 1000000) :
    Spec Try.prog 84 [.pointer (some ⟨c, 0, none⟩), sv v] [row c 109 (cR vp vn nd va dp (er)), own 9 1 eS (sv vn) (ns)] [tysA v l, tfsA vp fs] (X := SV) (fun _ => True) (fun _ => .tuple #[]) (fun x => [row c 109 (cR vp x nd va dp (fst er (bYs fs ns l).2)), own 9 1 eS (sv x) ((bYs fs ns l).1)]) (fun _ => []) := by
  refine r_enter Try.func84 rfl Try.ntmps84 rfl fun w0 M H => ?_
  refine r_more 0 2 rfl tys_sl ?_
  refine r_seq ?_
  refine r_region ?_
  refine r_p (p_move rfl) rfl ?_
  refine r_p (p_len_sl Try.underlying52 rfl (hs_sl (k := 2) rfl)) rfl ?_
  refine r_p (p_move rfl) rfl ?_
  refine r_nil ?_
  refine r_block ?_
  refine r_loop (X := Nat × SV) (fun x => x.1 ≤ l.length) (fun x => [(0, .pointer (some ⟨c, 0, none⟩)), (8, sv v), (9, .int .i64 (l.length : Int)), (10, .int .i64 (x.1 : Int))]) (fun x => [(0, row c 109 (cR vp x.2 nd va dp (fst er (bYs fs ns (l.take x.1)).2))), (1, own 9 1 eS (sv x.2) ((bYs fs ns (l.take x.1)).1))]) (fun x => [(0, tysA v l), (1, tfsA vp fs), (2, sl 5 eTy (sv v) l)]) (fun x => l.length - x.1) (0, vn) (Nat.zero_le _) rfl (by rw [show fst er (bYs fs ns (l.take (0, vn).1)).2 = er from fst_zero er]; rfl) rfl (fun x n1 => ?_)
  obtain ⟨i, vx⟩ := x
  dsimp only at n1 ⊢
  refine r_seq ?_
  refine r_region ?_
  refine r_p (p_bin rfl rfl b_lt) rfl ?_
  refine r_nil ?_
  refine r_seq ?_
  refine r_cond rfl (fun h1 => ?_) (fun h1 => ?_)
  · (try simp only [decide_eq_true_eq, decide_eq_false_iff_not, Bool.and_eq_true, Bool.or_eq_true, Bool.and_eq_false_iff, Bool.or_eq_false_iff, Bool.not_eq_true, Bool.not_eq_false, Bool.not_eq_true', Bool.not_eq_false', Bool.not_not, bne_iff_ne, beq_iff_eq] at h1)
    have hi : i < l.length := by omega
    obtain ⟨st, hst⟩ : ∃ k, l[i]? = some k := ⟨_, List.getElem?_eq_getElem hi⟩
    have hsm := List.mem_of_getElem? hst
    have hsy := hg.mem st hsm
    have hsg := GY_es hsy
    have hbl := bYs_len fs ns (l.take i)
    have hvt := vYs_take_le hst
    have hve := vY_eq st
    have hni : (bYs fs ns (l.take i)).1.length ≤ 1000000 := by omega
    refine r_more 0 7 rfl (tys_es hsm) ?_
    refine r_more 0 8 rfl (tys_body hsm) ?_
    refine r_more 0 9 rfl (tys_els hsm) ?_
    refine r_more 7 10 rfl txs_sl ?_
    refine r_skip ?_
    refine r_seq ?_
    refine r_block ?_
    refine r_seq ?_
    refine r_region ?_
    refine r_p (p_idx_sl (j := i) Try.underlying52 t54 rfl rfl (hs_sl (k := 2) rfl) (by first | rfl | omega) (by first | omega | (simp; done) | (simp; omega))) rfl ?_
    refine r_p (p_loadA t54 rfl rfl rfl (g_el' (hs_sl (k := 2) rfl) (by intro _; rfl) hst (by rfl))) rfl ?_
    refine r_alloc t54 rfl rfl fun b5 => ?_
    refine r_store_all (k := 5) t54 rfl rfl rfl rfl rfl rfl ?_
    refine r_nil ?_
    refine r_seq_cut (X := Unit) (fun _ => True) (fun _ => [(0, .pointer (some ⟨c, 0, none⟩)), (8, sv v), (9, .int .i64 (l.length : Int)), (10, .int .i64 (i : Int)), (5, .pointer (some ⟨b5, 0, none⟩))]) (fun _ => [(0, row c 109 (cR vp vx nd va dp (fst (fst er (bYs fs ns (l.take i)).2) (aE ((bYs fs ns (l.take i)).1) st)))), (1, own 9 1 eS (sv vx) ((bYs fs ns (l.take i)).1)), (5, row b5 54 (eTy st))]) (fun _ => [(0, tysA v l), (1, tfsA vp fs), (2, sl 5 eTy (sv v) l), (7, txsA st.ve st.es), (8, tysA st.vb st.body), (9, tysA st.vl st.els), (10, sl 4 eTx (sv st.ve) st.es)]) ?_ (fun _ _ => ?_)
    · refine r_seq ?_
      refine r_region ?_
      refine r_p (p_field0 fo54_0 rfl) rfl ?_
      refine r_p (p_load1 t3 rfl rfl (g_row1 (k := 5) rfl rfl)) rfl ?_
      refine r_p (p_bin rfl rfl b_eq) rfl ?_
      refine r_nil ?_
      refine r_cond rfl (fun h2 => ?_) (fun h2 => ?_)
      · have q2 : st.kind = 2 := of_decide_eq_true h2
        refine r_region ?_
        refine r_p (p_move rfl) rfl ?_
        refine r_p (p_field0 fo54_1 rfl) rfl ?_
        refine r_p (p_load1 t9 rfl rfl (g_row1 (k := 5) rfl rfl)) rfl ?_
        refine r_call (xs := [.tmp 17, .tmp 19]) (cvar_spec c vp vx nd va dp (fst er (bYs fs ns (l.take i)).2) ((bYs fs ns (l.take i)).1) hni st.name) cb97 [0, 1] [] [0, 1] [] rfl rfl rfl rfl rfl rfl rfl rfl (fun _ _ => rfl) (fun _ _ _ => rfl) rfl (fun _ _ => ?_)
        refine r_nil ?_
        refine r_here () trivial rfl (by unfold aE; rw [if_pos q2]; rfl) rfl
      · have q2 : ¬ st.kind = 2 := of_decide_eq_false h2
        refine r_skip ?_
        refine r_here () trivial rfl (by unfold aE; rw [if_neg q2, fst_zero]; rfl) rfl
    · refine r_seq ?_
      refine r_seq ?_
      refine r_region ?_
      refine r_p (p_field0 fo54_2 rfl) rfl ?_
      refine r_p (p_load1 t51 rfl rfl (g_row1 (k := 5) rfl rfl)) rfl ?_
      refine r_p (p_len_sl Try.underlying51 rfl (hs_sl (k := 10) rfl)) rfl ?_
      refine r_p (p_move rfl) rfl ?_
      refine r_nil ?_
      refine r_block ?_
      refine r_loop (X := Nat) (fun j => j ≤ st.es.length) (fun j => [(0, .pointer (some ⟨c, 0, none⟩)), (8, sv v), (9, .int .i64 (l.length : Int)), (10, .int .i64 (i : Int)), (5, .pointer (some ⟨b5, 0, none⟩)), (22, sv st.ve), (23, .int .i64 (st.es.length : Int)), (24, .int .i64 (j : Int))]) (fun j => [(0, row c 109 (cR vp vx nd va dp (fst (fst (fst er (bYs fs ns (l.take i)).2) (aE ((bYs fs ns (l.take i)).1) st)) (eXs fs ((bYs fs ns (l.take i)).1) (st.es.take j))))), (1, own 9 1 eS (sv vx) ((bYs fs ns (l.take i)).1)), (5, row b5 54 (eTy st))]) (fun j => [(0, tysA v l), (1, tfsA vp fs), (2, sl 5 eTy (sv v) l), (7, txsA st.ve st.es), (8, tysA st.vb st.body), (9, tysA st.vl st.els), (10, sl 4 eTx (sv st.ve) st.es)]) (fun j => st.es.length - j) 0 (Nat.zero_le _) rfl (by rw [show eXs fs ((bYs fs ns (l.take i)).1) (st.es.take 0) = 0 by simp [eXs], fst_zero]; rfl) rfl (fun j n2 => ?_)
      refine r_seq ?_
      refine r_region ?_
      refine r_p (p_bin rfl rfl b_lt) rfl ?_
      refine r_nil ?_
      refine r_seq ?_
      refine r_cond rfl (fun h3 => ?_) (fun h3 => ?_)
      · (try simp only [decide_eq_true_eq, decide_eq_false_iff_not, Bool.and_eq_true, Bool.or_eq_true, Bool.and_eq_false_iff, Bool.or_eq_false_iff, Bool.not_eq_true, Bool.not_eq_false, Bool.not_eq_true', Bool.not_eq_false', Bool.not_not, bne_iff_ne, beq_iff_eq] at h3)
        have hj : j < st.es.length := by omega
        obtain ⟨kid, hkid⟩ : ∃ k, st.es[j]? = some k := ⟨_, List.getElem?_eq_getElem hj⟩
        have hkm := List.mem_of_getElem? hkid
        refine r_skip ?_
        refine r_seq ?_
        refine r_block ?_
        refine r_seq ?_
        refine r_region ?_
        refine r_p (p_idx_sl (j := j) Try.underlying51 t57 rfl rfl (hs_sl (k := 10) rfl) (by first | rfl | omega) (by first | omega | (simp; done) | (simp; omega))) rfl ?_
        refine r_p (p_loadA t57 rfl rfl rfl (g_el' (hs_sl (k := 10) rfl) (by intro _; rfl) hkid (by rfl))) rfl ?_
        refine r_alloc t57 rfl rfl fun b7 => ?_
        refine r_store_all (k := 7) t57 rfl rfl rfl rfl rfl rfl ?_
        refine r_nil ?_
        refine r_region ?_
        refine r_p (p_move rfl) rfl ?_
        refine r_p (p_loadA t57 rfl rfl rfl (g_all (k := 7) rfl)) rfl ?_
        refine r_more 7 12 rfl (txs_kid hkm) ?_
        refine r_call (xs := [.tmp 28, .tmp 29]) (cexpr_spec c vp vx nd va dp fs hfl ((bYs fs ns (l.take i)).1) hni kid (hsg.2.mem kid hkm) (fst (fst (fst er (bYs fs ns (l.take i)).2) (aE ((bYs fs ns (l.take i)).1) st)) (eXs fs ((bYs fs ns (l.take i)).1) (st.es.take j)))) cb98 [0, 1] [(false, 12), (false, 1)] [0, 1] [] rfl rfl rfl rfl rfl rfl rfl rfl (fun _ _ => rfl) (fun _ _ _ => rfl) rfl (fun _ _ => ?_)
        refine r_nil ?_
        refine r_region ?_
        refine r_p (p_bin rfl rfl (b_add (by first | exact w_i64 (by omega) (by omega) | rfl))) rfl ?_
        refine r_p (p_move rfl) rfl ?_
        refine r_nil ?_
        refine r_here (j + 1) ⟨by omega, by omega⟩ rfl (by rw [eXs_take hkid]; simp only [fst_assoc]; rfl) rfl
      · (try simp only [decide_eq_true_eq, decide_eq_false_iff_not, Bool.and_eq_true, Bool.or_eq_true, Bool.and_eq_false_iff, Bool.or_eq_false_iff, Bool.not_eq_true, Bool.not_eq_false, Bool.not_eq_true', Bool.not_eq_false', Bool.not_not, bne_iff_ne, beq_iff_eq] at h3)
        have hj : j = st.es.length := by omega
        subst hj
        rw [List.take_length]
        refine r_exit ?_
        refine r_seq_cut (X := SV) (fun _ => True) (fun vd => [(0, .pointer (some ⟨c, 0, none⟩)), (8, sv v), (9, .int .i64 (l.length : Int)), (10, .int .i64 (i : Int)), (5, .pointer (some ⟨b5, 0, none⟩))]) (fun vd => [(0, row c 109 (cR vp vd nd va dp (fst (fst (fst (fst er (bYs fs ns (l.take i)).2) (aE ((bYs fs ns (l.take i)).1) st)) (eXs fs ((bYs fs ns (l.take i)).1) (st.es))) (dE ((bYs fs ns (l.take i)).1) st)))), (1, own 9 1 eS (sv vd) (dN ((bYs fs ns (l.take i)).1) st)), (5, row b5 54 (eTy st))]) (fun vd => [(0, tysA v l), (1, tfsA vp fs), (2, sl 5 eTy (sv v) l), (7, txsA st.ve st.es), (8, tysA st.vb st.body), (9, tysA st.vl st.els), (10, sl 4 eTx (sv st.ve) st.es)]) ?_ (fun vd _ => ?_)
        · refine r_seq ?_
          refine r_region ?_
          refine r_p (p_field0 fo54_0 rfl) rfl ?_
          refine r_p (p_load1 t3 rfl rfl (g_row1 (k := 5) rfl rfl)) rfl ?_
          refine r_p (p_bin rfl rfl b_eq) rfl ?_
          refine r_nil ?_
          refine r_cond rfl (fun h4 => ?_) (fun h4 => ?_)
          · have q1 : st.kind = 1 := of_decide_eq_true h4
            refine r_region ?_
            refine r_p (p_move rfl) rfl ?_
            refine r_p (p_field0 fo54_1 rfl) rfl ?_
            refine r_p (p_load1 t9 rfl rfl (g_row1 (k := 5) rfl rfl)) rfl ?_
            refine r_call (xs := [.tmp 35, .tmp 37]) (cdecl_spec c vp vx nd va dp (fst (fst (fst er (bYs fs ns (l.take i)).2) (aE ((bYs fs ns (l.take i)).1) st)) (eXs fs ((bYs fs ns (l.take i)).1) (st.es))) ((bYs fs ns (l.take i)).1) hni st.name) cb83 [0, 1] [] [0, 1] [] rfl rfl rfl rfl rfl rfl rfl rfl (fun _ _ => rfl) (fun _ _ _ => rfl) rfl (fun vd _ => ?_)
            refine r_nil ?_
            refine r_here vd trivial rfl (by unfold dE dN; rw [if_pos q1, if_pos q1]; rfl) rfl
          · have q1 : ¬ st.kind = 1 := of_decide_eq_false h4
            refine r_skip ?_
            refine r_here vx trivial rfl (by unfold dE dN; rw [if_neg q1, if_neg q1, fst_zero]; rfl) rfl
        · refine r_seq ?_
          refine r_region ?_
          refine r_p (p_move rfl) rfl ?_
          refine r_p (p_field0 fo54_3 rfl) rfl ?_
          refine r_p (p_load1 t52 rfl rfl (g_row1 (k := 5) rfl rfl)) rfl ?_
          refine r_call (xs := [.tmp 39, .tmp 41]) (ihb st hsm vd (dN ((bYs fs ns (l.take i)).1) st) (fst (fst (fst (fst er (bYs fs ns (l.take i)).2) (aE ((bYs fs ns (l.take i)).1) st)) (eXs fs ((bYs fs ns (l.take i)).1) (st.es))) (dE ((bYs fs ns (l.take i)).1) st)) (by rw [dN_len]; omega)) cb84 [0, 1] [(false, 8), (false, 1)] [0, 1] [] rfl rfl rfl rfl rfl rfl rfl rfl (fun _ _ => rfl) (fun _ _ _ => rfl) rfl (fun v1 _ => ?_)
          refine r_nil ?_
          refine r_region ?_
          refine r_p (p_move rfl) rfl ?_
          refine r_p (p_field0 fo54_4 rfl) rfl ?_
          refine r_p (p_load1 t52 rfl rfl (g_row1 (k := 5) rfl rfl)) rfl ?_
          refine r_call (xs := [.tmp 43, .tmp 45]) (ihe st hsm v1 (bYs fs (dN ((bYs fs ns (l.take i)).1) st) st.body).1 (fst (fst (fst (fst (fst er (bYs fs ns (l.take i)).2) (aE ((bYs fs ns (l.take i)).1) st)) (eXs fs ((bYs fs ns (l.take i)).1) (st.es))) (dE ((bYs fs ns (l.take i)).1) st)) (bYs fs (dN ((bYs fs ns (l.take i)).1) st) st.body).2) (by rw [bYs_len, dN_len]; omega)) cb84 [0, 1] [(false, 9), (false, 1)] [0, 1] [] rfl rfl rfl rfl rfl rfl rfl rfl (fun _ _ => rfl) (fun _ _ _ => rfl) rfl (fun v2 _ => ?_)
          refine r_nil ?_
          refine r_region ?_
          refine r_p (p_bin rfl rfl (b_add (by first | exact w_i64 (by omega) (by omega) | rfl))) rfl ?_
          refine r_p (p_move rfl) rfl ?_
          refine r_nil ?_
          refine r_here (i + 1, v2) ⟨by dsimp only; omega, by dsimp only; omega⟩ rfl (by dsimp only; rw [bYs_take hst, bY_eq]; simp only [fst_assoc]; rfl) rfl
  · (try simp only [decide_eq_true_eq, decide_eq_false_iff_not, Bool.and_eq_true, Bool.or_eq_true, Bool.and_eq_false_iff, Bool.or_eq_false_iff, Bool.not_eq_true, Bool.not_eq_false, Bool.not_eq_true', Bool.not_eq_false', Bool.not_not, bne_iff_ne, beq_iff_eq] at h1)
    have hi : i = l.length := by omega
    subst hi
    rw [List.take_length]
    refine r_exit ?_
    refine r_end vx trivial rfl rs0 rfl [0, 1] [] rfl rfl rfl
theorem cblock_all (c : Nat) (vp : SV) (nd va : Int) (dp : Bool) (fs : List Tf) (hfl : fs.length ≤ 1000000) : ∀ (n : Nat) (v : SV) (l : List Ty), SizeOf.sizeOf l < n → l.length ≤ 1000000 → GYs l → (∀ (vn : SV) (ns : List ByteArray) (er : Int), ns.length + vYs l ≤ 1000000 → Spec Try.prog 84 [.pointer (some ⟨c, 0, none⟩), sv v] [row c 109 (cR vp vn nd va dp er), own 9 1 eS (sv vn) ns] [tysA v l, tfsA vp fs] (X := SV) (fun _ => True) (fun _ => .tuple #[]) (fun x => [row c 109 (cR vp x nd va dp (fst er (bYs fs ns l).2)), own 9 1 eS (sv x) (bYs fs ns l).1]) (fun _ => []))
  | 0, _, _, h, _, _ => absurd h (Nat.not_lt_zero _)
  | n + 1, v, l, h, hl, hg => fun vn ns er hnv => by
    have key : ∀ u ∈ l, SizeOf.sizeOf u.body < n ∧ SizeOf.sizeOf u.els < n := fun u hu => by
      have h1 := List.sizeOf_lt_of_mem hu
      have h2 : SizeOf.sizeOf u.body < SizeOf.sizeOf u ∧ SizeOf.sizeOf u.els < SizeOf.sizeOf u := by
        cases u
        simp only [Ty.mk.sizeOf_spec, Ty.body, Ty.els]
        omega
      omega
    exact cblock_step c vp vn nd va dp fs hfl v l hl hg (fun u hu => cblock_all c vp nd va dp fs hfl n u.vb u.body (key u hu).1 (GY_body (hg.mem u hu)).1 (GY_body (hg.mem u hu)).2) (fun u hu => cblock_all c vp nd va dp fs hfl n u.vl u.els (key u hu).2 (GY_els (hg.mem u hu)).1 (GY_els (hg.mem u hu)).2) ns er hnv
theorem cblock_spec (c : Nat) (vp : SV) (nd va : Int) (dp : Bool) (fs : List Tf) (hfl : fs.length ≤ 1000000) (v : SV) (l : List Ty) (hl : l.length ≤ 1000000) (hg : GYs l) : (∀ (vn : SV) (ns : List ByteArray) (er : Int), ns.length + vYs l ≤ 1000000 → Spec Try.prog 84 [.pointer (some ⟨c, 0, none⟩), sv v] [row c 109 (cR vp vn nd va dp er), own 9 1 eS (sv vn) ns] [tysA v l, tfsA vp fs] (X := SV) (fun _ => True) (fun _ => .tuple #[]) (fun x => [row c 109 (cR vp x nd va dp (fst er (bYs fs ns l).2)), own 9 1 eS (sv x) (bYs fs ns l).1]) (fun _ => [])) := cblock_all c vp nd va dp fs hfl _ v l (Nat.lt_succ_self _) hl hg

end Go.Proofs.Ytdcbbkpdlcojfaa
