/-
  The checker: errors and names. Condition: lists are not longer than a million.
-/
import Derived.Test.YtdcbbkpdlcojfaaAQ
namespace Go.Proofs.Ytdcbbkpdlcojfaa
set_option linter.unusedSimpArgs false
set_option linter.unusedVariables false
open Go.RowKit

/-- The checker's cells. -/
def cR (vp vn : SV) (nd va : Int) (dp : Bool) (er : Int) : List Value := [sv vp, sv vn, .int .i64 nd, .int .i64 va, .bool dp, .int .i64 er]
theorem take_snoc {α : Type} {l : List α} {i : Nat} {k : α} (h : l[i]? = some k) : l.take (i + 1) = l.take i ++ [k] := by
  obtain ⟨hi, hk⟩ := List.getElem?_eq_some_iff.1 h
  rw [List.take_add_one, List.getElem?_eq_getElem hi, hk]
  rfl
theorem nXs_app : ∀ (a b : List Tx), nXs (a ++ b) = nXs a + nXs b
  | [], b => by simp [nXs]
  | t :: r, b => by simp [nXs, nXs_app r b, Nat.add_assoc]
theorem dXs_app : ∀ (a b : List Tx), dXs (a ++ b) = max (dXs a) (dXs b)
  | [], b => by simp [dXs]
  | t :: r, b => by simp [dXs, dXs_app r b, Nat.max_assoc]
theorem nYs_app : ∀ (a b : List Ty), nYs (a ++ b) = nYs a + nYs b
  | [], b => by simp [nYs]
  | t :: r, b => by simp [nYs, nYs_app r b, Nat.add_assoc]
theorem vYs_app : ∀ (a b : List Ty), vYs (a ++ b) = vYs a + vYs b
  | [], b => by simp [vYs]
  | t :: r, b => by simp [vYs, vYs_app r b, Nat.add_assoc]
theorem dpYs_app (d : Nat) : ∀ (a b : List Ty), dpYs d (a ++ b) = (dpYs d a || dpYs d b)
  | [], b => by simp [dpYs]
  | t :: r, b => by simp [dpYs, dpYs_app d r b, Bool.or_assoc]
theorem nXs_one (t : Tx) : nXs [t] = nX t := by simp [nXs]
theorem dXs_one (t : Tx) : dXs [t] = dX t := by simp [dXs]
theorem nYs_one (t : Ty) : nYs [t] = nY t := by simp [nYs]
theorem vYs_one (t : Ty) : vYs [t] = vY t := by simp [vYs]
theorem dpYs_one (d : Nat) (t : Ty) : dpYs d [t] = dpY d t := by simp [dpYs]
theorem nX_eq (t : Tx) : nX t = nXs t.kids + 1 := by cases t; rfl
theorem dX_eq (t : Tx) : dX t = dXs t.kids + 1 := by cases t; rfl
theorem nY_eq (t : Ty) : nY t = 1 + nXs t.es + nYs t.body + nYs t.els := by cases t; rfl
theorem vY_eq (t : Ty) : vY t = (if t.kind = 1 then 1 else 0) + vYs t.body + vYs t.els := by cases t; rfl
theorem dpY_eq (d : Nat) (t : Ty) : dpY d t = (decide (d > 8) || decide (dXs t.es > 8) || dpYs (d + 1) t.body || dpYs (d + 1) t.els) := by cases t; rfl
theorem nXs_take {l : List Tx} {i : Nat} {k : Tx} (h : l[i]? = some k) : nXs (l.take (i + 1)) = nXs (l.take i) + nX k := by rw [take_snoc h, nXs_app, nXs_one]
theorem dXs_take {l : List Tx} {i : Nat} {k : Tx} (h : l[i]? = some k) : dXs (l.take (i + 1)) = max (dXs (l.take i)) (dX k) := by rw [take_snoc h, dXs_app, dXs_one]
theorem nXs_le : ∀ (l : List Tx) (i : Nat), nXs (l.take i) ≤ nXs l := fun l i => by
  have h := nXs_app (l.take i) (l.drop i)
  rw [List.take_append_drop] at h
  omega
theorem nYs_le : ∀ (l : List Ty) (i : Nat), nYs (l.take i) ≤ nYs l := fun l i => by
  have h := nYs_app (l.take i) (l.drop i)
  rw [List.take_append_drop] at h
  omega
theorem nYs_take {l : List Ty} {i : Nat} {k : Ty} (h : l[i]? = some k) : nYs (l.take (i + 1)) = nYs (l.take i) + nY k := by rw [take_snoc h, nYs_app, nYs_one]
theorem vYs_take {l : List Ty} {i : Nat} {k : Ty} (h : l[i]? = some k) : vYs (l.take (i + 1)) = vYs (l.take i) + vY k := by rw [take_snoc h, vYs_app, vYs_one]
theorem dpYs_take {d : Nat} {l : List Ty} {i : Nat} {k : Ty} (h : l[i]? = some k) : dpYs d (l.take (i + 1)) = (dpYs d (l.take i) || dpY d k) := by rw [take_snoc h, dpYs_app, dpYs_one]
mutual
theorem dX_le : ∀ t : Tx, dX t ≤ nX t
  | .mk _ _ _ _ kids => by
    have := dXs_le kids
    rw [dX, nX]
    omega
theorem dXs_le : ∀ l : List Tx, dXs l ≤ nXs l
  | [] => Nat.le_refl _
  | t :: r => by
    have h1 := dX_le t
    have h2 := dXs_le r
    rw [dXs, nXs]
    omega
end
mutual
theorem vY_le : ∀ t : Ty, vY t ≤ nY t
  | .mk k _ _ _ _ body _ els => by
    have h1 := vYs_le body
    have h2 := vYs_le els
    rw [vY, nY]
    split <;> omega
theorem vYs_le : ∀ l : List Ty, vYs l ≤ nYs l
  | [] => Nat.le_refl _
  | t :: r => by
    have h1 := vY_le t
    have h2 := vYs_le r
    rw [vYs, nYs]
    omega
end
theorem cast_max (a b : Nat) : ((max a b : Nat) : Int) = max (a : Int) (b : Int) := by omega
theorem dec_max {a b : Nat} : (decide (a > 8) || decide (b > 8)) = decide (max a b > 8) := by
  by_cases h : a > 8
  · have : max a b > 8 := by omega
    simp [h, this]
  · by_cases h2 : b > 8
    · have : max a b > 8 := by omega
      simp [h2, this]
    · have : ¬ max a b > 8 := by omega
      simp [h, h2, this]
set_option maxRecDepth 100000 in
theorem cfail_spec (c : Nat) (vp vn : SV) (nd va : Int) (dp : Bool) (er : Int) (e : Int) :
    Spec Try.prog 82 [.pointer (some ⟨c, 0, none⟩), .int .i64 e] [row c 109 (cR vp vn nd va dp er)] [] (X := Unit) (fun _ => True) (fun _ => .tuple #[]) (fun _ => [row c 109 (cR vp vn nd va dp (fst er e))]) (fun _ => []) := by
  refine r_enter Try.func82 rfl Try.ntmps82 rfl fun w0 M H => ?_
  refine r_seq ?_
  refine r_region ?_
  refine r_p (p_move rfl) rfl ?_
  refine r_p (p_nilCheck rfl) rfl ?_
  refine r_p (p_field0 fo109_5 rfl) rfl ?_
  refine r_p (p_load1 t43 rfl rfl (g_row1 (k := 0) rfl rfl)) rfl ?_
  refine r_p (p_bin rfl rfl b_eq) rfl ?_
  refine r_nil ?_
  refine r_cond rfl (fun h1 => ?_) (fun h1 => ?_)
  · have h0 : er = 0 := of_decide_eq_true h1
    have hfs : fst er e = e := if_pos h0
    refine r_region ?_
    refine r_p (p_move rfl) rfl ?_
    refine r_p (p_move rfl) rfl ?_
    refine r_p (p_nilCheck rfl) rfl ?_
    refine r_p (p_field0 fo109_5 rfl) rfl ?_
    refine r_store_row (k := 0) t43 rfl rfl rfl rfl rfl rfl rfl rfl ?_
    refine r_nil ?_
    rw [hfs]
    refine r_end () trivial rfl rs0 rfl [0] [] rfl rfl rfl
  · have h0 : ¬ er = 0 := of_decide_eq_false h1
    have hfs : fst er e = er := if_neg h0
    refine r_skip ?_
    rw [hfs]
    refine r_end () trivial rfl rs0 rfl [0] [] rfl rfl rfl
theorem fst_if (er z : Int) (b : Bool) (h : b = true) : fst er (if b = true then z else 0) = fst er z := by rw [if_pos h]
theorem fst_ifn (er z : Int) (b : Bool) (h : b = false) : fst er (if b = true then z else 0) = er := by rw [if_neg (by rw [h]; simp), fst_zero]
theorem fst_if' (er z : Int) (b : Bool) (h : b = true) : fst er (if b = true then 0 else z) = er := by rw [if_pos h, fst_zero]
theorem fst_ifn' (er z : Int) (b : Bool) (h : b = false) : fst er (if b = true then 0 else z) = fst er z := by rw [if_neg (by rw [h]; simp)]
set_option maxRecDepth 100000 in
theorem cvar_spec (c : Nat) (vp vn : SV) (nd va : Int) (dp : Bool) (er : Int) (ns : List ByteArray) (hn : ns.length ≤ 1000000) (s : ByteArray) :
    Spec Try.prog 97 [.pointer (some ⟨c, 0, none⟩), .string s] [row c 109 (cR vp vn nd va dp er), own 9 1 eS (sv vn) ns] [] (X := Unit) (fun _ => True) (fun _ => .tuple #[]) (fun _ => [row c 109 (cR vp vn nd va dp (fst er (if memB s ns = true then 0 else 21))), own 9 1 eS (sv vn) ns]) (fun _ => []) := by
  refine r_enter Try.func97 rfl Try.ntmps97 rfl fun w0 M H => ?_
  refine r_seq ?_
  refine r_region ?_
  refine r_p (p_move rfl) rfl ?_
  refine r_p (p_nilCheck rfl) rfl ?_
  refine r_p (p_field0 fo109_1 rfl) rfl ?_
  refine r_p (p_load1 t62 rfl rfl (g_row1 (k := 0) rfl rfl)) rfl ?_
  refine r_p (p_move rfl) rfl ?_
  refine r_call (xs := [.tmp 7, .tmp 8]) (Spec.ro1 (contains_spec vn ns (by omega) s) own_to_sl) cb87 [] [(true, 1)] [] [] rfl rfl rfl rfl rfl rfl rfl rfl (fun _ _ => rfl) (fun _ _ _ => rfl) rfl (fun _ _ => ?_)
  refine r_p (p_not rfl) rfl ?_
  refine r_nil ?_
  refine r_cond rfl (fun h1 => ?_) (fun h1 => ?_)
  · have h0 : memB s ns = false := by simpa using h1
    rw [fst_ifn' _ _ _ h0]
    refine r_region ?_
    refine r_p (p_move rfl) rfl ?_
    refine r_call (xs := [.tmp 11, .const (.int .i64 21)]) (cfail_spec c vp vn nd va dp er 21) cb82 [0] [] [0] [] rfl rfl rfl rfl rfl rfl rfl rfl (fun _ _ => rfl) (fun _ _ _ => rfl) rfl (fun _ _ => ?_)
    refine r_nil ?_
    refine r_end () trivial rfl rs0 rfl [0, 1] [] rfl rfl rfl
  · have h0 : memB s ns = true := by simpa using h1
    rw [fst_if' _ _ _ h0]
    refine r_skip ?_
    refine r_end () trivial rfl rs0 rfl [0, 1] [] rfl rfl rfl
set_option maxHeartbeats 1000000 in
set_option maxRecDepth 100000 in
theorem cdecl_spec (c : Nat) (vp vn : SV) (nd va : Int) (dp : Bool) (er : Int) (ns : List ByteArray) (hn : ns.length ≤ 1000000) (s : ByteArray) :
    Spec Try.prog 83 [.pointer (some ⟨c, 0, none⟩), .string s] [row c 109 (cR vp vn nd va dp er), own 9 1 eS (sv vn) ns] [] (X := SV) (fun _ => True) (fun _ => .tuple #[]) (fun v => [row c 109 (cR vp v nd va dp (fst er (if memB s ns = true then 22 else 0))), own 9 1 eS (sv v) (ns ++ [s])]) (fun _ => []) := by
  refine r_enter Try.func83 rfl Try.ntmps83 rfl fun w0 M H => ?_
  refine r_seq_cut (X := Unit) (fun _ => True) (fun _ => [(0, .pointer (some ⟨c, 0, none⟩)), (1, .string s)]) (fun _ => [(0, row c 109 (cR vp vn nd va dp (fst er (if memB s ns = true then 22 else 0)))), (1, own 9 1 eS (sv vn) ns)]) (fun _ => []) ?_ (fun _ _ => ?_)
  · refine r_seq ?_
    refine r_region ?_
    refine r_p (p_move rfl) rfl ?_
    refine r_p (p_nilCheck rfl) rfl ?_
    refine r_p (p_field0 fo109_1 rfl) rfl ?_
    refine r_p (p_load1 t62 rfl rfl (g_row1 (k := 0) rfl rfl)) rfl ?_
    refine r_p (p_move rfl) rfl ?_
    refine r_call (xs := [.tmp 7, .tmp 8]) (Spec.ro1 (contains_spec vn ns (by omega) s) own_to_sl) cb87 [] [(true, 1)] [] [] rfl rfl rfl rfl rfl rfl rfl rfl (fun _ _ => rfl) (fun _ _ _ => rfl) rfl (fun _ _ => ?_)
    refine r_nil ?_
    refine r_cond rfl (fun h1 => ?_) (fun h1 => ?_)
    · have h0 : memB s ns = true := h1
      rw [fst_if _ _ _ h0]
      refine r_region ?_
      refine r_p (p_move rfl) rfl ?_
      refine r_call (xs := [.tmp 10, .const (.int .i64 22)]) (cfail_spec c vp vn nd va dp er 22) cb82 [0] [] [0] [] rfl rfl rfl rfl rfl rfl rfl rfl (fun _ _ => rfl) (fun _ _ _ => rfl) rfl (fun _ _ => ?_)
      refine r_nil ?_
      refine r_here () trivial rfl rfl rfl
    · have h0 : memB s ns = false := h1
      rw [fst_ifn _ _ _ h0]
      refine r_skip ?_
      refine r_here () trivial rfl rfl rfl
  · refine r_region ?_
    refine r_p (p_move rfl) rfl ?_
    refine r_p (p_move rfl) rfl ?_
    refine r_p (p_nilCheck rfl) rfl ?_
    refine r_p (p_field0 fo109_1 rfl) rfl ?_
    refine r_p (p_load1 t62 rfl rfl (g_row1 (k := 0) rfl rfl)) rfl ?_
    refine r_p (p_move rfl) rfl ?_
    refine r_bslice1 eS _ Try.underlying62 t9 rfl (by decide) (by decide) rfl rfl rfl rfl fun v18 => ?_
    refine r_append 1 Try.underlying62 t9 rfl (by decide) (fun _ => rfl) (fun _ => rfl) rfl rfl rfl (hs_own (k := 18) rfl) (by first | omega | (simp; done) | (simp; omega)) (by unfold maxLen; first | omega | (simp; done) | (simp; omega)) rfl fun v19 => ?_
    refine r_p (p_nilCheck rfl) rfl ?_
    refine r_p (p_field0 fo109_1 rfl) rfl ?_
    refine r_store_row (k := 0) t62 rfl rfl rfl rfl rfl rfl rfl rfl ?_
    refine r_nil ?_
    refine r_end v19 trivial rfl rs0 rfl [0, 1] [] rfl rfl rfl
set_option maxRecDepth 100000 in
theorem find1_spec (f : Tf) (b : Nat) (s : ByteArray) :
    Spec Try.prog 80 [tfV f, .pointer (some ⟨b, 0, none⟩)] [] [row b 9 [.string s]] (X := Unit) (fun _ => True) (fun _ => .bool (decide (f.name = s))) (fun _ => []) (fun _ => []) := by
  refine r_enter Try.func80 rfl Try.ntmps80 rfl fun w0 M H => ?_
  refine r_seq ?_
  refine r_region ?_
  refine r_boxA rfl rfl fun b2 => ?_
  refine r_p (p_assign rfl) rfl ?_
  refine r_nil ?_
  refine r_seq ?_
  refine r_region ?_
  refine r_p (p_field0 fo64_0 rfl) rfl ?_
  refine r_p (p_load1 t9 rfl rfl (g_row1 (k := 2) rfl rfl)) rfl ?_
  refine r_p (p_load1 t9 rfl rfl (g_row1R (k := 0) rfl rfl)) rfl ?_
  refine r_p (p_bin rfl rfl b_seq) rfl ?_
  refine r_p (p_assign rfl) rfl ?_
  refine r_nil ?_
  refine r_cret ?_
  refine r_ret () trivial rfl (rs1 (rv_tmp rfl)) (congrArg Value.bool (ba_eq _ _)) [] [] rfl rfl rfl
set_option maxRecDepth 100000 in
theorem cfind_spec (c : Nat) (vp vn : SV) (nd va : Int) (dp : Bool) (er : Int) (s : ByteArray) (fs : List Tf) (hf : fs.length ≤ 1000000) :
    Spec Try.prog 67 [.pointer (some ⟨c, 0, none⟩), .string s] [row c 109 (cR vp vn nd va dp er)] [sl 3 eTf (sv vp) fs] (X := Unit) (fun _ => True) (fun _ => .int .i64 (fix fs s)) (fun _ => [row c 109 (cR vp vn nd va dp er)]) (fun _ => []) := by
  refine r_enter Try.func67 rfl Try.ntmps67 rfl fun w0 M H => ?_
  refine r_seq ?_
  refine r_region ?_
  refine r_box1 rfl rfl rfl fun b3 => ?_
  refine r_p (p_assign rfl) rfl ?_
  refine r_nil ?_
  refine r_seq ?_
  refine r_region ?_
  refine r_p (p_move rfl) rfl ?_
  refine r_p (p_nilCheck rfl) rfl ?_
  refine r_p (p_field0 fo109_0 rfl) rfl ?_
  refine r_p (p_field0 fo40_0 rfl) rfl ?_
  refine r_p (p_load1 t38 rfl rfl (g_row1 (k := 0) rfl rfl)) rfl ?_
  refine r_p (p_makeFunc (first := []) (cap := [.tmp 3]) rfl rfl) rfl ?_
  refine r_call (xs := [.tmp 9, .tmp 10]) (ixf_spec vp fs hf 80 [.pointer (some ⟨b3, 0, none⟩)] (row b3 9 [.string s]) (fun f => decide (f.name = s)) cb80 (fun f _ => find1_spec f b3 s)) cb79 [] [(false, 0), (true, 3)] [] [] rfl rfl rfl rfl rfl rfl rfl rfl (fun _ _ => rfl) (fun _ _ _ => rfl) rfl (fun _ _ => ?_)
  refine r_p (p_assign rfl) rfl ?_
  refine r_nil ?_
  refine r_cret ?_
  refine r_ret () trivial rfl (rs1 (rv_tmp rfl)) rfl [0] [] rfl rfl rfl
set_option maxHeartbeats 2000000 in
set_option maxRecDepth 100000 in
theorem meas_step (c : Nat) (vp vn : SV) (va er : Int) (t : Tx) (ht : GX t) (ih : ∀ u ∈ t.kids, ∀ (nd : Int) (dp : Bool), 0 ≤ nd → nd + (nX u : Int) ≤ 1000000000000 → Spec Try.prog 96 [.pointer (some ⟨c, 0, none⟩), xV u] [row c 109 (cR vp vn nd va dp er)] [txsA u.v u.kids] (X := Unit) (fun _ => True) (fun _ => .int .i64 (dX u : Int)) (fun _ => [row c 109 (cR vp vn (nd + (nX u : Int)) va (dp || decide (dX u > 8)) er)]) (fun _ => [])) (nd : Int) (dp : Bool) (h0 : 0 ≤ nd) (hn : nd + (nX t : Int) ≤ 1000000000000) :
    Spec Try.prog 96 [.pointer (some ⟨c, 0, none⟩), xV t] [row c 109 (cR vp vn nd va dp er)] [txsA t.v t.kids] (X := Unit) (fun _ => True) (fun _ => .int .i64 (dX t : Int)) (fun _ => [row c 109 (cR vp vn (nd + (nX t : Int)) va (dp || decide (dX t > 8)) er)]) (fun _ => []) := by
  refine r_enter Try.func96 rfl Try.ntmps96 rfl fun w0 M H => ?_
  have hkl := GX_len ht
  have hnx := nX_eq t
  have hdx := dX_eq t
  have hdn := dX_le t
  refine r_more 0 1 rfl txs_sl ?_
  refine r_seq ?_
  refine r_region ?_
  refine r_boxA rfl rfl fun b3 => ?_
  refine r_p (p_assign rfl) rfl ?_
  refine r_nil ?_
  refine r_seq ?_
  refine r_region ?_
  refine r_p (p_move rfl) rfl ?_
  refine r_p (p_nilCheck rfl) rfl ?_
  refine r_p (p_field0 fo109_2 rfl) rfl ?_
  refine r_p (p_load1 t3 rfl rfl (g_row1 (k := 0) rfl rfl)) rfl ?_
  refine r_p (p_bin rfl rfl (b_add (by first | exact w_i64 (by omega) (by omega) | rfl))) rfl ?_
  refine r_p (p_nilCheck rfl) rfl ?_
  refine r_p (p_field0 fo109_2 rfl) rfl ?_
  refine r_store_row (k := 0) t3 rfl rfl rfl rfl rfl rfl rfl rfl ?_
  refine r_nil ?_
  refine r_seq ?_
  refine r_region ?_
  refine r_p (p_assign rfl) rfl ?_
  refine r_nil ?_
  refine r_seq ?_
  refine r_seq ?_
  refine r_region ?_
  refine r_p (p_field0 fo57_3 rfl) rfl ?_
  refine r_p (p_load1 t51 rfl rfl (g_row1 (k := 3) rfl rfl)) rfl ?_
  refine r_p (p_len_sl Try.underlying51 rfl (hs_sl (k := 1) rfl)) rfl ?_
  refine r_p (p_move rfl) rfl ?_
  refine r_nil ?_
  refine r_block ?_
  refine r_loop (X := Nat) (fun i => i ≤ t.kids.length) (fun i => [(0, .pointer (some ⟨c, 0, none⟩)), (3, .pointer (some ⟨b3, 0, none⟩)), (5, .int .i64 (dXs (t.kids.take i) : Int)), (16, sv t.v), (17, .int .i64 (t.kids.length : Int)), (18, .int .i64 (i : Int))]) (fun i => [(0, row c 109 (cR vp vn (nd + 1 + (nXs (t.kids.take i) : Int)) va (dp || decide (dXs (t.kids.take i) > 8)) er)), (3, row b3 57 (eTx t))]) (fun i => [(0, txsA t.v t.kids), (1, sl 4 eTx (sv t.v) t.kids)]) (fun i => t.kids.length - i) 0 (Nat.zero_le _) rfl (by rw [show (dp || decide (dXs (t.kids.take 0) > 8)) = dp by simp [dXs], show nd + 1 + (nXs (t.kids.take 0) : Int) = nd + 1 by simp [nXs]]; rfl) rfl (fun i n1 => ?_)
  refine r_seq ?_
  refine r_region ?_
  refine r_p (p_bin rfl rfl b_lt) rfl ?_
  refine r_nil ?_
  refine r_seq ?_
  refine r_cond rfl (fun h1 => ?_) (fun h1 => ?_)
  · (try simp only [decide_eq_true_eq, decide_eq_false_iff_not, Bool.and_eq_true, Bool.or_eq_true, Bool.and_eq_false_iff, Bool.or_eq_false_iff, Bool.not_eq_true, Bool.not_eq_false, Bool.not_eq_true', Bool.not_eq_false', Bool.not_not, bne_iff_ne, beq_iff_eq] at h1)
    have hi : i < t.kids.length := by omega
    obtain ⟨kid, hkid⟩ : ∃ k, t.kids[i]? = some k := ⟨_, List.getElem?_eq_getElem hi⟩
    have hkm := List.mem_of_getElem? hkid
    have hle := nXs_le t.kids (i + 1)
    rw [nXs_take hkid] at hle
    refine r_skip ?_
    refine r_seq ?_
    refine r_block ?_
    refine r_seq ?_
    refine r_region ?_
    refine r_p (p_idx_sl (j := i) Try.underlying51 t57 rfl rfl (hs_sl (k := 1) rfl) (by first | rfl | omega) (by first | omega | (simp; done) | (simp; omega))) rfl ?_
    refine r_p (p_loadA t57 rfl rfl rfl (g_el' (hs_sl (k := 1) rfl) (by intro _; rfl) hkid (by rfl))) rfl ?_
    refine r_alloc t57 rfl rfl fun b7 => ?_
    refine r_store_all (k := 7) t57 rfl rfl rfl rfl rfl rfl ?_
    refine r_nil ?_
    refine r_region ?_
    refine r_p (p_move rfl) rfl ?_
    refine r_p (p_move rfl) rfl ?_
    refine r_p (p_loadA t57 rfl rfl rfl (g_all (k := 7) rfl)) rfl ?_
    refine r_more 0 8 rfl (txs_kid hkm) ?_
    refine r_call (xs := [.tmp 23, .tmp 24]) (ih kid hkm (nd + 1 + (nXs (t.kids.take i) : Int)) (dp || decide (dXs (t.kids.take i) > 8)) (by omega) (by omega)) cb96 [0] [(false, 8)] [0] [] rfl rfl rfl rfl rfl rfl rfl rfl (fun _ _ => rfl) (fun _ _ _ => rfl) rfl (fun _ _ => ?_)
    refine r_p (p_max rfl rfl rfl) rfl ?_
    refine r_p (p_assign rfl) rfl ?_
    refine r_nil ?_
    refine r_region ?_
    refine r_p (p_bin rfl rfl (b_add (by first | exact w_i64 (by omega) (by omega) | rfl))) rfl ?_
    refine r_p (p_move rfl) rfl ?_
    refine r_nil ?_
    refine r_here (i + 1) ⟨by omega, by omega⟩ (by rw [dXs_take hkid, cast_max]; rfl) (by rw [dXs_take hkid, nXs_take hkid, ← dec_max, ← Bool.or_assoc, Int.natCast_add, ← Int.add_assoc]; rfl) rfl
  · (try simp only [decide_eq_true_eq, decide_eq_false_iff_not, Bool.and_eq_true, Bool.or_eq_true, Bool.and_eq_false_iff, Bool.or_eq_false_iff, Bool.not_eq_true, Bool.not_eq_false, Bool.not_eq_true', Bool.not_eq_false', Bool.not_not, bne_iff_ne, beq_iff_eq] at h1)
    have hi : i = t.kids.length := by omega
    subst hi
    rw [List.take_length]
    refine r_exit ?_
    refine r_seq ?_
    refine r_region ?_
    refine r_p (p_move rfl) rfl ?_
    refine r_p (p_move rfl) rfl ?_
    refine r_p (p_nilCheck rfl) rfl ?_
    refine r_p (p_field0 fo109_4 rfl) rfl ?_
    refine r_p (p_load1 t4 rfl rfl (g_row1 (k := 0) rfl rfl)) rfl ?_
    refine r_p (p_move rfl) rfl ?_
    refine r_gp [] rfl rfl trivial (fun hg2 => p_move rfl) rfl ?_
    refine r_gp [(34, _)] rfl rfl ⟨rfl, trivial⟩ (fun hg3 => p_bin rfl rfl (b_add (by first | exact w_i64 (by omega) (by omega) | rfl))) rfl ?_
    refine r_gp [(34, _), (35, _)] rfl rfl ⟨rfl, rfl, trivial⟩ (fun hg4 => p_bin rfl rfl b_gt) rfl ?_
    refine r_p (p_pick rfl rfl rfl (by first | exact pick_and | exact pick_or |  rfl)) rfl ?_
    refine r_p (p_nilCheck rfl) rfl ?_
    refine r_p (p_field0 fo109_4 rfl) rfl ?_
    refine r_store_row (k := 0) t4 rfl rfl rfl rfl rfl rfl rfl rfl ?_
    refine r_nil ?_
    refine r_seq ?_
    refine r_region ?_
    refine r_p (p_move rfl) rfl ?_
    refine r_p (p_bin rfl rfl (b_add (by first | exact w_i64 (by omega) (by omega) | rfl))) rfl ?_
    refine r_p (p_assign rfl) rfl ?_
    refine r_nil ?_
    refine r_cret ?_
    have hfin : cR vp vn (nd + 1 + (nXs t.kids : Int)) va (dp || decide (dXs t.kids > 8) || decide ((dXs t.kids : Int) + 1 > 8)) er = cR vp vn (nd + (nX t : Int)) va (dp || decide (dX t > 8)) er := by
      rw [hnx, hdx]
      have e1 : nd + 1 + (nXs t.kids : Int) = nd + ((nXs t.kids + 1 : Nat) : Int) := by omega
      have e2 : (dp || decide (dXs t.kids > 8) || decide ((dXs t.kids : Int) + 1 > 8)) = (dp || decide (dXs t.kids + 1 > 8)) := by
        rw [Bool.or_assoc]
        congr 1
        by_cases h : dXs t.kids + 1 > 8
        · have h2 : (dXs t.kids : Int) + 1 > 8 := by omega
          simp [h, h2]
        · have h2 : ¬ (dXs t.kids : Int) + 1 > 8 := by omega
          have h3 : ¬ dXs t.kids > 8 := by omega
          simp [h, h2, h3]
      rw [e1, e2]
    rw [← hfin]
    refine r_ret () trivial rfl (rs1 (rv_tmp rfl)) (by rw [hdx]; rfl) [0] [] rfl rfl rfl
theorem meas_all (c : Nat) (vp vn : SV) (va er : Int) : ∀ (n : Nat) (t : Tx), SizeOf.sizeOf t < n → GX t → ∀ (nd : Int) (dp : Bool), 0 ≤ nd → nd + (nX t : Int) ≤ 1000000000000 → Spec Try.prog 96 [.pointer (some ⟨c, 0, none⟩), xV t] [row c 109 (cR vp vn nd va dp er)] [txsA t.v t.kids] (X := Unit) (fun _ => True) (fun _ => .int .i64 (dX t : Int)) (fun _ => [row c 109 (cR vp vn (nd + (nX t : Int)) va (dp || decide (dX t > 8)) er)]) (fun _ => [])
  | 0, _, h, _ => absurd h (Nat.not_lt_zero _)
  | n + 1, t, h, ht => fun nd dp h0 hn => meas_step c vp vn va er t ht (fun u hu => meas_all c vp vn va er n u (by have := tx_lt hu; omega) ((GX_kids ht).mem u hu)) nd dp h0 hn
theorem meas_spec (c : Nat) (vp vn : SV) (va er : Int) (t : Tx) (ht : GX t) (nd : Int) (dp : Bool) (h0 : 0 ≤ nd) (hn : nd + (nX t : Int) ≤ 1000000000000) : Spec Try.prog 96 [.pointer (some ⟨c, 0, none⟩), xV t] [row c 109 (cR vp vn nd va dp er)] [txsA t.v t.kids] (X := Unit) (fun _ => True) (fun _ => .int .i64 (dX t : Int)) (fun _ => [row c 109 (cR vp vn (nd + (nX t : Int)) va (dp || decide (dX t > 8)) er)]) (fun _ => []) := meas_all c vp vn va er _ t (Nat.lt_succ_self _) ht nd dp h0 hn

end Go.Proofs.Ytdcbbkpdlcojfaa
