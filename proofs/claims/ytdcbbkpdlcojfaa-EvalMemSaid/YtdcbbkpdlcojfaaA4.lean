/-
  The operators by their names. Condition: the operands are words.
-/
import Derived.Test.YtdcbbkpdlcojfaaA3
namespace Go.Proofs.Ytdcbbkpdlcojfaa
set_option linter.unusedSimpArgs false
set_option linter.unusedVariables false
open Go.RowKit

theorem keyS : KeyLaw Try.prog 9 mkS := key_str Try.underlying9
def vF (p : ByteArray × Nat) : Value := .func (.func p.2) #[] #[]
/-- The operators, with their functions. -/
def uL : List (ByteArray × Nat) := [(oNot, 44), (oCom, 43), (oSub, 42)]
def bL : List (ByteArray × Nat) := [(oNe, 62), (oEq, 61), (oGe, 60), (oGt, 59), (oLe, 58), (oLt, 57), (oShr, 56), (oShl, 55), (oXor, 54), (oOr, 53), (oAnd, 52), (oRem, 51), (oQuo, 49), (oMul, 48), (oSub, 47), (oAdd, 46)]
set_option maxRecDepth 100000 in
theorem unaries_spec  :
    Spec Try.prog 31 [] [] [] (X := Nat) (fun _ => True) (fun b => .map (some b)) (fun b => [mp mkS Prod.fst vF (some b) uL]) (fun _ => []) := by
  refine r_enter Try.func31 rfl Try.ntmps31 rfl fun w0 M H => ?_
  refine r_seq ?_
  refine r_region ?_
  refine r_p (p_assign rfl) rfl ?_
  refine r_nil ?_
  refine r_seq ?_
  refine r_region ?_
  refine r_makeMap (Prod.fst : ByteArray × Nat → ByteArray) mkS vF rfl fun b1 => ?_
  refine r_insert (k := 1) (α := ByteArray × Nat) (kf := Prod.fst) (vf := vF) (oSub, 42) [(oSub, 42)] Try.underlying76 keyS rfl rfl rfl rfl (List.Perm.of_eq rfl) ?_
  refine r_insert (k := 1) (α := ByteArray × Nat) (kf := Prod.fst) (vf := vF) (oCom, 43) [(oCom, 43), (oSub, 42)] Try.underlying76 keyS rfl rfl rfl rfl (List.Perm.of_eq rfl) ?_
  refine r_insert (k := 1) (α := ByteArray × Nat) (kf := Prod.fst) (vf := vF) (oNot, 44) [(oNot, 44), (oCom, 43), (oSub, 42)] Try.underlying76 keyS rfl rfl rfl rfl (List.Perm.of_eq rfl) ?_
  refine r_p (p_move rfl) rfl ?_
  refine r_p (p_assign rfl) rfl ?_
  refine r_nil ?_
  refine r_cret ?_
  refine r_ret b1 trivial rfl (rs1 (rv_tmp rfl)) rfl [1] [] rfl rfl rfl
set_option maxHeartbeats 1000000 in
set_option maxRecDepth 100000 in
theorem binaries_spec  :
    Spec Try.prog 32 [] [] [] (X := Nat) (fun _ => True) (fun b => .map (some b)) (fun b => [mp mkS Prod.fst vF (some b) bL]) (fun _ => []) := by
  refine r_enter Try.func32 rfl Try.ntmps32 rfl fun w0 M H => ?_
  refine r_seq ?_
  refine r_region ?_
  refine r_p (p_assign rfl) rfl ?_
  refine r_nil ?_
  refine r_seq ?_
  refine r_region ?_
  refine r_makeMap (Prod.fst : ByteArray × Nat → ByteArray) mkS vF rfl fun b1 => ?_
  refine r_insert (k := 1) (α := ByteArray × Nat) (kf := Prod.fst) (vf := vF) (oAdd, 46) [(oAdd, 46)] Try.underlying80 keyS rfl rfl rfl rfl (List.Perm.of_eq rfl) ?_
  refine r_insert (k := 1) (α := ByteArray × Nat) (kf := Prod.fst) (vf := vF) (oSub, 47) [(oSub, 47), (oAdd, 46)] Try.underlying80 keyS rfl rfl rfl rfl (List.Perm.of_eq rfl) ?_
  refine r_insert (k := 1) (α := ByteArray × Nat) (kf := Prod.fst) (vf := vF) (oMul, 48) [(oMul, 48), (oSub, 47), (oAdd, 46)] Try.underlying80 keyS rfl rfl rfl rfl (List.Perm.of_eq rfl) ?_
  refine r_insert (k := 1) (α := ByteArray × Nat) (kf := Prod.fst) (vf := vF) (oQuo, 49) [(oQuo, 49), (oMul, 48), (oSub, 47), (oAdd, 46)] Try.underlying80 keyS rfl rfl rfl rfl (List.Perm.of_eq rfl) ?_
  refine r_insert (k := 1) (α := ByteArray × Nat) (kf := Prod.fst) (vf := vF) (oRem, 51) [(oRem, 51), (oQuo, 49), (oMul, 48), (oSub, 47), (oAdd, 46)] Try.underlying80 keyS rfl rfl rfl rfl (List.Perm.of_eq rfl) ?_
  refine r_insert (k := 1) (α := ByteArray × Nat) (kf := Prod.fst) (vf := vF) (oAnd, 52) [(oAnd, 52), (oRem, 51), (oQuo, 49), (oMul, 48), (oSub, 47), (oAdd, 46)] Try.underlying80 keyS rfl rfl rfl rfl (List.Perm.of_eq rfl) ?_
  refine r_insert (k := 1) (α := ByteArray × Nat) (kf := Prod.fst) (vf := vF) (oOr, 53) [(oOr, 53), (oAnd, 52), (oRem, 51), (oQuo, 49), (oMul, 48), (oSub, 47), (oAdd, 46)] Try.underlying80 keyS rfl rfl rfl rfl (List.Perm.of_eq rfl) ?_
  refine r_insert (k := 1) (α := ByteArray × Nat) (kf := Prod.fst) (vf := vF) (oXor, 54) [(oXor, 54), (oOr, 53), (oAnd, 52), (oRem, 51), (oQuo, 49), (oMul, 48), (oSub, 47), (oAdd, 46)] Try.underlying80 keyS rfl rfl rfl rfl (List.Perm.of_eq rfl) ?_
  refine r_insert (k := 1) (α := ByteArray × Nat) (kf := Prod.fst) (vf := vF) (oShl, 55) [(oShl, 55), (oXor, 54), (oOr, 53), (oAnd, 52), (oRem, 51), (oQuo, 49), (oMul, 48), (oSub, 47), (oAdd, 46)] Try.underlying80 keyS rfl rfl rfl rfl (List.Perm.of_eq rfl) ?_
  refine r_insert (k := 1) (α := ByteArray × Nat) (kf := Prod.fst) (vf := vF) (oShr, 56) [(oShr, 56), (oShl, 55), (oXor, 54), (oOr, 53), (oAnd, 52), (oRem, 51), (oQuo, 49), (oMul, 48), (oSub, 47), (oAdd, 46)] Try.underlying80 keyS rfl rfl rfl rfl (List.Perm.of_eq rfl) ?_
  refine r_insert (k := 1) (α := ByteArray × Nat) (kf := Prod.fst) (vf := vF) (oLt, 57) [(oLt, 57), (oShr, 56), (oShl, 55), (oXor, 54), (oOr, 53), (oAnd, 52), (oRem, 51), (oQuo, 49), (oMul, 48), (oSub, 47), (oAdd, 46)] Try.underlying80 keyS rfl rfl rfl rfl (List.Perm.of_eq rfl) ?_
  refine r_insert (k := 1) (α := ByteArray × Nat) (kf := Prod.fst) (vf := vF) (oLe, 58) [(oLe, 58), (oLt, 57), (oShr, 56), (oShl, 55), (oXor, 54), (oOr, 53), (oAnd, 52), (oRem, 51), (oQuo, 49), (oMul, 48), (oSub, 47), (oAdd, 46)] Try.underlying80 keyS rfl rfl rfl rfl (List.Perm.of_eq rfl) ?_
  refine r_insert (k := 1) (α := ByteArray × Nat) (kf := Prod.fst) (vf := vF) (oGt, 59) [(oGt, 59), (oLe, 58), (oLt, 57), (oShr, 56), (oShl, 55), (oXor, 54), (oOr, 53), (oAnd, 52), (oRem, 51), (oQuo, 49), (oMul, 48), (oSub, 47), (oAdd, 46)] Try.underlying80 keyS rfl rfl rfl rfl (List.Perm.of_eq rfl) ?_
  refine r_insert (k := 1) (α := ByteArray × Nat) (kf := Prod.fst) (vf := vF) (oGe, 60) [(oGe, 60), (oGt, 59), (oLe, 58), (oLt, 57), (oShr, 56), (oShl, 55), (oXor, 54), (oOr, 53), (oAnd, 52), (oRem, 51), (oQuo, 49), (oMul, 48), (oSub, 47), (oAdd, 46)] Try.underlying80 keyS rfl rfl rfl rfl (List.Perm.of_eq rfl) ?_
  refine r_insert (k := 1) (α := ByteArray × Nat) (kf := Prod.fst) (vf := vF) (oEq, 61) [(oEq, 61), (oGe, 60), (oGt, 59), (oLe, 58), (oLt, 57), (oShr, 56), (oShl, 55), (oXor, 54), (oOr, 53), (oAnd, 52), (oRem, 51), (oQuo, 49), (oMul, 48), (oSub, 47), (oAdd, 46)] Try.underlying80 keyS rfl rfl rfl rfl (List.Perm.of_eq rfl) ?_
  refine r_insert (k := 1) (α := ByteArray × Nat) (kf := Prod.fst) (vf := vF) (oNe, 62) [(oNe, 62), (oEq, 61), (oGe, 60), (oGt, 59), (oLe, 58), (oLt, 57), (oShr, 56), (oShl, 55), (oXor, 54), (oOr, 53), (oAnd, 52), (oRem, 51), (oQuo, 49), (oMul, 48), (oSub, 47), (oAdd, 46)] Try.underlying80 keyS rfl rfl rfl rfl (List.Perm.of_eq rfl) ?_
  refine r_p (p_move rfl) rfl ?_
  refine r_p (p_assign rfl) rfl ?_
  refine r_nil ?_
  refine r_cret ?_
  refine r_ret b1 trivial rfl (rs1 (rv_tmp rfl)) rfl [1] [] rfl rfl rfl
/-- An operator, and its function. -/
def UnLaw (op : ByteArray) (a : Int) : Prop := match unF op a with
  | none => uL.find? (fun x => decide (Prod.fst x = op)) = none
  | some u => ∃ p, uL.find? (fun x => decide (Prod.fst x = op)) = some p ∧ Cb Try.prog p.2 ∧ Spec Try.prog p.2 [.int .u32 a] [] [] (X := Unit) (fun _ => True) (fun _ => .int .u32 u) (fun _ => []) (fun _ => [])
theorem UnLaw_all (op : ByteArray) (a : Int) (ha : 0 ≤ a ∧ a < 4294967296) : UnLaw op a := by
  by_cases h0 : op = oSub
  · subst h0
    exact ⟨(oSub, 42), rfl, cb42, un1_spec a ha⟩
  by_cases h1 : op = oCom
  · subst h1
    exact ⟨(oCom, 43), rfl, cb43, un2_spec a ha⟩
  by_cases h2 : op = oNot
  · subst h2
    exact ⟨(oNot, 44), rfl, cb44, un3_spec a ha⟩
  unfold UnLaw unF
  rw [if_neg h0, if_neg h1, if_neg h2]
  show uL.find? _ = none
  rw [List.find?_eq_none]
  intro x hx
  simp only [uL, List.mem_cons, List.not_mem_nil, or_false] at hx
  rcases hx with rfl | rfl | rfl
  · simpa using fun e => h2 e.symm
  · simpa using fun e => h1 e.symm
  · simpa using fun e => h0 e.symm

/-- An operator, and its function. -/
def BiLaw (op : ByteArray) (a b : Int) : Prop := match biF op a b with
  | none => bL.find? (fun x => decide (Prod.fst x = op)) = none
  | some u => ∃ p, bL.find? (fun x => decide (Prod.fst x = op)) = some p ∧ Cb Try.prog p.2 ∧ Spec Try.prog p.2 [.int .u32 a, .int .u32 b] [] [] (X := Unit) (fun _ => True) (fun _ => .int .u32 u) (fun _ => []) (fun _ => [])
theorem BiLaw_all (op : ByteArray) (a b : Int) (ha : 0 ≤ a ∧ a < 4294967296) (hb : 0 ≤ b ∧ b < 4294967296) : BiLaw op a b := by
  by_cases h0 : op = oAdd
  · subst h0
    exact ⟨(oAdd, 46), rfl, cb46, bi1_spec a b ha hb⟩
  by_cases h1 : op = oSub
  · subst h1
    exact ⟨(oSub, 47), rfl, cb47, bi2_spec a b ha hb⟩
  by_cases h2 : op = oMul
  · subst h2
    exact ⟨(oMul, 48), rfl, cb48, bi3_spec a b ha hb⟩
  by_cases h3 : op = oQuo
  · subst h3
    exact ⟨(oQuo, 49), rfl, cb49, bi4_spec a b ha hb⟩
  by_cases h4 : op = oRem
  · subst h4
    exact ⟨(oRem, 51), rfl, cb51, bi5_spec a b ha hb⟩
  by_cases h5 : op = oAnd
  · subst h5
    exact ⟨(oAnd, 52), rfl, cb52, bi6_spec a b ha hb⟩
  by_cases h6 : op = oOr
  · subst h6
    exact ⟨(oOr, 53), rfl, cb53, bi7_spec a b ha hb⟩
  by_cases h7 : op = oXor
  · subst h7
    exact ⟨(oXor, 54), rfl, cb54, bi8_spec a b ha hb⟩
  by_cases h8 : op = oShl
  · subst h8
    exact ⟨(oShl, 55), rfl, cb55, bi9_spec a b ha hb⟩
  by_cases h9 : op = oShr
  · subst h9
    exact ⟨(oShr, 56), rfl, cb56, bi10_spec a b ha hb⟩
  by_cases h10 : op = oLt
  · subst h10
    exact ⟨(oLt, 57), rfl, cb57, bi11_spec a b ha hb⟩
  by_cases h11 : op = oLe
  · subst h11
    exact ⟨(oLe, 58), rfl, cb58, bi12_spec a b ha hb⟩
  by_cases h12 : op = oGt
  · subst h12
    exact ⟨(oGt, 59), rfl, cb59, bi13_spec a b ha hb⟩
  by_cases h13 : op = oGe
  · subst h13
    exact ⟨(oGe, 60), rfl, cb60, bi14_spec a b ha hb⟩
  by_cases h14 : op = oEq
  · subst h14
    exact ⟨(oEq, 61), rfl, cb61, bi15_spec a b ha hb⟩
  by_cases h15 : op = oNe
  · subst h15
    exact ⟨(oNe, 62), rfl, cb62, bi16_spec a b ha hb⟩
  unfold BiLaw biF
  rw [if_neg h0, if_neg h1, if_neg h2, if_neg h3, if_neg h4, if_neg h5, if_neg h6, if_neg h7, if_neg h8, if_neg h9, if_neg h10, if_neg h11, if_neg h12, if_neg h13, if_neg h14, if_neg h15]
  show bL.find? _ = none
  rw [List.find?_eq_none]
  intro x hx
  simp only [bL, List.mem_cons, List.not_mem_nil, or_false] at hx
  rcases hx with rfl | rfl | rfl | rfl | rfl | rfl | rfl | rfl | rfl | rfl | rfl | rfl | rfl | rfl | rfl | rfl
  · simpa using fun e => h15 e.symm
  · simpa using fun e => h14 e.symm
  · simpa using fun e => h13 e.symm
  · simpa using fun e => h12 e.symm
  · simpa using fun e => h11 e.symm
  · simpa using fun e => h10 e.symm
  · simpa using fun e => h9 e.symm
  · simpa using fun e => h8 e.symm
  · simpa using fun e => h7 e.symm
  · simpa using fun e => h6 e.symm
  · simpa using fun e => h5 e.symm
  · simpa using fun e => h4 e.symm
  · simpa using fun e => h3 e.symm
  · simpa using fun e => h2 e.symm
  · simpa using fun e => h1 e.symm
  · simpa using fun e => h0 e.symm

set_option maxRecDepth 100000 in
theorem unary_none (op : ByteArray) (a : Int) (hf : uL.find? (fun x => decide (Prod.fst x = op)) = none) :
    Spec Try.prog 13 [.string op, .int .u32 a] [] [] (X := Unit) (fun _ => True) (fun _ => .tuple #[.int .u32 0, .bool false]) (fun _ => []) (fun _ => []) := by
  refine r_enter Try.func13 rfl Try.ntmps13 rfl fun w0 M H => ?_
  refine r_seq ?_
  refine r_region ?_
  refine r_p (p_assign rfl) rfl ?_
  refine r_p (p_assign rfl) rfl ?_
  refine r_nil ?_
  refine r_seq ?_
  refine r_region ?_
  refine r_call (xs := []) unaries_spec cb31 [] [] [60] [] rfl rfl rfl rfl rfl rfl rfl rfl (fun _ _ => rfl) (fun _ _ _ => rfl) rfl (fun bm _ => ?_)
  refine r_p (p_move rfl) rfl ?_
  refine r_p (p_lookup Try.underlying76 keyS t74 rfl rfl (hm_own (k := 60) rfl) hf) rfl ?_
  refine r_p (p_move rfl) rfl ?_
  refine r_p (p_extract rfl rfl) rfl ?_
  refine r_p (p_extract rfl rfl) rfl ?_
  refine r_p (p_assign rfl) rfl ?_
  refine r_p (p_assign rfl) rfl ?_
  refine r_nil ?_
  refine r_seq ?_
  refine r_seq ?_
  refine r_region ?_
  refine r_p (p_move rfl) rfl ?_
  refine r_p (p_not rfl) rfl ?_
  refine r_nil ?_
  refine r_cond rfl (fun h1 => ?_) (fun h1 => ?_)
  · (try simp only [decide_eq_true_eq, decide_eq_false_iff_not, Bool.and_eq_true, Bool.or_eq_true, Bool.and_eq_false_iff, Bool.or_eq_false_iff, Bool.not_eq_true, Bool.not_eq_false, Bool.not_eq_true', Bool.not_eq_false', Bool.not_not, bne_iff_ne, beq_iff_eq] at h1)
    refine r_seq ?_
    refine r_region ?_
    refine r_p (p_assign rfl) rfl ?_
    refine r_p (p_assign rfl) rfl ?_
    refine r_nil ?_
    refine r_cret ?_
    refine r_ret () trivial rfl (rs2 (rv_tmp rfl) (rv_tmp rfl)) rfl [] [] rfl rfl rfl
  · exact absurd h1 (by simp)
set_option maxRecDepth 100000 in
theorem unary_some (op : ByteArray) (a : Int) (p : ByteArray × Nat) (u : Int) (hf : uL.find? (fun x => decide (Prod.fst x = op)) = some p) (hcb : Cb Try.prog p.2) (hs : Spec Try.prog p.2 [.int .u32 a] [] [] (X := Unit) (fun _ => True) (fun _ => .int .u32 u) (fun _ => []) (fun _ => [])) :
    Spec Try.prog 13 [.string op, .int .u32 a] [] [] (X := Unit) (fun _ => True) (fun _ => .tuple #[.int .u32 u, .bool true]) (fun _ => []) (fun _ => []) := by
  refine r_enter Try.func13 rfl Try.ntmps13 rfl fun w0 M H => ?_
  refine r_seq ?_
  refine r_region ?_
  refine r_p (p_assign rfl) rfl ?_
  refine r_p (p_assign rfl) rfl ?_
  refine r_nil ?_
  refine r_seq ?_
  refine r_region ?_
  refine r_call (xs := []) unaries_spec cb31 [] [] [60] [] rfl rfl rfl rfl rfl rfl rfl rfl (fun _ _ => rfl) (fun _ _ _ => rfl) rfl (fun bm _ => ?_)
  refine r_p (p_move rfl) rfl ?_
  refine r_p (p_lookup Try.underlying76 keyS t74 rfl rfl (hm_own (k := 60) rfl) hf) rfl ?_
  refine r_p (p_move rfl) rfl ?_
  refine r_p (p_extract rfl rfl) rfl ?_
  refine r_p (p_extract rfl rfl) rfl ?_
  refine r_p (p_assign rfl) rfl ?_
  refine r_p (p_assign rfl) rfl ?_
  refine r_nil ?_
  refine r_seq ?_
  refine r_seq ?_
  refine r_region ?_
  refine r_p (p_move rfl) rfl ?_
  refine r_p (p_not rfl) rfl ?_
  refine r_nil ?_
  refine r_cond rfl (fun h1 => ?_) (fun h1 => ?_)
  · exact absurd h1 (by simp)
  · (try simp only [decide_eq_true_eq, decide_eq_false_iff_not, Bool.and_eq_true, Bool.or_eq_true, Bool.and_eq_false_iff, Bool.or_eq_false_iff, Bool.not_eq_true, Bool.not_eq_false, Bool.not_eq_true', Bool.not_eq_false', Bool.not_not, bne_iff_ne, beq_iff_eq] at h1)
    refine r_skip ?_
    refine r_seq ?_
    refine r_region ?_
    refine r_p (p_move rfl) rfl ?_
    refine r_p (p_move rfl) rfl ?_
    refine r_call (xs := [.tmp 17]) hs hcb [] [] [] [] rfl rfl rfl rfl rfl rfl rfl rfl (fun _ _ => rfl) (fun _ _ _ => rfl) rfl (fun _ _ => ?_)
    refine r_p (p_assign rfl) rfl ?_
    refine r_p (p_assign rfl) rfl ?_
    refine r_nil ?_
    refine r_cret ?_
    refine r_ret () trivial rfl (rs2 (rv_tmp rfl) (rv_tmp rfl)) rfl [] [] rfl rfl rfl
theorem unary_spec (op : ByteArray) (a : Int) (ha : 0 ≤ a ∧ a < 4294967296) : Spec Try.prog 13 [.string op, .int .u32 a] [] [] (X := Unit) (fun _ => True) (fun _ => .tuple #[.int .u32 ((unF op a).getD 0), .bool (unF op a).isSome]) (fun _ => []) (fun _ => []) := by
  have h := UnLaw_all op a ha
  unfold UnLaw at h
  cases hu : unF op a with
  | none =>
    rw [hu] at h
    exact unary_none op a h
  | some u =>
    rw [hu] at h
    obtain ⟨p, h1, h2, h3⟩ := h
    exact unary_some op a p u h1 h2 h3

set_option maxRecDepth 100000 in
theorem binary_none (op : ByteArray) (a b : Int) (hf : bL.find? (fun x => decide (Prod.fst x = op)) = none) :
    Spec Try.prog 14 [.string op, .int .u32 a, .int .u32 b] [] [] (X := Unit) (fun _ => True) (fun _ => .tuple #[.int .u32 0, .bool false]) (fun _ => []) (fun _ => []) := by
  refine r_enter Try.func14 rfl Try.ntmps14 rfl fun w0 M H => ?_
  refine r_seq ?_
  refine r_region ?_
  refine r_p (p_assign rfl) rfl ?_
  refine r_p (p_assign rfl) rfl ?_
  refine r_nil ?_
  refine r_seq ?_
  refine r_region ?_
  refine r_call (xs := []) binaries_spec cb32 [] [] [60] [] rfl rfl rfl rfl rfl rfl rfl rfl (fun _ _ => rfl) (fun _ _ _ => rfl) rfl (fun bm _ => ?_)
  refine r_p (p_move rfl) rfl ?_
  refine r_p (p_lookup Try.underlying80 keyS t78 rfl rfl (hm_own (k := 60) rfl) hf) rfl ?_
  refine r_p (p_move rfl) rfl ?_
  refine r_p (p_extract rfl rfl) rfl ?_
  refine r_p (p_extract rfl rfl) rfl ?_
  refine r_p (p_assign rfl) rfl ?_
  refine r_p (p_assign rfl) rfl ?_
  refine r_nil ?_
  refine r_seq ?_
  refine r_seq ?_
  refine r_region ?_
  refine r_p (p_move rfl) rfl ?_
  refine r_p (p_not rfl) rfl ?_
  refine r_nil ?_
  refine r_cond rfl (fun h1 => ?_) (fun h1 => ?_)
  · (try simp only [decide_eq_true_eq, decide_eq_false_iff_not, Bool.and_eq_true, Bool.or_eq_true, Bool.and_eq_false_iff, Bool.or_eq_false_iff, Bool.not_eq_true, Bool.not_eq_false, Bool.not_eq_true', Bool.not_eq_false', Bool.not_not, bne_iff_ne, beq_iff_eq] at h1)
    refine r_seq ?_
    refine r_region ?_
    refine r_p (p_assign rfl) rfl ?_
    refine r_p (p_assign rfl) rfl ?_
    refine r_nil ?_
    refine r_cret ?_
    refine r_ret () trivial rfl (rs2 (rv_tmp rfl) (rv_tmp rfl)) rfl [] [] rfl rfl rfl
  · exact absurd h1 (by simp)
set_option maxRecDepth 100000 in
theorem binary_some (op : ByteArray) (a b : Int) (p : ByteArray × Nat) (u : Int) (hf : bL.find? (fun x => decide (Prod.fst x = op)) = some p) (hcb : Cb Try.prog p.2) (hs : Spec Try.prog p.2 [.int .u32 a, .int .u32 b] [] [] (X := Unit) (fun _ => True) (fun _ => .int .u32 u) (fun _ => []) (fun _ => [])) :
    Spec Try.prog 14 [.string op, .int .u32 a, .int .u32 b] [] [] (X := Unit) (fun _ => True) (fun _ => .tuple #[.int .u32 u, .bool true]) (fun _ => []) (fun _ => []) := by
  refine r_enter Try.func14 rfl Try.ntmps14 rfl fun w0 M H => ?_
  refine r_seq ?_
  refine r_region ?_
  refine r_p (p_assign rfl) rfl ?_
  refine r_p (p_assign rfl) rfl ?_
  refine r_nil ?_
  refine r_seq ?_
  refine r_region ?_
  refine r_call (xs := []) binaries_spec cb32 [] [] [60] [] rfl rfl rfl rfl rfl rfl rfl rfl (fun _ _ => rfl) (fun _ _ _ => rfl) rfl (fun bm _ => ?_)
  refine r_p (p_move rfl) rfl ?_
  refine r_p (p_lookup Try.underlying80 keyS t78 rfl rfl (hm_own (k := 60) rfl) hf) rfl ?_
  refine r_p (p_move rfl) rfl ?_
  refine r_p (p_extract rfl rfl) rfl ?_
  refine r_p (p_extract rfl rfl) rfl ?_
  refine r_p (p_assign rfl) rfl ?_
  refine r_p (p_assign rfl) rfl ?_
  refine r_nil ?_
  refine r_seq ?_
  refine r_seq ?_
  refine r_region ?_
  refine r_p (p_move rfl) rfl ?_
  refine r_p (p_not rfl) rfl ?_
  refine r_nil ?_
  refine r_cond rfl (fun h1 => ?_) (fun h1 => ?_)
  · exact absurd h1 (by simp)
  · (try simp only [decide_eq_true_eq, decide_eq_false_iff_not, Bool.and_eq_true, Bool.or_eq_true, Bool.and_eq_false_iff, Bool.or_eq_false_iff, Bool.not_eq_true, Bool.not_eq_false, Bool.not_eq_true', Bool.not_eq_false', Bool.not_not, bne_iff_ne, beq_iff_eq] at h1)
    refine r_skip ?_
    refine r_seq ?_
    refine r_region ?_
    refine r_p (p_move rfl) rfl ?_
    refine r_p (p_move rfl) rfl ?_
    refine r_p (p_move rfl) rfl ?_
    refine r_call (xs := [.tmp 19, .tmp 20]) hs hcb [] [] [] [] rfl rfl rfl rfl rfl rfl rfl rfl (fun _ _ => rfl) (fun _ _ _ => rfl) rfl (fun _ _ => ?_)
    refine r_p (p_assign rfl) rfl ?_
    refine r_p (p_assign rfl) rfl ?_
    refine r_nil ?_
    refine r_cret ?_
    refine r_ret () trivial rfl (rs2 (rv_tmp rfl) (rv_tmp rfl)) rfl [] [] rfl rfl rfl
theorem binary_spec (op : ByteArray) (a b : Int) (ha : 0 ≤ a ∧ a < 4294967296) (hb : 0 ≤ b ∧ b < 4294967296) : Spec Try.prog 14 [.string op, .int .u32 a, .int .u32 b] [] [] (X := Unit) (fun _ => True) (fun _ => .tuple #[.int .u32 ((biF op a b).getD 0), .bool (biF op a b).isSome]) (fun _ => []) (fun _ => []) := by
  have h := BiLaw_all op a b ha hb
  unfold BiLaw at h
  cases hu : biF op a b with
  | none =>
    rw [hu] at h
    exact binary_none op a b h
  | some u =>
    rw [hu] at h
    obtain ⟨p, h1, h2, h3⟩ := h
    exact binary_some op a b p u h1 h2 h3


end Go.Proofs.Ytdcbbkpdlcojfaa
