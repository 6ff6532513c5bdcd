/-
  The machine, and its fuel. Condition: fuel fits.
-/
import Derived.Test.YtdcbbkpdlcojfaaA6
namespace Go.Proofs.Ytdcbbkpdlcojfaa
set_option linter.unusedSimpArgs false
set_option linter.unusedVariables false
open Go.RowKit

/-- The cells of the machine that executes programs. -/
def mC (mf mu mb : Nat) (vi vo : SV) (mem : Nat → Int) (fuel d : Int) (rt : Bool) (val : Int) : List Value :=
  [.map (some mf), .map (some mu), .map (some mb), sv vi, sv vo] ++ ((List.range 256).map (fun i => .int .u32 (mem i)) ++ [.int .i64 fuel, .int .i64 d, .bool rt, .int .u32 val])
section
variable {mf mu mb : Nat} {vi vo : SV} {mem : Nat → Int} {fuel d : Int} {rt : Bool} {val : Int}
theorem mC_len : (mC mf mu mb vi vo mem fuel d rt val).length = 265 := by simp [mC]
theorem mC_fit {o : Nat} {u : Value} (h : o + 1 ≤ 265) : Nat.ble (o + [u].length) (mC mf mu mb vi vo mem fuel d rt val).length = true := by
  rw [mC_len]
  exact Nat.ble_eq_true_of_le h
theorem app_get {A tl : List Value} (h : A.length = 261) (k : Nat) : (A ++ tl)[261 + k]? = tl[k]? := by
  rw [List.getElem?_append_right (by omega)]
  congr 1
  omega
theorem app_set {A tl : List Value} (h : A.length = 261) (k : Nat) (v : Value) : (A ++ tl).set (261 + k) v = A ++ tl.set k v := by
  rw [List.set_append_right _ _ (by omega)]
  congr 2
  omega
theorem mC_tl (k : Nat) : (mC mf mu mb vi vo mem fuel d rt val)[261 + k]? = ([.int .i64 fuel, .int .i64 d, .bool rt, .int .u32 val] : List Value)[k]? := by
  unfold mC
  rw [← List.append_assoc]
  exact app_get (by simp) k
theorem mC_fuel : (mC mf mu mb vi vo mem fuel d rt val)[261]? = some (.int .i64 fuel) := mC_tl 0
theorem mC_depth : (mC mf mu mb vi vo mem fuel d rt val)[262]? = some (.int .i64 d) := mC_tl 1
theorem mC_rt : (mC mf mu mb vi vo mem fuel d rt val)[263]? = some (.bool rt) := mC_tl 2
theorem mC_val : (mC mf mu mb vi vo mem fuel d rt val)[264]? = some (.int .u32 val) := mC_tl 3
theorem mC_mem {i : Nat} (hi : i < 256) : (mC mf mu mb vi vo mem fuel d rt val)[5 + i]? = some (.int .u32 (mem i)) := by
  unfold mC
  rw [List.getElem?_append_right (by simp), List.getElem?_append_left (by simp; omega), List.getElem?_map, List.getElem?_range (by simp; omega)]
  simp
theorem put_set {l : List Value} {o : Nat} {v : Value} (h : o < l.length) : l.take o ++ [v] ++ l.drop (o + [v].length) = l.set o v := by
  rw [List.set_eq_take_append_cons_drop, if_pos h]
  simp
theorem mC_set (k : Nat) (v : Value) (hk : k < 4) : (mC mf mu mb vi vo mem fuel d rt val).set (261 + k) v = [.map (some mf), .map (some mu), .map (some mb), sv vi, sv vo] ++ ((List.range 256).map (fun i => .int .u32 (mem i)) ++ ([.int .i64 fuel, .int .i64 d, .bool rt, .int .u32 val] : List Value).set k v) := by
  unfold mC
  rw [← List.append_assoc, ← List.append_assoc]
  exact app_set (by simp) k v
theorem mC_setFuel {f : Int} : (mC mf mu mb vi vo mem fuel d rt val).take 261 ++ [.int .i64 f] ++ (mC mf mu mb vi vo mem fuel d rt val).drop (261 + [Value.int .i64 f].length) = mC mf mu mb vi vo mem f d rt val := (put_set (by rw [mC_len]; decide)).trans (mC_set 0 _ (by decide))
theorem mC_setDepth {f : Int} : (mC mf mu mb vi vo mem fuel d rt val).take 262 ++ [.int .i64 f] ++ (mC mf mu mb vi vo mem fuel d rt val).drop (262 + [Value.int .i64 f].length) = mC mf mu mb vi vo mem fuel f rt val := (put_set (by rw [mC_len]; decide)).trans (mC_set 1 _ (by decide))
theorem mC_setRt {f : Bool} : (mC mf mu mb vi vo mem fuel d rt val).take 263 ++ [.bool f] ++ (mC mf mu mb vi vo mem fuel d rt val).drop (263 + [Value.bool f].length) = mC mf mu mb vi vo mem fuel d f val := (put_set (by rw [mC_len]; decide)).trans (mC_set 2 _ (by decide))
theorem mC_setVal {f : Int} : (mC mf mu mb vi vo mem fuel d rt val).take 264 ++ [.int .u32 f] ++ (mC mf mu mb vi vo mem fuel d rt val).drop (264 + [Value.int .u32 f].length) = mC mf mu mb vi vo mem fuel d rt f := (put_set (by rw [mC_len]; decide)).trans (mC_set 3 _ (by decide))
theorem mC_setIn {v : SV} : (mC mf mu mb vi vo mem fuel d rt val).take 3 ++ [sv v] ++ (mC mf mu mb vi vo mem fuel d rt val).drop (3 + [sv v].length) = mC mf mu mb v vo mem fuel d rt val := rfl
theorem mC_setOut {v : SV} : (mC mf mu mb vi vo mem fuel d rt val).take 4 ++ [sv v] ++ (mC mf mu mb vi vo mem fuel d rt val).drop (4 + [sv v].length) = mC mf mu mb vi v mem fuel d rt val := rfl
theorem mem_set {i : Nat} (hi : i < 256) {v : Int} : ((List.range 256).map (fun i => Value.int .u32 (mem i))).set i (.int .u32 v) = (List.range 256).map (fun k => .int .u32 (mput mem i v k)) := by
  apply List.ext_getElem?
  intro j
  rw [List.getElem?_set, List.getElem?_map, List.getElem?_map, List.length_map, List.length_range]
  by_cases hj : j < 256
  · rw [List.getElem?_range hj]
    by_cases hij : i = j
    · subst hij
      rw [if_pos rfl, if_pos hi]
      simp [mput]
    · rw [if_neg hij]
      have : ¬ j = i := fun e => hij e.symm
      simp [mput, this]
  · rw [if_neg (by omega)]
    have : (List.range 256)[j]? = none := by rw [List.getElem?_eq_none]; simp; omega
    rw [this]
    rfl
theorem mC_setMem {i : Nat} (hi : i < 256) {v : Int} : (mC mf mu mb vi vo mem fuel d rt val).take (5 + i * 1) ++ [.int .u32 v] ++ (mC mf mu mb vi vo mem fuel d rt val).drop (5 + i * 1 + [Value.int .u32 v].length) = mC mf mu mb vi vo (mput mem i v) fuel d rt val := by
  rw [put_set (by rw [mC_len]; omega)]
  unfold mC
  rw [List.set_append_right _ _ (by simp), List.set_append_left _ _ (by simp; omega), ← mem_set hi]
  rw [show 5 + i * 1 - ([.map (some mf), .map (some mu), .map (some mb), sv vi, sv vo] : List Value).length = i by simp]
end
/-- How a failure is thrown. -/
def fail (e : Int) : Value := .iface 94 (.agg #[.int .i64 e])

set_option maxHeartbeats 1000000 in
set_option maxRecDepth 100000 in
theorem pay_ok (m : Nat) (mf mu mb : Nat) (vi vo : SV) (mem : Nat → Int) (fuel d : Int) (rt : Bool) (val : Int) (hf : ¬ fuel ≤ 0) (hf2 : fuel < 9223372036854775808) :
    Spec Try.prog 99 [.pointer (some ⟨m, 0, none⟩)] [row m 92 (mC mf mu mb vi vo mem fuel d rt val)] [] (X := Unit) (fun _ => True) (fun _ => .tuple #[]) (fun _ => [row m 92 (mC mf mu mb vi vo mem (fuel - 1) d rt val)]) (fun _ => []) := by
  refine r_enter Try.func99 rfl Try.ntmps99 rfl fun w0 M H => ?_
  refine r_seq ?_
  refine r_seq ?_
  refine r_region ?_
  refine r_p (p_move rfl) rfl ?_
  refine r_p (p_nilCheck rfl) rfl ?_
  refine r_p (p_field0 fo92_6 rfl) rfl ?_
  refine r_p (p_load1 t3 rfl rfl (g_row1 (k := 0) rfl mC_fuel)) rfl ?_
  refine r_p (p_bin rfl rfl b_le) rfl ?_
  refine r_nil ?_
  refine r_cond rfl (fun h1 => ?_) (fun h1 => ?_)
  · exact absurd (of_decide_eq_true h1) hf
  · (try simp only [decide_eq_true_eq, decide_eq_false_iff_not, Bool.and_eq_true, Bool.or_eq_true, Bool.and_eq_false_iff, Bool.or_eq_false_iff, Bool.not_eq_true, Bool.not_eq_false, Bool.not_eq_true', Bool.not_eq_false', Bool.not_not, bne_iff_ne, beq_iff_eq] at h1)
    refine r_skip ?_
    refine r_region ?_
    refine r_p (p_move rfl) rfl ?_
    refine r_p (p_nilCheck rfl) rfl ?_
    refine r_p (p_field0 fo92_6 rfl) rfl ?_
    refine r_p (p_load1 t3 rfl rfl (g_row1 (k := 0) rfl mC_fuel)) rfl ?_
    refine r_p (p_bin rfl rfl (b_sub (by first | exact w_i64 (by omega) (by omega) | rfl))) rfl ?_
    refine r_p (p_nilCheck rfl) rfl ?_
    refine r_p (p_field0 fo92_6 rfl) rfl ?_
    refine r_store_row (k := 0) t3 rfl rfl rfl rfl rfl rfl (mC_fit (by decide)) (mC_setFuel) ?_
    refine r_nil ?_
    refine r_end () trivial rfl rs0 rfl [0] [] rfl rfl rfl
set_option maxHeartbeats 1000000 in
set_option maxRecDepth 100000 in
theorem pay_no (m : Nat) (mf mu mb : Nat) (vi vo : SV) (mem : Nat → Int) (fuel d : Int) (rt : Bool) (val : Int) (hf : fuel ≤ 0) :
    SpecE Try.prog 99 [.pointer (some ⟨m, 0, none⟩)] [row m 92 (mC mf mu mb vi vo mem fuel d rt val)] [] (X := Unit) (fun _ => True) (fun _ => .pan (fail 25)) (fun _ => [row m 92 (mC mf mu mb vi vo mem fuel d rt val)]) (fun _ => []) := by
  refine r_enterE Try.func99 rfl Try.ntmps99 rfl fun w0 M H => ?_
  refine r_seq ?_
  refine r_seq ?_
  refine r_region ?_
  refine r_p (p_move rfl) rfl ?_
  refine r_p (p_nilCheck rfl) rfl ?_
  refine r_p (p_field0 fo92_6 rfl) rfl ?_
  refine r_p (p_load1 t3 rfl rfl (g_row1 (k := 0) rfl mC_fuel)) rfl ?_
  refine r_p (p_bin rfl rfl b_le) rfl ?_
  refine r_nil ?_
  refine r_cond rfl (fun h1 => ?_) (fun h1 => ?_)
  · (try simp only [decide_eq_true_eq, decide_eq_false_iff_not, Bool.and_eq_true, Bool.or_eq_true, Bool.and_eq_false_iff, Bool.or_eq_false_iff, Bool.not_eq_true, Bool.not_eq_false, Bool.not_eq_true', Bool.not_eq_false', Bool.not_not, bne_iff_ne, beq_iff_eq] at h1)
    refine r_region ?_
    refine r_p (p_build (parts := [(0, .const (.int .i64 25))]) t94 pl94 rfl rfl) rfl ?_
    refine r_p (p_mkIface Try.underlying94 (by intro _ h; cases h) rfl) rfl ?_
    refine r_panic rfl ?_
    show At _ _ _ _ _ _ _ (bodyPost Try.prog Try.f99 _ (.panic _))
    refine r_out () trivial rfl [0] [] rfl rfl rfl
  · exact absurd hf (of_decide_eq_false h1)

end Go.Proofs.Ytdcbbkpdlcojfaa
