/-
  Choosing links of the cache, in order. Conditions: they are in order, and there are few.
-/
import Derived.Test.YtbkonlkffajhkaaQ2
import Derived.Test.YtbkonlkffajhkaaSL
namespace Go.Proofs.Ytbkonlkffajhkaa
set_option linter.unusedSimpArgs false
set_option linter.unusedVariables false
open Go.RowKit

def lessS (x y : Lk) : Bool := decide (x.s < y.s)
def lessF (x y : Lk) : Bool := decide (x.f < y.f)
def ltK (x y : Lk) : Prop := x.f < y.f ∨ (x.f = y.f ∧ x.s < y.s)
theorem sortL_eq {l K : List Lk} (hp : l.Perm K) (hK : K.Pairwise ltK) (hlen : K.length < 40) : stable dL lessF (stable dL lessS l) = K := by
  have p1 := stable_perm dL lessS l
  have s1 := stable_srt dL lessS (fun x y : Lk => x.s ≤ y.s) ⟨fun x => Int.le_refl _, fun x y z h h' => Int.le_trans h h'⟩ (xs := l) (by rw [hp.length_eq]; exact hlen) (fun p q _ _ => by
    unfold Cmp lessS
    simp only [decide_eq_true_eq, decide_eq_false_iff_not]
    omega)
  rw [← p1.length_eq] at s1
  generalize stable dL lessS l = l1 at p1 s1
  have p2 := stable_perm dL lessF l1
  have s2 := stable_srt dL lessF (fun x y : Lk => x.f < y.f ∨ (x.f = y.f ∧ x.s ≤ y.s)) ⟨fun x => .inr ⟨rfl, Int.le_refl _⟩, fun x y z h h' => by omega⟩ (xs := l1) (by rw [p1.length_eq, hp.length_eq]; exact hlen) (fun p q hpq hq => by
    have := s1 p q (Nat.zero_le _) hpq hq
    unfold Cmp lessF
    simp only [decide_eq_true_eq, decide_eq_false_iff_not]
    omega)
  rw [← p2.length_eq] at s2
  refine List.Perm.eq_of_pairwise (le := fun x y : Lk => x.f < y.f ∨ (x.f = y.f ∧ x.s ≤ y.s)) (fun a b ha hb h1 h2 => ?_) (srt_pair s2) (hK.imp fun h => by unfold ltK at h; omega) (p2.trans (p1.trans hp))
  have ha' := (p2.trans (p1.trans hp)).mem_iff.1 ha
  obtain ⟨i, hi, ei⟩ := List.getElem_of_mem ha'
  obtain ⟨j, hj, ej⟩ := List.getElem_of_mem hb
  have hp2 := List.pairwise_iff_getElem.1 hK
  rcases Nat.lt_trichotomy i j with h | h | h
  · have := hp2 i j hi hj h
    rw [ei, ej] at this
    unfold ltK at this
    omega
  · subst h
    rw [← ei, ← ej]
  · have := hp2 j i hj hi h
    rw [ei, ej] at this
    unfold ltK at this
    omega
def mkS (k : Int × Int) : Value := .agg #[.int .u32 k.1, .int .i64 k.2]
def kfS (l : Lk) : Int × Int := (l.f, l.s)
def vfS (l : Lk) : Value := .int .u32 l.t
abbrev mpL (ol : Option Nat) (K : List Lk) : Asn := mp mkS kfS vfS ol K
theorem eq107 (k k' : Int × Int) (w : World) : (Op.equal 107 (mkS k) (mkS k')).run Try.prog w = .ok (decide (k = k')) w := by
  have hs : Try.prog.stoodInHeld 107 = false := by kernel_rfl
  have hf := t107.und
  have hF : Try.prog.underlying 107 = some (.struct (Try.prog.fieldsOf 107)) := by simp only [Program.fieldsOf, hf]
  have i1 := run_part1 (o := 0) (cs := #[.int .u32 k.1, .int .i64 k.2]) t30 rfl rfl w
  have i2 := run_part1 (o := 1) (cs := #[.int .u32 k.1, .int .i64 k.2]) t3 rfl rfl w
  have j1 := run_part1 (o := 0) (cs := #[.int .u32 k'.1, .int .i64 k'.2]) t30 rfl rfl w
  have j2 := run_part1 (o := 1) (cs := #[.int .u32 k'.1, .int .i64 k'.2]) t3 rfl rfl w
  have q1 := run_equalIn_int (P := Try.prog) w 9998 30 .u32 .u32 k.1 k'.1 t30.und
  have q2 := run_equalIn_int (P := Try.prog) w 9998 3 .i64 .i64 k.2 k'.2 t3.und
  unfold Op.equal Op.maxDepth mkS
  rw [run_equalIn_struct w 9999 _ _ _ hF hs]
  obtain ⟨a, b⟩ := k
  obtain ⟨c, d⟩ := k'
  simp [Program.fieldsOf, hf, Op.eqFields, i1, i2, j1, j2, q1, q2, Sem.run_bind]
  by_cases h1 : a = c
  · by_cases h2 : b = d <;> simp [h1, h2]
  · simp [h1]
theorem keyS : KeyLaw Try.prog 107 mkS where
  check := fun b k w => by
    have i1 := run_part1 (o := 0) (cs := #[.int .u32 k.1, .int .i64 k.2]) t30 rfl rfl w
    have i2 := run_part1 (o := 1) (cs := #[.int .u32 k.1, .int .i64 k.2]) t3 rfl rfl w
    have c1 : (Instr.checkKey b 9999 30 (.int .u32 k.1)).run Try.prog w = .ok () w := by
      show (Instr.checkKey b (9998 + 1) 30 (.int .u32 k.1)).run Try.prog w = _
      unfold Instr.checkKey
      simp [Sem.run_bind, run_underlying t30.und]
    have c2 : (Instr.checkKey b 9999 3 (.int .i64 k.2)).run Try.prog w = .ok () w := by
      show (Instr.checkKey b (9998 + 1) 3 (.int .i64 k.2)).run Try.prog w = _
      unfold Instr.checkKey
      simp [Sem.run_bind, run_underlying t3.und]
    show (Instr.checkKey b (9999 + 1) 107 (mkS k)).run Try.prog w = _
    unfold Instr.checkKey mkS
    simp [Sem.run_bind, run_underlying t107.und, i1, i2, c1, c2]
  find := fun {α} kf vf k ms w => by
    have hask : ∀ (ms : List (α × Nat)) (i : Nat), (Instr.findAsking 107 (mkS k) (ms.map (entOf mkS kf vf)) i).run Try.prog w = .ok (fnd kf vf k ms i) w := by
      intro ms
      induction ms with
      | nil => intro i; simp [Instr.findAsking, fnd]
      | cons m r ih =>
        intro i
        simp only [List.map_cons, Instr.findAsking, Sem.run_bind, entOf, eq107, Result.andThen_ok, fnd]
        by_cases e : k = kf m.1
        · simp [e]
        · have e' : ¬ kf m.1 = k := fun h => e h.symm
          simp only [e, e', decide_false, Bool.false_eq_true, if_false]
          exact ih (i + 1)
    unfold Instr.findKey
    cases ms with
    | nil => simp [Sem.run_bind, run_underlying t107.und, Instr.findNow, fnd]
    | cons m r =>
      have h1 : Instr.findNow (.struct (Try.prog.fieldsOf 107)) (mkS k) ((m :: r).map (entOf mkS kf vf)) 0 = none := by
        simp [Instr.findNow, mkS, entOf, Instr.sameNow]
      have hf := t107.und
      have hF : Try.prog.underlying 107 = some (.struct (Try.prog.fieldsOf 107)) := by simp only [Program.fieldsOf, hf]
      simp only [Sem.run_bind, run_underlying hF, Result.andThen_ok, h1]
      exact hask (m :: r) 0
  stays := fun k => by simp [mkS, Instr.sameBits]
def FVs : Value := .func (.func 67) #[] #[]
def FVf : Value := .func (.func 68) #[] #[]

set_option maxRecDepth 100000 in
theorem keyS_spec (x : Lk) :
    Spec Try.prog 67 [veL x] [] [] (X := Unit) (fun _ => True) (fun _ => .int .i64 x.s) (fun _ => []) (fun _ => []) := by
  refine r_enter Try.func67 rfl Try.ntmps67 rfl fun w0 M H => ?_
  refine r_seq ?_
  refine r_region ?_
  refine r_boxA rfl rfl fun b1 => ?_
  refine r_p (p_assign rfl) rfl ?_
  refine r_nil ?_
  refine r_seq ?_
  refine r_region ?_
  refine r_p (p_field0 fo64_1 rfl) rfl ?_
  refine r_p (p_load1 t3 rfl rfl (g_row1 (k := 1) rfl rfl)) rfl ?_
  refine r_p (p_assign rfl) rfl ?_
  refine r_nil ?_
  refine r_cret ?_
  refine r_ret () trivial rfl (rs1 (rv_tmp rfl)) rfl [] [] rfl rfl rfl
set_option maxRecDepth 100000 in
theorem keyF_spec (x : Lk) :
    Spec Try.prog 68 [veL x] [] [] (X := Unit) (fun _ => True) (fun _ => .int .u32 x.f) (fun _ => []) (fun _ => []) := by
  refine r_enter Try.func68 rfl Try.ntmps68 rfl fun w0 M H => ?_
  refine r_seq ?_
  refine r_region ?_
  refine r_boxA rfl rfl fun b1 => ?_
  refine r_p (p_assign rfl) rfl ?_
  refine r_nil ?_
  refine r_seq ?_
  refine r_region ?_
  refine r_p (p_field0 fo64_0 rfl) rfl ?_
  refine r_p (p_load1 t30 rfl rfl (g_row1 (k := 1) rfl rfl)) rfl ?_
  refine r_p (p_assign rfl) rfl ?_
  refine r_nil ?_
  refine r_cret ?_
  refine r_ret () trivial rfl (rs1 (rv_tmp rfl)) rfl [] [] rfl rfl rfl
set_option maxRecDepth 100000 in
theorem cmpS_spec (Bro : Asn) (x y : Lk) (b : Nat) :
    Spec Try.prog 80 [veL x, veL y, .pointer (some ⟨b, 0, none⟩)] [row b 116 [FVs]] [Bro] (X := Int) (fun c => c < 0 ↔ lessS x y = true) (fun c => .int .i64 c) (fun _ => [row b 116 [FVs]]) (fun _ => []) := by
  refine r_enter Try.func80 rfl Try.ntmps80 rfl fun w0 M H => ?_
  refine r_seq ?_
  refine r_region ?_
  refine r_boxA rfl rfl fun b3 => ?_
  refine r_boxA rfl rfl fun b4 => ?_
  refine r_p (p_assign rfl) rfl ?_
  refine r_nil ?_
  refine r_seq ?_
  refine r_draw [6, 7, 8, 9, 10, 11, 12, 5] _ rfl (stg_mem (V := [(0, 6, _), (1, 7, _), (3, 9, _), (4, 10, _)]) [0, 1, 3, 4] 2 [2, 1, 0] [] (fun _ => []) rfl rfl (prs_cons (pri rfl (p_load1 t116 rfl rfl (g_row1 (k := 0) rfl rfl))) (prs_cons (pri rfl (p_loadA t64 rfl rfl rfl (g_all (k := 3) rfl))) (prs_cons (pri rfl (p_load1 t116 rfl rfl (g_row1 (k := 0) rfl rfl))) (prs_cons (pri rfl (p_loadA t64 rfl rfl rfl (g_all (k := 4) rfl))) prs_nil)))) rfl rfl rfl rfl rfl rfl rfl rfl rfl rfl rfl (fun _ _ => rfl) rfl (ms_call (xs := [.tmp 7]) (keyS_spec x) cb67 [] [] [] [] rfl rfl rfl rfl rfl rfl rfl rfl (fun _ _ => rfl) (fun _ _ _ => rfl)) (fun _ _ => stg_mem [3, 4] 5 [5, 4, 3, 2, 1, 0] [] (fun _ => []) rfl rfl (prs_cons (pri rfl (p_load1 t116 rfl rfl (g_row1 (k := 0) rfl rfl))) (prs_cons (pri rfl (p_loadA t64 rfl rfl rfl (g_all (k := 4) rfl))) prs_nil)) rfl rfl rfl rfl rfl rfl rfl rfl rfl rfl rfl (fun _ _ => rfl) rfl (ms_call (xs := [.tmp 10]) (keyS_spec y) cb67 [] [] [] [] rfl rfl rfl rfl rfl rfl rfl rfl (fun _ _ => rfl) (fun _ _ _ => rfl)) (fun _ _ => stg_mem [] 6 [6, 5, 4, 3, 2, 1, 0] [7] (fun c => [(7, 5, _)]) rfl rfl prs_nil rfl rfl rfl rfl rfl rfl rfl rfl rfl rfl rfl (fun _ _ => rfl) rfl (ms_call (xs := [.tmp 8, .tmp 11]) (cmpi_spec _ _) cb76 [] [] [] [] rfl rfl rfl rfl rfl rfl rfl rfl (fun _ _ => rfl) (fun _ _ _ => rfl)) (fun c hc => stg_end [7] rfl rfl (prs_cons (pri rfl (p_assign rfl)) prs_nil) rfl rfl rfl ?_))))
  refine r_cret ?_
  refine r_ret c (by simpa [lessS] using hc) rfl (rs1 (rv_tmp rfl)) rfl [0] [] rfl rfl rfl
theorem cmpS_ok (Bro : Asn) (b : Nat) : CmpOk 80 [.pointer (some ⟨b, 0, none⟩)] (row b 116 [FVs]) Bro veL (fun _ => True) dL lessS :=
  ⟨cb80, trivial, fun x y _ _ => cmpS_spec Bro x y b⟩

set_option maxRecDepth 100000 in
theorem cmpF_spec (Bro : Asn) (x y : Lk) (b : Nat) :
    Spec Try.prog 78 [veL x, veL y, .pointer (some ⟨b, 0, none⟩)] [row b 117 [FVf]] [Bro] (X := Int) (fun c => c < 0 ↔ lessF x y = true) (fun c => .int .i64 c) (fun _ => [row b 117 [FVf]]) (fun _ => []) := by
  refine r_enter Try.func78 rfl Try.ntmps78 rfl fun w0 M H => ?_
  refine r_seq ?_
  refine r_region ?_
  refine r_boxA rfl rfl fun b3 => ?_
  refine r_boxA rfl rfl fun b4 => ?_
  refine r_p (p_assign rfl) rfl ?_
  refine r_nil ?_
  refine r_seq ?_
  refine r_draw [6, 7, 8, 9, 10, 11, 12, 5] _ rfl (stg_mem (V := [(0, 6, _), (1, 7, _), (3, 9, _), (4, 10, _)]) [0, 1, 3, 4] 2 [2, 1, 0] [] (fun _ => []) rfl rfl (prs_cons (pri rfl (p_load1 t117 rfl rfl (g_row1 (k := 0) rfl rfl))) (prs_cons (pri rfl (p_loadA t64 rfl rfl rfl (g_all (k := 3) rfl))) (prs_cons (pri rfl (p_load1 t117 rfl rfl (g_row1 (k := 0) rfl rfl))) (prs_cons (pri rfl (p_loadA t64 rfl rfl rfl (g_all (k := 4) rfl))) prs_nil)))) rfl rfl rfl rfl rfl rfl rfl rfl rfl rfl rfl (fun _ _ => rfl) rfl (ms_call (xs := [.tmp 7]) (keyF_spec x) cb68 [] [] [] [] rfl rfl rfl rfl rfl rfl rfl rfl (fun _ _ => rfl) (fun _ _ _ => rfl)) (fun _ _ => stg_mem [3, 4] 5 [5, 4, 3, 2, 1, 0] [] (fun _ => []) rfl rfl (prs_cons (pri rfl (p_load1 t117 rfl rfl (g_row1 (k := 0) rfl rfl))) (prs_cons (pri rfl (p_loadA t64 rfl rfl rfl (g_all (k := 4) rfl))) prs_nil)) rfl rfl rfl rfl rfl rfl rfl rfl rfl rfl rfl (fun _ _ => rfl) rfl (ms_call (xs := [.tmp 10]) (keyF_spec y) cb68 [] [] [] [] rfl rfl rfl rfl rfl rfl rfl rfl (fun _ _ => rfl) (fun _ _ _ => rfl)) (fun _ _ => stg_mem [] 6 [6, 5, 4, 3, 2, 1, 0] [7] (fun c => [(7, 5, _)]) rfl rfl prs_nil rfl rfl rfl rfl rfl rfl rfl rfl rfl rfl rfl (fun _ _ => rfl) rfl (ms_call (xs := [.tmp 8, .tmp 11]) (cmpu_spec _ _) cb79 [] [] [] [] rfl rfl rfl rfl rfl rfl rfl rfl (fun _ _ => rfl) (fun _ _ _ => rfl)) (fun c hc => stg_end [7] rfl rfl (prs_cons (pri rfl (p_assign rfl)) prs_nil) rfl rfl rfl ?_))))
  refine r_cret ?_
  refine r_ret c (by simpa [lessF] using hc) rfl (rs1 (rv_tmp rfl)) rfl [0] [] rfl rfl rfl
theorem cmpF_ok (Bro : Asn) (b : Nat) : CmpOk 78 [.pointer (some ⟨b, 0, none⟩)] (row b 117 [FVf]) Bro veL (fun _ => True) dL lessF :=
  ⟨cb78, trivial, fun x y _ _ => cmpF_spec Bro x y b⟩

set_option maxRecDepth 100000 in
theorem sortedS_spec (Bro : Asn) (v : SV) (xs : List Lk) (hl : xs.length ≤ 1000) :
    Spec Try.prog 66 [sv v, FVs] [own 64 3 eL (sv v) xs] [Bro] (X := Unit) (fun _ => True) (fun _ => sv v) (fun _ => [own 64 3 eL (sv v) (stable dL lessS xs)]) (fun _ => []) := by
  refine r_enter Try.func66 rfl Try.ntmps66 rfl fun w0 M H => ?_
  refine r_seq ?_
  refine r_region ?_
  refine r_box1 rfl rfl rfl fun b3 => ?_
  refine r_p (p_assign rfl) rfl ?_
  refine r_nil ?_
  refine r_seq ?_
  refine r_region ?_
  refine r_p (p_move rfl) rfl ?_
  refine r_p (p_makeFunc (first := []) (cap := [.tmp 3]) rfl rfl) rfl ?_
  refine r_call (xs := [.tmp 5, .tmp 6]) (stablefn_specL v xs (fun _ _ => trivial) hl (cmpS_ok Bro b3)) cb77 [0, 3] [(false, 0)] [0, 3] [] rfl rfl rfl rfl rfl rfl rfl rfl (fun _ _ => rfl) (fun _ _ _ => rfl) rfl (fun _ _ => ?_)
  refine r_nil ?_
  refine r_seq ?_
  refine r_region ?_
  refine r_p (p_move rfl) rfl ?_
  refine r_p (p_assign rfl) rfl ?_
  refine r_nil ?_
  refine r_cret ?_
  refine r_ret () trivial rfl (rs1 (rv_tmp rfl)) rfl [0] [] rfl rfl rfl
set_option maxRecDepth 100000 in
theorem sortedF_spec (Bro : Asn) (v : SV) (xs : List Lk) (hl : xs.length ≤ 1000) :
    Spec Try.prog 65 [sv v, FVf] [own 64 3 eL (sv v) xs] [Bro] (X := Unit) (fun _ => True) (fun _ => sv v) (fun _ => [own 64 3 eL (sv v) (stable dL lessF xs)]) (fun _ => []) := by
  refine r_enter Try.func65 rfl Try.ntmps65 rfl fun w0 M H => ?_
  refine r_seq ?_
  refine r_region ?_
  refine r_box1 rfl rfl rfl fun b3 => ?_
  refine r_p (p_assign rfl) rfl ?_
  refine r_nil ?_
  refine r_seq ?_
  refine r_region ?_
  refine r_p (p_move rfl) rfl ?_
  refine r_p (p_makeFunc (first := []) (cap := [.tmp 3]) rfl rfl) rfl ?_
  refine r_call (xs := [.tmp 5, .tmp 6]) (stablefn_specL v xs (fun _ _ => trivial) hl (cmpF_ok Bro b3)) cb77 [0, 3] [(false, 0)] [0, 3] [] rfl rfl rfl rfl rfl rfl rfl rfl (fun _ _ => rfl) (fun _ _ _ => rfl) rfl (fun _ _ => ?_)
  refine r_nil ?_
  refine r_seq ?_
  refine r_region ?_
  refine r_p (p_move rfl) rfl ?_
  refine r_p (p_assign rfl) rfl ?_
  refine r_nil ?_
  refine r_cret ?_
  refine r_ret () trivial rfl (rs1 (rv_tmp rfl)) rfl [0] [] rfl rfl rfl
set_option maxHeartbeats 1000000 in
set_option maxRecDepth 100000 in
theorem chained_spec (C : Nat) (base size cur : Int) (ob ol : Option Nat) (nf : Nat) (caps : List Value) (A1 A2 : Asn) (p : Lk → Bool) (K : List Lk) (hcb : Cb Try.prog nf) (hok : ∀ x ∈ K, Spec Try.prog nf ([veL x] ++ caps) [] [A1, A2] (X := Unit) (fun _ => True) (fun _ => .bool (p x)) (fun _ => []) (fun _ => [])) (hK : K.Pairwise ltK) (hlen : K.length < 40) :
    Spec Try.prog 48 [.pointer (some ⟨C, 0, none⟩), .func (.func nf) #[] caps.toArray] [] [row C 84 (cC base size cur ob ol), mpL ol K, A1, A2] (X := SV) (fun _ => True) (fun x => sv x) (fun x => [own 64 3 eL (sv x) (K.filter p)]) (fun _ => []) := by
  refine r_enter Try.func48 rfl Try.ntmps48 rfl fun w0 M H => ?_
  refine r_nilown 100 (S := 64) (s := 3) (enc := eL) ?_
  refine r_mpoR 1 5 rfl (fun ms clk hpm hW => ?_)
  refine r_seq ?_
  refine r_region ?_
  refine r_p (p_assign rfl) rfl ?_
  refine r_nil ?_
  refine r_seq ?_
  refine r_seq ?_
  refine r_region ?_
  refine r_p (p_move rfl) rfl ?_
  refine r_p (p_bin rfl rfl (b_eqPn Try.underlying25)) rfl ?_
  refine r_nil ?_
  refine r_cond rfl (fun h1 => ?_) (fun h1 => ?_)
  · exact absurd h1 (by simp)
  · (try simp only [decide_eq_true_eq, decide_eq_false_iff_not, Bool.and_eq_true, Bool.or_eq_true, Bool.and_eq_false_iff, Bool.or_eq_false_iff, Bool.not_eq_true, Bool.not_eq_false, Bool.not_eq_true', Bool.not_eq_false', Bool.not_not, bne_iff_ne, beq_iff_eq] at h1)
    refine r_skip ?_
    refine r_seq ?_
    refine r_region ?_
    refine r_p (p_assign rfl) rfl ?_
    refine r_nil ?_
    refine r_seq ?_
    refine r_seq ?_
    refine r_region ?_
    refine r_p (p_move rfl) rfl ?_
    refine r_p (p_nilCheck rfl) rfl ?_
    refine r_p (p_field0 fo84_4 rfl) rfl ?_
    refine r_p (p_load1 t82 rfl rfl (g_row1R (k := 0) rfl rfl)) rfl ?_
    refine r_range Try.underlying82 rfl (hms_ro (k := 5) rfl) rfl fun i15 => ?_
    refine r_nil ?_
    refine r_block ?_
    refine r_loop (X := SV × List (Lk × Nat)) (fun x => Vis ms x.2) (fun x => [(0, .pointer (some ⟨C, 0, none⟩)), (1, .func (.func nf) #[] caps.toArray), (5, sv x.1), (15, .pointer (some ⟨i15, 0, none⟩))]) (fun x => [(100, own 64 3 eL (sv x.1) ((x.2.map (·.1)).filter p)), (15, itr i15 ol clk x.2)]) (fun x => [(0, row C 84 (cC base size cur ob ol)), (1, mpL ol K), (2, A1), (3, A2), (5, mps mkS kfS vfS ol ms clk)]) (fun x => lft ms x.2) (nilS, []) (Vis.zero ms) rfl rfl rfl (fun ⟨v5, done⟩ hv => ?_)
    dsimp only at hv ⊢
    have hlm : ms.length = K.length := by rw [← hpm.length_eq, List.length_map]
    have hfl : ((done.map (·.1)).filter p).length ≤ done.length := by
      have := List.length_filter_le p (done.map (·.1))
      simpa using this
    have hvl := hv.len
    refine r_seq ?_
    refine r_region ?_
    refine r_next (ki := 15) rfl rfl (hms_ro (k := 5) rfl) rfl (fun hover => ?_) (fun m hm hno => ?_)
    · refine r_p (p_extract rfl rfl) rfl ?_
      refine r_nil ?_
      refine r_seq ?_
      refine r_cond rfl (fun h2 => ?_) (fun h2 => ?_)
      · exact absurd h2 (by simp)
      · (try simp only [decide_eq_true_eq, decide_eq_false_iff_not, Bool.and_eq_true, Bool.or_eq_true, Bool.and_eq_false_iff, Bool.or_eq_false_iff, Bool.not_eq_true, Bool.not_eq_false, Bool.not_eq_true', Bool.not_eq_false', Bool.not_not, bne_iff_ne, beq_iff_eq] at h2)
        have hdp := done_perm hW.born hv.sub hv.nd hover
        have heq := sortL_eq (l := (done.map (·.1)).filter p) (K := K.filter p) (((hdp.map _).trans hpm).filter p) (hK.filter p) (Nat.lt_of_le_of_lt (List.length_filter_le _ _) hlen)
        have hls := (stable_perm dL lessS ((done.map (·.1)).filter p)).length_eq
        refine r_exit ?_
        refine r_seq ?_
        refine r_region ?_
        refine r_p (p_move rfl) rfl ?_
        refine r_call (xs := [.tmp 34, .func 67]) (sortedS_spec (row C 84 (cC base size cur ob ol)) v5 _ (by omega)) cb66 [100] [(false, 0)] [100] [] rfl rfl rfl rfl rfl rfl rfl rfl (fun _ _ => rfl) (fun _ _ _ => rfl) rfl (fun _ _ => ?_)
        refine r_call (xs := [.tmp 35, .func 68]) (sortedF_spec (row C 84 (cC base size cur ob ol)) v5 _ (by rw [hls]; omega)) cb65 [100] [(false, 0)] [100] [] rfl rfl rfl rfl rfl rfl rfl rfl (fun _ _ => rfl) (fun _ _ _ => rfl) rfl (fun _ _ => ?_)
        refine r_p (p_assign rfl) rfl ?_
        refine r_nil ?_
        refine r_cret ?_
        refine r_ret _ trivial rfl (rs1 (rv_tmp rfl)) rfl [100] [] rfl (by rw [heq]; rfl) rfl
    · refine r_p (p_extract rfl rfl) rfl ?_
      refine r_nil ?_
      refine r_seq ?_
      refine r_cond rfl (fun h3 => ?_) (fun h3 => ?_)
      · (try simp only [decide_eq_true_eq, decide_eq_false_iff_not, Bool.and_eq_true, Bool.or_eq_true, Bool.and_eq_false_iff, Bool.or_eq_false_iff, Bool.not_eq_true, Bool.not_eq_false, Bool.not_eq_true', Bool.not_eq_false', Bool.not_not, bne_iff_ne, beq_iff_eq] at h3)
        refine r_skip ?_
        refine r_block ?_
        refine r_seq ?_
        refine r_region ?_
        refine r_p (p_entry (ki := 15) rfl rfl (hms_ro (k := 5) rfl) hm) rfl ?_
        refine r_p (p_extract rfl rfl) rfl ?_
        refine r_p (p_extract rfl rfl) rfl ?_
        refine r_alloc t107 rfl rfl fun b6 => ?_
        refine r_store_all (k := 6) t107 rfl rfl rfl rfl rfl rfl ?_
        refine r_p (p_assign rfl) rfl ?_
        refine r_nil ?_
        refine r_seq ?_
        refine r_region ?_
        refine r_p (p_field0 fo107_0 rfl) rfl ?_
        refine r_p (p_load1 t30 rfl rfl (g_row1 (k := 6) rfl rfl)) rfl ?_
        refine r_p (p_field0 fo107_1 rfl) rfl ?_
        refine r_p (p_load1 t3 rfl rfl (g_row1 (k := 6) rfl rfl)) rfl ?_
        refine r_p (p_move rfl) rfl ?_
        refine r_p (p_build (parts := [(0, .tmp 22), (1, .tmp 24), (2, .tmp 25)]) t64 pl64 rfl rfl) rfl ?_
        refine r_alloc t64 rfl rfl fun b8 => ?_
        refine r_store_all (k := 8) t64 rfl rfl rfl rfl rfl rfl ?_
        refine r_nil ?_
        refine r_seq ?_
        refine r_region ?_
        refine r_p (p_move rfl) rfl ?_
        refine r_p (p_loadA t64 rfl rfl rfl (g_all (k := 8) rfl)) rfl ?_
        refine r_call (xs := [.tmp 28]) (hok m.1 (hpm.mem_iff.1 (List.mem_map.2 ⟨m, hm, rfl⟩))) hcb [] [(false, 2), (false, 3)] [] [] rfl rfl rfl rfl rfl rfl rfl rfl (fun _ _ => rfl) (fun _ _ _ => rfl) rfl (fun _ _ => ?_)
        refine r_nil ?_
        refine r_cond rfl (fun h4 => ?_) (fun h4 => ?_)
        · (try simp only [decide_eq_true_eq, decide_eq_false_iff_not, Bool.and_eq_true, Bool.or_eq_true, Bool.and_eq_false_iff, Bool.or_eq_false_iff, Bool.not_eq_true, Bool.not_eq_false, Bool.not_eq_true', Bool.not_eq_false', Bool.not_not, bne_iff_ne, beq_iff_eq] at h4)
          have hpT : p m.1 = true := by simpa using h4
          refine r_region ?_
          refine r_p (p_move rfl) rfl ?_
          refine r_p (p_loadA t64 rfl rfl rfl (g_all (k := 8) rfl)) rfl ?_
          refine r_bslice1 eL m.1 Try.underlying40 t64 rfl (by decide) (by decide) rfl rfl rfl rfl fun v32 => ?_
          refine r_append 100 Try.underlying40 t64 rfl (by decide) (fun _ => rfl) (fun _ => rfl) rfl rfl rfl (hs_own (k := 32) rfl) (by first | omega | (simp; done) | (simp; omega)) (by unfold maxLen; first | omega | (simp; done) | (simp; omega)) rfl fun v33 => ?_
          refine r_p (p_assign rfl) rfl ?_
          refine r_nil ?_
          refine r_here (_, done ++ [m]) ⟨hv.step hm hno, lft_lt hm hno⟩ rfl (by rw [List.map_append, List.filter_append]; simp [hpT]; rfl) rfl
        · (try simp only [decide_eq_true_eq, decide_eq_false_iff_not, Bool.and_eq_true, Bool.or_eq_true, Bool.and_eq_false_iff, Bool.or_eq_false_iff, Bool.not_eq_true, Bool.not_eq_false, Bool.not_eq_true', Bool.not_eq_false', Bool.not_not, bne_iff_ne, beq_iff_eq] at h4)
          have hpF : p m.1 = false := by simpa using h4
          refine r_skip ?_
          refine r_here (_, done ++ [m]) ⟨hv.step hm hno, lft_lt hm hno⟩ rfl (by rw [List.map_append, List.filter_append]; simp [hpF]; rfl) rfl
      · exact absurd h3 (by simp)

end Go.Proofs.Ytbkonlkffajhkaa
