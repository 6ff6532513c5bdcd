/-
  The journal: headers, room, a new disk, what is to be done. Conditions: few.
-/
import Derived.Test.YtohenjmkhncoiaaYR
import Derived.Test.YtohenjmkhncoiaaYA
namespace Go.Proofs.Ytohenjmkhncoiaa
set_option linter.unusedSimpArgs false
set_option linter.unusedVariables false
open Go.RowKit

/-- The cells of a journal. -/
def jC (D : Nat) (lst : Sp) (n : Int) (nxt : Sp) (vt : SV) : List Value := .pointer (some ⟨D, 0, none⟩) :: (snC lst ++ (.int .i64 n :: (snC nxt ++ [sv vt])))
/-- What a checkpoint still has to do. -/
inductive Ac where
  | sync
  | wr (bj bn bs : Nat) (n : Int) (s : ByteArray)
def acV (D : Nat) : Ac → Value
  | .sync => .func (.func 21) #[.pointer (some ⟨D, 0, none⟩)] #[]
  | .wr bj bn bs _ _ => .func (.func 64) #[] #[.pointer (some ⟨bj, 0, none⟩), .pointer (some ⟨bn, 0, none⟩), .pointer (some ⟨bs, 0, none⟩)]
def Ac.plain : Ac → Option (Int × ByteArray)
  | .sync => none
  | .wr _ _ _ n s => some (n, s)
def AcIn (w : World) (F : Nat → Prop) (J : Nat) : Ac → Prop
  | .sync => True
  | .wr bj bn bs n s => (F bj ∧ w.heap[bj]? = some (.cells #[.pointer (some ⟨J, 0, none⟩)] 49 (0, 0))) ∧ (F bn ∧ w.heap[bn]? = some (.cells #[.int .i64 n] 3 (0, 0))) ∧ (F bs ∧ w.heap[bs]? = some (.cells #[.string s] 9 (0, 0)))
theorem AcIn.stable {w w' : World} {F : Nat → Prop} {J : Nat} {a : Ac} (h : AcIn w F J a) (hs : ∀ b, F b → w'.heap[b]? = w.heap[b]?) : AcIn w' F J a := by
  cases a with
  | sync => trivial
  | wr bj bn bs n s => exact ⟨⟨h.1.1, (hs _ h.1.1).trans h.1.2⟩, ⟨h.2.1.1, (hs _ h.2.1.1).trans h.2.1.2⟩, ⟨h.2.2.1, (hs _ h.2.2.1).trans h.2.2.2⟩⟩
theorem AcIn.mono {w : World} {F F' : Nat → Prop} {J : Nat} {a : Ac} (h : AcIn w F J a) (hs : ∀ b, F b → F' b) : AcIn w F' J a := by
  cases a with
  | sync => trivial
  | wr bj bn bs n s => exact ⟨⟨hs _ h.1.1, h.1.2⟩, ⟨hs _ h.2.1.1, h.2.1.2⟩, ⟨hs _ h.2.2.1, h.2.2.2⟩⟩
def actsA (J : Nat) (l : List Ac) : Asn := ⟨fun w F => ∀ a ∈ l, AcIn w F J a, fun h hs a ha => (h a ha).stable hs⟩
theorem actsA_nil {J : Nat} (w : World) : (actsA J []).pred w (fun _ => False) := by intro a ha; simp at ha
theorem actsA_app {J : Nat} {l l' : List Ac} (w : World) (GA GB : Nat → Prop) (h : (actsA J l).pred w GA) (h' : (actsA J l').pred w GB) : (actsA J (l ++ l')).pred w fun b => GA b ∨ GB b := by
  intro a ha
  rcases List.mem_append.1 ha with ha | ha
  · exact (h a ha).mono fun b hb => .inl hb
  · exact (h' a ha).mono fun b hb => .inr hb
theorem actsA_sub {J : Nat} {l l' : List Ac} (hs : ∀ a ∈ l', a ∈ l) : ∀ w G, (actsA J l).pred w G → (∀ b, G b → b < w.heap.size) → ∃ G', (actsA J l').pred w G' ∧ ∀ b, G' b → G b := fun w G h _ => ⟨G, fun a ha => h a (hs a ha), fun _ hb => hb⟩
theorem acts_j {J : Nat} {l : List Ac} {bj bn bs : Nat} {n : Int} {s : ByteArray} : ∀ w G, (actsA J (.wr bj bn bs n s :: l)).pred w G → (∀ b, G b → b < w.heap.size) → ∃ G', (row bj 49 [.pointer (some ⟨J, 0, none⟩)]).pred w G' ∧ ∀ b, G' b → G b := fun w G h _ =>
  have h := h _ (List.mem_cons_self ..)
  ⟨fun b => b = bj, ⟨fun x => Iff.rfl, h.1.2⟩, fun b hb => hb ▸ h.1.1⟩
theorem acts_n {J : Nat} {l : List Ac} {bj bn bs : Nat} {n : Int} {s : ByteArray} : ∀ w G, (actsA J (.wr bj bn bs n s :: l)).pred w G → (∀ b, G b → b < w.heap.size) → ∃ G', (row bn 3 [.int .i64 n]).pred w G' ∧ ∀ b, G' b → G b := fun w G h _ =>
  have h := h _ (List.mem_cons_self ..)
  ⟨fun b => b = bn, ⟨fun x => Iff.rfl, h.2.1.2⟩, fun b hb => hb ▸ h.2.1.1⟩
theorem acts_s {J : Nat} {l : List Ac} {bj bn bs : Nat} {n : Int} {s : ByteArray} : ∀ w G, (actsA J (.wr bj bn bs n s :: l)).pred w G → (∀ b, G b → b < w.heap.size) → ∃ G', (row bs 9 [.string s]).pred w G' ∧ ∀ b, G' b → G b := fun w G h _ =>
  have h := h _ (List.mem_cons_self ..)
  ⟨fun b => b = bs, ⟨fun x => Iff.rfl, h.2.2.2⟩, fun b hb => hb ▸ h.2.2.1⟩
section
variable {P : Program} {N : Nat} {w0 : World} {M H : Nat → Prop} {E : Env} {Γ R : Ctx}
theorem r_mkAct (r1 r2 r3 r : Nat) {J bj bn bs : Nat} {n : Int} {s : ByteArray} {Rel : Act → World → Prop} (h1 : cget R r1 = some (row bj 49 [.pointer (some ⟨J, 0, none⟩)])) (h2 : cget R r2 = some (row bn 3 [.int .i64 n])) (h3 : cget R r3 = some (row bs 9 [.string s]))
    (h : At N w0 M H E Γ ((r, actsA J [.wr bj bn bs n s]) :: R) Rel) : At N w0 M H E Γ R Rel := fun a w hE ⟨F, hF⟩ => h a w hE ⟨F, hF.touch, hF.has, hF.lt, hF.mine, hF.apart, fun j D hj => by
  simp only [cget] at hj
  cases hb : Nat.beq r j with
  | true =>
    rw [hb] at hj
    simp at hj
    subst hj
    obtain ⟨G1, p1, q1⟩ := hF.ro r1 _ h1
    obtain ⟨G2, p2, q2⟩ := hF.ro r2 _ h2
    obtain ⟨G3, p3, q3⟩ := hF.ro r3 _ h3
    refine ⟨fun b => G1 b ∨ G2 b ∨ G3 b, fun a ha => ?_, fun b hb => ?_⟩
    · have : a = .wr bj bn bs n s := by simpa using ha
      subst this
      exact ⟨⟨.inl ((p1.1 _).2 rfl), p1.2⟩, ⟨.inr (.inl ((p2.1 _).2 rfl)), p2.2⟩, ⟨.inr (.inr ((p3.1 _).2 rfl)), p3.2⟩⟩
    · rcases hb with hb | hb | hb
      · exact q1 b hb
      · exact q2 b hb
      · exact q3 b hb
  | false => rw [hb] at hj; exact hF.ro j D hj⟩
theorem p_slice_loS {α : Type} {S U : TypeId} {D : TypeDesc} {z : Value} {s bb j : Nat} {enc : α → List Value} {x y : Operand} {k : IntKind} {i : Int} {v : SV} {l : List α} (hS : P.underlying S = some (.slice U)) (hU : TI P U D z s bb) (hx : ev E x = some (sv v)) (hy : ev E y = some (.int k i)) (hs : SlS w0 M H Γ R s enc (sv v) l) (hi : i = (j : Int)) (hj : j ≤ l.length) : PR P N w0 M H E Γ R (.slice S x (some y) none none) (sv (loS v j s)) :=
  fun _ _ _ a w hE hC _ _ => by
    subst hi
    obtain ⟨G, c, h1, h2, h3⟩ := hs w hC
    obtain ⟨va, vn, vc⟩ := v
    rcases h3 with ⟨rfl, _, hv⟩ | ⟨b, o, hv, _, _⟩
    · simp [sv] at hv
      obtain ⟨rfl, rfl, rfl⟩ := hv
      have hj0 : j = 0 := by simpa using hj
      subst hj0
      simp [execOp, hE.ev hx, hE.ev hy, Instr.sliceAt, Instr.slice, run_underlying hS, Instr.sliceBounds, Instr.sliceBound, asIntOf, hU.sizeOf, sv, loS]
    · simp [sv] at hv
      obtain ⟨rfl, rfl, rfl⟩ := hv
      have hjc : (j : Int) ≤ l.length := by omega
      by_cases hcj : vc = j
      · simp [execOp, hE.ev hx, hE.ev hy, Instr.sliceAt, Instr.slice, run_underlying hS, Instr.sliceBounds, Instr.sliceBound, asIntOf, hU.sizeOf, sv, hjc, add_lit', hcj, loS]
        exact fun h => absurd h (by omega)
      · simp [execOp, hE.ev hx, hE.ev hy, Instr.sliceAt, Instr.slice, run_underlying hS, Instr.sliceBounds, Instr.sliceBound, asIntOf, hU.sizeOf, sv, hjc, add_lit', hcj, loS]
        exact fun h => absurd h (by omega)
end

/-- A header, and a sector of zeros. -/
def zsec : ByteArray := ofI (List.replicate 64 0)
def hdrP (n : Int) (body : ByteArray) : List Int := [n, (body.size : Int)].flatMap eInt ++ [crc body].flatMap put4
def hdrL (n : Int) (body : ByteArray) : List Int := hdrP n body ++ [crc (ofI (hdrP n body))].flatMap put4
def hdrS (n : Int) (body : ByteArray) : ByteArray := ofI (hdrL n body) ++ ofI (List.replicate 40 0)
theorem okW1 {x : Int} (h : okW x) : ∀ j, j < [x].length → okW ([x].getD j 0) := okW_getD (by intro a ha; simp only [List.mem_cons, List.not_mem_nil, or_false] at ha; rw [ha]; exact h)

set_option maxHeartbeats 1000000 in
set_option maxRecDepth 100000 in
theorem header_spec (n : Int) (body : ByteArray) (hb : body.size ≤ 100000) :
    Spec Try.prog 65 [.int .i64 n, .string body] [] [] (X := Unit) (fun _ => True) (fun _ => .string (hdrS n body)) (fun _ => []) (fun _ => []) := by
  refine r_enter Try.func65 rfl Try.ntmps65 rfl fun w0 M H => ?_
  refine r_nilown 90 (α := Int) (S := 5) (s := 1) (enc := eU8) ?_
  refine r_seq ?_
  refine r_region ?_
  refine r_p (p_assign rfl) rfl ?_
  refine r_nil ?_
  refine r_seq ?_
  refine r_region ?_
  refine r_p (p_build (parts := []) t107 pl107 rfl rfl) rfl ?_
  refine r_boxA rfl rfl fun b7 => ?_
  refine r_p (p_assign rfl) rfl ?_
  refine r_nil ?_
  refine r_seq ?_
  refine r_region ?_
  refine r_p (p_move rfl) rfl ?_
  refine r_p (p_move rfl) rfl ?_
  refine r_p (p_move rfl) rfl ?_
  refine r_p (p_len_str Try.underlying9 rfl) rfl ?_
  refine r_bslice eI [n, (body.size : Int)] (parts := [(0, .tmp 9), (1, .tmp 11)]) Try.underlying28 t3 rfl (by decide) (by intro _; rfl) rfl (by decide) (by decide) rfl rfl rfl rfl fun v12 => ?_
  refine r_freeze 12 12 rfl own_to_sl ?_
  refine r_call (xs := [.tmp 8, .tmp 12]) (ints_spec b7 nilS v12 [] [n, (body.size : Int)] (Nat.le_of_ble_eq_true rfl)) cb49 [7, 90] [(false, 12)] [7, 90] [] rfl rfl rfl rfl rfl rfl rfl rfl (fun _ _ => rfl) (fun _ _ _ => rfl) rfl (fun w1 _ => ?_)
  refine r_nil ?_
  refine r_seq ?_
  refine r_region ?_
  refine r_p (p_move rfl) rfl ?_
  refine r_p (p_move rfl) rfl ?_
  refine r_call (xs := [.tmp 15]) (sumA_spec body (by omega)) cb72 [] [] [] [] rfl rfl rfl rfl rfl rfl rfl rfl (fun _ _ => rfl) (fun _ _ _ => rfl) rfl (fun _ _ => ?_)
  refine r_bslice1 eU _ Try.underlying57 t32 rfl (by decide) (by decide) rfl rfl rfl rfl fun v17 => ?_
  refine r_freeze 17 17 rfl own_to_sl ?_
  refine r_call (xs := [.tmp 14, .tmp 17]) (wwords_spec b7 w1 v17 ([] ++ [n, (body.size : Int)].flatMap eInt) [crc body] (Nat.le_of_ble_eq_true rfl) (okW1 (crc_ok _))) cb50 [7, 90] [(false, 17)] [7, 90] [] rfl rfl rfl rfl rfl rfl rfl rfl (fun _ _ => rfl) (fun _ _ _ => rfl) rfl (fun w2 _ => ?_)
  refine r_nil ?_
  refine r_seq ?_
  refine r_region ?_
  refine r_p (p_move rfl) rfl ?_
  refine r_p (p_move rfl) rfl ?_
  refine r_p (p_nilCheck rfl) rfl ?_
  refine r_p (p_field0 fo107_0 rfl) rfl ?_
  refine r_p (p_load1 t95 rfl rfl (g_row1 (k := 7) rfl rfl)) rfl ?_
  refine r_p (p_b2sE Try.underlying95 Try.underlying5 Try.underlying9 rfl (SlS.of (hs_own (k := 90) rfl))) rfl ?_
  refine r_call (xs := [.tmp 24]) (sumA_spec (ofI (hdrP n body)) (by rw [ofI_size]; exact Nat.le_of_ble_eq_true rfl)) cb72 [] [] [] [] rfl rfl rfl rfl rfl rfl rfl rfl (fun _ _ => rfl) (fun _ _ _ => rfl) rfl (fun _ _ => ?_)
  refine r_bslice1 eU _ Try.underlying57 t32 rfl (by decide) (by decide) rfl rfl rfl rfl fun v26 => ?_
  refine r_freeze 26 26 rfl own_to_sl ?_
  refine r_call (xs := [.tmp 19, .tmp 26]) (wwords_spec b7 w2 v26 (hdrP n body) [crc (ofI (hdrP n body))] (Nat.le_of_ble_eq_true rfl) (okW1 (crc_ok _))) cb50 [7, 90] [(false, 26)] [7, 90] [] rfl rfl rfl rfl rfl rfl rfl rfl (fun _ _ => rfl) (fun _ _ _ => rfl) rfl (fun w3 _ => ?_)
  refine r_nil ?_
  refine r_seq ?_
  refine r_draw [28, 29, 30, 31, 32, 33, 34, 35, 36, 37, 38, 39, 40, 41, 4] _ rfl (stg_mem (V := [(0, 28, _), (1, 29, _), (2, 30, _), (3, 31, _), (4, 32, _), (5, 33, _), (6, 34, _), (7, 35, _), (8, 36, _), (9, 37, _), (10, 38, _)]) [0, 1, 2, 3, 4, 5, 6, 7, 8, 9, 10] 11 [11, 10, 9, 8, 7, 6, 5] [12, 13, 14] (fun v39 => [(12, 40, _), (13, 41, _), (14, 4, _)]) rfl rfl (prs_cons (pri rfl (p_move rfl)) (prs_cons (pri rfl (p_nilCheck rfl)) (prs_cons (pri rfl (p_field0 fo107_0 rfl)) (prs_cons (pri rfl (p_load1 t95 rfl rfl (g_row1 (k := 7) rfl rfl))) (prs_cons (pri rfl (p_b2sE Try.underlying95 Try.underlying5 Try.underlying9 rfl (SlS.of (hs_own (k := 90) rfl)))) (prs_cons (pri rfl (p_move rfl)) (prs_cons (pri rfl (p_nilCheck rfl)) (prs_cons (pri rfl (p_field0 fo107_0 rfl)) (prs_cons (pri rfl (p_load1 t95 rfl rfl (g_row1 (k := 7) rfl rfl))) (prs_cons (pri rfl (p_len_sl Try.underlying95 rfl (hs_own (k := 90) rfl))) (prs_cons (pri rfl (p_bin rfl rfl (b_sub (c := 40) (by rfl)))) prs_nil))))))))))) rfl rfl rfl rfl rfl rfl rfl rfl rfl rfl rfl (fun _ _ => rfl) rfl (ms_makeN eU8 (0 : Int) Try.underlying95 t5 rfl rfl rfl rfl (c := 40) rfl rfl (by omega) (by simp only [maxLen]; omega)) (fun v39 _ => stg_end [12, 13, 14, 0, 1, 2, 3, 4] rfl rfl (prs_cons (pri rfl (p_b2sE Try.underlying95 Try.underlying5 Try.underlying9 rfl (SlS.of (hs_own (k := 39) rfl)))) (prs_cons (pri rfl (p_bin rfl rfl (b_sadd (by rw [ofI_size, ofI_size]; exact Nat.le_of_ble_eq_true rfl)))) (prs_cons (pri rfl (p_assign rfl)) (prs_cons (pri rfl (p_move rfl)) (prs_cons (pri rfl (p_nilCheck rfl)) (prs_cons (pri rfl (p_field0 fo107_0 rfl)) (prs_cons (pri rfl (p_load1 t95 rfl rfl (g_row1 (k := 7) rfl rfl))) (prs_cons (pri rfl (p_b2sE Try.underlying95 Try.underlying5 Try.underlying9 rfl (SlS.of (hs_own (k := 90) rfl)))) prs_nil)))))))) rfl rfl rfl ?_))
  refine r_cret ?_
  refine r_ret () trivial rfl (rs1 (rv_tmp rfl)) rfl [] [] rfl rfl rfl
set_option maxRecDepth 100000 in
theorem room_spec (D : Nat) (v : SV) (ob : Option Nat) (off armed : Bool) (left : Int) (dur : List ByteArray) (h1 : 2 ≤ dur.length) (h2 : dur.length ≤ 65536) :
    Spec Try.prog 61 [.pointer (some ⟨D, 0, none⟩)] [] [row D 94 (dC v ob off armed left), own 9 1 eS (sv v) dur] (X := Unit) (fun _ => True) (fun _ => .int .i64 (((dur.length - 2) / 2 : Nat) : Int)) (fun _ => []) (fun _ => []) := by
  refine r_enter Try.func61 rfl Try.ntmps61 rfl fun w0 M H => ?_
  refine r_seq ?_
  refine r_region ?_
  refine r_p (p_assign rfl) rfl ?_
  refine r_nil ?_
  refine r_seq ?_
  refine r_region ?_
  refine r_p (p_move rfl) rfl ?_
  refine r_call (xs := [.tmp 3]) (sectors_spec D v ob off armed left dur) cb29 [] [(false, 0), (false, 1)] [] [] rfl rfl rfl rfl rfl rfl rfl rfl (fun _ _ => rfl) (fun _ _ _ => rfl) rfl (fun _ _ => ?_)
  refine r_p (p_bin rfl rfl (b_sub (by first | exact w_i64 (by omega) (by omega) | rfl))) rfl ?_
  refine r_p (p_bin rfl rfl (b_quo (c := (((dur.length - 2) / 2 : Nat) : Int)) (by omega) (by rw [Int.tdiv_eq_ediv_of_nonneg (by omega), show ((dur.length : Int) - 2) / 2 = (((dur.length - 2) / 2 : Nat) : Int) by omega]; exact w_i64 (by omega) (by omega)))) rfl ?_
  refine r_p (p_assign rfl) rfl ?_
  refine r_nil ?_
  refine r_cret ?_
  refine r_ret () trivial rfl (rs1 (rv_tmp rfl)) rfl [] [] rfl rfl rfl
set_option maxHeartbeats 1000000 in
set_option maxRecDepth 100000 in
theorem newdisk_spec (n : Int) :
    Spec Try.prog 16 [.int .i64 n] [] [] (X := Nat × SV × Nat) (fun _ => True) (fun x => .pointer (some ⟨x.1, 0, none⟩)) (fun x => [row x.1 94 (dC x.2.1 (some x.2.2) false false 0), mp mkI Prod.fst vS (some x.2.2) [], own 9 1 eS (sv x.2.1) (List.replicate (max 0 (min n 65536)).toNat zsec)]) (fun _ => []) := by
  refine r_enter Try.func16 rfl Try.ntmps16 rfl fun w0 M H => ?_
  refine r_nilown 60 (α := ByteArray) (S := 9) (s := 1) (enc := eS) ?_
  obtain ⟨c, hc⟩ : ∃ c : Nat, max 0 (min n 65536) = (c : Int) := ⟨(max 0 (min n 65536)).toNat, by omega⟩
  refine r_seq ?_
  refine r_region ?_
  refine r_p (p_assign rfl) rfl ?_
  refine r_nil ?_
  refine r_seq ?_
  refine r_region ?_
  refine r_makeMap (Prod.fst : Int × ByteArray → Int) mkI vS rfl fun b5 => ?_
  refine r_p (p_build (parts := [(1, .tmp 5)]) t94 pl94 rfl rfl) rfl ?_
  refine r_boxA rfl rfl fun b7 => ?_
  refine r_p (p_assign rfl) rfl ?_
  refine r_nil ?_
  refine r_seq ?_
  refine r_region ?_
  refine r_makeN eU8 (0 : Int) Try.underlying95 t5 rfl rfl rfl rfl (c := 64) rfl rfl (by omega) (by simp only [maxLen]; omega) rfl fun v8 => ?_
  refine r_p (p_b2sE Try.underlying95 Try.underlying5 Try.underlying9 rfl (SlS.of (hs_own (k := 8) rfl))) rfl ?_
  refine r_p (p_assign rfl) rfl ?_
  refine r_nil ?_
  refine r_seq ?_
  refine r_seq ?_
  refine r_region ?_
  refine r_p (p_move rfl) rfl ?_
  refine r_p (p_min rfl rfl rfl) rfl ?_
  refine r_p (p_max rfl rfl rfl) rfl ?_
  refine r_p (p_move rfl) rfl ?_
  refine r_nil ?_
  refine r_block ?_
  refine r_loop (X := Nat × SV) (fun x => x.1 ≤ c) (fun x => [(3, .pointer (some ⟨b7, 0, none⟩)), (4, .string zsec), (12, .int .i64 (c : Int)), (13, .int .i64 (x.1 : Int))]) (fun x => [(7, row b7 94 (dC x.2 (some b5) false false 0)), (5, mp mkI Prod.fst vS (some b5) []), (60, own 9 1 eS (sv x.2) (List.replicate x.1 zsec))]) (fun x => []) (fun x => c - x.1) (0, nilS) (Nat.zero_le _) (by show _ = _; rw [show max 0 (min n 65536) = (c : Int) from hc]; rfl) rfl rfl (fun x hk0 => ?_)
  obtain ⟨k, vk⟩ := x
  dsimp only at hk0 ⊢
  refine r_seq ?_
  refine r_region ?_
  refine r_p (p_bin rfl rfl b_lt) rfl ?_
  refine r_nil ?_
  refine r_seq ?_
  refine r_cond rfl (fun h1 => ?_) (fun h1 => ?_)
  · (try simp only [decide_eq_true_eq, decide_eq_false_iff_not, Bool.and_eq_true, Bool.or_eq_true, Bool.and_eq_false_iff, Bool.or_eq_false_iff, Bool.not_eq_true, Bool.not_eq_false, Bool.not_eq_true', Bool.not_eq_false', Bool.not_not, bne_iff_ne, beq_iff_eq] at h1)
    have hk : k < c := by omega
    refine r_skip ?_
    refine r_seq ?_
    refine r_block ?_
    refine r_region ?_
    refine r_p (p_move rfl) rfl ?_
    refine r_p (p_move rfl) rfl ?_
    refine r_p (p_nilCheck rfl) rfl ?_
    refine r_p (p_field0 fo94_0 rfl) rfl ?_
    refine r_p (p_load1 t41 rfl rfl (g_row1 (k := 7) rfl rfl)) rfl ?_
    refine r_p (p_move rfl) rfl ?_
    refine r_bslice1 eS _ Try.underlying41 t9 rfl (by decide) (by decide) rfl rfl rfl rfl fun v21 => ?_
    refine r_append 60 Try.underlying41 t9 rfl (by decide) (fun _ => rfl) (fun _ => rfl) rfl rfl rfl (hs_own (k := 21) rfl) (by simp only [List.length_replicate, List.length_cons, List.length_nil]; omega) (by unfold maxLen; simp only [List.length_replicate, List.length_cons, List.length_nil]; omega) rfl fun v22 => ?_
    refine r_p (p_nilCheck rfl) rfl ?_
    refine r_p (p_field0 fo94_0 rfl) rfl ?_
    refine r_store_row (k := 7) t41 rfl rfl rfl rfl rfl rfl rfl rfl ?_
    refine r_nil ?_
    refine r_region ?_
    refine r_p (p_bin rfl rfl (b_add (by first | exact w_i64 (by omega) (by omega) | rfl))) rfl ?_
    refine r_p (p_move rfl) rfl ?_
    refine r_nil ?_
    refine r_here (k + 1, v22) ⟨by dsimp only; omega, by dsimp only; omega⟩ rfl (by rw [List.replicate_succ']; rfl) rfl
  · (try simp only [decide_eq_true_eq, decide_eq_false_iff_not, Bool.and_eq_true, Bool.or_eq_true, Bool.and_eq_false_iff, Bool.or_eq_false_iff, Bool.not_eq_true, Bool.not_eq_false, Bool.not_eq_true', Bool.not_eq_false', Bool.not_not, bne_iff_ne, beq_iff_eq] at h1)
    have hk : k = c := by omega
    subst hk
    refine r_exit ?_
    refine r_seq ?_
    refine r_region ?_
    refine r_p (p_move rfl) rfl ?_
    refine r_p (p_assign rfl) rfl ?_
    refine r_nil ?_
    refine r_cret ?_
    refine r_ret (b7, vk, b5) trivial rfl (rs1 (rv_tmp rfl)) rfl [7, 5, 60] [] rfl (by rw [hc]; rfl) rfl
set_option maxRecDepth 100000 in
theorem mkwrite_spec (J bj : Nat) (n : Int) (s : ByteArray) :
    Spec Try.prog 63 [.int .i64 n, .string s, .pointer (some ⟨bj, 0, none⟩)] [] [row bj 49 [.pointer (some ⟨J, 0, none⟩)]] (X := Nat × Nat) (fun _ => True) (fun x => .func (.func 64) #[] #[.pointer (some ⟨bj, 0, none⟩), .pointer (some ⟨x.1, 0, none⟩), .pointer (some ⟨x.2, 0, none⟩)]) (fun _ => []) (fun x => [actsA J [.wr bj x.1 x.2 n s]]) := by
  refine r_enter Try.func63 rfl Try.ntmps63 rfl fun w0 M H => ?_
  refine r_seq ?_
  refine r_region ?_
  refine r_box1 rfl rfl rfl fun b3 => ?_
  refine r_box1 rfl rfl rfl fun b4 => ?_
  refine r_p (p_assign rfl) rfl ?_
  refine r_nil ?_
  refine r_seq ?_
  refine r_region ?_
  refine r_p (p_makeFunc (first := []) (cap := [.tmp 2, .tmp 3, .tmp 4]) rfl rfl) rfl ?_
  refine r_p (p_assign rfl) rfl ?_
  refine r_nil ?_
  refine r_cret ?_
  refine r_freeze 3 3 rfl (fun _ _ h => h) ?_
  refine r_freeze 4 4 rfl (fun _ _ h => h) ?_
  refine r_mkAct 0 3 4 9 rfl rfl rfl ?_
  refine r_ret (b3, b4) trivial rfl (rs1 (rv_tmp rfl)) rfl [] [9] rfl rfl rfl
set_option maxRecDepth 100000 in
theorem dowrite_spec (D : Nat) (v : SV) (m : Nat) (off armed : Bool) (left : Int) (dur : List ByteArray) (fr : List (Int × ByteArray)) (J bj bn bs : Nat) (lst nxt : Sp) (jn : Int) (vt : SV) (n : Int) (s : ByteArray) :
    Spec Try.prog 64 [.pointer (some ⟨bj, 0, none⟩), .pointer (some ⟨bn, 0, none⟩), .pointer (some ⟨bs, 0, none⟩)] [row D 94 (dC v (some m) off armed left), mp mkI Prod.fst vS (some m) fr, own 9 1 eS (sv v) dur] [row J 100 (jC D lst jn nxt vt), row bj 49 [.pointer (some ⟨J, 0, none⟩)], row bn 3 [.int .i64 n], row bs 9 [.string s]] (X := Unit) (fun _ => True) (fun _ => .int .i64 (wrF off armed left dur.length fr n s).e) (fun _ => [row D 94 (dC v (some m) (wrF off armed left dur.length fr n s).off armed (wrF off armed left dur.length fr n s).left), mp mkI Prod.fst vS (some m) (wrF off armed left dur.length fr n s).fr, own 9 1 eS (sv v) dur]) (fun _ => []) := by
  refine r_enter Try.func64 rfl Try.ntmps64 rfl fun w0 M H => ?_
  refine r_seq ?_
  refine r_region ?_
  refine r_p (p_assign rfl) rfl ?_
  refine r_nil ?_
  refine r_seq ?_
  refine r_draw [4, 5, 6, 7, 8, 9, 10, 3] _ rfl (stg_mem (V := [(0, 4, _), (1, 5, _), (2, 6, _), (3, 7, _), (4, 8, _), (5, 9, _)]) [0, 1, 2, 3, 4, 5] 6 [6, 5, 4, 3, 2, 1, 0] [7] (fun _ => [(7, 3, _)]) rfl rfl (prs_cons (pri rfl (p_load1 t49 rfl rfl (g_row1R (k := 1) rfl rfl))) (prs_cons (pri rfl (p_nilCheck rfl)) (prs_cons (pri rfl (p_field0 fo100_0 rfl)) (prs_cons (pri rfl (p_load1 t24 rfl rfl (g_row1R (k := 0) rfl rfl))) (prs_cons (pri rfl (p_load1 t3 rfl rfl (g_row1R (k := 2) rfl rfl))) (prs_cons (pri rfl (p_load1 t9 rfl rfl (g_row1R (k := 3) rfl rfl))) prs_nil)))))) rfl rfl rfl rfl rfl rfl rfl rfl rfl rfl rfl (fun _ _ => rfl) rfl (ms_call (xs := [.tmp 7, .tmp 8, .tmp 9]) (write_spec D v m off armed left dur fr n s) cb19 [0, 1] [(true, 2)] [0, 1] [] rfl rfl rfl rfl rfl rfl rfl rfl (fun _ _ => rfl) (fun _ _ _ => rfl)) (fun _ _ => stg_end [7] rfl rfl (prs_cons (pri rfl (p_assign rfl)) prs_nil) rfl rfl rfl ?_))
  refine r_cret ?_
  refine r_ret () trivial rfl (rs1 (rv_tmp rfl)) rfl [0, 1, 2] [] rfl rfl rfl
set_option maxRecDepth 100000 in
theorem busy_spec (J D : Nat) (lst : Sp) (n : Int) (nxt : Sp) (vt : SV) (l : List Ac) :
    Spec Try.prog 36 [.pointer (some ⟨J, 0, none⟩)] [] [row J 100 (jC D lst n nxt vt), ownX 35 (acV D) vt l] (X := Unit) (fun _ => True) (fun _ => .bool (decide (0 < l.length))) (fun _ => []) (fun _ => []) := by
  refine r_enter Try.func36 rfl Try.ntmps36 rfl fun w0 M H => ?_
  refine r_seq ?_
  refine r_region ?_
  refine r_p (p_assign rfl) rfl ?_
  refine r_nil ?_
  refine r_seq ?_
  refine r_region ?_
  refine r_p (p_move rfl) rfl ?_
  refine r_p (p_bin rfl rfl (b_nePn Try.underlying49)) rfl ?_
  refine r_p (p_move rfl) rfl ?_
  refine r_split (t := 5) rfl (fun h1 => ?_) (fun h1 => False.elim (by simp at h1))
  refine r_gyes rfl rfl ?_
  refine r_p (p_move rfl) rfl ?_
  refine r_gyes rfl rfl ?_
  refine r_p (p_nilCheck rfl) rfl ?_
  refine r_gyes rfl rfl ?_
  refine r_p (p_field0 fo100_4 rfl) rfl ?_
  refine r_gyes rfl rfl ?_
  refine r_p (p_load1 t98 rfl rfl (g_row1R (k := 0) rfl rfl)) rfl ?_
  refine r_gyes rfl rfl ?_
  refine r_p (p_len_slS Try.underlying98 rfl (fun w hC => let ⟨G, hp, _⟩ := hC.reads (.inr (show cget _ 1 = some _ from rfl)); ⟨G, ownX_sl hp⟩)) rfl ?_
  refine r_gyes rfl rfl ?_
  refine r_p (p_bin rfl rfl b_gt) rfl ?_
  refine r_p (p_pick rfl rfl rfl (by first | exact pick_and | exact pick_or |  rfl)) rfl ?_
  refine r_p (p_assign rfl) rfl ?_
  refine r_nil ?_
  refine r_cret ?_
  refine r_ret () trivial rfl (rs1 (rv_tmp rfl)) (congrArg Value.bool (by show decide ((l.length : Int) > 0) = _; exact decide_eq_decide.2 (by omega))) [] [] rfl rfl rfl
set_option maxRecDepth 100000 in
theorem busy_nil  :
    Spec Try.prog 36 [.pointer none] [] [] (X := Unit) (fun _ => True) (fun _ => .bool false) (fun _ => []) (fun _ => []) := by
  refine r_enter Try.func36 rfl Try.ntmps36 rfl fun w0 M H => ?_
  refine r_seq ?_
  refine r_region ?_
  refine r_p (p_assign rfl) rfl ?_
  refine r_nil ?_
  refine r_seq ?_
  refine r_region ?_
  refine r_p (p_move rfl) rfl ?_
  refine r_p (p_bin rfl rfl (b_nePn Try.underlying49)) rfl ?_
  refine r_p (p_move rfl) rfl ?_
  refine r_split (t := 5) rfl (fun h1 => False.elim (by simp at h1)) (fun h1 => ?_)
  refine r_gno rfl rfl rfl rfl ?_
  refine r_gno rfl rfl rfl rfl ?_
  refine r_gno rfl rfl rfl rfl ?_
  refine r_gno rfl rfl rfl rfl ?_
  refine r_gno rfl rfl rfl rfl ?_
  refine r_gno rfl rfl rfl rfl ?_
  refine r_p (p_pick rfl rfl rfl (by first | exact pick_and | exact pick_or |  rfl)) rfl ?_
  refine r_p (p_assign rfl) rfl ?_
  refine r_nil ?_
  refine r_cret ?_
  refine r_ret () trivial rfl (rs1 (rv_tmp rfl)) rfl [] [] rfl rfl rfl

end Go.Proofs.Ytohenjmkhncoiaa
