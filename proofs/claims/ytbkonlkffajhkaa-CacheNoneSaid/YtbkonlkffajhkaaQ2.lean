/-
  Choosing blocks of the cache, in the order of their places. Conditions: their places are different, and there are few.
-/
import Derived.Test.YtbkonlkffajhkaaQ1
import Derived.Test.YtbkonlkffajhkaaSE
namespace Go.Proofs.Ytbkonlkffajhkaa
set_option linter.unusedSimpArgs false
set_option linter.unusedVariables false
open Go.RowKit

theorem filter_lt {α : Type} {p q : α → Bool} {l : List α} (h : ∀ x ∈ l, p x = true → q x = true) {m : α} (hm : m ∈ l) (h1 : q m = true) (h2 : p m = false) : (l.filter p).length < (l.filter q).length := by
  induction l with
  | nil => simp at hm
  | cons y r ih =>
    have hle : ∀ r : List α, (∀ x ∈ r, p x = true → q x = true) → (r.filter p).length ≤ (r.filter q).length := by
      intro r
      induction r with
      | nil => intro _; simp
      | cons z s ihs =>
        intro hz
        have := ihs fun x hx => hz x (List.mem_cons_of_mem _ hx)
        have hz0 := hz z (List.mem_cons_self ..)
        cases hp : p z <;> cases hq : q z <;> simp [hp, hq] at hz0 ⊢ <;> omega
    have h3 := hle r fun x hx => h x (List.mem_cons_of_mem _ hx)
    have hy := h y (List.mem_cons_self ..)
    rcases List.mem_cons.1 hm with rfl | hm
    · simp [h1, h2]; omega
    · have := ih (fun x hx => h x (List.mem_cons_of_mem _ hx)) hm
      cases hp : p y <;> cases hq : q y <;> simp [hp, hq] at hy ⊢ <;> omega
/-- The entries that are not visited yet. -/
def lft {α : Type} (ms done : List (α × Nat)) : Nat := (ms.filter fun q => decide (q.2 ∉ done.map (·.2))).length
theorem lft_lt {α : Type} {ms done : List (α × Nat)} {m : α × Nat} (hm : m ∈ ms) (h : m.2 ∉ done.map (·.2)) : lft ms (done ++ [m]) < lft ms done := by
  refine filter_lt (fun x _ hx => ?_) hm ?_ ?_
  · simp only [decide_eq_true_eq, List.map_append, List.mem_append, not_or] at hx ⊢
    exact hx.1
  · simpa only [decide_eq_true_eq] using h
  · simp
theorem lft_nil {α : Type} (ms : List (α × Nat)) : lft ms [] = ms.length := by
  unfold lft
  rw [List.filter_eq_self.2]
  intro x _
  simp
/-- A round's head of a loop over a map. -/
structure Vis {α : Type} (ms done : List (α × Nat)) : Prop where
  sub : ∀ m ∈ done, m ∈ ms
  nd : (done.map (·.2)).Nodup
  len : done.length + lft ms done ≤ ms.length
theorem Vis.zero {α : Type} (ms : List (α × Nat)) : Vis ms [] := ⟨by simp, by simp, by rw [lft_nil]; simp⟩
theorem Vis.step {α : Type} {ms done : List (α × Nat)} (h : Vis ms done) {m : α × Nat} (hm : m ∈ ms) (hn : m.2 ∉ done.map (·.2)) : Vis ms (done ++ [m]) := by
  refine ⟨fun x hx => ?_, ?_, ?_⟩
  · rcases List.mem_append.1 hx with hx | hx
    · exact h.sub x hx
    · simp at hx; subst hx; exact hm
  · rw [List.map_append, List.nodup_append]
    refine ⟨h.nd, by simp, fun u hu v hv => ?_⟩
    simp at hv
    subst hv
    intro e
    exact hn (e ▸ hu)
  · have h1 := h.len
    have h2 := lft_lt hm hn
    simp
    omega
theorem perm_strict {α : Type} {R : α → α → Prop} {f : α → Int} {l L : List α} (hp : l.Perm L) (hl : l.Pairwise fun x y => f x ≤ f y) (hL : L.Pairwise fun x y => f x < f y) : l = L := by
  refine List.Perm.eq_of_pairwise (le := fun x y => f x ≤ f y) (fun a b ha hb h1 h2 => ?_) hl (hL.imp fun h => Int.le_of_lt h) hp
  have ha' := hp.mem_iff.1 ha
  obtain ⟨i, hi, ei⟩ := List.getElem_of_mem ha'
  obtain ⟨j, hj, ej⟩ := List.getElem_of_mem hb
  have hp2 := List.pairwise_iff_getElem.1 hL
  rcases Nat.lt_trichotomy i j with h | h | h
  · have := hp2 i j hi hj h
    rw [ei, ej] at this
    omega
  · subst h
    rw [← ei, ← ej]
  · have := hp2 j i hj hi h
    rw [ei, ej] at this
    omega
theorem srt_pair {α : Type} {d : α} {R : α → α → Prop} {l : List α} (h : Srt d R l 0 l.length) : l.Pairwise R := by
  rw [List.pairwise_iff_getElem]
  intro i j hi hj hij
  have := h i j (Nat.zero_le _) hij hj
  rw [List.getD_eq_getElem?_getD, List.getD_eq_getElem?_getD, List.getElem?_eq_getElem hi, List.getElem?_eq_getElem hj] at this
  exact this
theorem sortB_eq {base : Int} {l L : List En} (hp : l.Perm L) (hL : L.Pairwise fun x y => offW base x < offW base y) (hlen : L.length < 40) : stable dE (lessB base) l = L := by
  have h1 := stable_perm dE (lessB base) l
  have h2 := stable_srt dE (lessB base) (fun x y => offW base x ≤ offW base y) ⟨fun x => Int.le_refl _, fun x y z h h' => Int.le_trans h h'⟩ (xs := l) (by rw [hp.length_eq]; exact hlen) (fun p q _ _ => by
    unfold Cmp lessB
    simp only [decide_eq_true_eq, decide_eq_false_iff_not]
    omega)
  rw [← h1.length_eq] at h2
  exact perm_strict (R := fun _ _ => True) (f := offW base) (h1.trans hp) (srt_pair h2) hL
def mkU (n : Int) : Value := .int .u32 n
abbrev mpB (ob : Option Nat) (L : List En) : Asn := mp mkU En.pc veEnt ob L
theorem keyU : KeyLaw Try.prog 30 mkU := key_int Try.underlying30
def FVo (C : Nat) : Value := .func (.func 44) #[.pointer (some ⟨C, 0, none⟩)] #[]

set_option maxRecDepth 100000 in
theorem cmpB_spec (C : Nat) (base size cur : Int) (ob ol : Option Nat) (x y : En) (b : Nat) :
    Spec Try.prog 75 [veEnt x, veEnt y, .pointer (some ⟨b, 0, none⟩)] [row b 93 [FVo C]] [row C 84 (cC base size cur ob ol)] (X := Int) (fun c => c < 0 ↔ lessB base x y = true) (fun c => .int .i64 c) (fun _ => [row b 93 [FVo C]]) (fun _ => []) := by
  refine r_enter Try.func75 rfl Try.ntmps75 rfl fun w0 M H => ?_
  refine r_seq ?_
  refine r_region ?_
  refine r_boxA rfl rfl fun b3 => ?_
  refine r_boxA rfl rfl fun b4 => ?_
  refine r_p (p_assign rfl) rfl ?_
  refine r_nil ?_
  refine r_seq ?_
  refine r_draw [6, 7, 8, 9, 10, 11, 12, 5] _ rfl (stg_mem (V := [(0, 6, _), (1, 7, _), (3, 9, _), (4, 10, _)]) [0, 1, 3, 4] 2 [2, 1, 0] [] (fun _ => []) rfl rfl (prs_cons (pri rfl (p_load1 t93 rfl rfl (g_row1 (k := 0) rfl rfl))) (prs_cons (pri rfl (p_loadA t54 rfl rfl rfl (g_all (k := 3) rfl))) (prs_cons (pri rfl (p_load1 t93 rfl rfl (g_row1 (k := 0) rfl rfl))) (prs_cons (pri rfl (p_loadA t54 rfl rfl rfl (g_all (k := 4) rfl))) prs_nil)))) rfl rfl rfl rfl rfl rfl rfl rfl rfl rfl rfl (fun _ _ => rfl) rfl (ms_callF (xs := [.tmp 7]) (off_spec C base size cur ob ol x) cb44 [] [(false, 0)] [] [] rfl rfl rfl rfl rfl rfl rfl rfl (fun _ _ => rfl) (fun _ _ _ => rfl)) (fun _ _ => stg_mem [3, 4] 5 [5, 4, 3, 2, 1, 0] [] (fun _ => []) rfl rfl (prs_cons (pri rfl (p_load1 t93 rfl rfl (g_row1 (k := 0) rfl rfl))) (prs_cons (pri rfl (p_loadA t54 rfl rfl rfl (g_all (k := 4) rfl))) prs_nil)) rfl rfl rfl rfl rfl rfl rfl rfl rfl rfl rfl (fun _ _ => rfl) rfl (ms_callF (xs := [.tmp 10]) (off_spec C base size cur ob ol y) cb44 [] [(false, 0)] [] [] rfl rfl rfl rfl rfl rfl rfl rfl (fun _ _ => rfl) (fun _ _ _ => rfl)) (fun _ _ => stg_mem [] 6 [6, 5, 4, 3, 2, 1, 0] [7] (fun c => [(7, 5, _)]) rfl rfl prs_nil rfl rfl rfl rfl rfl rfl rfl rfl rfl rfl rfl (fun _ _ => rfl) rfl (ms_call (xs := [.tmp 8, .tmp 11]) (cmpi_spec _ _) cb76 [] [] [] [] rfl rfl rfl rfl rfl rfl rfl rfl (fun _ _ => rfl) (fun _ _ _ => rfl)) (fun c hc => stg_end [7] rfl rfl (prs_cons (pri rfl (p_assign rfl)) prs_nil) rfl rfl rfl ?_))))
  refine r_cret ?_
  refine r_ret c (by simpa [lessB] using hc) rfl (rs1 (rv_tmp rfl)) rfl [0] [] rfl rfl rfl
theorem cmpB_ok (C : Nat) (base size cur : Int) (ob ol : Option Nat) (b : Nat) : CmpOk 75 [.pointer (some ⟨b, 0, none⟩)] (row b 93 [FVo C]) (row C 84 (cC base size cur ob ol)) veEnt (fun _ => True) dE (lessB base) :=
  ⟨cb75, trivial, fun x y _ _ => cmpB_spec C base size cur ob ol x y b⟩

set_option maxRecDepth 100000 in
theorem sortedB_spec (C : Nat) (base size cur : Int) (ob ol : Option Nat) (v : SV) (xs : List En) (hl : xs.length ≤ 1000) :
    Spec Try.prog 60 [sv v, FVo C] [own 54 36 eEnt (sv v) xs] [row C 84 (cC base size cur ob ol)] (X := Unit) (fun _ => True) (fun _ => sv v) (fun _ => [own 54 36 eEnt (sv v) (stable dE (lessB base) xs)]) (fun _ => []) := by
  refine r_enter Try.func60 rfl Try.ntmps60 rfl fun w0 M H => ?_
  refine r_seq ?_
  refine r_region ?_
  refine r_box1 rfl rfl rfl fun b3 => ?_
  refine r_p (p_assign rfl) rfl ?_
  refine r_nil ?_
  refine r_seq ?_
  refine r_region ?_
  refine r_p (p_move rfl) rfl ?_
  refine r_p (p_makeFunc (first := []) (cap := [.tmp 3]) rfl rfl) rfl ?_
  refine r_call (xs := [.tmp 5, .tmp 6]) (stablefn_specE v xs (fun _ _ => trivial) hl (cmpB_ok C base size cur ob ol b3)) cb74 [0, 3] [(false, 0)] [0, 3] [] rfl rfl rfl rfl rfl rfl rfl rfl (fun _ _ => rfl) (fun _ _ _ => rfl) rfl (fun _ _ => ?_)
  refine r_nil ?_
  refine r_seq ?_
  refine r_region ?_
  refine r_p (p_move rfl) rfl ?_
  refine r_p (p_assign rfl) rfl ?_
  refine r_nil ?_
  refine r_cret ?_
  refine r_ret () trivial rfl (rs1 (rv_tmp rfl)) rfl [0] [] rfl rfl rfl
set_option maxHeartbeats 1000000 in
set_option maxRecDepth 100000 in
theorem pick_spec (C : Nat) (base size cur : Int) (ob ol : Option Nat) (nf : Nat) (caps : List Value) (A1 A2 A3 : Asn) (p : En → Bool) (L : List En) (hcb : Cb Try.prog nf) (hok : ∀ x ∈ L, Spec Try.prog nf ([veEnt x] ++ caps) [] [row C 84 (cC base size cur ob ol), A1, A2, A3] (X := Unit) (fun _ => True) (fun _ => .bool (p x)) (fun _ => []) (fun _ => [])) (hL : L.Pairwise fun x y => offW base x < offW base y) (hlen : L.length < 40) :
    Spec Try.prog 42 [.pointer (some ⟨C, 0, none⟩), .func (.func nf) #[] caps.toArray] [] [row C 84 (cC base size cur ob ol), mpB ob L, A1, A2, A3] (X := SV) (fun _ => True) (fun x => sv x) (fun x => [own 54 36 eEnt (sv x) (L.filter p)]) (fun _ => []) := by
  refine r_enter Try.func42 rfl Try.ntmps42 rfl fun w0 M H => ?_
  refine r_nilown 100 (S := 54) (s := 36) (enc := eEnt) ?_
  refine r_mpoR 1 5 rfl (fun ms clk hpm hW => ?_)
  refine r_seq ?_
  refine r_region ?_
  refine r_p (p_assign rfl) rfl ?_
  refine r_nil ?_
  refine r_seq ?_
  refine r_seq ?_
  refine r_region ?_
  refine r_p (p_move rfl) rfl ?_
  refine r_p (p_bin rfl rfl (b_eqPn Try.underlying25)) rfl ?_
  refine r_nil ?_
  refine r_cond rfl (fun h1 => ?_) (fun h1 => ?_)
  · exact absurd h1 (by simp)
  · (try simp only [decide_eq_true_eq, decide_eq_false_iff_not, Bool.and_eq_true, Bool.or_eq_true, Bool.and_eq_false_iff, Bool.or_eq_false_iff, Bool.not_eq_true, Bool.not_eq_false, Bool.not_eq_true', Bool.not_eq_false', Bool.not_not, bne_iff_ne, beq_iff_eq] at h1)
    refine r_skip ?_
    refine r_seq ?_
    refine r_region ?_
    refine r_p (p_assign rfl) rfl ?_
    refine r_nil ?_
    refine r_seq ?_
    refine r_seq ?_
    refine r_region ?_
    refine r_p (p_move rfl) rfl ?_
    refine r_p (p_nilCheck rfl) rfl ?_
    refine r_p (p_field0 fo84_3 rfl) rfl ?_
    refine r_p (p_load1 t81 rfl rfl (g_row1R (k := 0) rfl rfl)) rfl ?_
    refine r_range Try.underlying81 rfl (hms_ro (k := 5) rfl) rfl fun i14 => ?_
    refine r_nil ?_
    refine r_block ?_
    refine r_loop (X := SV × List (En × Nat)) (fun x => Vis ms x.2) (fun x => [(0, .pointer (some ⟨C, 0, none⟩)), (1, .func (.func nf) #[] caps.toArray), (5, sv x.1), (14, .pointer (some ⟨i14, 0, none⟩))]) (fun x => [(100, own 54 36 eEnt (sv x.1) ((x.2.map (·.1)).filter p)), (14, itr i14 ob clk x.2)]) (fun x => [(0, row C 84 (cC base size cur ob ol)), (1, mpB ob L), (2, A1), (3, A2), (4, A3), (5, mps mkU En.pc veEnt ob ms clk)]) (fun x => lft ms x.2) (nilS, []) (Vis.zero ms) rfl rfl rfl (fun ⟨v5, done⟩ hv => ?_)
    dsimp only at hv ⊢
    have hlm : ms.length = L.length := by rw [← hpm.length_eq, List.length_map]
    have hfl : ((done.map (·.1)).filter p).length ≤ done.length := by
      have := List.length_filter_le p (done.map (·.1))
      simpa using this
    have hvl := hv.len
    refine r_seq ?_
    refine r_region ?_
    refine r_next (ki := 14) rfl rfl (hms_ro (k := 5) rfl) rfl (fun hover => ?_) (fun m hm hno => ?_)
    · refine r_p (p_extract rfl rfl) rfl ?_
      refine r_nil ?_
      refine r_seq ?_
      refine r_cond rfl (fun h2 => ?_) (fun h2 => ?_)
      · exact absurd h2 (by simp)
      · (try simp only [decide_eq_true_eq, decide_eq_false_iff_not, Bool.and_eq_true, Bool.or_eq_true, Bool.and_eq_false_iff, Bool.or_eq_false_iff, Bool.not_eq_true, Bool.not_eq_false, Bool.not_eq_true', Bool.not_eq_false', Bool.not_not, bne_iff_ne, beq_iff_eq] at h2)
        have hdp := done_perm hW.born hv.sub hv.nd hover
        have heq := sortB_eq (base := base) (l := (done.map (·.1)).filter p) (L := L.filter p) (((hdp.map _).trans hpm).filter p) (hL.filter p) (Nat.lt_of_le_of_lt (List.length_filter_le _ _) hlen)
        refine r_exit ?_
        refine r_seq ?_
        refine r_region ?_
        refine r_p (p_move rfl) rfl ?_
        refine r_p (p_move rfl) rfl ?_
        refine r_p (p_makeFunc (first := [.tmp 27]) (cap := []) rfl rfl) rfl ?_
        refine r_call (xs := [.tmp 26, .tmp 28]) (sortedB_spec C base size cur ob ol v5 _ (by omega)) cb60 [100] [(false, 0)] [100] [] rfl rfl rfl rfl rfl rfl rfl rfl (fun _ _ => rfl) (fun _ _ _ => rfl) rfl (fun _ _ => ?_)
        refine r_p (p_assign rfl) rfl ?_
        refine r_nil ?_
        refine r_cret ?_
        refine r_ret _ trivial rfl (rs1 (rv_tmp rfl)) rfl [100] [] rfl (by rw [heq]; rfl) rfl
    · refine r_p (p_extract rfl rfl) rfl ?_
      refine r_nil ?_
      refine r_seq ?_
      refine r_cond rfl (fun h3 => ?_) (fun h3 => ?_)
      · (try simp only [decide_eq_true_eq, decide_eq_false_iff_not, Bool.and_eq_true, Bool.or_eq_true, Bool.and_eq_false_iff, Bool.or_eq_false_iff, Bool.not_eq_true, Bool.not_eq_false, Bool.not_eq_true', Bool.not_eq_false', Bool.not_not, bne_iff_ne, beq_iff_eq] at h3)
        refine r_skip ?_
        refine r_block ?_
        refine r_seq ?_
        refine r_region ?_
        refine r_p (p_entry (ki := 14) rfl rfl (hms_ro (k := 5) rfl) hm) rfl ?_
        refine r_p (p_extract rfl rfl) rfl ?_
        refine r_alloc t54 rfl rfl fun b7 => ?_
        refine r_store_all (k := 7) t54 rfl rfl rfl rfl rfl rfl ?_
        refine r_nil ?_
        refine r_seq ?_
        refine r_region ?_
        refine r_p (p_move rfl) rfl ?_
        refine r_p (p_loadA t54 rfl rfl rfl (g_all (k := 7) rfl)) rfl ?_
        refine r_call (xs := [.tmp 20]) (hok m.1 (hpm.mem_iff.1 (List.mem_map.2 ⟨m, hm, rfl⟩))) hcb [] [(false, 0), (false, 2), (false, 3), (false, 4)] [] [] rfl rfl rfl rfl rfl rfl rfl rfl (fun _ _ => rfl) (fun _ _ _ => rfl) rfl (fun _ _ => ?_)
        refine r_nil ?_
        refine r_cond rfl (fun h4 => ?_) (fun h4 => ?_)
        · (try simp only [decide_eq_true_eq, decide_eq_false_iff_not, Bool.and_eq_true, Bool.or_eq_true, Bool.and_eq_false_iff, Bool.or_eq_false_iff, Bool.not_eq_true, Bool.not_eq_false, Bool.not_eq_true', Bool.not_eq_false', Bool.not_not, bne_iff_ne, beq_iff_eq] at h4)
          have hpT : p m.1 = true := by simpa using h4
          refine r_region ?_
          refine r_p (p_move rfl) rfl ?_
          refine r_p (p_loadA t54 rfl rfl rfl (g_all (k := 7) rfl)) rfl ?_
          refine r_bslice1 eEnt m.1 Try.underlying39 t54 rfl (by decide) (by decide) rfl rfl rfl rfl fun v24 => ?_
          refine r_append 100 Try.underlying39 t54 rfl (by decide) (fun _ => rfl) (fun _ => rfl) rfl rfl rfl (hs_own (k := 24) rfl) (by first | omega | (simp; done) | (simp; omega)) (by unfold maxLen; first | omega | (simp; done) | (simp; omega)) rfl fun v25 => ?_
          refine r_p (p_assign rfl) rfl ?_
          refine r_nil ?_
          refine r_here (_, done ++ [m]) ⟨hv.step hm hno, lft_lt hm hno⟩ rfl (by rw [List.map_append, List.filter_append]; simp [hpT]; rfl) rfl
        · (try simp only [decide_eq_true_eq, decide_eq_false_iff_not, Bool.and_eq_true, Bool.or_eq_true, Bool.and_eq_false_iff, Bool.or_eq_false_iff, Bool.not_eq_true, Bool.not_eq_false, Bool.not_eq_true', Bool.not_eq_false', Bool.not_not, bne_iff_ne, beq_iff_eq] at h4)
          have hpF : p m.1 = false := by simpa using h4
          refine r_skip ?_
          refine r_here (_, done ++ [m]) ⟨hv.step hm hno, lft_lt hm hno⟩ rfl (by rw [List.map_append, List.filter_append]; simp [hpF]; rfl) rfl
      · exact absurd h3 (by simp)

end Go.Proofs.Ytbkonlkffajhkaa
