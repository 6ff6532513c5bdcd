/-
  The walk of a call. Condition: the state is one that an execution reaches.
-/
import Derived.Test.YtdcbbkpdlcojfaaA9
namespace Go.Proofs.Ytdcbbkpdlcojfaa
set_option linter.unusedSimpArgs false
set_option linter.unusedVariables false
open Go.RowKit

/-- The contract of an expression, one step of gas further. -/
theorem x_step {e : En} {g : Nat} (hF : VF e.fs) (ihX : ∀ k, k ≤ g → HX e k) (ihC : ∀ k, k ≤ g → HC e k) : HX e (g + 1) := fun t d vb vs s vo r ht hd hs hr => by
  by_cases hfu : s.fuel ≤ 0
  · exact expr_no e g hF ihX ihC t d vb vs s vo r ht hd hs hr hfu
  · exact expr_ok e g hF ihX ihC t d vb vs s vo r ht hd hs hr hfu
theorem x_zero {e : En} : HX e 0 := fun t d vb vs s vo r ht hd hs hr => by simp [evX] at hr
theorem c_zero {e : En} : HC e 0 := fun f d va al s vo r _ _ _ _ _ _ hr => by simp [evC] at hr
/-- An outcome of statements: the variables, what is returned, the state and the outputs; or a failure, and whatever is there then. -/
inductive Ob where
  | ok (vs : Vs) (ro : Option Int) (s : Ms) (vo : SV)
  | er (z : Int) (c : List Value) (vo : SV) (l : List Int) (vs : Vs)
def Ob.fits (r : Re (Vs × Option Int)) : Ob → Prop
  | .ok vs ro s _ => r = .ok (vs, ro) s
  | .er z _ _ _ _ => r = .err z
def oB : Ob → Fin
  | .ok .. => .ret (.tuple #[])
  | .er z _ _ _ _ => .pan (fail z)
def lB (e : En) (d vb : Nat) : Ob → List Asn
  | .ok vs ro s vo => [row e.m 92 (mR e s vo d ro.isSome (ro.getD 0)), own 22 1 eU (sv vo) s.out, mp mkS Prod.fst vU (some vb) vs]
  | .er _ c vo l vs => [row e.m 92 c, own 22 1 eU (sv vo) l, mp mkS Prod.fst vU (some vb) vs]
theorem lB_len {e : En} {d vb : Nat} (o : Ob) : [0, 1, 2].length = (lB e d vb o).length := by cases o <;> rfl
theorem oB_pan {o : Ob} {pv : Value} (h : oB o = .pan pv) : ∃ z c vo l vs, o = .er z c vo l vs ∧ pv = fail z := by
  cases o with
  | ok vs ro s vo => cases h
  | er z c vo l vs => exact ⟨z, c, vo, l, vs, rfl, (Fin.pan.inj h).symm⟩
/-- The contract of statements. -/
def HB (e : En) (g : Nat) : Prop := ∀ (l : List Ty) (v : SV) (d vb : Nat) (vs : Vs) (s : Ms) (vo : SV) (r : Re (Vs × Option Int)), VYs e.fs l → l.length ≤ 1000000 → d ≤ 12 → Sk e vs s → evB g e.fs d vs l s = some r →
  SpecE Try.prog 69 [.pointer (some ⟨e.m, 0, none⟩), sv v, .map (some vb)] [row e.m 92 (mR e s vo d false 0), own 22 1 eU (sv vo) s.out, mp mkS Prod.fst vU (some vb) vs] (tysA v l :: RO e) (X := Ob) (fun o => o.fits r) oB (lB e d vb) (fun _ => [])
/-- The contract of a statement. -/
def HS (e : En) (g : Nat) : Prop := ∀ (t : Ty) (d vb : Nat) (vs : Vs) (s : Ms) (vo : SV) (r : Re (Vs × Option Int)), VY e.fs t → d ≤ 12 → Sk e vs s → evS g e.fs d vs t s = some r →
  SpecE Try.prog 85 [.pointer (some ⟨e.m, 0, none⟩), yV t, .map (some vb)] [row e.m 92 (mR e s vo d false 0), own 22 1 eU (sv vo) s.out, mp mkS Prod.fst vU (some vb) vs] (txsA t.ve t.es :: tysA t.vb t.body :: tysA t.vl t.els :: RO e) (X := Ob) (fun o => o.fits r) oB (lB e d vb) (fun _ => [])
theorem b_zero {e : En} : HB e 0 := fun l v d vb vs s vo r _ _ _ _ hr => by simp [evB] at hr
theorem s_zero {e : En} : HS e 0 := fun t d vb vs s vo r _ _ _ hr => by simp [evS] at hr
theorem vbind_nil (vs : Vs) (ps : List ByteArray) : vbind vs ps [] = vs := by cases ps <;> rfl

set_option maxHeartbeats 8000000 in
set_option maxRecDepth 100000 in
theorem call_deep (e : En) (g : Nat) (hF : VF e.fs) (ihB : HB e g) (f : Tf) (d : Nat) (va : SV) (al : List Int) (s : Ms) (vo : SV) (r : Re Int) (hf : f ∈ e.fs) (hal : al.length ≤ f.ps.length) (hao : ∀ a ∈ al, oW a) (hd : d ≤ 12) (hs : okMs s) (hi : SkI e s) (hr : evC (g + 1) e.fs d f al s = some r) (h12 : d = 12) :
    SpecE Try.prog 38 [.pointer (some ⟨e.m, 0, none⟩), tfV f, sv va] [row e.m 92 (mR e s vo d false 0), own 22 1 eU (sv vo) s.out] (sl 1 eU (sv va) al :: tfA f :: RO e) (X := Oc Int) (fun o => o.fits r) (fun o => oX o) (fun o => lX e d o) (fun _ => []) := by
  refine r_enterE Try.func38 rfl Try.ntmps38 rfl fun w0 M H => ?_
  unfold evC at hr
  rw [if_pos h12] at hr
  refine r_seq ?_
  refine r_region ?_
  refine r_boxA rfl rfl fun b4 => ?_
  refine r_p (p_assign rfl) rfl ?_
  refine r_nil ?_
  refine r_seq ?_
  refine r_seq ?_
  refine r_region ?_
  refine r_p (p_move rfl) rfl ?_
  refine r_p (p_nilCheck rfl) rfl ?_
  refine r_p (p_field0 fo92_7 rfl) rfl ?_
  refine r_p (p_load1 t3 rfl rfl (g_row1 (k := 0) rfl mC_depth)) rfl ?_
  refine r_p (p_bin rfl rfl b_eq) rfl ?_
  refine r_nil ?_
  refine r_cond rfl (fun h1 => ?_) (fun h1 => ?_)
  · (try simp only [decide_eq_true_eq, decide_eq_false_iff_not, Bool.and_eq_true, Bool.or_eq_true, Bool.and_eq_false_iff, Bool.or_eq_false_iff, Bool.not_eq_true, Bool.not_eq_false, Bool.not_eq_true', Bool.not_eq_false', Bool.not_not, bne_iff_ne, beq_iff_eq] at h1)
    refine r_region ?_
    refine r_p (p_build (parts := [(0, .const (.int .i64 26))]) t94 pl94 rfl rfl) rfl ?_
    refine r_p (p_mkIface Try.underlying94 (by intro _ h; cases h) rfl) rfl ?_
    refine r_panic rfl ?_
    show At _ _ _ _ _ _ _ (bodyPost Try.prog Try.f38 _ (.panic _))
    refine r_out (Oc.er 26 (mR e s vo d false 0) vo s.out) (Option.some.inj hr).symm rfl [0, 1] [] rfl rfl rfl
  · exact absurd (show (d : Int) = 12 by omega) (of_decide_eq_false h1)
set_option maxHeartbeats 8000000 in
set_option maxRecDepth 100000 in
theorem call_ok (e : En) (g : Nat) (hF : VF e.fs) (ihB : HB e g) (f : Tf) (d : Nat) (va : SV) (al : List Int) (s : Ms) (vo : SV) (r : Re Int) (hf : f ∈ e.fs) (hal : al.length ≤ f.ps.length) (hao : ∀ a ∈ al, oW a) (hd : d ≤ 12) (hs : okMs s) (hi : SkI e s) (hr : evC (g + 1) e.fs d f al s = some r) (h12 : ¬ d = 12) :
    SpecE Try.prog 38 [.pointer (some ⟨e.m, 0, none⟩), tfV f, sv va] [row e.m 92 (mR e s vo d false 0), own 22 1 eU (sv vo) s.out] (sl 1 eU (sv va) al :: tfA f :: RO e) (X := Oc Int) (fun o => o.fits r) (fun o => oX o) (fun o => lX e d o) (fun _ => []) := by
  refine r_enterE Try.func38 rfl Try.ntmps38 rfl fun w0 M H => ?_
  unfold evC at hr
  rw [if_neg h12] at hr
  obtain ⟨hfp, hfb, hfv⟩ := hF f hf
  refine r_more 1 8 rfl tf_ps ?_
  refine r_more 1 9 rfl tf_body ?_
  obtain ⟨V, hV⟩ : ∃ V, vbind [] f.ps al = V := ⟨_, rfl⟩
  have hVo : okVs V := by rw [← hV]; exact okVs.bind _ _ (fun p hp => by simp at hp) hao
  rw [hV] at hr
  obtain ⟨rb, hrb⟩ : ∃ rb, evB g e.fs (d + 1) V f.body s = some rb := by
    cases h : evB g e.fs (d + 1) V f.body s with
    | none => rw [h] at hr; simp at hr
    | some q => exact ⟨q, rfl⟩
  rw [hrb] at hr
  refine r_seq ?_
  refine r_region ?_
  refine r_boxA rfl rfl fun b4 => ?_
  refine r_p (p_assign rfl) rfl ?_
  refine r_nil ?_
  refine r_seq ?_
  refine r_seq ?_
  refine r_region ?_
  refine r_p (p_move rfl) rfl ?_
  refine r_p (p_nilCheck rfl) rfl ?_
  refine r_p (p_field0 fo92_7 rfl) rfl ?_
  refine r_p (p_load1 t3 rfl rfl (g_row1 (k := 0) rfl mC_depth)) rfl ?_
  refine r_p (p_bin rfl rfl b_eq) rfl ?_
  refine r_nil ?_
  refine r_cond rfl (fun h1 => ?_) (fun h1 => ?_)
  · exact absurd (of_decide_eq_true h1) (show ¬ (d : Int) = 12 by omega)
  · (try simp only [decide_eq_true_eq, decide_eq_false_iff_not, Bool.and_eq_true, Bool.or_eq_true, Bool.and_eq_false_iff, Bool.or_eq_false_iff, Bool.not_eq_true, Bool.not_eq_false, Bool.not_eq_true', Bool.not_eq_false', Bool.not_not, bne_iff_ne, beq_iff_eq] at h1)
    refine r_skip ?_
    refine r_seq ?_
    refine r_region ?_
    refine r_makeMap (Prod.fst : ByteArray × Int → ByteArray) mkS vU rfl fun b18 => ?_
    refine r_p (p_assign rfl) rfl ?_
    refine r_nil ?_
    refine r_seq ?_
    refine r_seq ?_
    refine r_region ?_
    refine r_p (p_move rfl) rfl ?_
    refine r_p (p_len_sl Try.underlying35 rfl (hs_sl (k := 0) rfl)) rfl ?_
    refine r_p (p_move rfl) rfl ?_
    refine r_nil ?_
    refine r_block ?_
    refine r_loop (X := Nat × Vs) (fun x => x.1 ≤ al.length ∧ vbind x.2 (f.ps.drop x.1) (al.drop x.1) = V) (fun x => [(0, .pointer (some ⟨e.m, 0, none⟩)), (4, .pointer (some ⟨b4, 0, none⟩)), (7, .map (some b18)), (19, sv va), (20, .int .i64 (al.length : Int)), (21, .int .i64 (x.1 : Int))]) (fun x => [(0, row e.m 92 (mR e s vo d false 0)), (1, own 22 1 eU (sv vo) s.out), (4, row b4 64 (eTf f)), (18, mp mkS Prod.fst vU (some b18) x.2)]) (fun x => [(0, sl 1 eU (sv va) al), (1, tfA f), (2, fnsA e.fs), (3, mp mkS Tf.name tfV (some e.mf) e.fs), (4, mp mkS Prod.fst vF (some e.mu) uL), (5, mp mkS Prod.fst vF (some e.mb) bL), (6, sl 1 eU (sv e.vin) e.ins), (8, sl 1 eS (sv f.vp) f.ps), (9, tysA f.vb f.body)]) (fun x => al.length - x.1) (0, []) ⟨Nat.zero_le _, hV⟩ rfl rfl rfl (fun x hx0 => ?_)
    obtain ⟨i, vs⟩ := x
    obtain ⟨n1, n2⟩ := hx0
    dsimp only at n1 n2 ⊢
    refine r_seq ?_
    refine r_region ?_
    refine r_p (p_bin rfl rfl b_lt) rfl ?_
    refine r_nil ?_
    refine r_seq ?_
    refine r_cond rfl (fun h2 => ?_) (fun h2 => ?_)
    · (try simp only [decide_eq_true_eq, decide_eq_false_iff_not, Bool.and_eq_true, Bool.or_eq_true, Bool.and_eq_false_iff, Bool.or_eq_false_iff, Bool.not_eq_true, Bool.not_eq_false, Bool.not_eq_true', Bool.not_eq_false', Bool.not_not, bne_iff_ne, beq_iff_eq] at h2)
      have hii : i < al.length := by omega
      obtain ⟨a, ha⟩ : ∃ a, al[i]? = some a := ⟨_, List.getElem?_eq_getElem hii⟩
      obtain ⟨p, hp⟩ : ∃ p, f.ps[i]? = some p := ⟨_, List.getElem?_eq_getElem (by omega)⟩
      rw [drop_kid ha, drop_kid hp] at n2
      have n2 : vbind (vput vs p a) (f.ps.drop (i + 1)) (al.drop (i + 1)) = V := n2
      refine r_skip ?_
      refine r_seq ?_
      refine r_block ?_
      refine r_seq ?_
      refine r_region ?_
      refine r_p (p_move rfl) rfl ?_
      refine r_p (p_idx_sl (j := i) Try.underlying35 t22 rfl rfl (hs_sl (k := 0) rfl) (by first | rfl | omega) (by first | omega | (simp; done) | (simp; omega))) rfl ?_
      refine r_p (p_load1 t22 rfl rfl (g_el' (hs_sl (k := 0) rfl) (by intro _; rfl) ha (by rfl))) rfl ?_
      refine r_p (p_assign rfl) rfl ?_
      refine r_p (p_assign rfl) rfl ?_
      refine r_nil ?_
      refine r_region ?_
      refine r_p (p_move rfl) rfl ?_
      refine r_p (p_field0 fo64_1 rfl) rfl ?_
      refine r_p (p_load1 t62 rfl rfl (g_row1 (k := 4) rfl rfl)) rfl ?_
      refine r_p (p_move rfl) rfl ?_
      refine r_p (p_idx_sl (j := i) Try.underlying62 t9 rfl rfl (hs_sl (k := 8) rfl) (by first | rfl | omega) (by first | omega | (simp; done) | (simp; omega))) rfl ?_
      refine r_p (p_load1 t9 rfl rfl (g_el' (hs_sl (k := 8) rfl) (by intro _; rfl) hp (by rfl))) rfl ?_
      refine r_p (p_move rfl) rfl ?_
      refine r_mapUpdate (k := 18) (p, a) (vput vs p a) Try.underlying112 keyS rfl rfl rfl rfl (List.Perm.refl _) ?_
      refine r_nil ?_
      refine r_region ?_
      refine r_p (p_bin rfl rfl (b_add (by first | exact w_i64 (by omega) (by omega) | rfl))) rfl ?_
      refine r_p (p_move rfl) rfl ?_
      refine r_nil ?_
      refine r_here (i + 1, vput vs p a) ⟨⟨by dsimp only; omega, n2⟩, by dsimp only; omega⟩ rfl rfl rfl
    · (try simp only [decide_eq_true_eq, decide_eq_false_iff_not, Bool.and_eq_true, Bool.or_eq_true, Bool.and_eq_false_iff, Bool.or_eq_false_iff, Bool.not_eq_true, Bool.not_eq_false, Bool.not_eq_true', Bool.not_eq_false', Bool.not_not, bne_iff_ne, beq_iff_eq] at h2)
      have hii : i = al.length := by omega
      rw [List.drop_of_length_le (by omega : al.length ≤ i), vbind_nil] at n2
      subst n2
      refine r_exit ?_
      refine r_seq ?_
      refine r_region ?_
      refine r_p (p_move rfl) rfl ?_
      refine r_p (p_nilCheck rfl) rfl ?_
      refine r_p (p_field0 fo92_7 rfl) rfl ?_
      refine r_p (p_load1 t3 rfl rfl (g_row1 (k := 0) rfl mC_depth)) rfl ?_
      refine r_p (p_bin rfl rfl (b_add (by first | exact w_i64 (by omega) (by omega) | rfl))) rfl ?_
      refine r_p (p_nilCheck rfl) rfl ?_
      refine r_p (p_field0 fo92_7 rfl) rfl ?_
      refine r_store_row (k := 0) t3 rfl rfl rfl rfl rfl rfl (mC_fit (by decide)) (mC_setDepth) ?_
      refine r_conva (k := 0) (A' := row e.m 92 (mR e s vo (d + 1) false 0)) rfl (fun _ _ h => h) ?_
      refine r_nil ?_
      refine r_seq ?_
      refine r_region ?_
      refine r_p (p_move rfl) rfl ?_
      refine r_p (p_field0 fo64_2 rfl) rfl ?_
      refine r_p (p_load1 t52 rfl rfl (g_row1 (k := 4) rfl rfl)) rfl ?_
      refine r_p (p_move rfl) rfl ?_
      refine r_callE (xs := [.tmp 41, .tmp 43, .tmp 44]) (ihB f.body f.vb (d + 1) b18 vs s vo rb hfv hfb (by omega) ⟨hVo, hs, hi⟩ hrb) cb69 [0, 1, 18] [(false, 9), (false, 2), (false, 3), (false, 4), (false, 5), (false, 6)] [0, 1, 18] [] rfl rfl rfl rfl rfl rfl rfl rfl (fun o _ => lB_len o) (fun _ _ _ => rfl) rfl (fun o ho => ?_)
      rcases o with ⟨vs2, ro, s2, vo2⟩ | ⟨z, c, vo2, l, vs2⟩
      rotate_left
      · refine aft_pan ?_
        have hq : rb = .err z := ho
        subst hq
        show At _ _ _ _ _ _ _ (bodyPost Try.prog Try.f38 _ (.panic _))
        refine r_out (Oc.er z c vo2 l) (Option.some.inj hr).symm rfl [0, 1] [] rfl rfl rfl
      refine aft_ret ?_
      have hq : rb = .ok (vs2, ro) s2 := ho
      subst hq
      dsimp only at hr
      refine r_nil ?_
      refine r_seq ?_
      refine r_region ?_
      refine r_p (p_move rfl) rfl ?_
      refine r_p (p_nilCheck rfl) rfl ?_
      refine r_p (p_field0 fo92_7 rfl) rfl ?_
      refine r_p (p_load1 t3 rfl rfl (g_row1 (k := 0) rfl mC_depth)) rfl ?_
      refine r_p (p_bin rfl rfl (b_sub (c := (d : Int)) (by rw [show (((d + 1 : Nat) : Int) - 1) = (d : Int) by omega]; exact w_i64 (by omega) (by omega)))) rfl ?_
      refine r_p (p_nilCheck rfl) rfl ?_
      refine r_p (p_field0 fo92_7 rfl) rfl ?_
      refine r_store_row (k := 0) t3 rfl rfl rfl rfl rfl rfl (mC_fit (by decide)) (mC_setDepth) ?_
      refine r_nil ?_
      refine r_seq ?_
      refine r_region ?_
      refine r_p (p_move rfl) rfl ?_
      refine r_p (p_nilCheck rfl) rfl ?_
      refine r_p (p_field0 fo92_9 rfl) rfl ?_
      refine r_p (p_load1 t22 rfl rfl (g_row1 (k := 0) rfl mC_val)) rfl ?_
      refine r_p (p_assign rfl) rfl ?_
      refine r_nil ?_
      refine r_seq ?_
      refine r_region ?_
      refine r_p (p_move rfl) rfl ?_
      refine r_p (p_move rfl) rfl ?_
      refine r_p (p_nilCheck rfl) rfl ?_
      refine r_p (p_field0 fo92_8 rfl) rfl ?_
      refine r_store_row (k := 0) t4 rfl rfl rfl rfl rfl rfl (mC_fit (by decide)) (mC_setRt) ?_
      refine r_p (p_nilCheck rfl) rfl ?_
      refine r_p (p_field0 fo92_9 rfl) rfl ?_
      refine r_store_row (k := 0) t22 rfl rfl rfl rfl rfl rfl (mC_fit (by decide)) (mC_setVal) ?_
      refine r_nil ?_
      refine r_seq ?_
      refine r_region ?_
      refine r_p (p_move rfl) rfl ?_
      refine r_p (p_assign rfl) rfl ?_
      refine r_nil ?_
      refine r_cret ?_
      refine r_retE (Oc.ok (ro.getD 0) s2 vo2) (Option.some.inj hr).symm rfl (rs1 (rv_tmp rfl)) rfl [0, 1] [] rfl rfl rfl

end Go.Proofs.Ytdcbbkpdlcojfaa
