/-
  Contracts of the machine. Condition: the state is one that an execution reaches.
-/
import Derived.Test.YtdcbbkpdlcojfaaA7
namespace Go.Proofs.Ytdcbbkpdlcojfaa
set_option linter.unusedSimpArgs false
set_option linter.unusedVariables false
open Go.RowKit

/-- What programs run with: the machine, its maps, the inputs, the functions. -/
structure En where
  m : Nat
  mf : Nat
  mu : Nat
  mb : Nat
  vin : SV
  ins : List Int
  fs : List Tf
def vU (p : ByteArray × Int) : Value := .int .u32 p.2
def tfV (f : Tf) : Value := .agg (eTf f).toArray
/-- The parts of functions can be read. -/
def fnsA (fs : List Tf) : Asn := ⟨fun w F => ∀ f ∈ fs, TfIn w F f, fun h hs f hf => (h f hf).stable hs⟩
theorem fns_f {fs : List Tf} {f : Tf} (hf : f ∈ fs) : ∀ w G, (fnsA fs).pred w G → (∀ b, G b → b < w.heap.size) → ∃ G', (tfA f).pred w G' ∧ ∀ b, G' b → G b := fun w G h _ => ⟨G, h f hf, fun _ hb => hb⟩
/-- A slice without its first k elements. -/
def itv (v : SV) : Nat → SV
  | 0 => v
  | k + 1 => loS (itv v k) 1 1
theorem itv_ok {w : World} {G : Nat → Prop} {v : SV} {l : List Int} (h : SlOk w G 1 eU (sv v) l) : ∀ k, k ≤ l.length → SlOk w G 1 eU (sv (itv v k)) (l.drop k)
  | 0, _ => by simpa [itv] using h
  | k + 1, hk => by
    have h2 : 1 ≤ (l.drop k).length := by rw [List.length_drop]; omega
    have h3 := sl_lo (enc := eU) (fun _ => rfl) h2 (itv_ok h k (by omega))
    rw [List.drop_drop] at h3
    exact h3
/-- The inputs that are left. -/
def SkI (e : En) (s : Ms) : Prop := ∃ k, k ≤ e.ins.length ∧ s.inp = e.ins.drop k
theorem SkI.len {e : En} {s : Ms} (h : SkI e s) : s.inp.length ≤ e.ins.length ∧ s.inp = e.ins.drop (e.ins.length - s.inp.length) := by
  obtain ⟨k, h1, h2⟩ := h
  have h3 : s.inp.length = e.ins.length - k := by rw [h2, List.length_drop]
  exact ⟨by omega, by rw [h3, show e.ins.length - (e.ins.length - k) = k by omega]; exact h2⟩
theorem SkI.kp {e : En} {s s' : Ms} (h : SkI e s) (h' : Kp s s') : SkI e s' := by
  obtain ⟨k, h1, h2⟩ := h
  obtain ⟨j, hj⟩ := h'.inp
  rw [h2, List.drop_drop] at hj
  by_cases hk : k + j ≤ e.ins.length
  · exact ⟨k + j, hk, hj⟩
  · exact ⟨e.ins.length, Nat.le_refl _, by rw [hj, List.drop_of_length_le (by omega), List.drop_length]⟩
theorem ins_now {e : En} {s : Ms} (h : SkI e s) : ∀ w G, (sl 1 eU (sv e.vin) e.ins).pred w G → (∀ b, G b → b < w.heap.size) → ∃ G', (sl 1 eU (sv (itv e.vin (e.ins.length - s.inp.length))) s.inp).pred w G' ∧ ∀ b, G' b → G b := fun w G hG _ =>
  ⟨G, by
    have := itv_ok hG (e.ins.length - s.inp.length) (by omega)
    rw [← h.len.2] at this
    exact this, fun _ hb => hb⟩
/-- The machine, at a depth. -/
def mR (e : En) (s : Ms) (vo : SV) (d : Nat) (rt : Bool) (val : Int) : List Value := mC e.mf e.mu e.mb (itv e.vin (e.ins.length - s.inp.length)) vo s.mem s.fuel (d : Int) rt val
theorem mR_in {e : En} {s : Ms} {vo : SV} {d : Nat} {rt : Bool} {val : Int} (h : SkI e s) {a : Int} {r : List Int} (hr : s.inp = a :: r) : mC e.mf e.mu e.mb (loS (itv e.vin (e.ins.length - s.inp.length)) 1 1) vo s.mem s.fuel (d : Int) rt val = mR e { s with inp := r } vo d rt val := by
  have h1 := h.len.1
  rw [hr, List.length_cons] at h1
  unfold mR
  dsimp only
  rw [show e.ins.length - r.length = (e.ins.length - s.inp.length) + 1 by rw [hr, List.length_cons]; omega]
  rfl
/-- What every function of the machine may read. -/
abbrev RO (e : En) : List Asn := [fnsA e.fs, mp mkS Tf.name tfV (some e.mf) e.fs, mp mkS Prod.fst vF (some e.mu) uL, mp mkS Prod.fst vF (some e.mb) bL, sl 1 eU (sv e.vin) e.ins]
/-- An outcome: a result, the state and the outputs; or a failure, and whatever is there then. -/
inductive Oc (α : Type) where
  | ok (a : α) (s : Ms) (vo : SV)
  | er (z : Int) (c : List Value) (vo : SV) (l : List Int)
def Oc.fits {α : Type} (r : Re α) : Oc α → Prop
  | .ok a s _ => r = .ok a s
  | .er z _ _ _ => r = .err z
def oX : Oc Int → Fin
  | .ok a _ _ => .ret (.int .u32 a)
  | .er z _ _ _ => .pan (fail z)
def lX (e : En) (d : Nat) : Oc Int → List Asn
  | .ok _ s vo => [row e.m 92 (mR e s vo d false 0), own 22 1 eU (sv vo) s.out]
  | .er _ c vo l => [row e.m 92 c, own 22 1 eU (sv vo) l]
theorem oX_pan {o : Oc Int} {pv : Value} (h : oX o = .pan pv) : ∃ z c vo l, o = .er z c vo l ∧ pv = fail z := by
  cases o with
  | ok a s vo => cases h
  | er z c vo l => exact ⟨z, c, vo, l, rfl, (Fin.pan.inj h).symm⟩
theorem oX_ret {o : Oc Int} (h : (oX o).isRet) : ∃ a s vo, o = .ok a s vo := by
  cases o with
  | ok a s vo => exact ⟨a, s, vo, rfl⟩
  | er z c vo l => exact absurd h (by simp [oX, Fin.isRet])
theorem lX_len {e : En} {d : Nat} (o : Oc Int) : [0, 1].length = (lX e d o).length := by cases o <;> rfl
structure Sk (e : En) (vs : Vs) (s : Ms) : Prop where
  v : okVs vs
  ok : okMs s
  i : SkI e s
theorem Sk.kp {e : En} {vs : Vs} {s s' : Ms} (h : Sk e vs s) (h' : Kp s s') : Sk e vs s' := ⟨h.v, h'.ok, h.i.kp h'⟩
/-- The contract of an expression, with gas g. -/
def HX (e : En) (g : Nat) : Prop := ∀ (t : Tx) (d vb : Nat) (vs : Vs) (s : Ms) (vo : SV) (r : Re Int), VX e.fs t → d ≤ 12 → Sk e vs s → evX g e.fs d vs t s = some r →
  SpecE Try.prog 100 [.pointer (some ⟨e.m, 0, none⟩), xV t, .map (some vb)] [row e.m 92 (mR e s vo d false 0), own 22 1 eU (sv vo) s.out] (mp mkS Prod.fst vU (some vb) vs :: txsA t.v t.kids :: RO e) (X := Oc Int) (fun o => o.fits r) oX (lX e d) (fun _ => [])
/-- The contract of a call. -/
def HC (e : En) (g : Nat) : Prop := ∀ (f : Tf) (d : Nat) (va : SV) (al : List Int) (s : Ms) (vo : SV) (r : Re Int), f ∈ e.fs → al.length ≤ f.ps.length → (∀ a ∈ al, oW a) → d ≤ 12 → okMs s → SkI e s → evC g e.fs d f al s = some r →
  SpecE Try.prog 38 [.pointer (some ⟨e.m, 0, none⟩), tfV f, sv va] [row e.m 92 (mR e s vo d false 0), own 22 1 eU (sv vo) s.out] (sl 1 eU (sv va) al :: tfA f :: RO e) (X := Oc Int) (fun o => o.fits r) oX (lX e d) (fun _ => [])

set_option maxHeartbeats 4000000 in
set_option maxRecDepth 100000 in
theorem expr_no (e : En) (g : Nat) (hF : VF e.fs) (ihX : ∀ k, k ≤ g → HX e k) (ihC : ∀ k, k ≤ g → HC e k) (t : Tx) (d vb : Nat) (vs : Vs) (s : Ms) (vo : SV) (r : Re Int) (ht : VX e.fs t) (hd : d ≤ 12) (hs : Sk e vs s) (hr : evX (g + 1) e.fs d vs t s = some r) (hfu : s.fuel ≤ 0) :
    SpecE Try.prog 100 [.pointer (some ⟨e.m, 0, none⟩), xV t, .map (some vb)] [row e.m 92 (mR e s vo d false 0), own 22 1 eU (sv vo) s.out] (mp mkS Prod.fst vU (some vb) vs :: txsA t.v t.kids :: RO e) (X := Oc Int) (fun o => o.fits r) (fun o => oX o) (fun o => lX e d o) (fun _ => []) := by
  refine r_enterE Try.func100 rfl Try.ntmps100 rfl fun w0 M H => ?_
  unfold evX at hr
  rw [if_pos hfu] at hr
  have hr1 : r = .err 25 := (Option.some.inj hr).symm
  refine r_seq ?_
  refine r_region ?_
  refine r_boxA rfl rfl fun b4 => ?_
  refine r_p (p_assign rfl) rfl ?_
  refine r_nil ?_
  refine r_seq ?_
  refine r_region ?_
  refine r_p (p_move rfl) rfl ?_
  refine r_callE (xs := [.tmp 11]) (pay_no e.m e.mf e.mu e.mb (itv e.vin (e.ins.length - s.inp.length)) vo s.mem s.fuel (d : Int) false 0 hfu) cb99 [0] [] [0] [] rfl rfl rfl rfl rfl rfl rfl rfl (fun _ _ => rfl) (fun _ _ _ => rfl) rfl (fun _ _ => ?_)
  refine aft_pan ?_
  show At _ _ _ _ _ _ _ (bodyPost Try.prog Try.f100 _ (.panic _))
  refine r_out (Oc.er 25 (mR e s vo d false 0) vo s.out) hr1 rfl [0, 1] [] rfl rfl rfl

end Go.Proofs.Ytdcbbkpdlcojfaa
