/-
  Part of the proof: the texts B0, C0, KL, C1, C2, BY, C3, R5, R6, S4, D0, D1, V0, VB, VC. Conditions are with the theorems.
-/
import Derived.Test.YtdcbbkpdlcojfaaGreatP6a
import Derived.Test.YtdcbbkpdlcojfaaGreatP6b
import Derived.Test.YtdcbbkpdlcojfaaGreatP6c
import Derived.Test.YtdcbbkpdlcojfaaGreatP6d
namespace Go.Proofs.YtdcbbkpdlcojfaaGreat
set_option linter.unusedSimpArgs false
set_option linter.unusedVariables false
open Go.RowKit
section
variable {v1 v2 v3 v4 v5 : SV} {fs : List Tf} {d : Nat}
end
/-- Trees without addresses. -/
inductive Px where
 | mk (kind n : Int) (name : ByteArray) (kids : List Px)
inductive Py where
 | mk (kind : Int) (name : ByteArray) (es : List Px) (body els : List Py)
structure Pf where
 name : ByteArray
 ps : List ByteArray
 body : List Py
mutual
def erX : Tx → Px
 | .mk k n nm _ kids => .mk k n nm (erXs kids)
def erXs : List Tx → List Px
 | [] => []
 | t :: r => erX t :: erXs r
end
mutual
def erY : Ty → Py
 | .mk k nm _ es _ body _ els => .mk k nm (erXs es) (erYs body) (erYs els)
def erYs : List Ty → List Py
 | [] => []
 | t :: r => erY t :: erYs r
end
/-- What does not change while a function is grown: the numbers, the function's place, the functions' names and parameters. -/
structure Gc where
 l : List Int
 me : Nat
 fs : List (ByteArray × List ByteArray)
/-- What changes. -/
structure Gs where
 at_ : Nat
 left : Int
 nodes : Int
 vars : Int
 names : List ByteArray
def imod (n m : Int) : Int := ((n.tmod m) + m).tmod m
/-- The next number. -/
def gN (l : List Int) (n : Int) (s : Gs) : Int × Gs := match l[s.at_]? with
 | none => (0, s)
 | some x => (imod x n, { s with at_ := s.at_ + 1 })
def cL : List Int := [0, 1, 2, 3, 5, 8, 31, 32, 255, 256, 65535, 131072, 2147483647, 2147483648, 4294967295]
def biL : List ByteArray := [oAdd, oSub, oMul, oQuo, oRem, oAnd, oOr, oXor, oShl, oShr, oLt, oLe, oGt, oGe, oEq, oNe]
/-- What kind of expression is grown. -/
def gK (l : List Int) (d : Nat) (s : Gs) : Int × Gs :=
 let r := gN l 16 { s with nodes := IntKind.i64.wrap (s.nodes - 1) }
 (if d = 0 ∨ r.2.nodes < 1 then r.1 % 4 else r.1, r.2)
mutual
/-- An expression, at most d + 1 deep. -/
inductive GXr (c : Gc) : Nat → Gs → Px → Gs → Prop
 | nam {d : Nat} {s s1 s2 : Gs} {k j : Int} {x : ByteArray} (hk : gK c.l d s = (k, s1)) (h : k = 1 ∨ k = 2) (hn : 0 < s1.names.length) (hj : gN c.l (s1.names.length : Int) s1 = (j, s2)) (hx : s1.names[j.toNat]? = some x) : GXr c d s (.mk 2 0 x []) s2
 | inp {d : Nat} {s s1 : Gs} (hk : gK c.l d s = (3, s1)) : GXr c d s (.mk 5 0 oNil []) s1
 | mem {d : Nat} {s s1 s2 : Gs} {k : Int} {p : Px} (hk : gK c.l (d + 1) s = (k, s1)) (h : k = 4 ∨ k = 5) (hp : GXr c d s1 p s2) : GXr c (d + 1) s (.mk 4 0 oNil [p]) s2
 | una {d : Nat} {s s1 s2 s3 : Gs} {j : Int} {x : ByteArray} {p : Px} (hk : gK c.l (d + 1) s = (6, s1)) (hj : gN c.l 3 s1 = (j, s2)) (hx : unL[j.toNat]? = some x) (hp : GXr c d s2 p s3) : GXr c (d + 1) s (.mk 6 0 x [p]) s3
 | call {d : Nat} {s s1 s2 s3 : Gs} {j : Int} {f : ByteArray × List ByteArray} {ps : List Px} (hk : gK c.l (d + 1) s = (7, s1)) (h : c.me + 1 < c.fs.length) (hj : gN c.l ((c.fs.length : Int) - (c.me : Int) - 1) s1 = (j, s2)) (hx : c.fs[((c.me : Int) + 1 + j).toNat]? = some f) (hp : GKr c d f.2.length s2 ps s3) : GXr c (d + 1) s (.mk 3 0 f.1 ps) s3
 | bin {d : Nat} {s s1 s2 s3 s4 : Gs} {k j : Int} {x : ByteArray} {p q : Px} (hk : gK c.l (d + 1) s = (k, s1)) (h : 7 < k) (hj : gN c.l 16 s1 = (j, s2)) (hx : biL[j.toNat]? = some x) (hp : GXr c d s2 p s3) (hq : GXr c d s3 q s4) : GXr c (d + 1) s (.mk 7 0 x [p, q]) s4
 | con {d : Nat} {s s1 s2 : Gs} {k j : Int} {x : Int} (hk : gK c.l d s = (k, s1)) (h1 : ¬ ((k = 1 ∨ k = 2) ∧ 0 < s1.names.length)) (h3 : k ≠ 3) (h4 : k ≠ 4) (h5 : k ≠ 5) (h6 : k ≠ 6) (h7 : ¬ (k = 7 ∧ c.me + 1 < c.fs.length)) (h8 : ¬ 7 < k) (hj : gN c.l 15 s1 = (j, s2)) (hx : cL[j.toNat]? = some x) : GXr c d s (.mk 1 x oNil []) s2
/-- n expressions. -/
inductive GKr (c : Gc) : Nat → Nat → Gs → List Px → Gs → Prop
 | nil {d : Nat} {s : Gs} : GKr c d 0 s [] s
 | cons {d n : Nat} {s s1 s2 : Gs} {p : Px} {ps : List Px} (hp : GXr c d s p s1) (hq : GKr c d n s1 ps s2) : GKr c d (n + 1) s (p :: ps) s2
end
/-- A call. -/
def GCr (c : Gc) (d : Nat) (f : ByteArray × List ByteArray) (s : Gs) (p : Px) (s' : Gs) : Prop := ∃ ps, GKr c d f.2.length s ps s' ∧ p = .mk 3 0 f.1 ps
def freshL : List ByteArray := [⟨#[97]⟩, ⟨#[98]⟩, ⟨#[99]⟩, ⟨#[100]⟩, ⟨#[101]⟩, ⟨#[120, 49]⟩, ⟨#[121, 50]⟩, ⟨#[108, 111, 111, 112]⟩]
def pNum (n : Int) : Px := .mk 1 n oNil []
def pName (s : ByteArray) : Px := .mk 2 0 s []
/-- The statement that counts a loop's variable down. -/
def pDown (x : ByteArray) : Py := .mk 2 x [.mk 7 0 oSub [pName x, pNum 1]] [] []
mutual
/-- A block; e is how much deeper blocks may lie. -/
inductive GYr (c : Gc) : Nat → Gs → List Py → Gs → Prop
 | mk {e : Nat} {s s1 s2 : Gs} {j : Int} {o : List Py} (hj : gN c.l 5 s = (j, s1)) (h : GLr c e (1 + j).toNat s1 o s2) : GYr c e s o s2
/-- At most n statements. -/
inductive GLr (c : Gc) : Nat → Nat → Gs → List Py → Gs → Prop
 | zero {e : Nat} {s : Gs} : GLr c e 0 s [] s
 | stop {e n : Nat} {s : Gs} (h : s.left ≤ 0) : GLr c e n s [] s
 | step {e n : Nat} {s s1 s2 s3 : Gs} {k : Int} {o r : List Py} (h : 0 < s.left) (hk : gN c.l 12 { s with left := s.left - 1 } = (k, s1)) (h1 : G1r c e k s1 o s2) (h2 : GLr c e n s2 r s3) : GLr c e (n + 1) s (o ++ r) s3
/-- One statement of kind k. -/
inductive G1r (c : Gc) : Nat → Int → Gs → List Py → Gs → Prop
 | var {e : Nat} {s s1 : Gs} {k : Int} {x : ByteArray} {p : Px} (hk : k < 3) (hx : freshL[s.vars.toNat]? = some x) (hv : s.vars < 8) (hp : GXr c 3 { s with vars := s.vars + 1 } p s1) : G1r c e k s [.mk 1 x [p] [] []] { s1 with names := s1.names ++ [x] }
 | set {e : Nat} {s s1 s2 : Gs} {j : Int} {x : ByteArray} {p : Px} (hn : 0 < s.names.length) (hj : gN c.l (s.names.length : Int) s = (j, s1)) (hx : s.names[j.toNat]? = some x) (hp : GXr c 3 s1 p s2) : G1r c e 3 s [.mk 2 x [p] [] []] s2
 | put {e : Nat} {s s1 s2 : Gs} {k : Int} {p q : Px} (hk : k = 4 ∨ k = 5) (hp : GXr c 2 s p s1) (hq : GXr c 3 s1 q s2) : G1r c e k s [.mk 3 oNil [p, q] [] []] s2
 | iff1 {e : Nat} {s s1 s2 s3 s4 : Gs} {p : Px} {a b : List Py} (hp : GXr c 2 s p s1) (ha : GYr c e s1 a s2) (hj : gN c.l 2 s2 = (1, s3)) (hb : GYr c e s3 b s4) : G1r c (e + 1) 6 s [.mk 4 oNil [p] a b] s4
 | iff0 {e : Nat} {s s1 s2 s3 : Gs} {j : Int} {p : Px} {a : List Py} (hp : GXr c 2 s p s1) (ha : GYr c e s1 a s2) (hj : gN c.l 2 s2 = (j, s3)) (hb : j ≠ 1) : G1r c (e + 1) 6 s [.mk 4 oNil [p] a []] s3
 | whi {e : Nat} {s s1 s2 : Gs} {j : Int} {x : ByteArray} {a : List Py} (hx : freshL[s.vars.toNat]? = some x) (hv : s.vars < 8) (hj : gN c.l 5 { s with vars := s.vars + 1 } = (j, s1)) (ha : GYr c (e + 1) s1 a s2) : G1r c (e + 2) 7 s [.mk 1 x [pNum j] [] [], .mk 5 oNil [pName x] (a ++ [pDown x]) []] { s2 with names := s2.names ++ [x] }
 | ret {e : Nat} {s s1 s2 : Gs} {p : Px} (hj : gN c.l 3 s = (0, s1)) (hp : GXr c 3 s1 p s2) : G1r c e 8 s [.mk 6 oNil [p] [] []] s2
 | dos {e : Nat} {s s1 s2 s3 s4 : Gs} {j j2 : Int} {f : ByteArray × List ByteArray} {p : Px} (h : c.me + 1 < c.fs.length) (hj : gN c.l ((c.fs.length : Int) - (c.me : Int) - 1) s = (j, s1)) (hj2 : gN c.l 8 s1 = (j2, s2))
   (hf : (j2 ≠ 7 ∧ c.fs[((c.me : Int) + 1 + j).toNat]? = some f ∧ s3 = s2) ∨ (j2 = 7 ∧ ∃ j3, gN c.l ((c.fs.length : Int) - 1) s2 = (j3, s3) ∧ c.fs[(1 + j3).toNat]? = some f)) (hp : GCr c 1 f s3 p s4) : G1r c e 9 s [.mk 8 oNil [p] [] []] s4
 | out {e : Nat} {s s1 s2 : Gs} {k : Int} {p : Px} (h3 : ¬ (k < 3 ∧ s.vars < 8)) (hs : ¬ (k = 3 ∧ 0 < s.names.length)) (h4 : k ≠ 4) (h5 : k ≠ 5) (h6 : ¬ (k = 6 ∧ 1 ≤ e)) (h7 : ¬ (k = 7 ∧ 2 ≤ e ∧ s.vars < 8)) (h8 : (k ≠ 8 ∧ s1 = s) ∨ (k = 8 ∧ ∃ j, j ≠ 0 ∧ gN c.l 3 s = (j, s1))) (h9 : ¬ (k = 9 ∧ c.me + 1 < c.fs.length)) (hp : GXr c 3 s1 p s2) : G1r c e k s [.mk 7 oNil [p] [] []] s2
end
theorem gN_st {l : List Int} {n j : Int} {s s1 : Gs} (h : gN l n s = (j, s1)) : s1 = { s with at_ := s1.at_ } ∧ (s.at_ ≤ l.length → s1.at_ ≤ l.length) := by
 unfold gN at h
 split at h
 ·cases h; exact ⟨rfl, fun h => h⟩
 ·rename_i x hx
  cases h
  exact ⟨rfl, fun _ => (List.getElem?_eq_some_iff.1 hx).1⟩
section
variable {P : Program} {N : Nat} {w0 : World} {M H : Nat → Prop} {E : Env} {Γ R : Ctx} {Q : Exit → Act → World → Prop}
end
theorem tm_bd (x : Int) {m : Int} (hm : 0 < m) : -m < x.tmod m ∧ x.tmod m < m := by
 have h1 := Int.tmod_lt_of_pos x hm
 have h2 := Int.tmod_lt_of_pos (-x) hm
 rw [Int.neg_tmod] at h2
 omega
theorem gN_keep (l : List Int) (n : Int) (s : Gs) : (gN l n s).2.names = s.names ∧ (gN l n s).2.left = s.left ∧ (gN l n s).2.vars = s.vars := by
 have h := (gN_st (l := l) (n := n) (s := s) (j := (gN l n s).1) (s1 := (gN l n s).2) (by exact Prod.eta _)).1
 rw [h]
 exact ⟨rfl, rfl, rfl⟩
theorem gN_st2 {l : List Int} {n j : Int} {s s1 : Gs} (h : gN l n s = (j, s1)) : s1.names = s.names ∧ s1.left = s.left ∧ s1.vars = s.vars := by
 rw [(gN_st h).1]
 exact ⟨rfl, rfl, rfl⟩
theorem gK_st {l : List Int} {d : Nat} {s s1 : Gs} {k : Int} (h : gK l d s = (k, s1)) : s1.names = s.names ∧ s1.left = s.left ∧ s1.vars = s.vars := by
 unfold gK at h
 have h2 : (gN l 16 { s with nodes := IntKind.i64.wrap (s.nodes - 1) }).2 = s1 := congrArg Prod.snd h
 have h3 := gN_keep l 16 { s with nodes := IntKind.i64.wrap (s.nodes - 1) }
 rw [h2] at h3
 exact h3
/-- What does not change, with where it lies. -/
structure Ge where
 g : Nat
 vl : SV
 vn : SV
 vf : SV
 c : Gc
 F : List Tf
structure Gfine (e : Ge) : Prop where
 hl : e.c.l.length ≤ 1000
 hlo : ∀ x ∈ e.c.l, okI x
 fs : e.c.fs = e.F.map fun f => (f.name, f.ps)
 fl : e.F.length ≤ 100
 me : e.c.me ≤ 100
 ps : ∀ f ∈ e.F, f.ps.length ≤ 100
mutual
theorem GXr.keep {c : Gc} : ∀ {d : Nat} {s s' : Gs} {p : Px}, GXr c d s p s' → s'.names = s.names ∧ s'.left = s.left ∧ s'.vars = s.vars
 | _, s, _, _, .nam (s1 := s1) hk _ _ hj _ => by
  have h1 := gK_st hk; have h2 := (gN_st hj).1
  rw [h2]; exact h1
 | _, _, _, _, .inp hk => gK_st hk
 | _, _, _, _, .mem hk _ hp => by
  have h1 := gK_st hk; have h2 := hp.keep
  exact ⟨h2.1.trans h1.1, h2.2.1.trans h1.2.1, h2.2.2.trans h1.2.2⟩
 | _, _, _, _, .una hk hj _ hp => by
  have h1 := gK_st hk; have h3 := gN_st2 hj; have h2 := hp.keep
  exact ⟨h2.1.trans (h3.1.trans h1.1), h2.2.1.trans (h3.2.1.trans h1.2.1), h2.2.2.trans (h3.2.2.trans h1.2.2)⟩
 | _, _, _, _, .call hk _ hj _ hp => by
  have h1 := gK_st hk; have h3 := gN_st2 hj; have h2 := hp.keep
  exact ⟨h2.1.trans (h3.1.trans h1.1), h2.2.1.trans (h3.2.1.trans h1.2.1), h2.2.2.trans (h3.2.2.trans h1.2.2)⟩
 | _, _, _, _, .bin hk _ hj _ hp hq => by
  have h1 := gK_st hk; have h3 := gN_st2 hj; have h2 := hp.keep; have h4 := hq.keep
  exact ⟨h4.1.trans (h2.1.trans (h3.1.trans h1.1)), h4.2.1.trans (h2.2.1.trans (h3.2.1.trans h1.2.1)), h4.2.2.trans (h2.2.2.trans (h3.2.2.trans h1.2.2))⟩
 | _, _, _, _, .con hk _ _ _ _ _ _ _ hj _ => by
  have h1 := gK_st hk; have h3 := gN_st2 hj
  exact ⟨h3.1.trans h1.1, h3.2.1.trans h1.2.1, h3.2.2.trans h1.2.2⟩
theorem GKr.keep {c : Gc} : ∀ {d n : Nat} {s s' : Gs} {ps : List Px}, GKr c d n s ps s' → s'.names = s.names ∧ s'.left = s.left ∧ s'.vars = s.vars
 | _, _, _, _, _, .nil => ⟨rfl, rfl, rfl⟩
 | _, _, _, _, _, .cons hp hq => by
  have h1 := hp.keep; have h2 := hq.keep
  exact ⟨h2.1.trans h1.1, h2.2.1.trans h1.2.1, h2.2.2.trans h1.2.2⟩
end
theorem Spec.roAll {P : Program} {n : Nat} {vs : List Value} {L R0 R1 : List Asn} {X : Type} {φ : X → Prop} {v : X → Value} {L' R' : X → List Asn} (h : Spec P n vs L R0 φ v L' R') (hAB : ∀ (i : Nat) (A : Asn), R0[i]? = some A → ∃ B : Asn, R1[i]? = some B ∧ ∀ w G, B.pred w G → A.pred w G) : Spec P n vs L R1 φ v L' R' := fun w M H ⟨F, hF⟩ =>
 h w M H ⟨F, hF.touch, hF.has, hF.lt, hF.mine, hF.apart, fun k C hk => by
  obtain ⟨B, h1, h2⟩ := hAB k C hk
  obtain ⟨G, g1, g2⟩ := hF.ro k B h1
  exact ⟨G, h2 _ _ g1, g2⟩⟩
def Ge.at (e : Ge) (v : SV) : Ge := { e with vn := v }
theorem Gfine.at {e : Ge} (he : Gfine e) (v : SV) : Gfine (e.at v) := ⟨he.hl, he.hlo, he.fs, he.fl, he.me, he.ps⟩
/-- What the states keep. -/
structure GInv (s : Gs) : Prop where
 v0 : 0 ≤ s.vars
 v8 : s.vars ≤ 8
 nm : (s.names.length : Int) ≤ 100 + s.vars
 lf : s.left ≤ 1000
theorem GInv.same {s s' : Gs} (h : GInv s) (k : s'.names = s.names ∧ s'.left = s.left ∧ s'.vars = s.vars) : GInv s' := ⟨by rw [k.2.2]; exact h.v0, by rw [k.2.2]; exact h.v8, by rw [k.1, k.2.2]; exact h.nm, by rw [k.2.1]; exact h.lf⟩
theorem GInv.n {s : Gs} (h : GInv s) : s.names.length ≤ 1000 := by have := h.nm; have := h.v8; omega
theorem GCr.keep {c : Gc} {d : Nat} {f : ByteArray × List ByteArray} {s s' : Gs} {p : Px} (h : GCr c d f s p s') : s'.names = s.names ∧ s'.left = s.left ∧ s'.vars = s.vars := by
 obtain ⟨ps, h1, _⟩ := h
 exact h1.keep
theorem keep_tr {a b c : Gs} (h : b.names = a.names ∧ b.left = a.left ∧ b.vars = a.vars) (k : c.names = b.names ∧ c.left = b.left ∧ c.vars = b.vars) : c.names = a.names ∧ c.left = a.left ∧ c.vars = a.vars := ⟨k.1.trans h.1, k.2.1.trans h.2.1, k.2.2.trans h.2.2⟩
/-- What statements keep: names come with variables. -/
structure GKp (s s' : Gs) : Prop where
 inv : GInv s'
 left : s'.left ≤ s.left
 diff : (s'.names.length : Int) - s'.vars = (s.names.length : Int) - s.vars
theorem GKp.of {s s' : Gs} (h : GInv s) (k : s'.names = s.names ∧ s'.left = s.left ∧ s'.vars = s.vars) : GKp s s' := ⟨h.same k, by rw [k.2.1]; exact Int.le_refl _, by rw [k.1, k.2.2]⟩
theorem GKp.trans {a b c : Gs} (h : GKp a b) (k : GKp b c) : GKp a c := ⟨k.inv, Int.le_trans k.left h.left, k.diff.trans h.diff⟩
theorem GInv.var {s : Gs} (h : GInv s) (hv : s.vars < 8) : GInv { s with vars := s.vars + 1 } := ⟨by show 0 ≤ s.vars + 1; have := h.v0; omega, by show s.vars + 1 ≤ 8; omega, by show (s.names.length : Int) ≤ 100 + (s.vars + 1); have := h.nm; omega, h.lf⟩
theorem GKp.more {s s' : Gs} {x : ByteArray} (h : GInv s) (k : GKp { s with vars := s.vars + 1 } s') : GKp s { s' with names := s'.names ++ [x] } := by
 have hd : (s'.names.length : Int) - s'.vars = (s.names.length : Int) - (s.vars + 1) := k.diff
 have hn := h.nm
 have hl : ((s'.names ++ [x]).length : Int) = (s'.names.length : Int) + 1 := by rw [List.length_append, List.length_singleton]; rfl
 exact ⟨⟨k.inv.v0, k.inv.v8, by show ((s'.names ++ [x]).length : Int) ≤ 100 + s'.vars; omega, k.inv.lf⟩, k.left, by show ((s'.names ++ [x]).length : Int) - s'.vars = _; omega⟩
mutual
theorem GYr.inv {c : Gc} : ∀ {e : Nat} {s s' : Gs} {o : List Py}, GYr c e s o s' → GInv s → GKp s s'
 | _, _, _, _, .mk hj h, hi => (GKp.of hi (gN_st2 hj)).trans (h.inv (hi.same (gN_st2 hj)))
theorem GLr.inv {c : Gc} : ∀ {e n : Nat} {s s' : Gs} {o : List Py}, GLr c e n s o s' → GInv s → GKp s s'
 | _, _, _, _, _, .zero, hi => GKp.of hi ⟨rfl, rfl, rfl⟩
 | _, _, _, _, _, .stop _, hi => GKp.of hi ⟨rfl, rfl, rfl⟩
 | _, _, s, _, _, .step hl hk h1 h2, hi => by
  have hi2 : GInv { s with left := s.left - 1 } := ⟨hi.v0, hi.v8, hi.nm, by show s.left - 1 ≤ 1000; have := hi.lf; omega⟩
  have k0 : GKp s { s with left := s.left - 1 } := ⟨hi2, by show s.left - 1 ≤ s.left; omega, rfl⟩
  have k1 := GKp.of hi2 (gN_st2 hk)
  have k2 := h1.inv k1.inv
  exact ((k0.trans k1).trans k2).trans (h2.inv k2.inv)
theorem G1r.inv {c : Gc} : ∀ {e : Nat} {k : Int} {s s' : Gs} {o : List Py}, G1r c e k s o s' → GInv s → GKp s s'
 | _, _, s, _, _, .var _ _ hv hp, hi => GKp.more hi (GKp.of (hi.var hv) hp.keep)
 | _, _, _, _, _, .set _ hj _ hp, hi => GKp.of hi (keep_tr (gN_st2 hj) hp.keep)
 | _, _, _, _, _, .put _ hp hq, hi => GKp.of hi (keep_tr hp.keep hq.keep)
 | _, _, _, _, _, .iff1 hp ha hj hb, hi => by
  have k1 := GKp.of hi hp.keep
  have k2 := ha.inv k1.inv
  have k3 := GKp.of k2.inv (gN_st2 hj)
  exact ((k1.trans k2).trans k3).trans (hb.inv k3.inv)
 | _, _, _, _, _, .iff0 hp ha hj _, hi => by
  have k1 := GKp.of hi hp.keep
  have k2 := ha.inv k1.inv
  exact (k1.trans k2).trans (GKp.of k2.inv (gN_st2 hj))
 | _, _, s, _, _, .whi _ hv hj ha, hi => by
  have k1 := GKp.of (hi.var hv) (gN_st2 hj)
  exact GKp.more hi (k1.trans (ha.inv k1.inv))
 | _, _, _, _, _, .ret hj hp, hi => GKp.of hi (keep_tr (gN_st2 hj) hp.keep)
 | _, _, s, _, _, .dos (s2 := s2) (s3 := s3) _ hj hj2 hf hp, hi => by
  have k1 : s3.names = s2.names ∧ s3.left = s2.left ∧ s3.vars = s2.vars := by
   rcases hf with ⟨_, _, h⟩ | ⟨_, j3, h, _⟩
   ·rw [h]; exact ⟨rfl, rfl, rfl⟩
   ·exact gN_st2 h
  exact GKp.of hi (keep_tr (keep_tr (keep_tr (gN_st2 hj) (gN_st2 hj2)) k1) hp.keep)
 | _, _, s, _, _, .out (s1 := s1) _ _ _ _ _ _ h8 _ hp, hi => by
  have k1 : s1.names = s.names ∧ s1.left = s.left ∧ s1.vars = s.vars := by
   rcases h8 with ⟨_, h⟩ | ⟨_, j, _, h⟩
   ·rw [h]; exact ⟨rfl, rfl, rfl⟩
   ·exact gN_st2 h
  exact GKp.of hi (keep_tr k1 hp.keep)
end
/-- The contract of scope.stmts. -/
def HSs (c : Nat) (vp : SV) (fs : List Tf) (v : SV) (l : List Ty) : Prop := ∀ (vn : SV) (ns : List ByteArray), ns.length + vYs l ≤ 1000000 → Spec Tryz.prog 40 [.pointer (some ⟨c, 0, none⟩), sv v] [row c 90 [sv vp, sv vn], own 9 1 eS (sv vn) ns] [tysA v l, tfsA vp fs] (X := SV × List ByteArray) (fun x => (bYs fs ns l).2 = 0 → x.2 = (bYs fs ns l).1) (fun _ => .int .i64 (bYs fs ns l).2) (fun x => [row c 90 [sv vp, sv x.1], own 9 1 eS (sv x.1) x.2]) (fun _ => [])
theorem own4of4 {A B C D D' : Asn} (h : ∀ w G, D.pred w G → D'.pred w G) : ∀ (i : Nat) (X : Asn), ([A, D', B, C] : List Asn)[i]? = some X → ∃ Y, ([A, D, B, C] : List Asn)[i]? = some Y ∧ ∀ w G, Y.pred w G → X.pred w G
 | 0, X, hX => ⟨A, rfl, by cases hX; exact fun _ _ h => h⟩
 | 1, X, hX => ⟨D, rfl, by cases hX; exact h⟩
 | 2, X, hX => ⟨B, rfl, by cases hX; exact fun _ _ h => h⟩
 | 3, X, hX => ⟨C, rfl, by cases hX; exact fun _ _ h => h⟩
 | i + 4, X, hX => by simp at hX
theorem se_own (c : Nat) (vp vn : SV) (fs : List Tf) (ns : List ByteArray) (hfl : fs.length ≤ 1000000) (hns : ns.length ≤ 1000000) (t : Tx) (ht : GX t) : Spec Tryz.prog 55 [.pointer (some ⟨c, 0, none⟩), xV t] [] [row c 90 [sv vp, sv vn], own 9 1 eS (sv vn) ns, tfsA vp fs, txsA t.v t.kids] (X := Unit) (fun _ => True) (fun _ => .int .i64 (eX fs ns t)) (fun _ => []) (fun _ => []) :=
 Spec.roAll (se_spec c vp vn fs ns hfl hns t ht) (own4of4 own_to_sl)
theorem bYs_stop {fs : List Tf} {ns ns2 : List ByteArray} {l : List Ty} {i : Nat} {st : Ty} {z : Int} (hst : l[i]? = some st) (h : bYs fs ns (l.take i) = (ns2, 0)) (hz : (bY fs ns2 st).2 = z) (hz0 : z ≠ 0) : (bYs fs ns l).2 = z := by
 have h1 := bYs_app fs ns (l.take (i + 1)) (l.drop (i + 1))
 rw [List.take_append_drop, bYs_take hst, h] at h1
 rw [h1]
 show fst (fst 0 (bY fs ns2 st).2) _ = z
 rw [zero_fst, hz, fst_ne hz0]
theorem bYs_go {fs : List Tf} {ns ns2 ns3 : List ByteArray} {l : List Ty} {i : Nat} {st : Ty} (hst : l[i]? = some st) (h : bYs fs ns (l.take i) = (ns2, 0)) (hz : bY fs ns2 st = (ns3, 0)) : bYs fs ns (l.take (i + 1)) = (ns3, 0) := by
 rw [bYs_take hst, h]
 show ((bY fs ns2 st).1, fst 0 (bY fs ns2 st).2) = _
 rw [hz]
 rfl
theorem bY_a {fs : List Tf} {ns : List ByteArray} {st : Ty} (h2 : st.kind = 2) (hm : memB st.name ns = false) : (bY fs ns st).2 = 21 := by
 rw [bY_eq]
 show fst (aE ns st) _ = 21
 have h : aE ns st = 21 := by unfold aE; rw [if_pos h2, hm]; rfl
 rw [h]
 rfl
theorem aE_0 {ns : List ByteArray} {st : Ty} (h : ¬ (st.kind = 2 ∧ memB st.name ns = false)) : aE ns st = 0 := by
 unfold aE
 by_cases h2 : st.kind = 2
 ·rw [if_pos h2]
  by_cases hm : memB st.name ns = true
  ·rw [if_pos hm]
  ·exact absurd ⟨h2, by simpa using hm⟩ h
 ·rw [if_neg h2]
theorem dE_0 {ns : List ByteArray} {st : Ty} (h : ¬ (st.kind = 1 ∧ memB st.name ns = true)) : dE ns st = 0 := by
 unfold dE
 by_cases h2 : st.kind = 1
 ·rw [if_pos h2]
  by_cases hm : memB st.name ns = true
  ·exact absurd ⟨h2, hm⟩ h
  ·rw [if_neg hm]
 ·rw [if_neg h2]
theorem bY_d {fs : List Tf} {ns : List ByteArray} {st : Ty} {e : Tx} (h1 : st.kind = 1) (hm : memB st.name ns = true) (he : st.es = [e]) : (bY fs ns st).2 = fst (eX fs ns e) 22 := by
 rw [bY_eq]
 show fst (aE ns st) (fst (eXs fs ns st.es) (fst (dE ns st) _)) = _
 rw [aE_0 (fun h => by rw [h1] at h; exact absurd h.1 (by decide)), he]
 have h : dE ns st = 22 := by unfold dE; rw [if_pos h1, if_pos hm]
 rw [h]
 show fst 0 (fst (fst (eX fs ns e) 0) (fst 22 _)) = _
 rw [zero_fst, fst_zero]
 rfl
theorem bY_x {fs : List Tf} {ns : List ByteArray} {st : Ty} (ha : ¬ (st.kind = 2 ∧ memB st.name ns = false)) {z : Int} (hz : eXs fs ns st.es = z) (h0 : z ≠ 0) : (bY fs ns st).2 = z := by
 rw [bY_eq]
 show fst (aE ns st) (fst (eXs fs ns st.es) _) = _
 rw [aE_0 ha, zero_fst, hz, fst_ne h0]
theorem bY_b {fs : List Tf} {ns : List ByteArray} {st : Ty} (ha : ¬ (st.kind = 2 ∧ memB st.name ns = false)) (hd : ¬ (st.kind = 1 ∧ memB st.name ns = true)) (hz : eXs fs ns st.es = 0) : bY fs ns st = ((bYs fs (bYs fs (dN ns st) st.body).1 st.els).1, fst (bYs fs (dN ns st) st.body).2 (bYs fs (bYs fs (dN ns st) st.body).1 st.els).2) := by
 rw [bY_eq, aE_0 ha, dE_0 hd, hz]
 rfl
theorem one_of {t : Ty} (h : rY t = true) (hk : t.kind ≠ 3) : ∃ e, t.es = [e] := by
 rw [rY_def] at h
 simp only [Bool.and_eq_true] at h
 have h2 := h.1.1.1
 unfold okY at h2
 simp only [Bool.and_eq_true, decide_eq_true_eq] at h2
 have h3 := h2.1.1.1.2
 rw [if_neg hk] at h3
 exact List.length_eq_one_iff.1 h3
structure Xn where
 i : Nat
 vn : SV
 ns : List ByteArray
set_option maxHeartbeats 8000000 in
set_option maxRecDepth 100000 in
theorem ss_step (c : Nat) (vp : SV) (fs : List Tf) (hfl : fs.length ≤ 1000000) (v : SV) (l : List Ty) (hl : l.length ≤ 1000000) (hg : GYs l) (hr : l.all rY = true) (ih : ∀ u ∈ l, HSs c vp fs u.vb u.body ∧ HSs c vp fs u.vl u.els) (vn : SV) (ns : List ByteArray) (hb : ns.length + vYs l ≤ 1000000) :
  Spec Tryz.prog 40 [.pointer (some ⟨c, 0, none⟩), sv v] [row c 90 [sv vp, sv vn], own 9 1 eS (sv vn) ns] [tysA v l, tfsA vp fs] (X := SV × List ByteArray) (fun x => (bYs fs ns l).2 = 0 → x.2 = (bYs fs ns l).1) (fun _ => .int .i64 (bYs fs ns l).2) (fun x => [row c 90 [sv vp, sv x.1], own 9 1 eS (sv x.1) x.2]) (fun _ => []) := by
 refine r_enter Tryz.func40 rfl Tryz.ntmps40 rfl fun w0 M H => ?_
 refine r_more 0 2 rfl tys_sl ?_
 refine r_seq (r_region (r_p (p_assign rfl) rfl (r_nil (r_seq (r_seq (r_region (r_p (p_assign rfl) rfl (r_nil (r_block ?_)))))))))
 refine r_loop (X := Xn) (fun x => x.i ≤ l.length ∧ bYs fs ns (l.take x.i) = (x.ns, 0)) (fun x => [(0, .pointer (some ⟨c, 0, none⟩)), (1, sv v), (5, .int .i64 (x.i : Int))]) (fun x => [(0, row c 90 [sv vp, sv x.vn]), (1, own 9 1 eS (sv x.vn) x.ns)]) (fun x => [(0, tysA v l), (2, sl 5 eTy (sv v) l), (1, tfsA vp fs)]) (fun x => l.length - x.i) ⟨0, vn, ns⟩ ⟨Nat.zero_le _, rfl⟩ rfl rfl rfl (fun x hx0 => ?_)
 obtain ⟨i, vn2, ns2⟩ := x
 obtain ⟨n1, n2⟩ := hx0
 dsimp only at n1 n2 ⊢
 have hnl2 : ns2.length = ns.length + vYs (l.take i) := by have h := bYs_len fs ns (l.take i); rw [n2] at h; exact h
 have hvl2 := vYs_app (l.take i) (l.drop i)
 rw [List.take_append_drop] at hvl2
 refine r_seq (r_seq (r_region (r_p (p_move rfl) rfl (r_p (p_move rfl) rfl ?_))))
 refine r_p (p_len_sl Tryz.underlying51 rfl (hs_sl (k := 2) rfl)) rfl ?_
 refine r_p (p_bin rfl rfl b_lt) rfl ?_
 refine r_nil ?_
 refine r_cond rfl (fun h1 => ?_) (fun h1 => ?_)
 ·(try simp only [decide_eq_true_eq, decide_eq_false_iff_not, Bool.and_eq_true, Bool.or_eq_true, Bool.and_eq_false_iff, Bool.or_eq_false_iff, Bool.not_eq_true, Bool.not_eq_false, Bool.not_eq_true', Bool.not_eq_false', Bool.not_not, bne_iff_ne, beq_iff_eq] at h1)
  have hi : i < l.length := by omega
  obtain ⟨st, hst⟩ : ∃ k, l[i]? = some k := ⟨_, List.getElem?_eq_getElem hi⟩
  have hsm := List.mem_of_getElem? hst
  have hsg := GY_es (hg.mem st hsm)
  have hry : rY st = true := List.all_eq_true.1 hr st hsm
  have hvb := vYs_app (l.take (i + 1)) (l.drop (i + 1))
  rw [List.take_append_drop, vYs_take hst] at hvb
  have hvs := vY_def st
  refine r_more 0 7 rfl (tys_es hsm) ?_
  refine r_more 0 8 rfl (tys_body hsm) ?_
  refine r_more 0 9 rfl (tys_els hsm) ?_
  refine r_more 7 10 rfl txs_sl ?_
  refine r_skip (r_seq (r_block (r_seq (r_region (r_p (p_move rfl) rfl (r_p (p_move rfl) rfl ?_))))))
  refine r_p (p_idx_sl (j := i) Tryz.underlying51 t53 rfl rfl (hs_sl (k := 2) rfl) (by first | rfl | omega) (by first | omega | (simp; done) | (simp; omega))) rfl ?_
  refine r_p (p_loadA t53 rfl rfl rfl (g_el' (hs_sl (k := 2) rfl) (by intro _; rfl) hst (by rfl))) rfl ?_
  refine r_alloc t53 rfl rfl fun b6 => ?_
  refine r_store_all (k := 6) t53 rfl rfl rfl rfl rfl rfl ?_
  refine r_nil (r_seq ?_)
  refine r_draw [22, 23, 24, 25, 26, 27, 28, 7] _ rfl (stg_mem (V := [(0, 22, _), (1, 23, _), (2, 24, _), (3, 25, _), (4, 26, _), (5, 27, _)]) [0, 1, 2, 3, 4, 5] 6 [6, 5, 4, 3, 2, 1, 0] [7] (fun _ => [(7, 7, _)]) rfl rfl (prs_cons (pri rfl (p_field0 fo53_1 rfl)) (prs_cons (pri rfl (p_load1 t9 rfl rfl (g_row1 (k := 6) rfl rfl))) (prs_cons (pri rfl (p_move rfl)) (prs_cons (pri rfl (p_nilCheck rfl)) (prs_cons (pri rfl (p_field0 fo90_1 rfl)) (prs_cons (pri rfl (p_load1 t58 rfl rfl (g_row1 (k := 0) rfl rfl))) prs_nil)))))) rfl rfl rfl rfl rfl rfl rfl rfl rfl rfl rfl (fun _ _ => rfl) rfl (ms_callN (xs := [.tmp 23, .tmp 27]) (among_own st.name vn2 ns2 (by omega)) cb39 [] [(true, 1)] [] rfl rfl rfl rfl rfl rfl rfl rfl (fun _ _ => rfl) (fun _ _ _ => rfl)) (fun _ _ => stg_end [7] rfl rfl (prs_cons (pri rfl (p_assign rfl)) prs_nil) rfl rfl rfl ?_))
  refine r_seq (r_seq (r_region ?_))
  refine r_p (p_field0 fo53_0 rfl) rfl ?_
  refine r_p (p_load1 t3 rfl rfl (g_row1 (k := 6) rfl rfl)) rfl ?_
  refine r_p (p_bin rfl rfl b_eq) rfl ?_
  refine r_p (p_move rfl) rfl ?_
  refine r_gp [] rfl rfl trivial (fun hg2 => p_move rfl) rfl ?_
  refine r_gp [(33, _)] rfl rfl ⟨rfl, trivial⟩ (fun hg3 => p_not rfl) rfl ?_
  refine r_p (p_pick rfl rfl rfl (by first | exact pick_and | exact pick_or |  rfl)) rfl ?_
  refine r_nil ?_
  refine r_cond rfl (fun h4 => ?_) (fun h4 => ?_)
  ·have q2 : st.kind = 2 ∧ memB st.name ns2 = false := by simpa using h4
   refine r_seq (r_region (r_p (p_assign rfl) rfl (r_nil (r_cret ?_))))
   refine r_ret (vn2, ns2) (fun h => absurd h (by rw [bYs_stop hst n2 (bY_a q2.1 q2.2) (by decide)]; exact (by decide))) rfl (rs1 (rv_tmp rfl)) (by rw [bYs_stop hst n2 (bY_a q2.1 q2.2) (by decide)]) [0, 1] [] rfl rfl rfl
  ·have q2 : ¬ (st.kind = 2 ∧ memB st.name ns2 = false) := by rintro ⟨a, b⟩; rw [decide_eq_true a, b] at h4; exact absurd h4 (by simp)
   refine r_skip (r_seq (r_seq (r_region ?_)))
   refine r_p (p_field0 fo53_0 rfl) rfl ?_
   refine r_p (p_load1 t3 rfl rfl (g_row1 (k := 6) rfl rfl)) rfl ?_
   refine r_p (p_bin rfl rfl b_eq) rfl ?_
   refine r_p (p_move rfl) rfl ?_
   refine r_gp [] rfl rfl trivial (fun hg5 => p_move rfl) rfl ?_
   refine r_p (p_pick rfl rfl rfl (by first | exact pick_and | exact pick_or |  rfl)) rfl ?_
   refine r_nil ?_
   refine r_cond rfl (fun h6 => ?_) (fun h6 => ?_)
   ·have q3 : st.kind = 1 ∧ memB st.name ns2 = true := by simpa using h6
    obtain ⟨e, hes⟩ := one_of hry (by rw [q3.1]; decide)
    have he0 : st.es[0]? = some e := by rw [hes]; rfl
    refine r_seq (r_region (r_p (p_move rfl) rfl ?_))
    refine r_p (p_field0 fo53_2 rfl) rfl ?_
    refine r_p (p_load1 t46 rfl rfl (g_row1 (k := 6) rfl rfl)) rfl ?_
    refine r_p (p_idx_sl (j := 0) Tryz.underlying46 t48 rfl rfl (hs_sl (k := 10) rfl) rfl (by rw [hes]; exact Nat.zero_lt_one)) rfl ?_
    refine r_p (p_loadA t48 rfl rfl rfl (g_el' (hs_sl (k := 10) rfl) (by intro _; rfl) he0 (by rfl))) rfl ?_
    have hum : e ∈ st.es := List.mem_of_getElem? he0
    refine r_more 7 11 rfl (txs_kid hum) ?_
    refine r_callN (xs := [.tmp 42, .tmp 46]) (se_own c vp vn2 fs ns2 hfl (by omega) e (hsg.2.mem e hum)) cb55 [] [(true, 0), (true, 1), (false, 1), (false, 11)] [] rfl rfl rfl rfl rfl rfl rfl rfl (fun _ _ => rfl) (fun _ _ _ => rfl) rfl (fun _ _ => ?_)
    refine r_p (p_assign rfl) rfl (r_nil (r_seq (r_seq (r_region (r_p (p_move rfl) rfl ?_)))))
    refine r_p (p_bin rfl rfl b_ne) rfl ?_
    refine r_nil ?_
    refine r_cond rfl (fun h7 => ?_) (fun h7 => ?_)
    ·(try simp only [decide_eq_true_eq, decide_eq_false_iff_not, Bool.and_eq_true, Bool.or_eq_true, Bool.and_eq_false_iff, Bool.or_eq_false_iff, Bool.not_eq_true, Bool.not_eq_false, Bool.not_eq_true', Bool.not_eq_false', Bool.not_not, bne_iff_ne, beq_iff_eq] at h7)
     have q4 : eX fs ns2 e ≠ 0 := h7
     refine r_seq (r_region (r_p (p_move rfl) rfl (r_p (p_assign rfl) rfl (r_nil (r_cret ?_)))))
     refine r_ret (vn2, ns2) (fun h => absurd h (by rw [bYs_stop hst n2 (z := eX fs ns2 e) (by rw [bY_d q3.1 q3.2 hes, fst_ne q4]) q4]; exact q4)) rfl (rs1 (rv_tmp rfl)) (by rw [bYs_stop hst n2 (z := eX fs ns2 e) (by rw [bY_d q3.1 q3.2 hes, fst_ne q4]) q4]) [0, 1] [] rfl rfl rfl
    ·(try simp only [decide_eq_true_eq, decide_eq_false_iff_not, Bool.and_eq_true, Bool.or_eq_true, Bool.and_eq_false_iff, Bool.or_eq_false_iff, Bool.not_eq_true, Bool.not_eq_false, Bool.not_eq_true', Bool.not_eq_false', Bool.not_not, bne_iff_ne, beq_iff_eq] at h7)
     have q4 : eX fs ns2 e = 0 := h7
     refine r_skip (r_seq (r_region (r_p (p_assign rfl) rfl (r_nil (r_cret ?_)))))
     refine r_ret (vn2, ns2) (fun h => absurd h (by rw [bYs_stop hst n2 (z := 22) (by rw [bY_d q3.1 q3.2 hes, q4]; rfl) (by decide)]; exact (by decide))) rfl (rs1 (rv_tmp rfl)) (by rw [bYs_stop hst n2 (z := 22) (by rw [bY_d q3.1 q3.2 hes, q4]; rfl) (by decide)]) [0, 1] [] rfl rfl rfl
   ·have q3 : ¬ (st.kind = 1 ∧ memB st.name ns2 = true) := by rintro ⟨a, b⟩; rw [decide_eq_true a, b] at h6; exact absurd h6 (by simp)
    refine r_skip (r_seq (r_seq (r_region (r_p (p_assign rfl) rfl (r_nil (r_block ?_))))))
    refine r_loop (X := Nat) (fun j => j ≤ st.es.length ∧ eXs fs ns2 (st.es.take j) = 0) (fun j => [(0, .pointer (some ⟨c, 0, none⟩)), (1, sv v), (5, .int .i64 (i : Int)), (6, .pointer (some ⟨b6, 0, none⟩)), (7, .bool (memB st.name ns2)), (9, .int .i64 (j : Int))]) (fun j => [(0, row c 90 [sv vp, sv vn2]), (1, own 9 1 eS (sv vn2) ns2), (6, row b6 53 (eTy st))]) (fun j => [(0, tysA v l), (2, sl 5 eTy (sv v) l), (1, tfsA vp fs), (7, txsA st.ve st.es), (8, tysA st.vb st.body), (9, tysA st.vl st.els), (10, sl 4 eTx (sv st.ve) st.es)]) (fun j => st.es.length - j) 0 ⟨Nat.zero_le _, rfl⟩ rfl rfl rfl (fun j hy0 => ?_)
    obtain ⟨n3, n4⟩ := hy0
    refine r_seq (r_seq (r_region (r_p (p_move rfl) rfl ?_)))
    refine r_p (p_field0 fo53_2 rfl) rfl ?_
    refine r_p (p_load1 t46 rfl rfl (g_row1 (k := 6) rfl rfl)) rfl ?_
    refine r_p (p_len_sl Tryz.underlying46 rfl (hs_sl (k := 10) rfl)) rfl ?_
    refine r_p (p_bin rfl rfl b_lt) rfl ?_
    refine r_nil ?_
    refine r_cond rfl (fun h8 => ?_) (fun h8 => ?_)
    ·(try simp only [decide_eq_true_eq, decide_eq_false_iff_not, Bool.and_eq_true, Bool.or_eq_true, Bool.and_eq_false_iff, Bool.or_eq_false_iff, Bool.not_eq_true, Bool.not_eq_false, Bool.not_eq_true', Bool.not_eq_false', Bool.not_not, bne_iff_ne, beq_iff_eq] at h8)
     have hj : j < st.es.length := by omega
     obtain ⟨u, hu⟩ : ∃ k, st.es[j]? = some k := ⟨_, List.getElem?_eq_getElem hj⟩
     have hum := List.mem_of_getElem? hu
     refine r_skip (r_seq (r_block (r_seq (r_region (r_p (p_move rfl) rfl ?_)))))
     refine r_p (p_field0 fo53_2 rfl) rfl ?_
     refine r_p (p_load1 t46 rfl rfl (g_row1 (k := 6) rfl rfl)) rfl ?_
     refine r_p (p_move rfl) rfl ?_
     refine r_p (p_idx_sl (j := j) Tryz.underlying46 t48 rfl rfl (hs_sl (k := 10) rfl) (by first | rfl | omega) (by first | omega | (simp; done) | (simp; omega))) rfl ?_
     refine r_p (p_loadA t48 rfl rfl rfl (g_el' (hs_sl (k := 10) rfl) (by intro _; rfl) hu (by rfl))) rfl ?_
     refine r_more 7 11 rfl (txs_kid hum) ?_
     refine r_callN (xs := [.tmp 58, .tmp 63]) (se_own c vp vn2 fs ns2 hfl (by omega) u (hsg.2.mem u hum)) cb55 [] [(true, 0), (true, 1), (false, 1), (false, 11)] [] rfl rfl rfl rfl rfl rfl rfl rfl (fun _ _ => rfl) (fun _ _ _ => rfl) rfl (fun _ _ => ?_)
     refine r_p (p_assign rfl) rfl (r_nil (r_seq (r_region (r_p (p_move rfl) rfl ?_))))
     refine r_p (p_bin rfl rfl b_ne) rfl ?_
     refine r_nil ?_
     refine r_cond rfl (fun h9 => ?_) (fun h9 => ?_)
     ·(try simp only [decide_eq_true_eq, decide_eq_false_iff_not, Bool.and_eq_true, Bool.or_eq_true, Bool.and_eq_false_iff, Bool.or_eq_false_iff, Bool.not_eq_true, Bool.not_eq_false, Bool.not_eq_true', Bool.not_eq_false', Bool.not_not, bne_iff_ne, beq_iff_eq] at h9)
      have q6 : eX fs ns2 u ≠ 0 := h9
      refine r_seq (r_region (r_p (p_move rfl) rfl (r_p (p_assign rfl) rfl (r_nil (r_cret ?_)))))
      refine r_ret (vn2, ns2) (fun h => absurd h (by rw [bYs_stop hst n2 (bY_x q2 (eXs_hit hu n4 q6) q6) q6]; exact q6)) rfl (rs1 (rv_tmp rfl)) (by rw [bYs_stop hst n2 (bY_x q2 (eXs_hit hu n4 q6) q6) q6]) [0, 1] [] rfl rfl rfl
     ·(try simp only [decide_eq_true_eq, decide_eq_false_iff_not, Bool.and_eq_true, Bool.or_eq_true, Bool.and_eq_false_iff, Bool.or_eq_false_iff, Bool.not_eq_true, Bool.not_eq_false, Bool.not_eq_true', Bool.not_eq_false', Bool.not_not, bne_iff_ne, beq_iff_eq] at h9)
      have q6 : eX fs ns2 u = 0 := h9
      refine r_skip (r_region (r_p (p_move rfl) rfl ?_))
      refine r_p (p_bin rfl rfl (b_add (by first | exact w_i64 (by omega) (by omega) | rfl))) rfl ?_
      refine r_p (p_assign rfl) rfl (r_nil ?_)
      refine r_here (j + 1) ⟨⟨by omega, by rw [eXs_take hu, n4, q6]; rfl⟩, by omega⟩ rfl rfl rfl
    ·(try simp only [decide_eq_true_eq, decide_eq_false_iff_not, Bool.and_eq_true, Bool.or_eq_true, Bool.and_eq_false_iff, Bool.or_eq_false_iff, Bool.not_eq_true, Bool.not_eq_false, Bool.not_eq_true', Bool.not_eq_false', Bool.not_not, bne_iff_ne, beq_iff_eq] at h8)
     have hj : j = st.es.length := by omega
     subst hj
     rw [List.take_length] at n4
     refine r_exit ?_
     refine r_seq_cut (X := SV) (fun _ => True) (fun y => [(0, .pointer (some ⟨c, 0, none⟩)), (1, sv v), (5, .int .i64 (i : Int)), (6, .pointer (some ⟨b6, 0, none⟩))]) (fun y => [(0, row c 90 [sv vp, sv y]), (1, own 9 1 eS (sv y) (dN ns2 st)), (6, row b6 53 (eTy st))]) (fun y => [(0, tysA v l), (2, sl 5 eTy (sv v) l), (1, tfsA vp fs), (7, txsA st.ve st.es), (8, tysA st.vb st.body), (9, tysA st.vl st.els), (10, sl 4 eTx (sv st.ve) st.es)]) ?_ (fun vn3 _ => ?_)
     ·refine r_seq (r_region ?_)
      refine r_p (p_field0 fo53_0 rfl) rfl ?_
      refine r_p (p_load1 t3 rfl rfl (g_row1 (k := 6) rfl rfl)) rfl ?_
      refine r_p (p_bin rfl rfl b_eq) rfl ?_
      refine r_nil ?_
      refine r_cond rfl (fun h10 => ?_) (fun h10 => ?_)
      ·have q7 : st.kind = 1 := of_decide_eq_true h10
       refine r_draw [71, 72, 73, 74, 75, 76, 77, 78, 79, 80, 81] _ rfl (stg_mem (V := [(0, 71, _), (1, 72, _), (2, 73, _), (3, 74, _), (4, 75, _), (5, 76, _), (6, 77, _)]) [0, 1, 2, 3, 4, 5, 6] 7 [7, 6, 5] [] (fun v78 => []) rfl rfl (prs_cons (pri rfl (p_move rfl)) (prs_cons (pri rfl (p_move rfl)) (prs_cons (pri rfl (p_nilCheck rfl)) (prs_cons (pri rfl (p_field0 fo90_1 rfl)) (prs_cons (pri rfl (p_load1 t58 rfl rfl (g_row1 (k := 0) rfl rfl))) (prs_cons (pri rfl (p_field0 fo53_1 rfl)) (prs_cons (pri rfl (p_load1 t9 rfl rfl (g_row1 (k := 6) rfl rfl))) prs_nil))))))) rfl rfl rfl rfl rfl rfl rfl rfl rfl rfl rfl (fun _ _ => rfl) rfl (ms_bslice1 eS st.name Tryz.underlying58 t9 rfl (by decide) (by decide) rfl rfl rfl) (fun v78 _ => stg_mem [0, 1, 2, 3, 4] 8 [8, 7, 6, 5, 4, 3, 2, 1] [9, 10] (fun v79 => [(9, 80, _), (10, 81, _)]) rfl rfl (prs_cons (pri rfl (p_move rfl)) (prs_cons (pri rfl (p_move rfl)) (prs_cons (pri rfl (p_nilCheck rfl)) (prs_cons (pri rfl (p_field0 fo90_1 rfl)) (prs_cons (pri rfl (p_load1 t58 rfl rfl (g_row1 (k := 0) rfl rfl))) prs_nil))))) rfl rfl rfl rfl rfl rfl rfl rfl rfl rfl rfl (fun _ _ => rfl) rfl (ms_append 1 Tryz.underlying58 t9 rfl (by decide) (fun _ => rfl) (fun _ => rfl) rfl rfl rfl (hs_own (k := 78) rfl) (by simp only [List.length_singleton]; omega) (by unfold maxLen; simp only [List.length_singleton]; omega)) (fun v79 _ => stg_mem0 [9, 10, 0] 11 [11, 10, 9, 8, 7, 6, 5, 4, 3, 2, 1, 0] [] (fun _ => []) rfl rfl (prs_cons (pri rfl (p_nilCheck rfl)) (prs_cons (pri rfl (p_field0 fo90_1 rfl)) (prs_cons (pri rfl (p_move rfl)) prs_nil))) rfl rfl rfl rfl rfl rfl rfl rfl rfl (fun _ _ => rfl) rfl (ms_store_row (k := 0) t58 rfl rfl rfl rfl rfl rfl rfl rfl) (fun _ _ => stg_end [] rfl rfl prs_nil rfl rfl rfl ?_))))
       refine r_here v79 trivial rfl (by rw [show dN ns2 st = ns2 ++ [st.name] from if_pos q7]; rfl) rfl
      ·have q7 : ¬ st.kind = 1 := of_decide_eq_false h10
       refine r_skip ?_
       refine r_here vn2 trivial rfl (by rw [show dN ns2 st = ns2 from if_neg q7]; rfl) rfl
     ·refine r_seq (r_region (r_p (p_move rfl) rfl ?_))
      refine r_p (p_field0 fo53_3 rfl) rfl ?_
      refine r_p (p_load1 t51 rfl rfl (g_row1 (k := 6) rfl rfl)) rfl ?_
      refine r_callN (xs := [.tmp 82, .tmp 84]) ((ih st hsm).1 vn3 (dN ns2 st) (by rw [dN_len]; omega)) cb40 [0, 1] [(false, 8), (false, 1)] [0, 1] rfl rfl rfl rfl rfl rfl rfl rfl (fun _ _ => rfl) (fun _ _ _ => rfl) rfl (fun ⟨vn4, ns4⟩ h4 => ?_)
      dsimp only at h4 ⊢
      refine r_p (p_assign rfl) rfl (r_nil ?_)
      refine r_seq_cut (X := SV × List ByteArray) (fun y => fst (bYs fs (dN ns2 st) st.body).2 (bYs fs (bYs fs (dN ns2 st) st.body).1 st.els).2 = 0 → y.2 = (bYs fs (bYs fs (dN ns2 st) st.body).1 st.els).1) (fun y => [(0, .pointer (some ⟨c, 0, none⟩)), (1, sv v), (5, .int .i64 (i : Int)), (6, .pointer (some ⟨b6, 0, none⟩)), (11, .int .i64 (fst (bYs fs (dN ns2 st) st.body).2 (bYs fs (bYs fs (dN ns2 st) st.body).1 st.els).2))]) (fun y => [(0, row c 90 [sv vp, sv y.1]), (1, own 9 1 eS (sv y.1) y.2), (6, row b6 53 (eTy st))]) (fun y => [(0, tysA v l), (2, sl 5 eTy (sv v) l), (1, tfsA vp fs), (7, txsA st.ve st.es), (8, tysA st.vb st.body), (9, tysA st.vl st.els), (10, sl 4 eTx (sv st.ve) st.es)]) ?_ (fun y hy => ?_)
      ·refine r_seq (r_region (r_p (p_move rfl) rfl ?_))
       refine r_p (p_bin rfl rfl b_eq) rfl ?_
       refine r_nil ?_
       refine r_cond rfl (fun h11 => ?_) (fun h11 => ?_)
       ·(try simp only [decide_eq_true_eq, decide_eq_false_iff_not, Bool.and_eq_true, Bool.or_eq_true, Bool.and_eq_false_iff, Bool.or_eq_false_iff, Bool.not_eq_true, Bool.not_eq_false, Bool.not_eq_true', Bool.not_eq_false', Bool.not_not, bne_iff_ne, beq_iff_eq] at h11)
        have q8 : (bYs fs (dN ns2 st) st.body).2 = 0 := h11
        refine r_region (r_p (p_move rfl) rfl ?_)
        refine r_p (p_field0 fo53_4 rfl) rfl ?_
        refine r_p (p_load1 t51 rfl rfl (g_row1 (k := 6) rfl rfl)) rfl ?_
        refine r_callN (xs := [.tmp 88, .tmp 90]) ((ih st hsm).2 vn4 ns4 (by rw [h4 q8, bYs_len, dN_len]; omega)) cb40 [0, 1] [(false, 9), (false, 1)] [0, 1] rfl rfl rfl rfl rfl rfl rfl rfl (fun _ _ => rfl) (fun _ _ _ => rfl) rfl (fun ⟨vn5, ns5⟩ h5 => ?_)
        dsimp only at h5 ⊢
        rw [h4 q8] at h5 ⊢
        refine r_p (p_assign rfl) rfl (r_nil ?_)
        refine r_here (vn5, ns5) (fun h => h5 (by rw [q8] at h; exact h)) (by rw [q8, zero_fst]; rfl) rfl rfl
       ·(try simp only [decide_eq_true_eq, decide_eq_false_iff_not, Bool.and_eq_true, Bool.or_eq_true, Bool.and_eq_false_iff, Bool.or_eq_false_iff, Bool.not_eq_true, Bool.not_eq_false, Bool.not_eq_true', Bool.not_eq_false', Bool.not_not, bne_iff_ne, beq_iff_eq] at h11)
        have q8 : (bYs fs (dN ns2 st) st.body).2 ≠ 0 := h11
        refine r_skip ?_
        refine r_here (vn4, ns4) (fun h => absurd h (by rw [fst_ne q8]; exact q8)) (by rw [fst_ne q8]; rfl) rfl rfl
      ·refine r_seq (r_region (r_p (p_move rfl) rfl ?_))
       refine r_p (p_bin rfl rfl b_ne) rfl ?_
       refine r_nil ?_
       refine r_cond rfl (fun h12 => ?_) (fun h12 => ?_)
       ·(try simp only [decide_eq_true_eq, decide_eq_false_iff_not, Bool.and_eq_true, Bool.or_eq_true, Bool.and_eq_false_iff, Bool.or_eq_false_iff, Bool.not_eq_true, Bool.not_eq_false, Bool.not_eq_true', Bool.not_eq_false', Bool.not_not, bne_iff_ne, beq_iff_eq] at h12)
        have q9 : fst (bYs fs (dN ns2 st) st.body).2 (bYs fs (bYs fs (dN ns2 st) st.body).1 st.els).2 ≠ 0 := h12
        refine r_seq (r_region (r_p (p_move rfl) rfl (r_p (p_assign rfl) rfl (r_nil (r_cret ?_)))))
        refine r_ret y (fun h => absurd h (by rw [bYs_stop hst n2 (z := fst (bYs fs (dN ns2 st) st.body).2 (bYs fs (bYs fs (dN ns2 st) st.body).1 st.els).2) (by rw [bY_b q2 q3 n4]) q9]; exact q9)) rfl (rs1 (rv_tmp rfl)) (by rw [bYs_stop hst n2 (z := fst (bYs fs (dN ns2 st) st.body).2 (bYs fs (bYs fs (dN ns2 st) st.body).1 st.els).2) (by rw [bY_b q2 q3 n4]) q9]) [0, 1] [] rfl rfl rfl
       ·(try simp only [decide_eq_true_eq, decide_eq_false_iff_not, Bool.and_eq_true, Bool.or_eq_true, Bool.and_eq_false_iff, Bool.or_eq_false_iff, Bool.not_eq_true, Bool.not_eq_false, Bool.not_eq_true', Bool.not_eq_false', Bool.not_not, bne_iff_ne, beq_iff_eq] at h12)
        have q9 : fst (bYs fs (dN ns2 st) st.body).2 (bYs fs (bYs fs (dN ns2 st) st.body).1 st.els).2 = 0 := h12
        refine r_skip (r_region (r_p (p_move rfl) rfl ?_))
        refine r_p (p_bin rfl rfl (b_add (by first | exact w_i64 (by omega) (by omega) | rfl))) rfl ?_
        refine r_p (p_assign rfl) rfl (r_nil ?_)
        refine r_here ⟨i + 1, y.1, y.2⟩ ⟨⟨by dsimp only; omega, bYs_go hst n2 (by rw [bY_b q2 q3 n4, hy q9, q9])⟩, by dsimp only; omega⟩ rfl rfl rfl
 ·(try simp only [decide_eq_true_eq, decide_eq_false_iff_not, Bool.and_eq_true, Bool.or_eq_true, Bool.and_eq_false_iff, Bool.or_eq_false_iff, Bool.not_eq_true, Bool.not_eq_false, Bool.not_eq_true', Bool.not_eq_false', Bool.not_not, bne_iff_ne, beq_iff_eq] at h1)
  have hi : i = l.length := by omega
  subst hi
  rw [List.take_length] at n2
  refine r_exit (r_seq (r_region (r_p (p_assign rfl) rfl (r_nil (r_cret ?_)))))
  refine r_ret (vn2, ns2) (fun _ => by rw [n2]) rfl (rs1 (rv_tmp rfl)) (by rw [n2]) [0, 1] [] rfl rfl rfl
theorem ss_all (c : Nat) (vp : SV) (fs : List Tf) (hfl : fs.length ≤ 1000000) : ∀ (n : Nat) (v : SV) (l : List Ty), SizeOf.sizeOf l < n → l.length ≤ 1000000 → GYs l → l.all rY = true → HSs c vp fs v l
 | 0, _, _, h, _, _, _ => absurd h (Nat.not_lt_zero _)
 | n + 1, v, l, h, hl, hg, hr => fun vn ns hb => ss_step c vp fs hfl v l hl hg hr (fun u hu => by
  have h1 := List.sizeOf_lt_of_mem hu
  have h2 : SizeOf.sizeOf u.body < SizeOf.sizeOf u ∧ SizeOf.sizeOf u.els < SizeOf.sizeOf u := by
   cases u
   simp only [Ty.mk.sizeOf_spec, Ty.body, Ty.els]
   omega
  have h3 := hg.mem u hu
  have h4 := List.all_eq_true.1 hr u hu
  rw [rY_def] at h4
  simp only [Bool.and_eq_true] at h4
  exact ⟨ss_all c vp fs hfl n u.vb u.body (by omega) (GY_body h3).1 (GY_body h3).2 h4.1.2, ss_all c vp fs hfl n u.vl u.els (by omega) (GY_els h3).1 (GY_els h3).2 h4.2⟩) vn ns hb
theorem ss_spec (c : Nat) (vp : SV) (fs : List Tf) (hfl : fs.length ≤ 1000000) (v : SV) (l : List Ty) (hl : l.length ≤ 1000000) (hg : GYs l) (hr : l.all rY = true) : HSs c vp fs v l := ss_all c vp fs hfl _ v l (Nat.lt_succ_self _) hl hg hr
theorem chkFs_hit {fs l : List Tf} {i : Nat} {f : Tf} {z : Int} (hf : l[i]? = some f) (h0 : chkFs fs (l.take i) = 0) (h : chkF fs f = z) (hz : z ≠ 0) : chkFs fs l = z := by
 have h1 := chkFs_app fs (l.take (i + 1)) (l.drop (i + 1))
 rw [List.take_append_drop, chkFs_take hf, h0, zero_fst, h, fst_ne hz] at h1
 exact h1
theorem chkF_b {fs : List Tf} {f : Tf} (h : big f) : chkF fs f = 2 := by rw [chkF_eq, if_pos h]; rfl
theorem dcl_hit {l : List ByteArray} {i : Nat} {x : ByteArray} (hx : l[i]? = some x) (h0 : dcl [] (l.take i) = 0) (h : memB x (l.take i) = true) : dcl [] l = 22 := by
 have h1 := dcl_app [] (l.take (i + 1)) (l.drop (i + 1))
 rw [List.take_append_drop, dcl_take hx, h0, zero_fst, if_pos h] at h1
 exact h1
theorem chkF_p {fs : List Tf} {f : Tf} (h : ¬ big f) (h2 : dcl [] f.ps = 22) : chkF fs f = 22 := by rw [chkF_eq, if_neg h, h2]; rfl
theorem chkF_s {fs : List Tf} {f : Tf} (h : ¬ big f) (h2 : dcl [] f.ps = 0) : chkF fs f = (bYs fs f.ps f.body).2 := by rw [chkF_eq, if_neg h, h2]; rfl
theorem chk_1z {fs : List Tf} (h : rP fs = false) : chk fs = 1 := by unfold chk; rw [if_pos h]
theorem chk_2z {fs : List Tf} (h : rP fs = true) (h2 : fs.length > 16) : chk fs = 2 := by unfold chk; rw [if_neg (by rw [h]; simp), if_pos h2]
set_option maxHeartbeats 8000000 in
set_option maxRecDepth 100000 in
theorem check8_spec (vp : SV) (fs : List Tf) (hg : GP fs) :
  Spec Tryz.prog 14 [.agg #[sv vp]] [] [tfsA vp fs] (X := Unit) (fun _ => True) (fun _ => .int .i64 (chk fs)) (fun _ => []) (fun _ => []) := by
 refine r_enter Tryz.func14 rfl Tryz.ntmps14 rfl fun w0 M H => ?_
 refine r_more 0 1 rfl tfs_sl ?_
 have hgl := hg.1
 refine r_seq (r_region ?_)
 refine r_boxA rfl rfl fun b1 => ?_
 refine r_p (p_assign rfl) rfl (r_nil (r_seq (r_region ?_)))
 refine r_p (p_loadA t29 rfl rfl rfl (g_all (k := 1) rfl)) rfl ?_
 refine r_callN (xs := [.tmp 13]) (right8_spec vp fs hg) cb36 [] [(false, 0)] [] rfl rfl rfl rfl rfl rfl rfl rfl (fun _ _ => rfl) (fun _ _ _ => rfl) rfl (fun _ _ => ?_)
 refine r_p (p_assign rfl) rfl (r_nil (r_seq (r_seq (r_region (r_p (p_move rfl) rfl ?_)))))
 refine r_p (p_not rfl) rfl ?_
 refine r_nil ?_
 refine r_cond rfl (fun h1 => ?_) (fun h1 => ?_)
 ·have q1 : rP fs = false := by simpa using h1
  refine r_seq (r_region (r_p (p_assign rfl) rfl (r_nil (r_cret ?_))))
  refine r_ret () trivial rfl (rs1 (rv_tmp rfl)) (by rw [chk_1z q1]) [] [] rfl rfl rfl
 ·have q1 : rP fs = true := by simpa using h1
  refine r_skip (r_seq (r_seq (r_region ?_)))
  refine r_p (p_field0 fo29_0 rfl) rfl ?_
  refine r_p (p_load1 t27 rfl rfl (g_row1 (k := 1) rfl rfl)) rfl ?_
  refine r_p (p_len_sl Tryz.underlying27 rfl (hs_sl (k := 1) rfl)) rfl ?_
  refine r_p (p_bin rfl rfl b_gt) rfl ?_
  refine r_nil ?_
  refine r_cond rfl (fun h2 => ?_) (fun h2 => ?_)
  ·(try simp only [decide_eq_true_eq, decide_eq_false_iff_not, Bool.and_eq_true, Bool.or_eq_true, Bool.and_eq_false_iff, Bool.or_eq_false_iff, Bool.not_eq_true, Bool.not_eq_false, Bool.not_eq_true', Bool.not_eq_false', Bool.not_not, bne_iff_ne, beq_iff_eq] at h2)
   have q2 : fs.length > 16 := by omega
   refine r_seq (r_region (r_p (p_assign rfl) rfl (r_nil (r_cret ?_))))
   refine r_ret () trivial rfl (rs1 (rv_tmp rfl)) (by rw [chk_2z q1 q2]) [] [] rfl rfl rfl
  ·(try simp only [decide_eq_true_eq, decide_eq_false_iff_not, Bool.and_eq_true, Bool.or_eq_true, Bool.and_eq_false_iff, Bool.or_eq_false_iff, Bool.not_eq_true, Bool.not_eq_false, Bool.not_eq_true', Bool.not_eq_false', Bool.not_not, bne_iff_ne, beq_iff_eq] at h2)
   have q2 : ¬ fs.length > 16 := by omega
   refine r_skip (r_seq (r_seq (r_region (r_p (p_assign rfl) rfl (r_nil (r_block ?_))))))
   refine r_loop (X := Nat) (fun i => i ≤ fs.length ∧ ∀ j f, j < i → fs[j]? = some f → fix fs f.name = (j : Int)) (fun i => [(1, .pointer (some ⟨b1, 0, none⟩)), (4, .int .i64 (i : Int))]) (fun i => [(1, row b1 29 [sv vp])]) (fun i => [(0, tfsA vp fs), (1, sl 3 eTf (sv vp) fs)]) (fun i => fs.length - i) 0 ⟨Nat.zero_le _, fun j f h => absurd h (Nat.not_lt_zero _)⟩ rfl rfl rfl (fun i hx0 => ?_)
   obtain ⟨n1, n2⟩ := hx0
   refine r_seq (r_seq (r_region (r_p (p_move rfl) rfl ?_)))
   refine r_p (p_field0 fo29_0 rfl) rfl ?_
   refine r_p (p_load1 t27 rfl rfl (g_row1 (k := 1) rfl rfl)) rfl ?_
   refine r_p (p_len_sl Tryz.underlying27 rfl (hs_sl (k := 1) rfl)) rfl ?_
   refine r_p (p_bin rfl rfl b_lt) rfl ?_
   refine r_nil ?_
   refine r_cond rfl (fun h3 => ?_) (fun h3 => ?_)
   ·(try simp only [decide_eq_true_eq, decide_eq_false_iff_not, Bool.and_eq_true, Bool.or_eq_true, Bool.and_eq_false_iff, Bool.or_eq_false_iff, Bool.not_eq_true, Bool.not_eq_false, Bool.not_eq_true', Bool.not_eq_false', Bool.not_not, bne_iff_ne, beq_iff_eq] at h3)
    have hi : i < fs.length := by omega
    obtain ⟨f, hf⟩ : ∃ k, fs[i]? = some k := ⟨_, List.getElem?_eq_getElem hi⟩
    have hfm := List.mem_of_getElem? hf
    refine r_skip (r_seq (r_block (r_seq ?_)))
    refine r_draw [28, 29, 30, 31, 32, 33, 34, 35, 36, 37] _ rfl (stg_mem (V := [(0, 28, _), (1, 29, _), (2, 30, _), (3, 31, _), (4, 32, _), (5, 33, _), (6, 34, _), (8, 36, _)]) [0, 1, 2, 3, 4, 5, 6, 8] 7 [7, 6, 5, 4, 3, 2, 1, 0] [9] (fun _ => [(9, 37, _)]) rfl rfl (prs_cons (pri rfl (p_loadA t29 rfl rfl rfl (g_all (k := 1) rfl))) (prs_cons (pri rfl (p_field0 fo29_0 rfl)) (prs_cons (pri rfl (p_load1 t27 rfl rfl (g_row1 (k := 1) rfl rfl))) (prs_cons (pri rfl (p_move rfl)) (prs_cons (pri rfl (p_idx_sl (j := i) Tryz.underlying27 t63 rfl rfl (hs_sl (k := 1) rfl) (by first | rfl | omega) (by first | omega | (simp; done) | (simp; omega)))) (prs_cons (pri rfl (p_field fo63_0 rfl)) (prs_cons (pri rfl (p_load1 t9 rfl rfl (g_elp (hs_sl (k := 1) rfl) (by intro _; rfl) hf rfl))) (prs_cons (pri rfl (p_move rfl)) prs_nil)))))))) rfl rfl rfl rfl rfl rfl rfl rfl rfl rfl rfl (fun _ _ => rfl) rfl (ms_callN (xs := [.tmp 28, .tmp 34]) (find9_spec f.name vp fs hg.1) cb37 [] [(false, 1)] [] rfl rfl rfl rfl rfl rfl rfl rfl (fun _ _ => rfl) (fun _ _ _ => rfl)) (fun _ _ => stg_end [9, 8] rfl rfl (prs_cons (pri rfl (p_bin rfl rfl b_ne)) (prs_cons (pri rfl (p_move rfl)) prs_nil)) rfl rfl rfl ?_))
    refine r_cond rfl (fun h4 => ?_) (fun h4 => ?_)
    ·(try simp only [decide_eq_true_eq, decide_eq_false_iff_not, Bool.and_eq_true, Bool.or_eq_true, Bool.and_eq_false_iff, Bool.or_eq_false_iff, Bool.not_eq_true, Bool.not_eq_false, Bool.not_eq_true', Bool.not_eq_false', Bool.not_not, bne_iff_ne, beq_iff_eq] at h4)
     have q4 : ¬ fix fs f.name = (i : Int) := h4
     refine r_seq (r_region (r_p (p_assign rfl) rfl (r_nil (r_cret ?_))))
     refine r_ret () trivial rfl (rs1 (rv_tmp rfl)) (by rw [chk_22 q1 q2 (once_no hf q4)]) [] [] rfl rfl rfl
    ·(try simp only [decide_eq_true_eq, decide_eq_false_iff_not, Bool.and_eq_true, Bool.or_eq_true, Bool.and_eq_false_iff, Bool.or_eq_false_iff, Bool.not_eq_true, Bool.not_eq_false, Bool.not_eq_true', Bool.not_eq_false', Bool.not_not, bne_iff_ne, beq_iff_eq] at h4)
     have q4 : fix fs f.name = (i : Int) := h4
     refine r_skip (r_region (r_p (p_move rfl) rfl ?_))
     refine r_p (p_bin rfl rfl (b_add (by first | exact w_i64 (by omega) (by omega) | rfl))) rfl ?_
     refine r_p (p_assign rfl) rfl (r_nil ?_)
     refine r_here (i + 1) ⟨⟨by omega, fun j g hj hgj => by
      by_cases h : j = i
      ·subst h
       rw [hf] at hgj
       cases hgj
       exact q4
      ·exact n2 j g (by omega) hgj⟩, by omega⟩ rfl rfl rfl
   ·(try simp only [decide_eq_true_eq, decide_eq_false_iff_not, Bool.and_eq_true, Bool.or_eq_true, Bool.and_eq_false_iff, Bool.or_eq_false_iff, Bool.not_eq_true, Bool.not_eq_false, Bool.not_eq_true', Bool.not_eq_false', Bool.not_not, bne_iff_ne, beq_iff_eq] at h3)
    have hi : i = fs.length := by omega
    subst hi
    have q3 : once fs = true := once_iff.2 fun j g hgj => n2 j g (List.getElem?_eq_some_iff.1 hgj).1 hgj
    refine r_exit (r_seq (r_region ?_))
    refine r_p (p_loadA t29 rfl rfl rfl (g_all (k := 1) rfl)) rfl ?_
    refine r_callN (xs := [.tmp 38, .const (.string (ByteArray.mk #[109, 97, 105, 110]))]) (find9_spec nMain vp fs hg.1) cb37 [] [(false, 1)] [] rfl rfl rfl rfl rfl rfl rfl rfl (fun _ _ => rfl) (fun _ _ _ => rfl) rfl (fun _ _ => ?_)
    refine r_p (p_assign rfl) rfl (r_nil (r_seq (r_seq (r_region (r_p (p_move rfl) rfl ?_)))))
    refine r_p (p_bin rfl rfl b_lt) rfl ?_
    refine r_nil ?_
    refine r_cond rfl (fun h5 => ?_) (fun h5 => ?_)
    ·have hff : ffind fs nMain = none := ffind_fix.1.1 (of_decide_eq_true h5)
     refine r_seq (r_region (r_p (p_assign rfl) rfl (r_nil (r_cret ?_))))
     refine r_ret () trivial rfl (rs1 (rv_tmp rfl)) (by rw [chk_21 q1 q2 q3 hff]) [] [] rfl rfl rfl
    ·have hq1 : ¬ fix fs nMain < 0 := of_decide_eq_false h5
     obtain ⟨fm, hff⟩ : ∃ f, ffind fs nMain = some f := by
      cases hf : ffind fs nMain with
      | none => exact absurd (ffind_fix.1.2 hf) hq1
      | some f => exact ⟨f, rfl⟩
     obtain ⟨m, hxm, hfx⟩ := ffind_fix.2 fm hff
     have hfmm := List.mem_of_getElem? hfx
     have hml : m < fs.length := (List.getElem?_eq_some_iff.1 hfx).1
     rw [hxm]
     refine r_more 0 11 rfl (tfs_f hfmm) ?_
     refine r_more 11 12 rfl tf_ps ?_
     refine r_skip (r_seq (r_seq (r_region ?_)))
     refine r_p (p_field0 fo29_0 rfl) rfl ?_
     refine r_p (p_load1 t27 rfl rfl (g_row1 (k := 1) rfl rfl)) rfl ?_
     refine r_p (p_move rfl) rfl ?_
     refine r_p (p_idx_sl (j := m) Tryz.underlying27 t63 rfl rfl (hs_sl (k := 1) rfl) rfl hml) rfl ?_
     refine r_p (p_field fo63_1 rfl) rfl ?_
     refine r_p (p_load1 t58 rfl rfl (g_elp (hs_sl (k := 1) rfl) (by intro _; rfl) hfx rfl)) rfl ?_
     refine r_p (p_len_sl Tryz.underlying58 rfl (hs_sl (k := 12) rfl)) rfl ?_
     refine r_p (p_bin rfl rfl b_gt) rfl ?_
     refine r_nil ?_
     refine r_cond rfl (fun h6 => ?_) (fun h6 => ?_)
     ·(try simp only [decide_eq_true_eq, decide_eq_false_iff_not, Bool.and_eq_true, Bool.or_eq_true, Bool.and_eq_false_iff, Bool.or_eq_false_iff, Bool.not_eq_true, Bool.not_eq_false, Bool.not_eq_true', Bool.not_eq_false', Bool.not_not, bne_iff_ne, beq_iff_eq] at h6)
      have q6 : fm.ps.length > 0 := by omega
      refine r_seq (r_region (r_p (p_assign rfl) rfl (r_nil (r_cret ?_))))
      refine r_ret () trivial rfl (rs1 (rv_tmp rfl)) (by rw [chk_23 q1 q2 q3 hff q6]) [] [] rfl rfl rfl
     ·(try simp only [decide_eq_true_eq, decide_eq_false_iff_not, Bool.and_eq_true, Bool.or_eq_true, Bool.and_eq_false_iff, Bool.or_eq_false_iff, Bool.not_eq_true, Bool.not_eq_false, Bool.not_eq_true', Bool.not_eq_false', Bool.not_not, bne_iff_ne, beq_iff_eq] at h6)
      have q6 : ¬ fm.ps.length > 0 := by omega
      refine r_skip (r_seq (r_seq (r_region (r_p (p_assign rfl) rfl (r_nil (r_block ?_))))))
      refine r_loop (X := Nat) (fun i => i ≤ fs.length ∧ chkFs fs (fs.take i) = 0) (fun i => [(1, .pointer (some ⟨b1, 0, none⟩)), (6, .int .i64 (i : Int))]) (fun i => [(1, row b1 29 [sv vp])]) (fun i => [(0, tfsA vp fs), (1, sl 3 eTf (sv vp) fs)]) (fun i => fs.length - i) 0 ⟨Nat.zero_le _, rfl⟩ rfl rfl rfl (fun i hx0 => ?_)
      obtain ⟨n1, n2⟩ := hx0
      refine r_seq (r_seq (r_region (r_p (p_move rfl) rfl ?_)))
      refine r_p (p_field0 fo29_0 rfl) rfl ?_
      refine r_p (p_load1 t27 rfl rfl (g_row1 (k := 1) rfl rfl)) rfl ?_
      refine r_p (p_len_sl Tryz.underlying27 rfl (hs_sl (k := 1) rfl)) rfl ?_
      refine r_p (p_bin rfl rfl b_lt) rfl ?_
      refine r_nil ?_
      refine r_cond rfl (fun h7 => ?_) (fun h7 => ?_)
      ·(try simp only [decide_eq_true_eq, decide_eq_false_iff_not, Bool.and_eq_true, Bool.or_eq_true, Bool.and_eq_false_iff, Bool.or_eq_false_iff, Bool.not_eq_true, Bool.not_eq_false, Bool.not_eq_true', Bool.not_eq_false', Bool.not_not, bne_iff_ne, beq_iff_eq] at h7)
       have hi : i < fs.length := by omega
       obtain ⟨f, hf⟩ : ∃ k, fs[i]? = some k := ⟨_, List.getElem?_eq_getElem hi⟩
       have hfm := List.mem_of_getElem? hf
       have hgf := hg.2 f hfm
       have hpl := hgf.2.2.1
       have hsum := hgf.2.2.2.2.2
       have hvn := vYs_le f.body
       have hdn := dSs_le f.body
       have hbr : f.body.all rY = true := by
        have h := List.all_eq_true.1 q1 f hfm
        rw [rF_def] at h
        simp only [Bool.and_eq_true] at h
        exact h.2
       refine r_more 0 7 rfl (tfs_f hfm) ?_
       refine r_more 7 8 rfl tf_ps ?_
       refine r_more 7 9 rfl tf_body ?_
       refine r_skip (r_seq (r_block (r_seq (r_region ?_))))
       refine r_p (p_field0 fo29_0 rfl) rfl ?_
       refine r_p (p_load1 t27 rfl rfl (g_row1 (k := 1) rfl rfl)) rfl ?_
       refine r_p (p_move rfl) rfl ?_
       refine r_p (p_idx_sl (j := i) Tryz.underlying27 t63 rfl rfl (hs_sl (k := 1) rfl) (by first | rfl | omega) (by first | omega | (simp; done) | (simp; omega))) rfl ?_
       refine r_p (p_loadA t63 rfl rfl rfl (g_el' (hs_sl (k := 1) rfl) (by intro _; rfl) hf (by rfl))) rfl ?_
       refine r_alloc t63 rfl rfl fun b7 => ?_
       refine r_store_all (k := 7) t63 rfl rfl rfl rfl rfl rfl ?_
       refine r_nil (r_seq (r_region ?_))
       refine r_p (p_field0 fo63_2 rfl) rfl ?_
       refine r_p (p_load1 t51 rfl rfl (g_row1 (k := 7) rfl rfl)) rfl ?_
       refine r_callN (xs := [.tmp 63]) (stmtsize_spec f.vb f.body hgf.2.2.2.1 hgf.2.2.2.2.1 (by omega)) cb38 [] [(false, 9)] [] rfl rfl rfl rfl rfl rfl rfl rfl (fun _ _ => rfl) (fun _ _ _ => rfl) rfl (fun _ _ => ?_)
       refine r_alloc t86 rfl rfl fun b8 => ?_
       refine r_store_all (k := 8) t86 rfl rfl rfl rfl rfl rfl ?_
       refine r_nil (r_seq (r_seq (r_region ?_)))
       refine r_p (p_field0 fo63_1 rfl) rfl ?_
       refine r_p (p_load1 t58 rfl rfl (g_row1 (k := 7) rfl rfl)) rfl ?_
       refine r_p (p_len_sl Tryz.underlying58 rfl (hs_sl (k := 8) rfl)) rfl ?_
       refine r_p (p_bin rfl rfl b_gt) rfl ?_
       refine r_p (p_move rfl) rfl ?_
       refine r_gp [] rfl rfl trivial (fun hg8 => p_field0 fo63_1 rfl) rfl ?_
       refine r_gp [(70, _)] rfl rfl ⟨rfl, trivial⟩ (fun hg9 => p_load1 t58 rfl rfl (g_row1 (k := 7) rfl rfl)) rfl ?_
       refine r_gp [(70, _), (71, _)] rfl rfl ⟨rfl, rfl, trivial⟩ (fun hg10 => p_len_sl Tryz.underlying58 rfl (hs_sl (k := 8) rfl)) rfl ?_
       refine r_gp [(70, _), (71, _), (72, _)] rfl rfl ⟨rfl, rfl, rfl, trivial⟩ (fun hg11 => p_field0 fo86_1 rfl) rfl ?_
       refine r_gp [(70, _), (71, _), (72, _), (73, _)] rfl rfl ⟨rfl, rfl, rfl, rfl, trivial⟩ (fun hg12 => p_load1 t3 rfl rfl (g_row1 (k := 8) rfl rfl)) rfl ?_
       refine r_gp [(70, _), (71, _), (72, _), (73, _), (74, _)] rfl rfl ⟨rfl, rfl, rfl, rfl, rfl, trivial⟩ (fun hg13 => p_bin rfl rfl (b_add (by first | exact w_i64 (by omega) (by omega) | rfl))) rfl ?_
       refine r_gp [(70, _), (71, _), (72, _), (73, _), (74, _), (75, _)] rfl rfl ⟨rfl, rfl, rfl, rfl, rfl, rfl, trivial⟩ (fun hg14 => p_bin rfl rfl b_gt) rfl ?_
       refine r_p (p_pick rfl rfl rfl (by first | exact pick_and | exact pick_or |  rfl)) rfl ?_
       refine r_p (p_move rfl) rfl ?_
       refine r_gp [] rfl rfl trivial (fun hg15 => p_field0 fo86_0 rfl) rfl ?_
       refine r_gp [(79, _)] rfl rfl ⟨rfl, trivial⟩ (fun hg16 => p_load1 t3 rfl rfl (g_row1 (k := 8) rfl rfl)) rfl ?_
       refine r_gp [(79, _), (80, _)] rfl rfl ⟨rfl, rfl, trivial⟩ (fun hg17 => p_bin rfl rfl b_gt) rfl ?_
       refine r_p (p_pick rfl rfl rfl (by first | exact pick_and | exact pick_or |  rfl)) rfl ?_
       refine r_p (p_move rfl) rfl ?_
       refine r_gp [] rfl rfl trivial (fun hg18 => p_field0 fo86_2 rfl) rfl ?_
       refine r_gp [(84, _)] rfl rfl ⟨rfl, trivial⟩ (fun hg19 => p_load1 t3 rfl rfl (g_row1 (k := 8) rfl rfl)) rfl ?_
       refine r_gp [(84, _), (85, _)] rfl rfl ⟨rfl, rfl, trivial⟩ (fun hg20 => p_bin rfl rfl b_gt) rfl ?_
       refine r_p (p_pick rfl rfl rfl (by first | exact pick_and | exact pick_or |  rfl)) rfl ?_
       refine r_p (p_move rfl) rfl ?_
       refine r_gp [] rfl rfl trivial (fun hg21 => p_field0 fo86_3 rfl) rfl ?_
       refine r_gp [(89, _)] rfl rfl ⟨rfl, trivial⟩ (fun hg22 => p_load1 t3 rfl rfl (g_row1 (k := 8) rfl rfl)) rfl ?_
       refine r_gp [(89, _), (90, _)] rfl rfl ⟨rfl, rfl, trivial⟩ (fun hg23 => p_bin rfl rfl b_gt) rfl ?_
       refine r_p (p_pick rfl rfl rfl (by first | exact pick_and | exact pick_or |  rfl)) rfl ?_
       refine r_nil ?_
       refine r_cond rfl (fun h24 => ?_) (fun h24 => ?_)
       ·(try simp only [decide_eq_true_eq, decide_eq_false_iff_not, Bool.and_eq_true, Bool.or_eq_true, Bool.and_eq_false_iff, Bool.or_eq_false_iff, Bool.not_eq_true, Bool.not_eq_false, Bool.not_eq_true', Bool.not_eq_false', Bool.not_not, bne_iff_ne, beq_iff_eq] at h24)
        have q8 : big f := by rw [big_iff]; omega
        refine r_seq (r_region (r_p (p_assign rfl) rfl (r_nil (r_cret ?_))))
        refine r_ret () trivial rfl (rs1 (rv_tmp rfl)) (by rw [chk_0 q1 q2 q3 hff q6, chkFs_hit hf n2 (chkF_b q8) (by decide)]) [] [] rfl rfl rfl
       ·(try simp only [decide_eq_true_eq, decide_eq_false_iff_not, Bool.and_eq_true, Bool.or_eq_true, Bool.and_eq_false_iff, Bool.or_eq_false_iff, Bool.not_eq_true, Bool.not_eq_false, Bool.not_eq_true', Bool.not_eq_false', Bool.not_not, bne_iff_ne, beq_iff_eq] at h24)
        have q8 : ¬ big f := by rw [big_iff]; omega
        refine r_skip (r_seq (r_region ?_))
        refine r_p (p_loadA t29 rfl rfl rfl (g_all (k := 1) rfl)) rfl ?_
        refine r_p (p_build (parts := [(0, .tmp 93)]) t90 pl90 rfl rfl) rfl ?_
        refine r_boxA rfl rfl fun b95 => ?_
        refine r_p (p_assign rfl) rfl (r_nil (r_seq (r_seq (r_region (r_p (p_assign rfl) rfl (r_nil (r_block ?_)))))))
        refine r_nilown 20 (α := ByteArray) (S := 9) (s := 1) (enc := eS) ?_
        refine r_loop (X := Nat × SV) (fun x => x.1 ≤ f.ps.length ∧ dcl [] (f.ps.take x.1) = 0) (fun x => [(1, .pointer (some ⟨b1, 0, none⟩)), (6, .int .i64 (i : Int)), (7, .pointer (some ⟨b7, 0, none⟩)), (9, .pointer (some ⟨b95, 0, none⟩)), (10, .int .i64 (x.1 : Int))]) (fun x => [(1, row b1 29 [sv vp]), (7, row b7 63 (eTf f)), (95, row b95 90 [sv vp, sv x.2]), (20, own 9 1 eS (sv x.2) (f.ps.take x.1))]) (fun x => [(0, tfsA vp fs), (1, sl 3 eTf (sv vp) fs), (7, tfA f), (8, sl 1 eS (sv f.vp) f.ps), (9, tysA f.vb f.body)]) (fun x => f.ps.length - x.1) (0, nilS) ⟨Nat.zero_le _, rfl⟩ rfl rfl rfl (fun x hy0 => ?_)
        obtain ⟨j, vn⟩ := x
        obtain ⟨n3, n4⟩ := hy0
        dsimp only at n3 n4 ⊢
        refine r_seq (r_seq (r_region (r_p (p_move rfl) rfl ?_)))
        refine r_p (p_field0 fo63_1 rfl) rfl ?_
        refine r_p (p_load1 t58 rfl rfl (g_row1 (k := 7) rfl rfl)) rfl ?_
        refine r_p (p_len_sl Tryz.underlying58 rfl (hs_sl (k := 8) rfl)) rfl ?_
        refine r_p (p_bin rfl rfl b_lt) rfl ?_
        refine r_nil ?_
        refine r_cond rfl (fun h25 => ?_) (fun h25 => ?_)
        ·(try simp only [decide_eq_true_eq, decide_eq_false_iff_not, Bool.and_eq_true, Bool.or_eq_true, Bool.and_eq_false_iff, Bool.or_eq_false_iff, Bool.not_eq_true, Bool.not_eq_false, Bool.not_eq_true', Bool.not_eq_false', Bool.not_not, bne_iff_ne, beq_iff_eq] at h25)
         have hj : j < f.ps.length := by omega
         obtain ⟨x, hx⟩ : ∃ k, f.ps[j]? = some k := ⟨_, List.getElem?_eq_getElem hj⟩
         refine r_skip (r_seq (r_block (r_seq ?_)))
         refine r_draw [103, 104, 105, 106, 107, 108, 109, 110, 111, 112, 11] _ rfl (stg_mem (V := [(0, 103, _), (1, 104, _), (2, 105, _), (3, 106, _), (4, 107, _), (5, 108, _), (6, 109, _), (7, 110, _), (8, 111, _)]) [0, 1, 2, 3, 4, 5, 6, 7, 8] 9 [9, 8, 7, 6, 5, 4, 3, 2, 1, 0] [10] (fun _ => [(10, 11, _)]) rfl rfl (prs_cons (pri rfl (p_field0 fo63_1 rfl)) (prs_cons (pri rfl (p_load1 t58 rfl rfl (g_row1 (k := 7) rfl rfl))) (prs_cons (pri rfl (p_move rfl)) (prs_cons (pri rfl (p_idx_sl (j := j) Tryz.underlying58 t9 rfl rfl (hs_sl (k := 8) rfl) (by first | rfl | omega) (by first | omega | (simp; done) | (simp; omega)))) (prs_cons (pri rfl (p_load1 t9 rfl rfl (g_el' (hs_sl (k := 8) rfl) (by intro _; rfl) hx (by rfl)))) (prs_cons (pri rfl (p_move rfl)) (prs_cons (pri rfl (p_nilCheck rfl)) (prs_cons (pri rfl (p_field0 fo90_1 rfl)) (prs_cons (pri rfl (p_load1 t58 rfl rfl (g_row1 (k := 95) rfl rfl))) prs_nil))))))))) rfl rfl rfl rfl rfl rfl rfl rfl rfl rfl rfl (fun _ _ => rfl) rfl (ms_callN (xs := [.tmp 107, .tmp 111]) (among_own x vn (f.ps.take j) (by rw [List.length_take]; omega)) cb39 [] [(true, 20)] [] rfl rfl rfl rfl rfl rfl rfl rfl (fun _ _ => rfl) (fun _ _ _ => rfl)) (fun _ _ => stg_end [10] rfl rfl (prs_cons (pri rfl (p_assign rfl)) prs_nil) rfl rfl rfl ?_))
         refine r_seq (r_seq (r_region (r_p (p_move rfl) rfl (r_nil ?_))))
         refine r_cond rfl (fun h26 => ?_) (fun h26 => ?_)
         ·have q10 : memB x (f.ps.take j) = true := h26
          refine r_seq (r_region (r_p (p_assign rfl) rfl (r_nil (r_cret ?_))))
          refine r_ret () trivial rfl (rs1 (rv_tmp rfl)) (by rw [chk_0 q1 q2 q3 hff q6, chkFs_hit hf n2 (chkF_p q8 (dcl_hit hx n4 q10)) (by decide)]) [] [] rfl rfl rfl
         ·have q10 : memB x (f.ps.take j) = false := h26
          refine r_skip ?_
          refine r_draw [114, 115, 116, 117, 118, 119, 120, 121, 122, 123, 124, 125, 126, 127] _ rfl (stg_mem (V := [(0, 114, _), (1, 115, _), (2, 116, _), (3, 117, _), (4, 118, _), (5, 119, _), (6, 120, _), (7, 121, _), (8, 122, _), (9, 123, _)]) [0, 1, 2, 3, 4, 5, 6, 7, 8, 9] 10 [10, 9, 8, 7, 6, 5] [] (fun v124 => []) rfl rfl (prs_cons (pri rfl (p_move rfl)) (prs_cons (pri rfl (p_move rfl)) (prs_cons (pri rfl (p_nilCheck rfl)) (prs_cons (pri rfl (p_field0 fo90_1 rfl)) (prs_cons (pri rfl (p_load1 t58 rfl rfl (g_row1 (k := 95) rfl rfl))) (prs_cons (pri rfl (p_field0 fo63_1 rfl)) (prs_cons (pri rfl (p_load1 t58 rfl rfl (g_row1 (k := 7) rfl rfl))) (prs_cons (pri rfl (p_move rfl)) (prs_cons (pri rfl (p_idx_sl (j := j) Tryz.underlying58 t9 rfl rfl (hs_sl (k := 8) rfl) (by first | rfl | omega) (by first | omega | (simp; done) | (simp; omega)))) (prs_cons (pri rfl (p_load1 t9 rfl rfl (g_el' (hs_sl (k := 8) rfl) (by intro _; rfl) hx (by rfl)))) prs_nil)))))))))) rfl rfl rfl rfl rfl rfl rfl rfl rfl rfl rfl (fun _ _ => rfl) rfl (ms_bslice1 eS x Tryz.underlying58 t9 rfl (by decide) (by decide) rfl rfl rfl) (fun v124 _ => stg_mem [0, 1, 2, 3, 4] 11 [11, 10, 9, 8, 7, 6, 5, 4, 3, 2, 1] [12, 13] (fun v125 => [(12, 126, _), (13, 127, _)]) rfl rfl (prs_cons (pri rfl (p_move rfl)) (prs_cons (pri rfl (p_move rfl)) (prs_cons (pri rfl (p_nilCheck rfl)) (prs_cons (pri rfl (p_field0 fo90_1 rfl)) (prs_cons (pri rfl (p_load1 t58 rfl rfl (g_row1 (k := 95) rfl rfl))) prs_nil))))) rfl rfl rfl rfl rfl rfl rfl rfl rfl rfl rfl (fun _ _ => rfl) rfl (ms_append 20 Tryz.underlying58 t9 rfl (by decide) (fun _ => rfl) (fun _ => rfl) rfl rfl rfl (hs_own (k := 124) rfl) (by rw [List.length_take]; simp only [List.length_singleton]; omega) (by unfold maxLen; rw [List.length_take]; simp only [List.length_singleton]; omega)) (fun v125 _ => stg_mem0 [12, 13, 0] 14 [14, 13, 12, 11, 10, 9, 8, 7, 6, 5, 4, 3, 2, 1, 0] [] (fun _ => []) rfl rfl (prs_cons (pri rfl (p_nilCheck rfl)) (prs_cons (pri rfl (p_field0 fo90_1 rfl)) (prs_cons (pri rfl (p_move rfl)) prs_nil))) rfl rfl rfl rfl rfl rfl rfl rfl rfl (fun _ _ => rfl) rfl (ms_store_row (k := 95) t58 rfl rfl rfl rfl rfl rfl rfl rfl) (fun _ _ => stg_end [] rfl rfl prs_nil rfl rfl rfl ?_))))
          refine r_region (r_p (p_move rfl) rfl ?_)
          refine r_p (p_bin rfl rfl (b_add (by first | exact w_i64 (by omega) (by omega) | rfl))) rfl ?_
          refine r_p (p_assign rfl) rfl (r_nil ?_)
          refine r_here (j + 1, v125) ⟨⟨by dsimp only; omega, by dsimp only; rw [dcl_take hx, n4, if_neg (by rw [q10]; simp)]; rfl⟩, by dsimp only; omega⟩ rfl (by dsimp only; rw [take_snoc hx]; rfl) rfl
        ·(try simp only [decide_eq_true_eq, decide_eq_false_iff_not, Bool.and_eq_true, Bool.or_eq_true, Bool.and_eq_false_iff, Bool.or_eq_false_iff, Bool.not_eq_true, Bool.not_eq_false, Bool.not_eq_true', Bool.not_eq_false', Bool.not_not, bne_iff_ne, beq_iff_eq] at h25)
         have hj : j = f.ps.length := by omega
         subst hj
         rw [List.take_length] at n4
         rw [List.take_length]
         refine r_exit (r_seq (r_region (r_p (p_move rfl) rfl ?_)))
         refine r_p (p_field0 fo63_2 rfl) rfl ?_
         refine r_p (p_load1 t51 rfl rfl (g_row1 (k := 7) rfl rfl)) rfl ?_
         refine r_callN (xs := [.tmp 128, .tmp 130]) (ss_spec b95 vp fs hg.1 f.vb f.body hgf.2.2.2.1 hgf.2.2.2.2.1 hbr vn f.ps (by omega)) cb40 [95, 20] [(false, 9), (false, 0)] [95, 20] rfl rfl rfl rfl rfl rfl rfl rfl (fun _ _ => rfl) (fun _ _ _ => rfl) rfl (fun ⟨vn2, ns2⟩ _ => ?_)
         dsimp only
         refine r_p (p_assign rfl) rfl (r_nil (r_seq (r_region (r_p (p_move rfl) rfl ?_))))
         refine r_p (p_bin rfl rfl b_ne) rfl ?_
         refine r_nil ?_
         refine r_cond rfl (fun h27 => ?_) (fun h27 => ?_)
         ·(try simp only [decide_eq_true_eq, decide_eq_false_iff_not, Bool.and_eq_true, Bool.or_eq_true, Bool.and_eq_false_iff, Bool.or_eq_false_iff, Bool.not_eq_true, Bool.not_eq_false, Bool.not_eq_true', Bool.not_eq_false', Bool.not_not, bne_iff_ne, beq_iff_eq] at h27)
          have q11 : (bYs fs f.ps f.body).2 ≠ 0 := h27
          refine r_seq (r_region (r_p (p_move rfl) rfl (r_p (p_assign rfl) rfl (r_nil (r_cret ?_)))))
          refine r_ret () trivial rfl (rs1 (rv_tmp rfl)) (by rw [chk_0 q1 q2 q3 hff q6, chkFs_hit hf n2 (chkF_s q8 n4) q11]) [] [] rfl rfl rfl
         ·(try simp only [decide_eq_true_eq, decide_eq_false_iff_not, Bool.and_eq_true, Bool.or_eq_true, Bool.and_eq_false_iff, Bool.or_eq_false_iff, Bool.not_eq_true, Bool.not_eq_false, Bool.not_eq_true', Bool.not_eq_false', Bool.not_not, bne_iff_ne, beq_iff_eq] at h27)
          have q11 : (bYs fs f.ps f.body).2 = 0 := h27
          refine r_skip (r_region (r_p (p_move rfl) rfl ?_))
          refine r_p (p_bin rfl rfl (b_add (by first | exact w_i64 (by omega) (by omega) | rfl))) rfl ?_
          refine r_p (p_assign rfl) rfl (r_nil ?_)
          refine r_here (i + 1) ⟨⟨by omega, by rw [chkFs_take hf, n2, chkF_s q8 n4, q11]; rfl⟩, by omega⟩ rfl rfl rfl
      ·(try simp only [decide_eq_true_eq, decide_eq_false_iff_not, Bool.and_eq_true, Bool.or_eq_true, Bool.and_eq_false_iff, Bool.or_eq_false_iff, Bool.not_eq_true, Bool.not_eq_false, Bool.not_eq_true', Bool.not_eq_false', Bool.not_not, bne_iff_ne, beq_iff_eq] at h7)
       have hi : i = fs.length := by omega
       subst hi
       rw [List.take_length] at n2
       refine r_exit (r_seq (r_region (r_p (p_assign rfl) rfl (r_nil (r_cret ?_)))))
       refine r_ret () trivial rfl (rs1 (rv_tmp rfl)) (by rw [chk_0 q1 q2 q3 hff q6, n2]) [] [] rfl rfl rfl
theorem xC_sl {vp vi vo : SV} {mem : Nat → Int} {fuel used er : Int} : ((xC vp vi vo mem fuel used er).drop 3).take (((List.range 256).map mem).flatMap eU).length = ((List.range 256).map mem).flatMap eU := by
 rw [flat_eU, List.map_map]
 show List.take _ ((List.range 256).map (fun i => Value.int .u32 (mem i)) ++ _) = _
 rw [List.take_append_of_le_length (by simp), List.take_of_length_le (by simp)]
 rfl
theorem row_sl2 {α : Type} {b o n : Nat} {S : TypeId} {c : List Value} {enc : α → List Value} {s : Nat} {l : List α} (hl : l.length = n) (hn : n ≤ maxLen) (hc : (c.drop o).take (l.flatMap enc).length = l.flatMap enc) : ∀ w G, (row b S c).pred w G → (sl s enc (sv ⟨some ⟨b, o, none⟩, n, n⟩) l).pred w G := fun w G h => by
 refine ⟨n, by omega, hn, .inr ⟨b, o, by rw [hl]; rfl, (h.1 b).2 rfl, fun j u hj => ?_⟩⟩
 simp only [World.cell?, h.2]
 rw [← hc, List.getElem?_take] at hj
 split at hj
 ·rw [List.getElem?_drop] at hj
  simpa using hj
 ·simp at hj
theorem xRow_0 (m : Nat) (vin vp : SV) (ins : List Int) (fs : List Tf) (fuel : Int) : xRow ⟨⟨m, 0, 0, 0, vin, ins, fs⟩, vp, fuel⟩ (xS ⟨⟨m, 0, 0, 0, vin, ins, fs⟩, vp, fuel⟩ (ms0 ins fuel) nilS) = xC vp vin nilS (fun _ => 0) fuel 0 0 := by
 unfold xRow xS ms0
 dsimp only
 rw [Nat.sub_self, Int.sub_self]
 rfl
set_option maxHeartbeats 16000000 in
set_option maxRecDepth 100000 in
theorem run8_bad (vp vin : SV) (fs : List Tf) (ins : List Int) (fuel : Int) (hg : GP fs) (hi : ∀ x ∈ ins, oW x) (hil : ins.length ≤ 1000000) (hf : -1000000000000000000 ≤ fuel ∧ fuel ≤ 1000000000000) (hc : chk fs ≠ 0) :
  Spec Tryz.prog 30 [.agg #[sv vp], sv vin, .int .i64 fuel] [] [tfsA vp fs, sl 1 eU (sv vin) ins] (X := SV × SV) (fun _ => True) (fun x => .agg #[sv x.1, sv x.2, .int .i64 (⟨chk fs, [], []⟩ : Ru).err]) (fun x => [sl 1 eU (sv x.1) (⟨chk fs, [], []⟩ : Ru).out, sl 1 eU (sv x.2) (⟨chk fs, [], []⟩ : Ru).mem]) (fun _ => []) := by
 refine r_enter Tryz.func30 rfl Tryz.ntmps30 rfl fun w0 M H => ?_
 refine r_seq (r_region ?_)
 refine r_boxA rfl rfl fun b3 => ?_
 refine r_alloc t72 rfl rfl fun b6 => ?_
 refine r_nil (r_seq (r_region ?_))
 refine r_p (p_loadA t29 rfl rfl rfl (g_all (k := 3) rfl)) rfl ?_
 refine r_callN (xs := [.tmp 9]) (check8_spec vp fs hg) cb14 [] [(false, 0)] [] rfl rfl rfl rfl rfl rfl rfl rfl (fun _ _ => rfl) (fun _ _ _ => rfl) rfl (fun _ _ => ?_)
 refine r_p (p_assign rfl) rfl (r_nil (r_seq (r_seq (r_region (r_p (p_move rfl) rfl ?_)))))
 refine r_p (p_bin rfl rfl b_ne) rfl ?_
 refine r_nil ?_
 refine r_cond rfl (fun h1 => ?_) (fun h1 => ?_)
 ·(try simp only [decide_eq_true_eq, decide_eq_false_iff_not, Bool.and_eq_true, Bool.or_eq_true, Bool.and_eq_false_iff, Bool.or_eq_false_iff, Bool.not_eq_true, Bool.not_eq_false, Bool.not_eq_true', Bool.not_eq_false', Bool.not_not, bne_iff_ne, beq_iff_eq] at h1)
  refine r_seq (r_region (r_p (p_move rfl) rfl ?_))
  refine r_p (p_build (parts := [(2, .tmp 13)]) t72 pl72 rfl rfl) rfl ?_
  refine r_store_all (k := 6) t72 rfl rfl rfl rfl rfl rfl ?_
  refine r_nil (r_cret ?_)
  refine r_nilown 20 (α := Int) (S := 36) (s := 1) (enc := eU) ?_
  refine r_nilown 21 (α := Int) (S := 36) (s := 1) (enc := eU) ?_
  refine r_conva (k := 20) (A' := sl 1 eU (sv nilS) []) rfl own_to_sl ?_
  refine r_conva (k := 21) (A' := sl 1 eU (sv nilS) []) rfl own_to_sl ?_
  refine r_ret (nilS, nilS) trivial rfl (rs1 (rv_cellA t72 rfl rfl rfl (g_all (k := 6) rfl))) rfl [20, 21] [] rfl rfl rfl
 ·exact absurd (by simpa using h1) hc
set_option maxHeartbeats 16000000 in
set_option maxRecDepth 100000 in
theorem run8_ok (vp vin : SV) (fs : List Tf) (ins : List Int) (fuel : Int) (hg : GP fs) (hi : ∀ x ∈ ins, oW x) (hil : ins.length ≤ 1000000) (hf : -1000000000000000000 ≤ fuel ∧ fuel ≤ 1000000000000) (hc : chk fs = 0) (f : Tf) (hm : Fine fs f) (g : Nat) (r : Re Int) (hr : evC g fs 0 f [] (ms0 ins fuel) = some r) :
  Spec Tryz.prog 30 [.agg #[sv vp], sv vin, .int .i64 fuel] [] [tfsA vp fs, sl 1 eU (sv vin) ins] (X := SV × SV) (fun _ => True) (fun x => .agg #[sv x.1, sv x.2, .int .i64 (ruOf r).err]) (fun x => [sl 1 eU (sv x.1) (ruOf r).out, sl 1 eU (sv x.2) (ruOf r).mem]) (fun _ => []) := by
 refine r_enter Tryz.func30 rfl Tryz.ntmps30 rfl fun w0 M H => ?_
 refine r_seq (r_region ?_)
 refine r_boxA rfl rfl fun b3 => ?_
 refine r_alloc t72 rfl rfl fun b6 => ?_
 refine r_nil (r_seq (r_region ?_))
 refine r_p (p_loadA t29 rfl rfl rfl (g_all (k := 3) rfl)) rfl ?_
 refine r_callN (xs := [.tmp 9]) (check8_spec vp fs hg) cb14 [] [(false, 0)] [] rfl rfl rfl rfl rfl rfl rfl rfl (fun _ _ => rfl) (fun _ _ _ => rfl) rfl (fun _ _ => ?_)
 refine r_p (p_assign rfl) rfl (r_nil (r_seq (r_seq (r_region (r_p (p_move rfl) rfl ?_)))))
 refine r_p (p_bin rfl rfl b_ne) rfl ?_
 refine r_nil ?_
 refine r_cond rfl (fun h1 => ?_) (fun h1 => ?_)
 ·exact absurd hc (by simpa using h1)
 ·(try simp only [decide_eq_true_eq, decide_eq_false_iff_not, Bool.and_eq_true, Bool.or_eq_true, Bool.and_eq_false_iff, Bool.or_eq_false_iff, Bool.not_eq_true, Bool.not_eq_false, Bool.not_eq_true', Bool.not_eq_false', Bool.not_not, bne_iff_ne, beq_iff_eq] at h1)
  refine r_skip (r_seq (r_region ?_))
  refine r_p (p_loadA t29 rfl rfl rfl (g_all (k := 3) rfl)) rfl ?_
  refine r_p (p_move rfl) rfl (r_p (p_move rfl) rfl ?_)
  refine r_p (p_build (cs := (xC vp vin nilS (fun _ => 0) fuel 0 0).toArray) (parts := [(0, .tmp 15), (1, .tmp 16), (4, .tmp 17)]) t117 pl117 rfl (by kernel_rfl)) rfl ?_
  refine r_boxA rfl rfl fun b19 => ?_
  refine r_p (p_assign rfl) rfl (r_nil (r_seq (r_region (r_p (p_move rfl) rfl ?_))))
  refine r_nilown 1 (α := Int) (S := 36) (s := 1) (enc := eU) ?_
  refine r_nilsl 3 (α := Int) (s := 1) (enc := eU) ?_
  refine r_conva (k := 19) (A' := row b19 117 (xRow (⟨⟨b19, 0, 0, 0, vin, ins, fs⟩, vp, fuel⟩ : Rn) (xS (⟨⟨b19, 0, 0, 0, vin, ins, fs⟩, vp, fuel⟩ : Rn) (ms0 ins fuel) nilS))) rfl (fun _ _ h => by rw [xRow_0]; exact h) ?_
  refine r_callN (xs := [.tmp 20, .const (.string (ByteArray.mk #[109, 97, 105, 110])), .const (.slice Option.none 0 0), .const (.int .i64 1)]) (hc8_all (e := (⟨⟨b19, 0, 0, 0, vin, ins, fs⟩, vp, fuel⟩ : Rn)) hm.vf hf.1 (by show fuel ≤ _; omega) (by have := hm.len; show fs.length ≤ _; omega) g nMain f 0 nilS [] (ms0 ins fuel) nilS r hm.main (by simp) (by simp) (by omega) ⟨ms0_ok hi hf.2, ⟨0, Nat.zero_le _, rfl⟩⟩ hr) cb48 [19, 1] [(false, 3), (false, 0), (false, 1)] [19, 1] rfl rfl rfl rfl rfl rfl rfl rfl (fun _ _ => rfl) (fun _ _ _ => rfl) rfl (fun y hy => ?_)
  obtain ⟨a, x⟩ := y
  dsimp only at hy ⊢
  refine r_nil (r_seq (r_seq (r_region (r_p (p_move rfl) rfl (r_p (p_nilCheck rfl) rfl ?_)))))
  refine r_p (p_field0 fo117_6 rfl) rfl ?_
  refine r_p (p_load1 t40 rfl rfl (g_row1 (k := 19) rfl xC_er)) rfl ?_
  refine r_p (p_bin rfl rfl b_ne) rfl ?_
  refine r_nil ?_
  refine r_cond rfl (fun h2 => ?_) (fun h2 => ?_)
  ·(try simp only [decide_eq_true_eq, decide_eq_false_iff_not, Bool.and_eq_true, Bool.or_eq_true, Bool.and_eq_false_iff, Bool.or_eq_false_iff, Bool.not_eq_true, Bool.not_eq_false, Bool.not_eq_true', Bool.not_eq_false', Bool.not_not, bne_iff_ne, beq_iff_eq] at h2)
   have hz : r = .err x.er := by
    rcases hy with ⟨s2, vo2, z1, z2⟩ | ⟨z1, z2⟩
    ·dsimp only at z2
     rw [z2] at h2
     exact absurd rfl h2
    ·exact z2
   subst hz
   refine r_seq (r_region (r_p (p_move rfl) rfl (r_p (p_nilCheck rfl) rfl ?_)))
   refine r_p (p_field0 fo117_6 rfl) rfl ?_
   refine r_p (p_load1 t40 rfl rfl (g_row1 (k := 19) rfl xC_er)) rfl ?_
   refine r_p (p_build (parts := [(2, .tmp 30)]) t72 pl72 rfl rfl) rfl ?_
   refine r_store_all (k := 6) t72 rfl rfl rfl rfl rfl rfl ?_
   refine r_nil (r_cret ?_)
   refine r_nilown 20 (α := Int) (S := 36) (s := 1) (enc := eU) ?_
   refine r_nilown 21 (α := Int) (S := 36) (s := 1) (enc := eU) ?_
   refine r_conva (k := 20) (A' := sl 1 eU (sv nilS) []) rfl own_to_sl ?_
   refine r_conva (k := 21) (A' := sl 1 eU (sv nilS) []) rfl own_to_sl ?_
   refine r_ret (nilS, nilS) trivial rfl (rs1 (rv_cellA t72 rfl rfl rfl (g_all (k := 6) rfl))) rfl [20, 21] [] rfl rfl rfl
  ·(try simp only [decide_eq_true_eq, decide_eq_false_iff_not, Bool.and_eq_true, Bool.or_eq_true, Bool.and_eq_false_iff, Bool.or_eq_false_iff, Bool.not_eq_true, Bool.not_eq_false, Bool.not_eq_true', Bool.not_eq_false', Bool.not_not, bne_iff_ne, beq_iff_eq] at h2)
   obtain ⟨s2, vo2, hz, hx1⟩ : ∃ s2 vo2, r = .ok a s2 ∧ x = xS (⟨⟨b19, 0, 0, 0, vin, ins, fs⟩, vp, fuel⟩ : Rn) s2 vo2 := by
    rcases hy with h | ⟨z1, z2⟩
    ·exact h
    ·exact absurd h2 z1
   subst hz hx1
   refine r_skip (r_seq ?_)
   refine r_draw [32, 33, 34, 35, 36, 37, 38, 39, 40] _ rfl (stg_mem0 (V := [(0, 32, _), (1, 33, _), (2, 34, _), (3, 35, _), (4, 36, _), (5, 37, _), (6, 38, _), (7, 39, _), (8, 40, _)]) [0, 1, 2, 3, 4, 5, 6, 7, 8] 9 [9, 8, 7, 6, 5, 4, 3, 2, 1, 0] [] (fun _ => []) rfl rfl (prs_cons (pri rfl (p_move rfl)) (prs_cons (pri rfl (p_nilCheck rfl)) (prs_cons (pri rfl (p_field0 fo117_2 rfl)) (prs_cons (pri rfl (p_load1 t23 rfl rfl (g_row1 (k := 19) rfl rfl))) (prs_cons (pri rfl (p_move rfl)) (prs_cons (pri rfl (p_nilCheck rfl)) (prs_cons (pri rfl (p_field0 fo117_3 rfl)) (prs_cons (pri rfl (p_slice_arr Tryz.underlying99 t36 rfl (by decide))) (prs_cons (pri rfl (p_build (parts := [(0, .tmp 35), (1, .tmp 39)]) t72 pl72 rfl rfl)) prs_nil))))))))) rfl rfl rfl rfl rfl rfl rfl rfl rfl (fun _ _ => rfl) rfl (ms_store_all (k := 6) t72 rfl rfl rfl rfl rfl rfl) (fun _ _ => stg_end [] rfl rfl prs_nil rfl rfl rfl ?_))
   refine r_cret ?_
   refine r_conva (k := 19) (A' := sl 1 eU (sv ⟨some ⟨b19, 3, none⟩, 256, 256⟩) ((List.range 256).map s2.mem)) rfl (row_sl2 (by simp) (by unfold maxLen; omega) xC_sl) ?_
   refine r_conva (k := 1) (A' := sl 1 eU (sv vo2) s2.out) rfl own_to_sl ?_
   refine r_ret (vo2, ⟨some ⟨b19, 3, none⟩, 256, 256⟩) trivial rfl (rs1 (rv_cellA t72 rfl rfl rfl (g_all (k := 6) rfl))) rfl [1, 19] [] rfl rfl rfl
theorem run8_spec (vp vin : SV) (fs : List Tf) (ins : List Int) (fuel : Int) (hg : GP fs) (hi : ∀ x ∈ ins, oW x) (hil : ins.length ≤ 1000000) (hf : -1000000000000000000 ≤ fuel ∧ fuel ≤ 1000000000000) (ru : Ru) (hru : RunIs fs ins fuel ru) :
  Spec Tryz.prog 30 [.agg #[sv vp], sv vin, .int .i64 fuel] [] [tfsA vp fs, sl 1 eU (sv vin) ins] (X := SV × SV) (fun _ => True) (fun x => .agg #[sv x.1, sv x.2, .int .i64 ru.err]) (fun x => [sl 1 eU (sv x.1) ru.out, sl 1 eU (sv x.2) ru.mem]) (fun _ => []) := by
 cases hru with
 | bad h => exact run8_bad vp vin fs ins fuel hg hi hil hf h
 | run f g r h hfm he =>
  obtain ⟨f2, hf2⟩ := chk_fine hg h
  have : f2 = f := by
   have := hf2.main
   rw [hfm] at this
   exact (Option.some.inj this).symm
  subst this
  exact run8_ok vp vin fs ins fuel hg hi hil hf h f2 hf2 g r he
theorem runIs_err {fs : List Tf} {ins : List Int} {fuel : Int} {r : Ru} (h : RunIs fs ins fuel r) : r.err ≠ 0 → r.out = [] ∧ r.mem = [] := by
 intro h0
 cases h with
 | bad h => exact ⟨rfl, rfl⟩
 | run f g r h hf he =>
  cases r with
  | ok a s => exact absurd rfl h0
  | err z => exact ⟨rfl, rfl⟩
set_option maxHeartbeats 4000000 in
set_option maxRecDepth 100000 in
theorem agrees_spec (vp vin : SV) (fs : List Tf) (ins : List Int) (fuel : Int) (hg : GP fs) (hi : ∀ x ∈ ins, oW x) (hil : ins.length ≤ 1000000) (hf : -1000000000000000000 ≤ fuel ∧ fuel ≤ 1000000000000) (e : Int) (o m : List Int) (hru : RunIs fs ins fuel ⟨e, o, m⟩) (hol : o.length ≤ 1000000 ∧ m.length ≤ 1000000) :
  Spec Tryz.prog 9 [.agg #[sv vp], sv vin, .int .i64 fuel] [] [tfsA vp fs, sl 1 eU (sv vin) ins] (X := Unit) (fun _ => True) (fun _ => .bool true) (fun _ => []) (fun _ => []) := by
 refine r_enter Tryz.func9 rfl Tryz.ntmps9 rfl fun w0 M H => ?_
 refine r_seq (r_region ?_)
 refine r_boxA rfl rfl fun b3 => ?_
 refine r_p (p_assign rfl) rfl (r_nil (r_seq (r_region ?_)))
 refine r_p (p_loadA t29 rfl rfl rfl (g_all (k := 3) rfl)) rfl ?_
 refine r_p (p_move rfl) rfl (r_p (p_move rfl) rfl ?_)
 refine r_callN (xs := [.tmp 12, .tmp 13, .tmp 14]) (run_spec vp vin fs ins fuel hg hi hil (by omega) _ hru) cb15 [] [(false, 0), (false, 1)] [40, 41] rfl rfl rfl rfl rfl rfl rfl rfl (fun _ _ => rfl) (fun _ _ _ => rfl) rfl (fun ⟨ra, rb⟩ _ => ?_)
 dsimp only
 refine r_p (p_move rfl) rfl ?_
 refine r_p (p_extract rfl rfl) rfl ?_
 refine r_p (p_extract rfl rfl) rfl ?_
 refine r_p (p_extract rfl rfl) rfl ?_
 refine r_p (p_assign rfl) rfl (r_p (p_assign rfl) rfl (r_p (p_assign rfl) rfl (r_nil (r_seq (r_region ?_)))))
 refine r_p (p_loadA t29 rfl rfl rfl (g_all (k := 3) rfl)) rfl ?_
 refine r_p (p_move rfl) rfl (r_p (p_move rfl) rfl ?_)
 refine r_callN (xs := [.tmp 19, .tmp 20, .tmp 21]) (run8_spec vp vin fs ins fuel hg hi hil hf _ hru) cb30 [] [(false, 0), (false, 1)] [42, 43] rfl rfl rfl rfl rfl rfl rfl rfl (fun _ _ => rfl) (fun _ _ _ => rfl) rfl (fun ⟨rc, rd⟩ _ => ?_)
 dsimp only
 refine r_alloc t72 rfl rfl fun b10 => ?_
 refine r_store_all (k := 10) t72 rfl rfl rfl rfl rfl rfl ?_
 refine r_nil (r_seq (r_seq (r_region ?_)))
 refine r_p (p_field0 fo72_2 rfl) rfl ?_
 refine r_p (p_load1 t40 rfl rfl (g_row1 (k := 10) rfl rfl)) rfl ?_
 refine r_p (p_bin rfl rfl b_ne) rfl ?_
 refine r_nil ?_
 refine r_cond rfl (fun h1 => ?_) (fun h1 => ?_)
 ·(try simp only [decide_eq_true_eq, decide_eq_false_iff_not, Bool.and_eq_true, Bool.or_eq_true, Bool.and_eq_false_iff, Bool.or_eq_false_iff, Bool.not_eq_true, Bool.not_eq_false, Bool.not_eq_true', Bool.not_eq_false', Bool.not_not, bne_iff_ne, beq_iff_eq] at h1)
  obtain ⟨ho, hm⟩ := runIs_err hru h1
  dsimp only at ho hm
  subst ho hm
  refine r_seq (r_region (r_p (p_move rfl) rfl ?_))
  refine r_p (p_field0 fo72_2 rfl) rfl ?_
  refine r_p (p_load1 t40 rfl rfl (g_row1 (k := 10) rfl rfl)) rfl ?_
  refine r_p (p_bin rfl rfl b_eq) rfl ?_
  with_reducible rw [decide_eq_true (rfl : e = e)]
  refine r_p (p_move rfl) rfl ?_
  refine r_gyes rfl rfl ?_
  refine r_p (p_move rfl) rfl ?_
  refine r_gyes rfl rfl ?_
  refine r_p (p_len_sl Tryz.underlying23 rfl (hs_own (k := 40) rfl)) rfl ?_
  refine r_gyes rfl rfl ?_
  refine r_p (p_bin rfl rfl b_eq) rfl ?_
  with_reducible rw [decide_eq_true (show ((([] : List Int).length : Nat) : Int) = 0 from rfl)]
  refine r_p (p_pick rfl rfl rfl (pick_t rfl)) rfl ?_
  refine r_p (p_move rfl) rfl ?_
  refine r_gyes rfl rfl ?_
  refine r_p (p_move rfl) rfl ?_
  refine r_gyes rfl rfl ?_
  refine r_p (p_len_sl Tryz.underlying23 rfl (hs_own (k := 41) rfl)) rfl ?_
  refine r_gyes rfl rfl ?_
  refine r_p (p_bin rfl rfl b_eq) rfl ?_
  with_reducible rw [decide_eq_true (show ((([] : List Int).length : Nat) : Int) = 0 from rfl)]
  refine r_p (p_pick rfl rfl rfl (pick_t rfl)) rfl ?_
  refine r_p (p_assign rfl) rfl (r_nil (r_cret ?_))
  refine r_ret () trivial rfl (rs1 (rv_tmp rfl)) rfl [] [] rfl rfl rfl
 ·(try simp only [decide_eq_true_eq, decide_eq_false_iff_not, Bool.and_eq_true, Bool.or_eq_true, Bool.and_eq_false_iff, Bool.or_eq_false_iff, Bool.not_eq_true, Bool.not_eq_false, Bool.not_eq_true', Bool.not_eq_false', Bool.not_not, bne_iff_ne, beq_iff_eq] at h1)
  have h0 : e = 0 := h1
  subst h0
  refine r_skip (r_seq (r_region (r_p (p_move rfl) rfl ?_)))
  refine r_p (p_bin rfl rfl b_eq) rfl ?_
  with_reducible rw [decide_eq_true (rfl : (0 : Int) = (0 : Int))]
  refine r_p (p_move rfl) rfl ?_
  refine r_gyes rfl rfl ?_
  refine r_p (p_move rfl) rfl ?_
  refine r_gyes rfl rfl ?_
  refine r_p (p_field0 fo72_0 rfl) rfl ?_
  refine r_gyes rfl rfl ?_
  refine r_p (p_load1 t23 rfl rfl (g_row1 (k := 10) rfl rfl)) rfl ?_
  refine r_gyes rfl rfl ?_
  refine r_freeze 40 44 rfl own_to_sl ?_
  refine r_callN (xs := [.tmp 43, .tmp 45]) (rwords_spec ra rc o o hol.1) cb16 [] [(false, 44), (true, 42)] [] rfl rfl rfl rfl rfl rfl rfl rfl (fun _ _ => rfl) (fun _ _ _ => rfl) rfl (fun _ _ => ?_)
  with_reducible rw [decide_eq_true (rfl : o = o)]
  refine r_p (p_pick rfl rfl rfl (pick_t rfl)) rfl ?_
  refine r_p (p_move rfl) rfl ?_
  refine r_gyes rfl rfl ?_
  refine r_p (p_move rfl) rfl ?_
  refine r_gyes rfl rfl ?_
  refine r_p (p_field0 fo72_1 rfl) rfl ?_
  refine r_gyes rfl rfl ?_
  refine r_p (p_load1 t23 rfl rfl (g_row1 (k := 10) rfl rfl)) rfl ?_
  refine r_gyes rfl rfl ?_
  refine r_freeze 41 45 rfl own_to_sl ?_
  refine r_callN (xs := [.tmp 49, .tmp 51]) (rwords_spec rb rd m m hol.2) cb16 [] [(false, 45), (true, 43)] [] rfl rfl rfl rfl rfl rfl rfl rfl (fun _ _ => rfl) (fun _ _ _ => rfl) rfl (fun _ _ => ?_)
  with_reducible rw [decide_eq_true (rfl : m = m)]
  refine r_p (p_pick rfl rfl rfl (pick_t rfl)) rfl ?_
  refine r_p (p_assign rfl) rfl (r_nil (r_cret ?_))
  refine r_ret () trivial rfl (rs1 (rv_tmp rfl)) rfl [] [] rfl rfl rfl
mutual
/-- All calls are of functions whose names satisfy A. -/
def aX (A : ByteArray → Prop) : Tx → Prop
 | .mk k _ nm _ kids => (k ≠ 1 → k ≠ 2 → k ≠ 4 → k ≠ 5 → k ≠ 6 → k ≠ 7 → A nm) ∧ aXs A kids
def aXs (A : ByteArray → Prop) : List Tx → Prop
 | [] => True
 | t :: r => aX A t ∧ aXs A r
end
mutual
def aY (A : ByteArray → Prop) : Ty → Prop
 | .mk _ _ _ es _ b _ l => aXs A es ∧ aYs A b ∧ aYs A l
def aYs (A : ByteArray → Prop) : List Ty → Prop
 | [] => True
 | t :: r => aY A t ∧ aYs A r
end
mutual
theorem aX_all {A : ByteArray → Prop} (h : ∀ x, A x) : ∀ t, aX A t
 | .mk k n nm v kids => ⟨fun _ _ _ _ _ _ => h nm, aXs_all h kids⟩
theorem aXs_all {A : ByteArray → Prop} (h : ∀ x, A x) : ∀ l, aXs A l
 | [] => trivial
 | t :: r => ⟨aX_all h t, aXs_all h r⟩
end
mutual
theorem aY_all {A : ByteArray → Prop} (h : ∀ x, A x) : ∀ t, aY A t
 | .mk _ _ _ es _ b _ l => ⟨aXs_all h es, aYs_all h b, aYs_all h l⟩
theorem aYs_all {A : ByteArray → Prop} (h : ∀ x, A x) : ∀ l, aYs A l
 | [] => trivial
 | t :: r => ⟨aY_all h t, aYs_all h r⟩
end
/-- What is read from the inputs. -/
def rdI (s : Ms) : Int × Ms := match s.inp with
 | [] => (0, s)
 | a :: r => (a, { s with inp := r })
/-- States that agree, with functions that agree. -/
structure Smr (A : ByteArray → Prop) (Rl : Ms → Ms → Prop) (fs fs' : List Tf) : Prop where
 mem : ∀ s s', Rl s s' → s'.mem = s.mem
 pay : ∀ s s', Rl s s' → 0 < s.fuel → 0 < s'.fuel ∧ Rl { s with fuel := s.fuel - 1 } { s' with fuel := s'.fuel - 1 }
 inp : ∀ s s', Rl s s' → (rdI s).1 = (rdI s').1 ∧ Rl (rdI s).2 (rdI s').2
 put : ∀ s s' i v, Rl s s' → Rl { s with mem := mput s.mem i v } { s' with mem := mput s'.mem i v }
 out : ∀ s s' v, Rl s s' → Rl { s with out := s.out ++ [v] } { s' with out := s'.out ++ [v] }
 fn : ∀ nm f, A nm → ffind fs nm = some f → ∃ f', ffind fs' nm = some f' ∧ f'.ps = f.ps ∧ f'.body = f.body ∧ aYs A f.body
/-- Results that agree. -/
inductive RR (Rl : Ms → Ms → Prop) {α : Type} : Re α → Re α → Prop
 | ok (a : α) (s s' : Ms) (h : Rl s s') : RR Rl (.ok a s) (.ok a s')
 | err (z : Int) : RR Rl (.err z) (.err z)
structure Sm (A : ByteArray → Prop) (Rl : Ms → Ms → Prop) (fs fs' : List Tf) (g : Nat) : Prop where
 x : ∀ d vs t s s' r, aX A t → Rl s s' → evX g fs d vs t s = some r → r ≠ .err 25 → ∃ r', evX g fs' d vs t s' = some r' ∧ RR Rl r r'
 k : ∀ d vs acc l s s' r, aXs A l → Rl s s' → evK g fs d vs acc l s = some r → r ≠ .err 25 → ∃ r', evK g fs' d vs acc l s' = some r' ∧ RR Rl r r'
 c : ∀ d f f' al s s' r, f'.ps = f.ps → f'.body = f.body → aYs A f.body → Rl s s' → evC g fs d f al s = some r → r ≠ .err 25 → ∃ r', evC g fs' d f' al s' = some r' ∧ RR Rl r r'
 b : ∀ d vs l s s' r, aYs A l → Rl s s' → evB g fs d vs l s = some r → r ≠ .err 25 → ∃ r', evB g fs' d vs l s' = some r' ∧ RR Rl r r'
 s : ∀ d vs t s s' r, aY A t → Rl s s' → evS g fs d vs t s = some r → r ≠ .err 25 → ∃ r', evS g fs' d vs t s' = some r' ∧ RR Rl r r'
 w : ∀ d vs e l v s s' r, aX A e → aYs A l → Rl s s' → evW g fs d vs e l v s = some r → r ≠ .err 25 → ∃ r', evW g fs' d vs e l v s' = some r' ∧ RR Rl r r'
theorem runIs_len {fs : List Tf} {ins : List Int} {fuel : Int} {r : Ru} (hg : GP fs) (hi : ∀ x ∈ ins, oW x) (hf : fuel ≤ 1000000) (h : RunIs fs ins fuel r) : r.out.length ≤ 1000000 ∧ r.mem.length ≤ 1000000 := by
 cases h with
 | bad h => exact ⟨Nat.zero_le _, Nat.zero_le _⟩
 | run f g q h hfm he =>
  cases q with
  | err z => exact ⟨Nat.zero_le _, Nat.zero_le _⟩
  | ok v s =>
   obtain ⟨f2, hf2⟩ := chk_fine hg h
   have hk := ((ev_ok hf2.vf g).c 0 f [] (ms0 ins fuel) v s (ffind_mem hfm) (by simp) (ms0_ok hi (by omega)) he).2
   have h1 := hk.sum
   have h2 : ((ms0 ins fuel).out.length : Int) = 0 := rfl
   have h3 : (ms0 ins fuel).fuel = fuel := rfl
   refine ⟨?_, by show ((List.range 256).map s.mem).length ≤ _; simp⟩
   show s.out.length ≤ 1000000
   omega
theorem agrees_all (vp vin : SV) (fs : List Tf) (ins : List Int) (fuel : Int) (hg : GP fs) (hi : ∀ x ∈ ins, oW x) (hil : ins.length ≤ 1000000) (hf : -1000000000000000000 ≤ fuel ∧ fuel ≤ 1000000) :
  Spec Tryz.prog 9 [.agg #[sv vp], sv vin, .int .i64 fuel] [] [tfsA vp fs, sl 1 eU (sv vin) ins] (X := Unit) (fun _ => True) (fun _ => .bool true) (fun _ => []) (fun _ => []) := by
 obtain ⟨⟨e, o, m⟩, hr⟩ := runIs_ex (fuel := fuel) hg hi (by omega)
 exact agrees_spec vp vin fs ins fuel hg hi hil (by omega) e o m hr (runIs_len hg hi hf.2 hr)
set_option maxRecDepth 100000 in
theorem units_spec (n : Int) (hn : 0 ≤ n ∧ n < 65536) :
  Spec Tryz.prog 11 [.int .u16 n] [] [] (X := Unit) (fun _ => True) (fun _ => .int .i64 (n % 4004 - 3)) (fun _ => []) (fun _ => []) := by
 refine r_enter Tryz.func11 rfl Tryz.ntmps11 rfl fun w0 M H => ?_
 refine r_seq (r_region (r_p (p_assign rfl) rfl (r_nil (r_seq (r_region (r_p (p_move rfl) rfl ?_))))))
 refine r_p (p_bin rfl rfl (b_rem (c := n % 4004) (by decide) (Int.tmod_eq_emod_of_nonneg hn.1))) rfl ?_
 refine r_p (p_conv Tryz.underlying24 Tryz.underlying3 rfl (by first | exact w_i64 (by omega) (by omega) | rfl)) rfl ?_
 refine r_p (p_bin rfl rfl (b_sub (by first | exact w_i64 (by omega) (by omega) | rfl))) rfl ?_
 refine r_p (p_assign rfl) rfl (r_nil (r_cret ?_))
 refine r_ret () trivial rfl (rs1 (rv_tmp rfl)) rfl [] [] rfl rfl rfl
/-- An expression that can be read. -/
def txA1 (t : Tx) : Asn := ⟨fun w F => TxIn w F t, fun h hs => TxIn.mono (fun _ hb => hb) hs _ h⟩
theorem tx0 {w : World} {F : Nat → Prop} {k n : Int} {s : ByteArray} : TxIn w F (.mk k n s nilS []) := ⟨nil_in, trivial⟩
/-- The operators of the second grower. -/
def sgL : List ByteArray := [oSub, oCom, oNot]
def opL : List ByteArray := [oAdd, oSub, oMul, oQuo, oRem, oAnd, oOr, oXor, oShl, oShr, oLt, oLe, oGt, oGe, oEq, oNe]
/-- Expressions over constants and names. -/
inductive KE (ns : List ByteArray) : Tx → Prop where
 | num (n : Int) (hn : oW n) : KE ns (.mk 1 n oNil nilS [])
 | name (x : ByteArray) (hx : x ∈ ns) : KE ns (.mk 2 0 x nilS [])
 | un (op : ByteArray) (v : SV) (t : Tx) (ho : op ∈ sgL) (h : KE ns t) : KE ns (.mk 6 0 op v [t])
 | bin (op : ByteArray) (v : SV) (a b : Tx) (ho : op ∈ opL) (ha : KE ns a) (hb : KE ns b) : KE ns (.mk 7 0 op v [a, b])
mutual
/-- The value of an expression. -/
def valX (vs : Vs) : Tx → Int
 | .mk k n nm _ kids => if k = 2 then vget vs nm else if k = 6 then (unF nm ((valXs vs kids).getD 0 0)).getD 0 else if k = 7 then (biF nm ((valXs vs kids).getD 0 0) ((valXs vs kids).getD 1 0)).getD 0 else n
def valXs (vs : Vs) : List Tx → List Int
 | [] => []
 | t :: r => valX vs t :: valXs vs r
end
theorem KE.oW {ns : List ByteArray} {vs : Vs} (hv : okVs vs) {t : Tx} (h : KE ns t) : oW (valX vs t) := by
 induction h with
 | num n hn => exact hn
 | name x hx => exact hv.get x
 | un op v t ho h ih => exact oW_un ih
 | bin op v a b ho ha hb iha ihb => exact oW_bi iha ihb
theorem sg_nm : ∀ x ∈ sgL, nmB x := by
 intro x hx
 simp only [sgL, List.mem_cons, List.not_mem_nil, or_false] at hx
 rcases hx with rfl | rfl | rfl <;> exact nmB_of rfl
theorem op_nm : ∀ x ∈ opL, nmB x := by
 intro x hx
 simp only [opL, List.mem_cons, List.not_mem_nil, or_false] at hx
 rcases hx with rfl | rfl | rfl | rfl | rfl | rfl | rfl | rfl | rfl | rfl | rfl | rfl | rfl | rfl | rfl | rfl <;> exact nmB_of rfl
theorem KE.gx {ns : List ByteArray} (hn : ∀ x ∈ ns, nmB x) {t : Tx} (h : KE ns t) : GX t := by
 induction h with
 | num n h => exact gx_num h
 | name x hx => exact gx_name (hn x hx)
 | un op v t ho h ih => exact ⟨oW0, sg_nm op ho, by show 1 ≤ 1000000; decide, ih, trivial⟩
 | bin op v a b ho ha hb iha ihb => exact ⟨oW0, op_nm op ho, by show 2 ≤ 1000000; decide, iha, ihb, trivial⟩
theorem KE.un_inv {ns : List ByteArray} {t : Tx} (h : KE ns t) (hk : t.kind = 6) : ∃ op v u, t = .mk 6 0 op v [u] ∧ KE ns u := by
 cases h with
 | un op v t ho h => exact ⟨op, v, t, rfl, h⟩
 | _ => simp [Tx.kind] at hk
theorem KE.bin_inv {ns : List ByteArray} {t : Tx} (h : KE ns t) (hk : t.kind = 7) : ∃ op v a b, t = .mk 7 0 op v [a, b] ∧ KE ns a ∧ KE ns b := by
 cases h with
 | bin op v a b ho ha hb => exact ⟨op, v, a, b, rfl, ha, hb⟩
 | _ => simp [Tx.kind] at hk
theorem KE.num_inv {t : Tx} (h : KE [] t) (h6 : ¬ t.kind = 6) (h7 : ¬ t.kind = 7) : valX [] t = t.n := by
 cases h with
 | num n hn => rfl
 | name x hx => simp at hx
 | un op v t ho h => exact absurd rfl h6
 | bin op v a b ho ha hb => exact absurd rfl h7
def HVal (t : Tx) : Prop := Spec Tryz.prog 21 [xV t] [] [txsA t.v t.kids] (X := Unit) (fun _ => True) (fun _ => .int .u32 (valX [] t)) (fun _ => []) (fun _ => [])
def HSi (t : Tx) : Prop := Spec Tryz.prog 20 [xV t] [] [txsA t.v t.kids] (X := Unit) (fun _ => True) (fun _ => .int .i64 (nX t : Int)) (fun _ => []) (fun _ => [])
theorem sg_at {z : Int} (h : 0 ≤ z ∧ z < 3) : sgL[z.toNat]? = some (sgL.getD z.toNat oNil) := by
 have h2 : z.toNat < sgL.length := by show _ < 3; omega
 rw [List.getD_eq_getElem?_getD, List.getElem?_eq_getElem h2]
 rfl
theorem sg_mem {z : Int} (h : 0 ≤ z ∧ z < 3) : sgL.getD z.toNat oNil ∈ sgL := List.mem_of_getElem? (sg_at h)
theorem and3 {b : Int} (hb : 0 ≤ b ∧ b < 4294967296) : bits .and .u32 b 3 = b % 4 := by
 have h1 : bits .and .u32 b 3 = IntKind.u32.wrap (((BitVec.ofInt 32 b &&& BitVec.ofInt 32 3).toNat : Nat) : Int) := rfl
 have h2 : (BitVec.ofInt 32 b).toNat = b.toNat := by
  rw [BitVec.toNat_ofInt, Int.emod_eq_of_lt hb.1 (by omega)]
 have h3 : (BitVec.ofInt 32 3).toNat = 2 ^ 2 - 1 := by decide
 rw [h1, BitVec.toNat_and, h2, h3, Nat.and_two_pow_sub_one_eq_mod, w_u32 (by omega) (by omega)]
 omega
theorem and1 {z : Int} (h0 : 0 ≤ z) (h1 : z < 7) : bits .and .i64 z 1 = z % 2 := by
 have h : z = 0 ∨ z = 1 ∨ z = 2 ∨ z = 3 ∨ z = 4 ∨ z = 5 ∨ z = 6 := by omega
 rcases h with rfl | rfl | rfl | rfl | rfl | rfl | rfl <;> decide
set_option maxHeartbeats 2000000 in
set_option maxRecDepth 100000 in
theorem take9_spec (b : Nat) (vl : SV) (l : List Int) (at_ : Nat) (hat : at_ ≤ 1000000) (hlo : ∀ x ∈ l, okI x) (n : Int) (hn : 0 < n ∧ n ≤ 1000000) :
  Spec Tryz.prog 81 [.pointer (some ⟨b, 0, none⟩), .int .i64 n] [row b 109 [sv vl, .int .i64 (at_ : Int)]] [sl 1 eI (sv vl) l] (X := Int) (fun z => 0 ≤ z ∧ z < n) (fun z => .int .i64 z) (fun _ => [row b 109 [sv vl, .int .i64 ((at_ + 1 : Nat) : Int)]]) (fun _ => []) := by
 refine r_enter Tryz.func81 rfl Tryz.ntmps81 rfl fun w0 M H => ?_
 refine r_seq (r_region (r_p (p_assign rfl) rfl (r_nil (r_seq (r_region (r_p (p_assign rfl) rfl (r_nil (r_seq (r_seq ?_)))))))))
 refine r_draw [6, 7, 8, 9, 10, 11, 12, 13, 14, 15] _ rfl (stg_end (V := [(0, 6, _), (1, 7, _), (2, 8, _), (3, 9, _), (4, 10, _), (5, 11, _), (6, 12, _), (7, 13, _), (8, 14, _), (9, 15, _)]) [0, 1, 2, 3, 4, 5, 6, 7, 8, 9] rfl rfl (prs_cons (pri rfl (p_move rfl)) (prs_cons (pri rfl (p_nilCheck rfl)) (prs_cons (pri rfl (p_field0 fo109_1 rfl)) (prs_cons (pri rfl (p_load1 t3 rfl rfl (g_row1 (k := 0) rfl rfl))) (prs_cons (pri rfl (p_move rfl)) (prs_cons (pri rfl (p_nilCheck rfl)) (prs_cons (pri rfl (p_field0 fo109_0 rfl)) (prs_cons (pri rfl (p_load1 t22 rfl rfl (g_row1 (k := 0) rfl rfl))) (prs_cons (pri rfl (p_len_sl Tryz.underlying22 rfl (hs_sl (k := 0) rfl))) (prs_cons (pri rfl (p_bin rfl rfl b_lt)) prs_nil)))))))))) rfl rfl rfl ?_)
 refine r_cond rfl (fun h1 => ?_) (fun h1 => ?_)
 ·(try simp only [decide_eq_true_eq, decide_eq_false_iff_not, Bool.and_eq_true, Bool.or_eq_true, Bool.and_eq_false_iff, Bool.or_eq_false_iff, Bool.not_eq_true, Bool.not_eq_false, Bool.not_eq_true', Bool.not_eq_false', Bool.not_not, bne_iff_ne, beq_iff_eq] at h1)
  have hi : at_ < l.length := by omega
  obtain ⟨x, hx⟩ : ∃ x, l[at_]? = some x := ⟨_, List.getElem?_eq_getElem hi⟩
  have hxo := hlo x (List.mem_of_getElem? hx)
  have htm := tm_bd x hn.1
  have htm2 := Int.tmod_nonneg (a := x.tmod n + n) n (by omega)
  have htm3 := Int.tmod_lt_of_pos (x.tmod n + n) hn.1
  refine r_draw [16, 17, 18, 19, 20, 21, 22, 23, 24, 25, 5] _ rfl (stg_end (V := [(0, 16, _), (1, 17, _), (2, 18, _), (3, 19, _), (4, 20, _), (5, 21, _), (6, 22, _), (7, 23, _), (8, 24, _), (9, 25, _), (10, 5, _)]) [0, 1, 2, 3, 4, 5, 6, 7, 8, 9, 10] rfl rfl (prs_cons (pri rfl (p_move rfl)) (prs_cons (pri rfl (p_nilCheck rfl)) (prs_cons (pri rfl (p_field0 fo109_0 rfl)) (prs_cons (pri rfl (p_load1 t22 rfl rfl (g_row1 (k := 0) rfl rfl))) (prs_cons (pri rfl (p_move rfl)) (prs_cons (pri rfl (p_nilCheck rfl)) (prs_cons (pri rfl (p_field0 fo109_1 rfl)) (prs_cons (pri rfl (p_load1 t3 rfl rfl (g_row1 (k := 0) rfl rfl))) (prs_cons (pri rfl (p_idx_sl (j := at_) Tryz.underlying22 t3 rfl rfl (hs_sl (k := 0) rfl) (by first | rfl | omega) (by first | omega | (simp; done) | (simp; omega)))) (prs_cons (pri rfl (p_load1 t3 rfl rfl (g_el' (hs_sl (k := 0) rfl) (by intro _; rfl) hx (by rfl)))) (prs_cons (pri rfl (p_assign rfl)) prs_nil))))))))))) rfl rfl rfl ?_)
  refine r_seq (r_region (r_p (p_move rfl) rfl (r_p (p_nilCheck rfl) rfl ?_)))
  refine r_p (p_field0 fo109_1 rfl) rfl ?_
  refine r_p (p_load1 t3 rfl rfl (g_row1 (k := 0) rfl rfl)) rfl ?_
  refine r_p (p_bin rfl rfl (b_add (by first | exact w_i64 (by omega) (by omega) | rfl))) rfl ?_
  refine r_p (p_nilCheck rfl) rfl ?_
  refine r_p (p_field0 fo109_1 rfl) rfl ?_
  refine r_store_row (k := 0) t3 rfl rfl rfl rfl rfl rfl rfl rfl ?_
  refine r_nil (r_seq (r_region (r_p (p_move rfl) rfl (r_p (p_move rfl) rfl ?_))))
  refine r_p (p_bin rfl rfl (b_rem (by omega) rfl)) rfl ?_
  refine r_p (p_move rfl) rfl ?_
  refine r_p (p_bin rfl rfl (b_add (by first | exact w_i64 (by omega) (by omega) | rfl))) rfl ?_
  refine r_p (p_move rfl) rfl ?_
  refine r_p (p_bin rfl rfl (b_rem (by omega) rfl)) rfl ?_
  refine r_p (p_assign rfl) rfl (r_nil (r_cret ?_))
  refine r_ret ((x.tmod n + n).tmod n) ⟨htm2, htm3⟩ rfl (rs1 (rv_tmp rfl)) rfl [0] [] rfl rfl rfl
 ·(try simp only [decide_eq_true_eq, decide_eq_false_iff_not, Bool.and_eq_true, Bool.or_eq_true, Bool.and_eq_false_iff, Bool.or_eq_false_iff, Bool.not_eq_true, Bool.not_eq_false, Bool.not_eq_true', Bool.not_eq_false', Bool.not_not, bne_iff_ne, beq_iff_eq] at h1)
  have htm := tm_bd (0 : Int) hn.1
  have htm2 := Int.tmod_nonneg (a := (0 : Int).tmod n + n) n (by omega)
  have htm3 := Int.tmod_lt_of_pos ((0 : Int).tmod n + n) hn.1
  refine r_skip (r_seq (r_region (r_p (p_move rfl) rfl (r_p (p_nilCheck rfl) rfl ?_))))
  refine r_p (p_field0 fo109_1 rfl) rfl ?_
  refine r_p (p_load1 t3 rfl rfl (g_row1 (k := 0) rfl rfl)) rfl ?_
  refine r_p (p_bin rfl rfl (b_add (by first | exact w_i64 (by omega) (by omega) | rfl))) rfl ?_
  refine r_p (p_nilCheck rfl) rfl ?_
  refine r_p (p_field0 fo109_1 rfl) rfl ?_
  refine r_store_row (k := 0) t3 rfl rfl rfl rfl rfl rfl rfl rfl ?_
  refine r_nil (r_seq (r_region (r_p (p_move rfl) rfl (r_p (p_move rfl) rfl ?_))))
  refine r_p (p_bin rfl rfl (b_rem (by omega) rfl)) rfl ?_
  refine r_p (p_move rfl) rfl ?_
  refine r_p (p_bin rfl rfl (b_add (by first | exact w_i64 (by omega) (by omega) | rfl))) rfl ?_
  refine r_p (p_move rfl) rfl ?_
  refine r_p (p_bin rfl rfl (b_rem (by omega) rfl)) rfl ?_
  refine r_p (p_assign rfl) rfl (r_nil (r_cret ?_))
  refine r_ret (((0 : Int).tmod n + n).tmod n) ⟨htm2, htm3⟩ rfl (rs1 (rv_tmp rfl)) rfl [0] [] rfl rfl rfl
set_option maxRecDepth 100000 in
theorem signs_spec  :
  Spec Tryz.prog 82 [] [] [] (X := SV) (fun _ => True) (fun v => sv v) (fun v => [own 9 1 eS (sv v) sgL]) (fun _ => []) := by
 refine r_enter Tryz.func82 rfl Tryz.ntmps82 rfl fun w0 M H => ?_
 refine r_seq (r_region (r_p (p_assign rfl) rfl (r_nil (r_seq (r_region ?_)))))
 refine r_bslice eS sgL (parts := [(0, .const (.string (ByteArray.mk #[45]))), (1, .const (.string (ByteArray.mk #[126]))), (2, .const (.string (ByteArray.mk #[33])))]) Tryz.underlying58 t9 rfl (by decide) (by intro _; rfl) rfl (by decide) (by decide) rfl rfl rfl rfl fun v1 => ?_
 refine r_p (p_assign rfl) rfl (r_nil (r_cret ?_))
 refine r_ret v1 trivial rfl (rs1 (rv_tmp rfl)) rfl [1] [] rfl rfl rfl
set_option maxRecDepth 100000 in
theorem operators_spec  :
  Spec Tryz.prog 83 [] [] [] (X := SV) (fun _ => True) (fun v => sv v) (fun v => [own 9 1 eS (sv v) opL]) (fun _ => []) := by
 refine r_enter Tryz.func83 rfl Tryz.ntmps83 rfl fun w0 M H => ?_
 refine r_seq (r_region (r_p (p_assign rfl) rfl (r_nil (r_seq (r_region ?_)))))
 refine r_bslice eS opL (parts := [(0, .const (.string (ByteArray.mk #[43]))), (1, .const (.string (ByteArray.mk #[45]))), (2, .const (.string (ByteArray.mk #[42]))), (3, .const (.string (ByteArray.mk #[47]))), (4, .const (.string (ByteArray.mk #[37]))), (5, .const (.string (ByteArray.mk #[38]))), (6, .const (.string (ByteArray.mk #[124]))), (7, .const (.string (ByteArray.mk #[94]))), (8, .const (.string (ByteArray.mk #[60, 60]))), (9, .const (.string (ByteArray.mk #[62, 62]))), (10, .const (.string (ByteArray.mk #[60]))), (11, .const (.string (ByteArray.mk #[60, 61]))), (12, .const (.string (ByteArray.mk #[62]))), (13, .const (.string (ByteArray.mk #[62, 61]))), (14, .const (.string (ByteArray.mk #[61, 61]))), (15, .const (.string (ByteArray.mk #[33, 61])))]) Tryz.underlying58 t9 rfl (by decide) (by intro _; rfl) rfl (by decide) (by decide) rfl rfl rfl rfl fun v1 => ?_
 refine r_p (p_assign rfl) rfl (r_nil (r_cret ?_))
 refine r_ret v1 trivial rfl (rs1 (rv_tmp rfl)) rfl [1] [] rfl rfl rfl
/-- The contract of the second grower, at a depth. -/
def HGr (d : Nat) : Prop := ∀ (b : Nat) (vl : SV) (l : List Int) (at_ : Nat) (vn : SV) (ns : List ByteArray), ns.length ≤ 1000 → (∀ x ∈ l, okI x) → at_ + 4 ^ d ≤ 1000000 →
 Spec Tryz.prog 47 [.pointer (some ⟨b, 0, none⟩), sv vn, .int .i64 (d : Int)] [row b 109 [sv vl, .int .i64 (at_ : Int)]] [sl 1 eI (sv vl) l, sl 1 eS (sv vn) ns] (X := Tx × Nat) (fun x => KE ns x.1 ∧ nX x.1 + 1 ≤ 2 ^ d ∧ x.2 ≤ at_ + 4 ^ d) (fun x => xV x.1) (fun x => [row b 109 [sv vl, .int .i64 (x.2 : Int)], txA1 x.1]) (fun _ => [])
theorem d1 {d : Nat} (hd : 1 ≤ d) : 4 ≤ 4 ^ d ∧ 2 ≤ 2 ^ d := by
 obtain ⟨e, rfl⟩ : ∃ e, d = e + 1 := ⟨d - 1, by omega⟩
 rw [Nat.pow_succ, Nat.pow_succ]
 have := Nat.pow_pos (n := e) (show 0 < 4 by decide)
 have := Nat.pow_pos (n := e) (show 0 < 2 by decide)
 omega
set_option maxHeartbeats 8000000 in
set_option maxRecDepth 100000 in
theorem gr9_step (d : Nat) (hd : 1 ≤ d) (hd2 : d ≤ 100) (ih : ∀ e, 1 ≤ e → e < d → HGr e) (b : Nat) (vl : SV) (l : List Int) (at_ : Nat) (vn : SV) (ns : List ByteArray) (hnl : ns.length ≤ 1000) (hlo : ∀ x ∈ l, okI x) (hat : at_ + 4 ^ d ≤ 1000000) :
  Spec Tryz.prog 47 [.pointer (some ⟨b, 0, none⟩), sv vn, .int .i64 (d : Int)] [row b 109 [sv vl, .int .i64 (at_ : Int)]] [sl 1 eI (sv vl) l, sl 1 eS (sv vn) ns] (X := Tx × Nat) (fun x => KE ns x.1 ∧ nX x.1 + 1 ≤ 2 ^ d ∧ x.2 ≤ at_ + 4 ^ d) (fun x => xV x.1) (fun x => [row b 109 [sv vl, .int .i64 (x.2 : Int)], txA1 x.1]) (fun _ => []) := by
 refine r_enter Tryz.func47 rfl Tryz.ntmps47 rfl fun w0 M H => ?_
 have hdd := d1 hd
 refine r_seq (r_region ?_)
 refine r_alloc t48 rfl rfl fun b6 => ?_
 refine r_nil (r_seq (r_region (r_p (p_move rfl) rfl ?_)))
 refine r_callN (xs := [.tmp 14, .const (.int .i64 7)]) (take9_spec b vl l at_ (by omega) hlo 7 ⟨by omega, by omega⟩) cb81 [0] [(false, 0)] [0] rfl rfl rfl rfl rfl rfl rfl rfl (fun _ _ => rfl) (fun _ _ _ => rfl) rfl (fun z1 hz1 => ?_)
 refine r_p (p_assign rfl) rfl (r_nil ?_)
 refine r_seq_cut (X := Int) (fun k => 0 ≤ k ∧ k < 7 ∧ ((d : Int) ≤ 1 → k ≤ 1)) (fun k => [(0, .pointer (some ⟨b, 0, none⟩)), (1, sv vn), (2, .int .i64 (d : Int)), (6, .pointer (some ⟨b6, 0, none⟩)), (7, .int .i64 k)]) (fun k => [(0, row b 109 [sv vl, .int .i64 ((at_ + 1 : Nat) : Int)]), (6, row b6 48 [.int .i64 0, .int .u32 0, .string oNil, .slice none 0 0])]) (fun k => [(0, sl 1 eI (sv vl) l), (1, sl 1 eS (sv vn) ns)]) ?_ (fun k hk => ?_)
 ·refine r_seq (r_region (r_p (p_move rfl) rfl ?_))
  refine r_p (p_bin rfl rfl b_le) rfl ?_
  refine r_nil ?_
  refine r_cond rfl (fun h1 => ?_) (fun h1 => ?_)
  ·(try simp only [decide_eq_true_eq, decide_eq_false_iff_not, Bool.and_eq_true, Bool.or_eq_true, Bool.and_eq_false_iff, Bool.or_eq_false_iff, Bool.not_eq_true, Bool.not_eq_false, Bool.not_eq_true', Bool.not_eq_false', Bool.not_not, bne_iff_ne, beq_iff_eq] at h1)
   have hdl : (d : Int) ≤ 1 := h1
   refine r_region (r_p (p_move rfl) rfl ?_)
   refine r_p (p_bin rfl rfl (b_and (and1 hz1.1 hz1.2))) rfl ?_
   refine r_p (p_assign rfl) rfl (r_nil ?_)
   refine r_here (z1 % 2) ⟨by omega, by omega, fun _ => by omega⟩ rfl rfl rfl
  ·(try simp only [decide_eq_true_eq, decide_eq_false_iff_not, Bool.and_eq_true, Bool.or_eq_true, Bool.and_eq_false_iff, Bool.or_eq_false_iff, Bool.not_eq_true, Bool.not_eq_false, Bool.not_eq_true', Bool.not_eq_false', Bool.not_not, bne_iff_ne, beq_iff_eq] at h1)
   have hdl : ¬ (d : Int) ≤ 1 := by omega
   refine r_skip ?_
   refine r_here z1 ⟨hz1.1, hz1.2, fun h => by omega⟩ rfl rfl rfl
 ·refine r_seq (r_seq (r_region (r_p (p_move rfl) rfl (r_nil (r_block (r_seq (r_seq (r_region ?_))))))))
  refine r_p (p_bin rfl rfl b_eq) rfl ?_
  refine r_p (p_assign rfl) rfl (r_nil ?_)
  refine r_cond rfl (fun h2 => ?_) (fun h2 => ?_)
  ·have w0 : k = 0 := of_decide_eq_true h2
   refine r_skip ?_
   refine r_cond rfl (fun h3 => ?_) (fun h3 => ?_)
   ·(try simp only [decide_eq_true_eq, decide_eq_false_iff_not, Bool.and_eq_true, Bool.or_eq_true, Bool.and_eq_false_iff, Bool.or_eq_false_iff, Bool.not_eq_true, Bool.not_eq_false, Bool.not_eq_true', Bool.not_eq_false', Bool.not_not, bne_iff_ne, beq_iff_eq] at h3)
    refine r_seq (r_region (r_p (p_move rfl) rfl ?_))
    refine r_callN (xs := [.tmp 24, .const (.int .i64 65536)]) (take9_spec b vl l (at_ + 1) (by omega) hlo 65536 ⟨by omega, by omega⟩) cb81 [0] [(false, 0)] [0] rfl rfl rfl rfl rfl rfl rfl rfl (fun _ _ => rfl) (fun _ _ _ => rfl) rfl (fun z2 hz2 => ?_)
    refine r_p (p_conv Tryz.underlying3 Tryz.underlying36 rfl (by first | exact w_u32 (by omega) (by omega) | rfl)) rfl ?_
    refine r_p (p_assign rfl) rfl (r_nil (r_seq (r_seq (r_region (r_p (p_move rfl) rfl ?_)))))
    refine r_p (p_bin rfl rfl (b_and rfl)) rfl ?_
    refine r_p (p_bin rfl rfl b_eq) rfl ?_
    refine r_nil ?_
    refine r_cond rfl (fun h4 => ?_) (fun h4 => ?_)
    ·(try simp only [decide_eq_true_eq, decide_eq_false_iff_not, Bool.and_eq_true, Bool.or_eq_true, Bool.and_eq_false_iff, Bool.or_eq_false_iff, Bool.not_eq_true, Bool.not_eq_false, Bool.not_eq_true', Bool.not_eq_false', Bool.not_not, bne_iff_ne, beq_iff_eq] at h4)
     refine r_region (r_p (p_move rfl) rfl ?_)
     refine r_p (p_bin rfl rfl (b_mul rfl)) rfl ?_
     refine r_p (p_assign rfl) rfl (r_nil (r_seq (r_region (r_p (p_move rfl) rfl (r_p (p_move rfl) rfl ?_)))))
     refine r_p (p_bin rfl rfl (b_and (and3 (by first | exact oW_wU _ | exact ⟨by omega, by omega⟩)))) rfl ?_
     refine r_p (p_bin rfl rfl (b_mul (by first | exact w_u32 (by omega) (by omega) | rfl))) rfl ?_
     refine r_p (p_conv Tryz.underlying36 Tryz.underlying135 rfl (by first | exact w_u64 (by omega) (by omega) | rfl)) rfl ?_
     refine r_p (p_bin rfl rfl (b_shr (by omega) (by first | decide | (simp [IntKind.bits]; omega)) rfl)) rfl ?_
     refine r_p (p_build (parts := [(0, .const (.int .i64 1)), (1, .tmp 37)]) t48 pl48 rfl rfl) rfl ?_
     refine r_store_all (k := 6) t48 rfl rfl rfl rfl rfl rfl ?_
     refine r_nil (r_cret ?_)
     refine r_collect 60 [] (L := []) (C := txA1 (.mk 1 (((IntKind.u32.wrap (z2 * 2654435761)) / 2 ^ (IntKind.u32.wrap (z2 * 2654435761) % 4 * 4).toNat)) oNil nilS [])) rfl (fun w F _ => show TxIn w F (.mk 1 (((IntKind.u32.wrap (z2 * 2654435761)) / 2 ^ (IntKind.u32.wrap (z2 * 2654435761) % 4 * 4).toNat)) oNil nilS []) from tx0) ?_
     refine r_ret ((.mk 1 (((IntKind.u32.wrap (z2 * 2654435761)) / 2 ^ (IntKind.u32.wrap (z2 * 2654435761) % 4 * 4).toNat)) oNil nilS []), at_ + 1 + 1) ⟨.num _ (oW_shr (oW_wU _) _), by show 1 + 1 ≤ 2 ^ d; omega, by dsimp only; omega⟩ rfl (rs1 (rv_cellA t48 rfl rfl rfl (g_all (k := 6) rfl))) rfl [0, 60] [] rfl rfl rfl
    ·(try simp only [decide_eq_true_eq, decide_eq_false_iff_not, Bool.and_eq_true, Bool.or_eq_true, Bool.and_eq_false_iff, Bool.or_eq_false_iff, Bool.not_eq_true, Bool.not_eq_false, Bool.not_eq_true', Bool.not_eq_false', Bool.not_not, bne_iff_ne, beq_iff_eq] at h4)
     refine r_skip (r_seq (r_region (r_p (p_move rfl) rfl (r_p (p_move rfl) rfl ?_))))
     refine r_p (p_bin rfl rfl (b_and (and3 (by first | exact oW_wU _ | exact ⟨by omega, by omega⟩)))) rfl ?_
     refine r_p (p_bin rfl rfl (b_mul (by first | exact w_u32 (by omega) (by omega) | rfl))) rfl ?_
     refine r_p (p_conv Tryz.underlying36 Tryz.underlying135 rfl (by first | exact w_u64 (by omega) (by omega) | rfl)) rfl ?_
     refine r_p (p_bin rfl rfl (b_shr (by omega) (by first | decide | (simp [IntKind.bits]; omega)) rfl)) rfl ?_
     refine r_p (p_build (parts := [(0, .const (.int .i64 1)), (1, .tmp 37)]) t48 pl48 rfl rfl) rfl ?_
     refine r_store_all (k := 6) t48 rfl rfl rfl rfl rfl rfl ?_
     refine r_nil (r_cret ?_)
     refine r_collect 60 [] (L := []) (C := txA1 (.mk 1 (z2 / 2 ^ (z2 % 4 * 4).toNat) oNil nilS [])) rfl (fun w F _ => show TxIn w F (.mk 1 (z2 / 2 ^ (z2 % 4 * 4).toNat) oNil nilS []) from tx0) ?_
     refine r_ret ((.mk 1 (z2 / 2 ^ (z2 % 4 * 4).toNat) oNil nilS []), at_ + 1 + 1) ⟨.num _ (oW_shr ⟨by omega, by omega⟩ _), by show 1 + 1 ≤ 2 ^ d; omega, by dsimp only; omega⟩ rfl (rs1 (rv_cellA t48 rfl rfl rfl (g_all (k := 6) rfl))) rfl [0, 60] [] rfl rfl rfl
   ·exact absurd (decide_eq_true w0) (by rw [h3]; simp)
  ·have w0 : ¬ k = 0 := of_decide_eq_false h2
   refine r_region ?_
   refine r_p (p_bin rfl rfl b_eq) rfl ?_
   refine r_p (p_assign rfl) rfl (r_nil ?_)
   refine r_cond rfl (fun h5 => ?_) (fun h5 => ?_)
   ·have w6 : k = 6 := of_decide_eq_true h5
    refine r_seq (r_region (r_p (p_move rfl) rfl ?_))
    refine r_callN (xs := [.tmp 24, .const (.int .i64 65536)]) (take9_spec b vl l (at_ + 1) (by omega) hlo 65536 ⟨by omega, by omega⟩) cb81 [0] [(false, 0)] [0] rfl rfl rfl rfl rfl rfl rfl rfl (fun _ _ => rfl) (fun _ _ _ => rfl) rfl (fun z2 hz2 => ?_)
    refine r_p (p_conv Tryz.underlying3 Tryz.underlying36 rfl (by first | exact w_u32 (by omega) (by omega) | rfl)) rfl ?_
    refine r_p (p_assign rfl) rfl (r_nil (r_seq (r_seq (r_region (r_p (p_move rfl) rfl ?_)))))
    refine r_p (p_bin rfl rfl (b_and rfl)) rfl ?_
    refine r_p (p_bin rfl rfl b_eq) rfl ?_
    refine r_nil ?_
    refine r_cond rfl (fun h6 => ?_) (fun h6 => ?_)
    ·(try simp only [decide_eq_true_eq, decide_eq_false_iff_not, Bool.and_eq_true, Bool.or_eq_true, Bool.and_eq_false_iff, Bool.or_eq_false_iff, Bool.not_eq_true, Bool.not_eq_false, Bool.not_eq_true', Bool.not_eq_false', Bool.not_not, bne_iff_ne, beq_iff_eq] at h6)
     refine r_region (r_p (p_move rfl) rfl ?_)
     refine r_p (p_bin rfl rfl (b_mul rfl)) rfl ?_
     refine r_p (p_assign rfl) rfl (r_nil (r_seq (r_region (r_p (p_move rfl) rfl (r_p (p_move rfl) rfl ?_)))))
     refine r_p (p_bin rfl rfl (b_and (and3 (by first | exact oW_wU _ | exact ⟨by omega, by omega⟩)))) rfl ?_
     refine r_p (p_bin rfl rfl (b_mul (by first | exact w_u32 (by omega) (by omega) | rfl))) rfl ?_
     refine r_p (p_conv Tryz.underlying36 Tryz.underlying135 rfl (by first | exact w_u64 (by omega) (by omega) | rfl)) rfl ?_
     refine r_p (p_bin rfl rfl (b_shr (by omega) (by first | decide | (simp [IntKind.bits]; omega)) rfl)) rfl ?_
     refine r_p (p_build (parts := [(0, .const (.int .i64 1)), (1, .tmp 37)]) t48 pl48 rfl rfl) rfl ?_
     refine r_store_all (k := 6) t48 rfl rfl rfl rfl rfl rfl ?_
     refine r_nil (r_cret ?_)
     refine r_collect 60 [] (L := []) (C := txA1 (.mk 1 (((IntKind.u32.wrap (z2 * 2654435761)) / 2 ^ (IntKind.u32.wrap (z2 * 2654435761) % 4 * 4).toNat)) oNil nilS [])) rfl (fun w F _ => show TxIn w F (.mk 1 (((IntKind.u32.wrap (z2 * 2654435761)) / 2 ^ (IntKind.u32.wrap (z2 * 2654435761) % 4 * 4).toNat)) oNil nilS []) from tx0) ?_
     refine r_ret ((.mk 1 (((IntKind.u32.wrap (z2 * 2654435761)) / 2 ^ (IntKind.u32.wrap (z2 * 2654435761) % 4 * 4).toNat)) oNil nilS []), at_ + 1 + 1) ⟨.num _ (oW_shr (oW_wU _) _), by show 1 + 1 ≤ 2 ^ d; omega, by dsimp only; omega⟩ rfl (rs1 (rv_cellA t48 rfl rfl rfl (g_all (k := 6) rfl))) rfl [0, 60] [] rfl rfl rfl
    ·(try simp only [decide_eq_true_eq, decide_eq_false_iff_not, Bool.and_eq_true, Bool.or_eq_true, Bool.and_eq_false_iff, Bool.or_eq_false_iff, Bool.not_eq_true, Bool.not_eq_false, Bool.not_eq_true', Bool.not_eq_false', Bool.not_not, bne_iff_ne, beq_iff_eq] at h6)
     refine r_skip (r_seq (r_region (r_p (p_move rfl) rfl (r_p (p_move rfl) rfl ?_))))
     refine r_p (p_bin rfl rfl (b_and (and3 (by first | exact oW_wU _ | exact ⟨by omega, by omega⟩)))) rfl ?_
     refine r_p (p_bin rfl rfl (b_mul (by first | exact w_u32 (by omega) (by omega) | rfl))) rfl ?_
     refine r_p (p_conv Tryz.underlying36 Tryz.underlying135 rfl (by first | exact w_u64 (by omega) (by omega) | rfl)) rfl ?_
     refine r_p (p_bin rfl rfl (b_shr (by omega) (by first | decide | (simp [IntKind.bits]; omega)) rfl)) rfl ?_
     refine r_p (p_build (parts := [(0, .const (.int .i64 1)), (1, .tmp 37)]) t48 pl48 rfl rfl) rfl ?_
     refine r_store_all (k := 6) t48 rfl rfl rfl rfl rfl rfl ?_
     refine r_nil (r_cret ?_)
     refine r_collect 60 [] (L := []) (C := txA1 (.mk 1 (z2 / 2 ^ (z2 % 4 * 4).toNat) oNil nilS [])) rfl (fun w F _ => show TxIn w F (.mk 1 (z2 / 2 ^ (z2 % 4 * 4).toNat) oNil nilS []) from tx0) ?_
     refine r_ret ((.mk 1 (z2 / 2 ^ (z2 % 4 * 4).toNat) oNil nilS []), at_ + 1 + 1) ⟨.num _ (oW_shr ⟨by omega, by omega⟩ _), by show 1 + 1 ≤ 2 ^ d; omega, by dsimp only; omega⟩ rfl (rs1 (rv_cellA t48 rfl rfl rfl (g_all (k := 6) rfl))) rfl [0, 60] [] rfl rfl rfl
   ·have w6 : ¬ k = 6 := of_decide_eq_false h5
    refine r_seq (r_region ?_)
    refine r_p (p_bin rfl rfl b_eq) rfl ?_
    refine r_p (p_assign rfl) rfl (r_nil ?_)
    refine r_cond rfl (fun h7 => ?_) (fun h7 => ?_)
    ·have w1 : k = 1 := of_decide_eq_true h7
     refine r_seq (r_seq (r_region (r_p (p_move rfl) rfl ?_)))
     refine r_p (p_len_sl Tryz.underlying58 rfl (hs_sl (k := 1) rfl)) rfl ?_
     refine r_p (p_bin rfl rfl b_eq) rfl ?_
     refine r_nil ?_
     refine r_cond rfl (fun h8 => ?_) (fun h8 => ?_)
     ·(try simp only [decide_eq_true_eq, decide_eq_false_iff_not, Bool.and_eq_true, Bool.or_eq_true, Bool.and_eq_false_iff, Bool.or_eq_false_iff, Bool.not_eq_true, Bool.not_eq_false, Bool.not_eq_true', Bool.not_eq_false', Bool.not_not, bne_iff_ne, beq_iff_eq] at h8)
      have hn0 : ns.length = 0 := by omega
      refine r_seq (r_region (r_p (p_move rfl) rfl ?_))
      refine r_callN (xs := [.tmp 44, .const (.int .i64 40)]) (take9_spec b vl l (at_ + 1) (by omega) hlo 40 ⟨by omega, by omega⟩) cb81 [0] [(false, 0)] [0] rfl rfl rfl rfl rfl rfl rfl rfl (fun _ _ => rfl) (fun _ _ _ => rfl) rfl (fun z3 hz3 => ?_)
      refine r_p (p_conv Tryz.underlying3 Tryz.underlying36 rfl (by first | exact w_u32 (by omega) (by omega) | rfl)) rfl ?_
      refine r_p (p_build (parts := [(0, .const (.int .i64 1)), (1, .tmp 46)]) t48 pl48 rfl rfl) rfl ?_
      refine r_store_all (k := 6) t48 rfl rfl rfl rfl rfl rfl ?_
      refine r_nil (r_cret ?_)
      refine r_collect 60 [] (L := []) (C := txA1 (.mk 1 z3 oNil nilS [])) rfl (fun w F _ => show TxIn w F (.mk 1 z3 oNil nilS []) from tx0) ?_
      refine r_ret ((.mk 1 z3 oNil nilS []), at_ + 1 + 1) ⟨.num _ ⟨by omega, by omega⟩, by show 1 + 1 ≤ 2 ^ d; omega, by dsimp only; omega⟩ rfl (rs1 (rv_cellA t48 rfl rfl rfl (g_all (k := 6) rfl))) rfl [0, 60] [] rfl rfl rfl
     ·(try simp only [decide_eq_true_eq, decide_eq_false_iff_not, Bool.and_eq_true, Bool.or_eq_true, Bool.and_eq_false_iff, Bool.or_eq_false_iff, Bool.not_eq_true, Bool.not_eq_false, Bool.not_eq_true', Bool.not_eq_false', Bool.not_not, bne_iff_ne, beq_iff_eq] at h8)
      have hn0 : 0 < ns.length := by omega
      refine r_skip (r_seq (r_region (r_p (p_move rfl) rfl (r_p (p_move rfl) rfl (r_p (p_move rfl) rfl ?_)))))
      refine r_p (p_len_sl Tryz.underlying58 rfl (hs_sl (k := 1) rfl)) rfl ?_
      refine r_callN (xs := [.tmp 49, .tmp 51]) (take9_spec b vl l (at_ + 1) (by omega) hlo (ns.length : Int) ⟨by omega, by omega⟩) cb81 [0] [(false, 0)] [0] rfl rfl rfl rfl rfl rfl rfl rfl (fun _ _ => rfl) (fun _ _ _ => rfl) rfl (fun z4 hz4 => ?_)
      obtain ⟨y, hy⟩ : ∃ y, ns[z4.toNat]? = some y := ⟨_, List.getElem?_eq_getElem (by omega)⟩
      have hym := List.mem_of_getElem? hy
      refine r_p (p_idx_sl (j := z4.toNat) Tryz.underlying58 t9 rfl rfl (hs_sl (k := 1) rfl) (by omega) (by omega)) rfl ?_
      refine r_p (p_load1 t9 rfl rfl (g_el' (hs_sl (k := 1) rfl) (by intro _; rfl) hy (by rfl))) rfl ?_
      refine r_p (p_build (parts := [(0, .const (.int .i64 2)), (2, .tmp 54)]) t48 pl48 rfl rfl) rfl ?_
      refine r_store_all (k := 6) t48 rfl rfl rfl rfl rfl rfl ?_
      refine r_nil (r_cret ?_)
      refine r_collect 60 [] (L := []) (C := txA1 (.mk 2 0 y nilS [])) rfl (fun w F _ => show TxIn w F (.mk 2 0 y nilS []) from tx0) ?_
      refine r_ret ((.mk 2 0 y nilS []), at_ + 1 + 1) ⟨.name y hym, by show 1 + 1 ≤ 2 ^ d; omega, by dsimp only; omega⟩ rfl (rs1 (rv_cellA t48 rfl rfl rfl (g_all (k := 6) rfl))) rfl [0, 60] [] rfl rfl rfl
    ·have w1 : ¬ k = 1 := of_decide_eq_false h7
     have hdl : ¬ (d : Int) ≤ 1 := fun h => by have := hk.2.2 h; omega
     obtain ⟨e, he⟩ : ∃ e, d = e + 1 := ⟨d - 1, by omega⟩
     have hp4 : 4 ^ d = 4 * 4 ^ (d - 1) := by rw [he, Nat.pow_succ, Nat.mul_comm]; rfl
     have hp2 : 2 ^ d = 2 * 2 ^ (d - 1) := by rw [he, Nat.pow_succ, Nat.mul_comm]; rfl
     have hde : (d : Int) - 1 = ((d - 1 : Nat) : Int) := by omega
     have hd1 := d1 (d := d - 1) (by omega)
     refine r_seq (r_region ?_)
     refine r_p (p_bin rfl rfl b_eq) rfl ?_
     refine r_p (p_assign rfl) rfl (r_nil ?_)
     refine r_cond rfl (fun h9 => ?_) (fun h9 => ?_)
     ·have w2 : k = 2 := of_decide_eq_true h9
      refine r_seq (r_region ?_)
      refine r_callN (xs := []) signs_spec cb82 [] [] [58] rfl rfl rfl rfl rfl rfl rfl rfl (fun _ _ => rfl) (fun _ _ _ => rfl) rfl (fun v58 _ => ?_)
      refine r_p (p_assign rfl) rfl (r_nil (r_seq ?_))
      refine r_draw [59, 60, 61, 62, 63, 64, 65, 66, 67, 68, 69, 70, 71, 72] _ rfl (stg_mem (V := [(0, 59, _), (1, 60, _), (2, 61, _), (3, 62, _), (7, 66, _), (8, 67, _), (9, 68, _), (10, 69, _)]) [0, 1, 2, 3, 7, 8, 9, 10] 4 [4, 3, 2, 1] [5, 6] (fun v63 => [(5, 64, _), (6, 65, _)]) rfl rfl (prs_cons (pri rfl (p_move rfl)) (prs_cons (pri rfl (p_move rfl)) (prs_cons (pri rfl (p_move rfl)) (prs_cons (pri rfl (p_len_sl Tryz.underlying58 rfl (hs_own (k := 58) rfl))) (prs_cons (pri rfl (p_move rfl)) (prs_cons (pri rfl (p_move rfl)) (prs_cons (pri rfl (p_move rfl)) (prs_cons (pri rfl (p_bin rfl rfl (b_sub (c := ((d - 1 : Nat) : Int)) (by rw [hde]; exact w_i64 (by omega) (by omega))))) prs_nil)))))))) rfl rfl rfl rfl rfl rfl rfl rfl rfl rfl rfl (fun _ _ => rfl) rfl (ms_callN (xs := [.tmp 60, .tmp 62]) (take9_spec b vl l (at_ + 1) (by omega) hlo 3 (by omega)) cb81 [0] [(false, 0)] [0] rfl rfl rfl rfl rfl rfl rfl rfl (fun _ _ => rfl) (fun _ _ _ => rfl)) (fun v63 hv63 => stg_mem [5, 6, 0, 7, 8, 9, 10] 11 [11, 10, 9, 8, 7, 4, 3, 2, 1] [] (fun x70 => []) rfl rfl (prs_cons (pri rfl (p_idx_sl (j := v63.toNat) Tryz.underlying58 t9 rfl rfl (hs_own (k := 58) rfl) (by omega) (by show _ < 3; omega))) (prs_cons (pri rfl (p_load1 t9 rfl rfl (g_el' (hs_own (k := 58) rfl) (by intro _; rfl) (sg_at hv63) (by rfl)))) (prs_cons (pri rfl (p_move rfl)) (prs_cons (pri rfl (p_move rfl)) (prs_cons (pri rfl (p_move rfl)) (prs_cons (pri rfl (p_move rfl)) (prs_cons (pri rfl (p_bin rfl rfl (b_sub (c := ((d - 1 : Nat) : Int)) (by rw [hde]; exact w_i64 (by omega) (by omega))))) prs_nil))))))) rfl rfl rfl rfl rfl rfl rfl rfl rfl rfl rfl (fun _ _ => rfl) rfl (ms_callN (xs := [.tmp 66, .tmp 67, .tmp 69]) (ih (d - 1) (by omega) (by omega) b vl l (at_ + 1 + 1) vn ns hnl hlo (by omega)) cb47 [0] [(false, 0), (false, 1)] [0, 60] rfl rfl rfl rfl rfl rfl rfl rfl (fun _ _ => rfl) (fun _ _ _ => rfl)) (fun x70 hx70 => stg_mem [5, 6, 0] 12 [12, 11, 10, 9, 8, 7, 4, 3, 2, 1] [13] (fun v71 => [(13, 72, _)]) rfl rfl (prs_cons (pri rfl (p_idx_sl (j := v63.toNat) Tryz.underlying58 t9 rfl rfl (hs_own (k := 58) rfl) (by omega) (by show _ < 3; omega))) (prs_cons (pri rfl (p_load1 t9 rfl rfl (g_el' (hs_own (k := 58) rfl) (by intro _; rfl) (sg_at hv63) (by rfl)))) (prs_cons (pri rfl (p_move rfl)) prs_nil))) rfl rfl rfl rfl rfl rfl rfl rfl rfl rfl rfl (fun _ _ => rfl) rfl (ms_bslice1 eTx x70.1 Tryz.underlying46 t48 rfl (by decide) (by decide) rfl rfl rfl) (fun v71 _ => stg_mem0 [13, 5, 6, 0] 14 [14, 13, 12, 11, 10, 9, 8, 7, 6, 5, 4, 3, 2, 1, 0] [] (fun _ => []) rfl rfl (prs_cons (pri rfl (p_build (parts := [(0, .const (.int .i64 6)), (2, .tmp 65), (3, .tmp 71)]) t48 pl48 rfl rfl)) (prs_cons (pri rfl (p_idx_sl (j := v63.toNat) Tryz.underlying58 t9 rfl rfl (hs_own (k := 58) rfl) (by omega) (by show _ < 3; omega))) (prs_cons (pri rfl (p_load1 t9 rfl rfl (g_el' (hs_own (k := 58) rfl) (by intro _; rfl) (sg_at hv63) (by rfl)))) (prs_cons (pri rfl (p_move rfl)) prs_nil)))) rfl rfl rfl rfl rfl rfl rfl rfl rfl (fun _ _ => rfl) rfl (ms_store_all (k := 6) t48 rfl rfl rfl rfl rfl rfl) (fun _ _ => stg_end [] rfl rfl prs_nil rfl rfl rfl ?_)))))
      refine r_cret ?_
      refine r_collect 61 [60, 71] (L := [txA1 x70.1, own 48 4 eTx (sv v71) [x70.1]]) (C := txA1 (.mk 6 0 (sgL.getD v63.toNat oNil) v71 [x70.1])) rfl (fun w F h => by
       obtain ⟨⟨_, a0, b0⟩, ⟨_, a1, b1⟩, _⟩ := h
       exact ⟨own_in a1 b1, TxIn.mono b0 (fun _ _ => rfl) _ a0, trivial⟩) ?_
      refine r_ret (.mk 6 0 (sgL.getD v63.toNat oNil) v71 [x70.1], x70.2) ⟨.un _ v71 _ (sg_mem hv63) hx70.1, by have := hx70.2.1; show nX x70.1 + 0 + 1 + 1 ≤ _; omega, by have := hx70.2.2; dsimp only; omega⟩ rfl (rs1 (rv_cellA t48 rfl rfl rfl (g_all (k := 6) rfl))) rfl [0, 61] [] rfl rfl rfl
     ·have w2 : ¬ k = 2 := of_decide_eq_false h9
      refine r_skip (r_seq (r_region ?_))
      refine r_callN (xs := []) operators_spec cb83 [] [] [73] rfl rfl rfl rfl rfl rfl rfl rfl (fun _ _ => rfl) (fun _ _ _ => rfl) rfl (fun v73 _ => ?_)
      refine r_p (p_assign rfl) rfl (r_nil (r_seq (r_region (r_p (p_move rfl) rfl (r_p (p_move rfl) rfl (r_p (p_move rfl) rfl ?_))))))
      refine r_p (p_len_sl Tryz.underlying58 rfl (hs_own (k := 73) rfl)) rfl ?_
      refine r_callN (xs := [.tmp 75, .tmp 77]) (take9_spec b vl l (at_ + 1) (by omega) hlo 16 ⟨by omega, by omega⟩) cb81 [0] [(false, 0)] [0] rfl rfl rfl rfl rfl rfl rfl rfl (fun _ _ => rfl) (fun _ _ _ => rfl) rfl (fun z5 hz5 => ?_)
      obtain ⟨op, hop0⟩ : ∃ op, opL[z5.toNat]? = some op := ⟨_, List.getElem?_eq_getElem (by show _ < 16; omega)⟩
      have hop := List.mem_of_getElem? hop0
      refine r_p (p_idx_sl (j := z5.toNat) Tryz.underlying58 t9 rfl rfl (hs_own (k := 73) rfl) (by omega) (by show _ < 16; omega)) rfl ?_
      refine r_p (p_load1 t9 rfl rfl (g_el' (hs_own (k := 73) rfl) (by intro _; rfl) hop0 (by rfl))) rfl ?_
      refine r_p (p_assign rfl) rfl (r_nil (r_seq (r_region (r_p (p_move rfl) rfl (r_p (p_move rfl) rfl (r_p (p_move rfl) rfl ?_))))))
      refine r_p (p_bin rfl rfl (b_sub (c := ((d - 1 : Nat) : Int)) (by rw [hde]; exact w_i64 (by omega) (by omega)))) rfl ?_
      refine r_callN (xs := [.tmp 81, .tmp 82, .tmp 84]) (ih (d - 1) (by omega) (by omega) b vl l (at_ + 1 + 1) vn ns hnl hlo (by omega)) cb47 [0] [(false, 0), (false, 1)] [0, 60] rfl rfl rfl rfl rfl rfl rfl rfl (fun _ _ => rfl) (fun _ _ _ => rfl) rfl (fun ⟨ta, at1⟩ hta => ?_)
      dsimp only at hta ⊢
      refine r_alloc t48 rfl rfl fun b12 => ?_
      refine r_store_all (k := 12) t48 rfl rfl rfl rfl rfl rfl ?_
      refine r_nil (r_seq (r_region (r_p (p_move rfl) rfl (r_p (p_move rfl) rfl (r_p (p_move rfl) rfl ?_)))))
      refine r_p (p_bin rfl rfl (b_sub (c := ((d - 1 : Nat) : Int)) (by rw [hde]; exact w_i64 (by omega) (by omega)))) rfl ?_
      refine r_callN (xs := [.tmp 86, .tmp 87, .tmp 89]) (ih (d - 1) (by omega) (by omega) b vl l at1 vn ns hnl hlo (by omega)) cb47 [0] [(false, 0), (false, 1)] [0, 62] rfl rfl rfl rfl rfl rfl rfl rfl (fun _ _ => rfl) (fun _ _ _ => rfl) rfl (fun ⟨tb, at2⟩ htb => ?_)
      dsimp only at htb ⊢
      refine r_alloc t48 rfl rfl fun b13 => ?_
      refine r_store_all (k := 13) t48 rfl rfl rfl rfl rfl rfl ?_
      refine r_nil (r_seq (r_region (r_p (p_move rfl) rfl ?_)))
      refine r_p (p_loadA t48 rfl rfl rfl (g_all (k := 12) rfl)) rfl ?_
      refine r_p (p_loadA t48 rfl rfl rfl (g_all (k := 13) rfl)) rfl ?_
      refine r_bslice eTx [ta, tb] (parts := [(0, .tmp 92), (1, .tmp 93)]) Tryz.underlying46 t48 rfl (by decide) (by intro _; rfl) rfl (by decide) (by decide) rfl rfl rfl rfl fun v94 => ?_
      refine r_p (p_build (parts := [(0, .const (.int .i64 7)), (2, .tmp 91), (3, .tmp 94)]) t48 pl48 rfl rfl) rfl ?_
      refine r_store_all (k := 6) t48 rfl rfl rfl rfl rfl rfl ?_
      refine r_nil (r_cret ?_)
      refine r_collect 61 [60, 62, 94] (L := [txA1 ta, txA1 tb, own 48 4 eTx (sv v94) [ta, tb]]) (C := txA1 (.mk 7 0 op v94 [ta, tb])) rfl (fun w F h => by
       obtain ⟨⟨_, a0, b0⟩, ⟨_, a1, b1⟩, ⟨_, a2, b2⟩, _⟩ := h
       exact ⟨own_in a2 b2, TxIn.mono b0 (fun _ _ => rfl) _ a0, TxIn.mono b1 (fun _ _ => rfl) _ a1, trivial⟩) ?_
      refine r_ret (.mk 7 0 op v94 [ta, tb], at2) ⟨.bin op v94 _ _ hop hta.1 htb.1, by have := hta.2.1; have := htb.2.1; dsimp only at *; show nX ta + (nX tb + 0) + 1 + 1 ≤ _; omega, by have := hta.2.2; have := htb.2.2; dsimp only at *; omega⟩ rfl (rs1 (rv_cellA t48 rfl rfl rfl (g_all (k := 6) rfl))) rfl [0, 61] [] rfl rfl rfl
theorem gr9_all : ∀ (n d : Nat), d ≤ n → 1 ≤ d → d ≤ 100 → HGr d
 | 0, d, h, h1, _ => by omega
 | n + 1, d, h, h1, h2 => fun b vl l at_ vn ns hnl hlo hat => gr9_step d h1 h2 (fun e he1 he2 => gr9_all n e (by omega) he1 (by omega)) b vl l at_ vn ns hnl hlo hat
set_option maxRecDepth 100000 in
theorem expr9_spec (vl : SV) (l : List Int) (hlo : ∀ x ∈ l, okI x) (vn : SV) (ns : List ByteArray) (hnl : ns.length ≤ 1000) (d : Nat) (hd : 1 ≤ d) (hd2 : d ≤ 8) :
  Spec Tryz.prog 17 [sv vl, sv vn, .int .i64 (d : Int)] [] [sl 1 eI (sv vl) l, sl 1 eS (sv vn) ns] (X := Tx) (fun t => KE ns t ∧ nX t + 1 ≤ 2 ^ d) (fun t => xV t) (fun t => [txA1 t]) (fun _ => []) := by
 refine r_enter Tryz.func17 rfl Tryz.ntmps17 rfl fun w0 M H => ?_
 refine r_seq (r_region ?_)
 refine r_alloc t48 rfl rfl fun b6 => ?_
 refine r_nil (r_seq (r_region (r_p (p_move rfl) rfl ?_)))
 refine r_p (p_build (parts := [(0, .tmp 8)]) t109 pl109 rfl rfl) rfl ?_
 refine r_boxA rfl rfl fun b10 => ?_
 refine r_p (p_assign rfl) rfl (r_nil (r_seq (r_region (r_p (p_move rfl) rfl (r_p (p_move rfl) rfl (r_p (p_move rfl) rfl ?_))))))
 have hp8 : 4 ^ d ≤ 4 ^ 8 := Nat.pow_le_pow_right (by decide) hd2
 have hp9 : (4 : Nat) ^ 8 = 65536 := by decide
 refine r_callN (xs := [.tmp 11, .tmp 12, .tmp 13]) (gr9_all d d (Nat.le_refl d) hd (by omega) b10 vl l 0 vn ns hnl hlo (by omega)) cb47 [10] [(false, 0), (false, 1)] [10, 60] rfl rfl rfl rfl rfl rfl rfl rfl (fun _ _ => rfl) (fun _ _ _ => rfl) rfl (fun x hx => ?_)
 refine r_store_all (k := 6) t48 rfl rfl rfl rfl rfl rfl ?_
 refine r_nil (r_cret ?_)
 refine r_ret x.1 ⟨hx.1, hx.2.1⟩ rfl (rs1 (rv_cellA t48 rfl rfl rfl (g_all (k := 6) rfl))) rfl [60] [] rfl rfl rfl
set_option maxHeartbeats 2000000 in
set_option maxRecDepth 100000 in
theorem size_step (t : Tx) (hn : nX t ≤ 1000000) (hkl : t.kids.length ≤ 1000000) (ih : ∀ u ∈ t.kids, HSi u) :
  Spec Tryz.prog 20 [xV t] [] [txsA t.v t.kids] (X := Unit) (fun _ => True) (fun _ => .int .i64 (nX t : Int)) (fun _ => []) (fun _ => []) := by
 refine r_enter Tryz.func20 rfl Tryz.ntmps20 rfl fun w0 M H => ?_
 refine r_more 0 1 rfl txs_sl ?_
 obtain ⟨hn1, hn2⟩ := nX_def t
 refine r_seq (r_region ?_)
 refine r_boxA rfl rfl fun b1 => ?_
 refine r_p (p_assign rfl) rfl (r_nil (r_seq (r_region (r_p (p_assign rfl) rfl (r_nil (r_seq (r_seq (r_region ?_))))))))
 refine r_p (p_field0 fo48_3 rfl) rfl ?_
 refine r_p (p_load1 t46 rfl rfl (g_row1 (k := 1) rfl rfl)) rfl ?_
 refine r_p (p_len_sl Tryz.underlying46 rfl (hs_sl (k := 1) rfl)) rfl ?_
 refine r_p (p_move rfl) rfl (r_nil (r_block ?_))
 refine r_loop (X := Nat) (fun i => i ≤ t.kids.length) (fun i => [(1, .pointer (some ⟨b1, 0, none⟩)), (3, .int .i64 (1 + (nXs (t.kids.take i) : Int))), (7, sv t.v), (8, .int .i64 (t.kids.length : Int)), (9, .int .i64 (i : Int))]) (fun i => [(1, row b1 48 (eTx t))]) (fun i => [(0, txsA t.v t.kids), (1, sl 4 eTx (sv t.v) t.kids)]) (fun i => t.kids.length - i) 0 (Nat.zero_le _) rfl rfl rfl (fun i n1 => ?_)
 refine r_seq (r_region ?_)
 refine r_p (p_bin rfl rfl b_lt) rfl ?_
 refine r_nil (r_seq ?_)
 refine r_cond rfl (fun h1 => ?_) (fun h1 => ?_)
 ·(try simp only [decide_eq_true_eq, decide_eq_false_iff_not, Bool.and_eq_true, Bool.or_eq_true, Bool.and_eq_false_iff, Bool.or_eq_false_iff, Bool.not_eq_true, Bool.not_eq_false, Bool.not_eq_true', Bool.not_eq_false', Bool.not_not, bne_iff_ne, beq_iff_eq] at h1)
  have hi : i < t.kids.length := by omega
  obtain ⟨u, hu⟩ : ∃ u, t.kids[i]? = some u := ⟨_, List.getElem?_eq_getElem hi⟩
  have hum := List.mem_of_getElem? hu
  refine r_more 0 7 rfl (txs_kid hum) ?_
  have hle := nXs_le t.kids (i + 1)
  rw [nXs_take hu] at hle
  refine r_skip (r_seq (r_block (r_seq (r_region ?_))))
  refine r_p (p_idx_sl (j := i) Tryz.underlying46 t48 rfl rfl (hs_sl (k := 1) rfl) (by first | rfl | omega) (by first | omega | (simp; done) | (simp; omega))) rfl ?_
  refine r_p (p_loadA t48 rfl rfl rfl (g_el' (hs_sl (k := 1) rfl) (by intro _; rfl) hu (by rfl))) rfl ?_
  refine r_alloc t48 rfl rfl fun b5 => ?_
  refine r_store_all (k := 5) t48 rfl rfl rfl rfl rfl rfl ?_
  refine r_nil (r_region (r_p (p_move rfl) rfl ?_))
  refine r_p (p_loadA t48 rfl rfl rfl (g_all (k := 5) rfl)) rfl ?_
  refine r_callN (xs := [.tmp 14]) (ih u hum) cb20 [] [(false, 7)] [] rfl rfl rfl rfl rfl rfl rfl rfl (fun _ _ => rfl) (fun _ _ _ => rfl) rfl (fun _ _ => ?_)
  refine r_p (p_bin rfl rfl (b_add (by first | exact w_i64 (by omega) (by omega) | rfl))) rfl ?_
  refine r_p (p_assign rfl) rfl (r_nil (r_region ?_))
  refine r_p (p_bin rfl rfl (b_add (by first | exact w_i64 (by omega) (by omega) | rfl))) rfl ?_
  refine r_p (p_move rfl) rfl (r_nil ?_)
  refine r_here (i + 1) ⟨by omega, by omega⟩ (by rw [nXs_take hu, Int.natCast_add, ← Int.add_assoc]; rfl) rfl rfl
 ·(try simp only [decide_eq_true_eq, decide_eq_false_iff_not, Bool.and_eq_true, Bool.or_eq_true, Bool.and_eq_false_iff, Bool.or_eq_false_iff, Bool.not_eq_true, Bool.not_eq_false, Bool.not_eq_true', Bool.not_eq_false', Bool.not_not, bne_iff_ne, beq_iff_eq] at h1)
  have hi : i = t.kids.length := by omega
  subst hi
  rw [List.take_length]
  refine r_exit (r_seq (r_region (r_p (p_move rfl) rfl (r_p (p_assign rfl) rfl (r_nil (r_cret ?_))))))
  refine r_ret () trivial rfl (rs1 (rv_tmp rfl)) (by rw [hn1, Int.natCast_add, Int.add_comm]; rfl) [] [] rfl rfl rfl
theorem size_all : ∀ (n : Nat) (t : Tx), SizeOf.sizeOf t < n → GX t → nX t ≤ 1000000 → HSi t
 | 0, _, h, _, _ => absurd h (Nat.not_lt_zero _)
 | n + 1, t, h, ht, hn => size_step t hn (GX_len ht) fun u hu => size_all n u (by have := tx_lt hu; omega) ((GX_kids ht).mem u hu) (by
  obtain ⟨i, hi⟩ := List.getElem?_of_mem hu
  have hle := nXs_le t.kids (i + 1)
  rw [nXs_take hi] at hle
  have := (nX_def t).1
  omega)
theorem size_spec (t : Tx) (ht : GX t) (hn : nX t ≤ 1000000) : HSi t := size_all _ t (Nat.lt_succ_self _) ht hn
theorem ok0 : okVs [] := fun p hp => by simp at hp
set_option maxHeartbeats 4000000 in
set_option maxRecDepth 100000 in
theorem value_step (t : Tx) (h : KE [] t) (ih : ∀ u ∈ t.kids, KE [] u → HVal u) :
  Spec Tryz.prog 21 [xV t] [] [txsA t.v t.kids] (X := Unit) (fun _ => True) (fun _ => .int .u32 (valX [] t)) (fun _ => []) (fun _ => []) := by
 refine r_enter Tryz.func21 rfl Tryz.ntmps21 rfl fun w0 M H => ?_
 refine r_seq (r_region ?_)
 refine r_boxA rfl rfl fun b1 => ?_
 refine r_p (p_assign rfl) rfl (r_nil (r_seq (r_seq (r_region ?_))))
 refine r_p (p_field0 fo48_0 rfl) rfl ?_
 refine r_p (p_load1 t3 rfl rfl (g_row1 (k := 1) rfl rfl)) rfl ?_
 refine r_nil (r_block (r_seq (r_region ?_)))
 refine r_p (p_bin rfl rfl b_eq) rfl ?_
 refine r_p (p_assign rfl) rfl (r_nil ?_)
 refine r_cond rfl (fun h1 => ?_) (fun h1 => ?_)
 ·have q6 : t.kind = 6 := of_decide_eq_true h1
  obtain ⟨op, v, u, rfl, hu⟩ := h.un_inv q6
  have hvu := ih u (List.mem_cons_self ..) hu
  unfold HVal at hvu
  refine r_more 0 1 rfl txs_sl ?_
  refine r_more 0 7 rfl (txs_kid (List.mem_cons_self ..)) ?_
  refine r_seq ?_
  refine r_drawM [0, 1, 2, 3, 4, 5, 6, 7, 8, 9, 10, 11, 12] [0, 1, 2, 3, 4, 5, 6, 7, 8, 9, 11, 10, 12] [12, 13, 14, 15, 16, 17, 18, 19, 11, 20, 21, 3, 4] _ rfl rfl rfl (stg_mem (V := [(0, 12, _), (1, 13, _), (2, 14, _), (3, 15, _), (4, 16, _), (5, 17, _)]) [0, 1, 2, 3, 4, 5] 6 [6, 5, 4, 3, 2] [] (fun _ => []) rfl rfl (prs_cons (pri rfl (p_field0 fo48_2 rfl)) (prs_cons (pri rfl (p_load1 t9 rfl rfl (g_row1 (k := 1) rfl rfl))) (prs_cons (pri rfl (p_field0 fo48_3 rfl)) (prs_cons (pri rfl (p_load1 t46 rfl rfl (g_row1 (k := 1) rfl rfl))) (prs_cons (pri rfl (p_idx_sl (j := 0) Tryz.underlying46 t48 rfl rfl (hs_sl (k := 1) rfl) rfl (by show 0 < 1; decide))) (prs_cons (pri rfl (p_loadA t48 rfl rfl rfl (g_el' (hs_sl (k := 1) rfl) (by intro _; rfl) (show [u][0]? = some u from rfl) (by rfl)))) prs_nil)))))) rfl rfl rfl rfl rfl rfl rfl rfl rfl rfl rfl (fun _ _ => rfl) rfl (ms_callN (xs := [.tmp 17]) hvu cb21 [] [(false, 7)] [] rfl rfl rfl rfl rfl rfl rfl rfl (fun _ _ => rfl) (fun _ _ _ => rfl)) (fun _ _ => stg_mem [0, 1] 7 [7, 6, 5, 4, 3, 2, 1, 0] [8, 9, 10, 11, 12] (fun _ => [(8, 11, _), (9, 20, _), (10, 21, _), (11, 3, _), (12, 4, _)]) rfl rfl (prs_cons (pri rfl (p_field0 fo48_2 rfl)) (prs_cons (pri rfl (p_load1 t9 rfl rfl (g_row1 (k := 1) rfl rfl))) prs_nil)) rfl rfl rfl rfl rfl rfl rfl rfl rfl rfl rfl (fun _ _ => rfl) rfl (ms_callN (xs := [.tmp 13, .tmp 18]) (unary_spec op (valX [] u) (hu.oW ok0)) cb29 [] [] [] rfl rfl rfl rfl rfl rfl rfl rfl (fun _ _ => rfl) (fun _ _ _ => rfl)) (fun _ _ => stg_end [8, 9, 10, 11, 12] rfl rfl (prs_cons (pri rfl (p_move rfl)) (prs_cons (pri rfl (p_extract rfl rfl)) (prs_cons (pri rfl (p_extract rfl rfl)) (prs_cons (pri rfl (p_assign rfl)) (prs_cons (pri rfl (p_assign rfl)) prs_nil))))) rfl rfl rfl ?_)))
  refine r_seq (r_region (r_p (p_move rfl) rfl (r_p (p_assign rfl) rfl (r_nil (r_cret ?_)))))
  refine r_ret () trivial rfl (rs1 (rv_tmp rfl)) rfl [] [] rfl rfl rfl
 ·have q6 : ¬ t.kind = 6 := of_decide_eq_false h1
  refine r_seq (r_region ?_)
  refine r_p (p_bin rfl rfl b_eq) rfl ?_
  refine r_p (p_assign rfl) rfl (r_nil ?_)
  refine r_cond rfl (fun h2 => ?_) (fun h2 => ?_)
  ·have q7 : t.kind = 7 := of_decide_eq_true h2
   obtain ⟨op, v, a, b, rfl, ha, hb⟩ := h.bin_inv q7
   have hva := ih a (List.mem_cons_self ..) ha
   have hvb := ih b (List.mem_cons_of_mem _ (List.mem_cons_self ..)) hb
   unfold HVal at hva hvb
   refine r_more 0 1 rfl txs_sl ?_
   refine r_more 0 7 rfl (txs_kid (List.mem_cons_self ..)) ?_
   refine r_more 0 8 rfl (txs_kid (List.mem_cons_of_mem _ (List.mem_cons_self ..))) ?_
   refine r_seq ?_
   refine r_drawM [0, 1, 2, 3, 4, 5, 6, 7, 8, 9, 10, 11, 12, 13, 14, 15, 16, 17] [0, 1, 2, 3, 4, 5, 6, 7, 8, 9, 10, 11, 12, 13, 14, 16, 15, 17] [26, 27, 28, 29, 30, 31, 32, 33, 34, 35, 36, 37, 38, 25, 39, 40, 5, 6] _ rfl rfl rfl (stg_mem (V := [(0, 26, _), (1, 27, _), (2, 28, _), (3, 29, _), (4, 30, _), (5, 31, _), (7, 33, _), (8, 34, _), (9, 35, _), (10, 36, _)]) [0, 1, 2, 3, 4, 5, 7, 8, 9, 10] 6 [6, 5, 4, 3, 2] [] (fun _ => []) rfl rfl (prs_cons (pri rfl (p_field0 fo48_2 rfl)) (prs_cons (pri rfl (p_load1 t9 rfl rfl (g_row1 (k := 1) rfl rfl))) (prs_cons (pri rfl (p_field0 fo48_3 rfl)) (prs_cons (pri rfl (p_load1 t46 rfl rfl (g_row1 (k := 1) rfl rfl))) (prs_cons (pri rfl (p_idx_sl (j := 0) Tryz.underlying46 t48 rfl rfl (hs_sl (k := 1) rfl) rfl (by show 0 < 2; decide))) (prs_cons (pri rfl (p_loadA t48 rfl rfl rfl (g_el' (hs_sl (k := 1) rfl) (by intro _; rfl) (show [a, b][0]? = some a from rfl) (by rfl)))) (prs_cons (pri rfl (p_field0 fo48_3 rfl)) (prs_cons (pri rfl (p_load1 t46 rfl rfl (g_row1 (k := 1) rfl rfl))) (prs_cons (pri rfl (p_idx_sl (j := 1) Tryz.underlying46 t48 rfl rfl (hs_sl (k := 1) rfl) rfl (by show 1 < 2; decide))) (prs_cons (pri rfl (p_loadA t48 rfl rfl rfl (g_el' (hs_sl (k := 1) rfl) (by intro _; rfl) (show [a, b][1]? = some b from rfl) (by rfl)))) prs_nil)))))))))) rfl rfl rfl rfl rfl rfl rfl rfl rfl rfl rfl (fun _ _ => rfl) rfl (ms_callN (xs := [.tmp 31]) hva cb21 [] [(false, 7)] [] rfl rfl rfl rfl rfl rfl rfl rfl (fun _ _ => rfl) (fun _ _ _ => rfl)) (fun _ _ => stg_mem [0, 1, 7, 8, 9, 10] 11 [11, 10, 9, 8, 7, 6, 5, 4, 3, 2] [] (fun _ => []) rfl rfl (prs_cons (pri rfl (p_field0 fo48_2 rfl)) (prs_cons (pri rfl (p_load1 t9 rfl rfl (g_row1 (k := 1) rfl rfl))) (prs_cons (pri rfl (p_field0 fo48_3 rfl)) (prs_cons (pri rfl (p_load1 t46 rfl rfl (g_row1 (k := 1) rfl rfl))) (prs_cons (pri rfl (p_idx_sl (j := 1) Tryz.underlying46 t48 rfl rfl (hs_sl (k := 1) rfl) rfl (by show 1 < 2; decide))) (prs_cons (pri rfl (p_loadA t48 rfl rfl rfl (g_el' (hs_sl (k := 1) rfl) (by intro _; rfl) (show [a, b][1]? = some b from rfl) (by rfl)))) prs_nil)))))) rfl rfl rfl rfl rfl rfl rfl rfl rfl rfl rfl (fun _ _ => rfl) rfl (ms_callN (xs := [.tmp 36]) hvb cb21 [] [(false, 8)] [] rfl rfl rfl rfl rfl rfl rfl rfl (fun _ _ => rfl) (fun _ _ _ => rfl)) (fun _ _ => stg_mem [0, 1] 12 [12, 11, 10, 9, 8, 7, 6, 5, 4, 3, 2, 1, 0] [13, 14, 15, 16, 17] (fun _ => [(13, 25, _), (14, 39, _), (15, 40, _), (16, 5, _), (17, 6, _)]) rfl rfl (prs_cons (pri rfl (p_field0 fo48_2 rfl)) (prs_cons (pri rfl (p_load1 t9 rfl rfl (g_row1 (k := 1) rfl rfl))) prs_nil)) rfl rfl rfl rfl rfl rfl rfl rfl rfl rfl rfl (fun _ _ => rfl) rfl (ms_callN (xs := [.tmp 27, .tmp 32, .tmp 37]) (binary_spec op (valX [] a) (valX [] b) (ha.oW ok0) (hb.oW ok0)) cb28 [] [] [] rfl rfl rfl rfl rfl rfl rfl rfl (fun _ _ => rfl) (fun _ _ _ => rfl)) (fun _ _ => stg_end [13, 14, 15, 16, 17] rfl rfl (prs_cons (pri rfl (p_move rfl)) (prs_cons (pri rfl (p_extract rfl rfl)) (prs_cons (pri rfl (p_extract rfl rfl)) (prs_cons (pri rfl (p_assign rfl)) (prs_cons (pri rfl (p_assign rfl)) prs_nil))))) rfl rfl rfl ?_))))
   refine r_seq (r_region (r_p (p_move rfl) rfl (r_p (p_assign rfl) rfl (r_nil (r_cret ?_)))))
   refine r_ret () trivial rfl (rs1 (rv_tmp rfl)) rfl [] [] rfl rfl rfl
  ·have q7 : ¬ t.kind = 7 := of_decide_eq_false h2
   refine r_skip (r_seq (r_region ?_))
   refine r_p (p_field0 fo48_1 rfl) rfl ?_
   refine r_p (p_load1 t36 rfl rfl (g_row1 (k := 1) rfl rfl)) rfl ?_
   refine r_p (p_assign rfl) rfl (r_nil (r_cret ?_))
   refine r_ret () trivial rfl (rs1 (rv_tmp rfl)) (by rw [h.num_inv q6 q7]) [] [] rfl rfl rfl
theorem value_all : ∀ (n : Nat) (t : Tx), SizeOf.sizeOf t < n → KE [] t → HVal t
 | 0, _, h, _ => absurd h (Nat.not_lt_zero _)
 | n + 1, t, h, ht => value_step t ht fun u hu hk => value_all n u (by have := tx_lt hu; omega) hk
theorem value_spec (t : Tx) (h : KE [] t) : HVal t := value_all _ t (Nat.lt_succ_self _) h
theorem nX_pos (t : Tx) : 1 ≤ nX t := by have := (nX_def t).1; omega
theorem fuel_sub (s : Ms) (a b : Int) : ({ ({ s with fuel := s.fuel - a } : Ms) with fuel := ({ s with fuel := s.fuel - a } : Ms).fuel - b } : Ms) = { s with fuel := s.fuel - (a + b) } := by
 show ({ s with fuel := s.fuel - a - b } : Ms) = _
 rw [show s.fuel - a - b = s.fuel - (a + b) by omega]
/-- What an expression over constants and names computes, and what it costs. -/
theorem ke_ev {fs : List Tf} {d : Nat} {vs : Vs} {ns : List ByteArray} {t : Tx} (h : KE ns t) : ∀ (g : Nat) (s : Ms), 4 * nX t ≤ g → (nX t : Int) ≤ s.fuel → evX g fs d vs t s = some (.ok (valX vs t) { s with fuel := s.fuel - (nX t : Int) }) := by
 induction h with
 | num n hn =>
  intro g s hg hf
  have h1 : nX (.mk 1 n oNil nilS []) = 1 := rfl
  rw [h1] at hg hf ⊢
  obtain ⟨g2, rfl⟩ : ∃ g2, g = g2 + 2 := ⟨g - 2, by omega⟩
  rw [evX, if_neg (by omega)]
  show (match evK (g2 + 1) fs d vs [] [] _ with | none => none | some (.err e) => _ | some (.ok ks s1) => _) = _
  rw [evK]
  rfl
 | name x hx =>
  intro g s hg hf
  have h1 : nX (.mk 2 0 x nilS []) = 1 := rfl
  rw [h1] at hg hf ⊢
  obtain ⟨g2, rfl⟩ : ∃ g2, g = g2 + 2 := ⟨g - 2, by omega⟩
  rw [evX, if_neg (by omega)]
  show (match evK (g2 + 1) fs d vs [] [] _ with | none => none | some (.err e) => _ | some (.ok ks s1) => _) = _
  rw [evK]
  rfl
 | un op v u ho h ih =>
  intro g s hg hf
  have h1 : nX (.mk 6 0 op v [u]) = nX u + 1 := rfl
  rw [h1] at hg hf ⊢
  obtain ⟨g2, rfl⟩ : ∃ g2, g = g2 + 3 := ⟨g - 3, by omega⟩
  rw [evX, if_neg (by omega)]
  show (match evK (g2 + 2) fs d vs [] [u] _ with | none => none | some (.err e) => _ | some (.ok ks s1) => _) = _
  rw [evK, ih (g2 + 1) _ (by omega) (by show (nX u : Int) ≤ s.fuel - 1; omega)]
  dsimp only
  rw [evK]
  show some (Re.ok (valX vs (.mk 6 0 op v [u])) _) = _
  rw [show s.fuel - 1 - (nX u : Int) = s.fuel - ((nX u + 1 : Nat) : Int) by omega]
 | bin op v a b ho ha hb iha ihb =>
  intro g s hg hf
  have h1 : nX (.mk 7 0 op v [a, b]) = nX a + (nX b + 0) + 1 := rfl
  rw [h1] at hg hf ⊢
  obtain ⟨g2, rfl⟩ : ∃ g2, g = g2 + 4 := ⟨g - 4, by omega⟩
  rw [evX, if_neg (by omega)]
  show (match evK (g2 + 3) fs d vs [] [a, b] _ with | none => none | some (.err e) => _ | some (.ok ks s1) => _) = _
  rw [evK, iha (g2 + 2) _ (by omega) (by show (nX a : Int) ≤ s.fuel - 1; omega)]
  dsimp only
  rw [evK, ihb (g2 + 1) _ (by omega) (by show (nX b : Int) ≤ s.fuel - 1 - (nX a : Int); omega)]
  dsimp only
  rw [evK]
  show some (Re.ok (valX vs (.mk 7 0 op v [a, b])) _) = _
  rw [show s.fuel - 1 - (nX a : Int) - (nX b : Int) = s.fuel - ((nX a + (nX b + 0) + 1 : Nat) : Int) by omega]
theorem ke_short {fs : List Tf} {d : Nat} {vs : Vs} {ns : List ByteArray} {t : Tx} (h : KE ns t) : ∀ (g : Nat) (s : Ms), 4 * nX t ≤ g → s.fuel < (nX t : Int) → evX g fs d vs t s = some (.err 25) := by
 induction h with
 | num n hn =>
  intro g s hg hf
  have h1 : nX (.mk 1 n oNil nilS []) = 1 := rfl
  rw [h1] at hg hf
  obtain ⟨g2, rfl⟩ : ∃ g2, g = g2 + 2 := ⟨g - 2, by omega⟩
  rw [evX, if_pos (by omega)]
 | name x hx =>
  intro g s hg hf
  have h1 : nX (.mk 2 0 x nilS []) = 1 := rfl
  rw [h1] at hg hf
  obtain ⟨g2, rfl⟩ : ∃ g2, g = g2 + 2 := ⟨g - 2, by omega⟩
  rw [evX, if_pos (by omega)]
 | un op v u ho h ih =>
  intro g s hg hf
  have h1 : nX (.mk 6 0 op v [u]) = nX u + 1 := rfl
  rw [h1] at hg hf
  obtain ⟨g2, rfl⟩ : ∃ g2, g = g2 + 3 := ⟨g - 3, by omega⟩
  rw [evX]
  by_cases h0 : s.fuel ≤ 0
  ·rw [if_pos h0]
  rw [if_neg h0]
  show (match evK (g2 + 2) fs d vs [] [u] _ with | none => none | some (.err e) => _ | some (.ok ks s1) => _) = _
  rw [evK, ih (g2 + 1) _ (by omega) (by show s.fuel - 1 < (nX u : Int); omega)]
 | bin op v a b ho ha hb iha ihb =>
  intro g s hg hf
  have h1 : nX (.mk 7 0 op v [a, b]) = nX a + (nX b + 0) + 1 := rfl
  rw [h1] at hg hf
  obtain ⟨g2, rfl⟩ : ∃ g2, g = g2 + 4 := ⟨g - 4, by omega⟩
  rw [evX]
  by_cases h0 : s.fuel ≤ 0
  ·rw [if_pos h0]
  rw [if_neg h0]
  show (match evK (g2 + 3) fs d vs [] [a, b] _ with | none => none | some (.err e) => _ | some (.ok ks s1) => _) = _
  rw [evK]
  by_cases h2 : s.fuel - 1 < (nX a : Int)
  ·rw [iha (g2 + 2) _ (by omega) h2]
  ·rw [ke_ev ha (g2 + 2) _ (by omega) (by show (nX a : Int) ≤ s.fuel - 1; omega)]
   dsimp only
   rw [evK, ihb (g2 + 1) _ (by omega) (by show s.fuel - 1 - (nX a : Int) < (nX b : Int); omega)]
/-- The program that outputs an expression. -/
abbrev cProg (v27 v28 : SV) (e : Tx) : List Tf := [fMain v28 [yOut v27 e]]
theorem evS_1 {fs : List Tf} {d : Nat} {vs : Vs} {t : Ty} {e : Tx} {es : List Tx} {g : Nat} {s s1 : Ms} {v : Int} (hes : t.es = e :: es) (hf : 0 < s.fuel) (hx : evX g fs d vs e { s with fuel := s.fuel - 1 } = some (.ok v s1)) :
  (t.kind = 7 → evS (g + 1) fs d vs t s = some (.ok (vs, none) { s1 with out := s1.out ++ [v] })) ∧ (t.kind = 6 → evS (g + 1) fs d vs t s = some (.ok (vs, some v) s1)) ∧ (t.kind = 1 → evS (g + 1) fs d vs t s = some (.ok (vput vs t.name v, none) s1)) := by
 rw [evS, if_neg (by omega), hes]
 dsimp only
 rw [hx]
 dsimp only
 refine ⟨fun h => ?_, fun h => ?_, fun h => ?_⟩
 ·rw [if_neg (by omega), if_neg (by omega), if_neg (by omega), if_neg (by omega), if_neg (by omega), if_pos h]
 ·rw [if_neg (by omega), if_neg (by omega), if_neg (by omega), if_neg (by omega), if_pos h]
 ·rw [if_pos (.inl h)]
/-- A statement whose execution goes on. -/
theorem evB_go {fs : List Tf} {d : Nat} {vs vs1 : Vs} {t : Ty} {l : List Ty} {g : Nat} {s s1 : Ms} {r : Re (Vs × Option Int)} (h : evS g fs d vs t s = some (.ok (vs1, none) s1)) (h2 : evB g fs d vs1 l s1 = some r) : evB (g + 1) fs d vs (t :: l) s = some r := by
 rw [evB, h]
 exact h2
theorem evB_ret {fs : List Tf} {d : Nat} {vs vs1 : Vs} {t : Ty} {l : List Ty} {g : Nat} {s s1 : Ms} {x : Int} (h : evS g fs d vs t s = some (.ok (vs1, some x) s1)) : evB (g + 1) fs d vs (t :: l) s = some (.ok (vs1, some x) s1) := by rw [evB, h]
theorem evB_e {fs : List Tf} {d : Nat} {vs : Vs} {g : Nat} {s : Ms} : evB (g + 1) fs d vs [] s = some (.ok (vs, none) s) := by rw [evB]
theorem evC_of {fs : List Tf} {d : Nat} {f : Tf} {al : List Int} {g : Nat} {s s1 : Ms} {vs1 : Vs} {ro : Option Int} (hd : ¬ d = 12) (h : evB g fs (d + 1) (vbind [] f.ps al) f.body s = some (.ok (vs1, ro) s1)) : evC (g + 1) fs d f al s = some (.ok (ro.getD 0) s1) := by
 rw [evC, if_neg hd, h]
theorem c_run {v27 v28 : SV} {e : Tx} {ns : List ByteArray} (hk : KE ns e) (hc : chk (cProg v27 v28 e) = 0) : RunIs (cProg v27 v28 e) [] (1 + (nX e : Int)) ⟨0, [valX [] e], (List.range 256).map fun _ => 0⟩ := by
 refine .run (fMain v28 [yOut v27 e]) (4 * nX e + 4) (.ok 0 { ms0 [] (1 + (nX e : Int)) with out := [valX [] e], fuel := 1 + (nX e : Int) - 1 - (nX e : Int) }) hc rfl ?_
 have hb : evB (4 * nX e + 3) (cProg v27 v28 e) 1 [] [yOut v27 e] (ms0 [] (1 + (nX e : Int))) = some (.ok ([], none) { ms0 [] (1 + (nX e : Int)) with out := [valX [] e], fuel := 1 + (nX e : Int) - 1 - (nX e : Int) }) :=
  evB_go ((evS_1 (s := ms0 [] (1 + (nX e : Int))) (t := yOut v27 e) (es := []) rfl (by show (0 : Int) < 1 + (nX e : Int); omega) (ke_ev hk (4 * nX e + 1) _ (by omega) (by show (nX e : Int) ≤ 1 + (nX e : Int) - 1; omega))).1 rfl) evB_e
 exact evC_of (f := fMain v28 [yOut v27 e]) (al := []) (ro := none) (by decide) hb
theorem c_short {v27 v28 : SV} {e : Tx} {ns : List ByteArray} (hk : KE ns e) (hc : chk (cProg v27 v28 e) = 0) : RunIs (cProg v27 v28 e) [] (1 + (nX e : Int) - 1) ⟨25, [], []⟩ := by
 refine .run (fMain v28 [yOut v27 e]) (4 * nX e + 4) (.err 25) hc rfl ?_
 have hp := nX_pos e
 rw [evC, if_neg (by decide)]
 show (match evB (4 * nX e + 3) _ 1 [] [yOut v27 e] _ with | none => none | some (.err e) => _ | some (.ok (_, r) s1) => _) = _
 rw [evB, evS, if_neg (by show ¬ (1 + (nX e : Int) - 1) ≤ 0; omega)]
 rw [show (yOut v27 e).es = [e] from rfl]
 dsimp only
 rw [ke_short hk (4 * nX e + 1) _ (by omega) (by show 1 + (nX e : Int) - 1 - 1 < (nX e : Int); omega)]
/-- A program and an expression can be read. -/
def pxA (v : SV) (l : List Tf) (e : Tx) : Asn := ⟨fun w F => (tfsA v l).pred w F ∧ TxIn w F e, fun h hs => ⟨(tfsA _ _).stable h.1 hs, TxIn.mono (fun _ hb => hb) hs _ h.2⟩⟩
theorem px_p {v : SV} {l : List Tf} {e : Tx} : ∀ w G, (pxA v l e).pred w G → (∀ b, G b → b < w.heap.size) → ∃ G', (tfsA v l).pred w G' ∧ ∀ b, G' b → G b := fun w G h _ => ⟨G, h.1, fun _ h => h⟩
theorem px_e {v : SV} {l : List Tf} {e : Tx} : ∀ w G, (pxA v l e).pred w G → (∀ b, G b → b < w.heap.size) → ∃ G', (txsA e.v e.kids).pred w G' ∧ ∀ b, G' b → G b := fun w G h _ => ⟨G, by cases e; exact h.2, fun _ h => h⟩
theorem px_all {T1 T2 T3 : Nat} {v27 v28 v29 : SV} {e : Tx} (w : World) (F : Nat → Prop) (h : AllIn w F [txA1 e, own T1 4 eTx (sv v27) [e], own T2 5 eTy (sv v28) [yOut v27 e], own T3 3 eTf (sv v29) (cProg v27 v28 e)]) : (pxA v29 (cProg v27 v28 e) e).pred w F := by
 obtain ⟨⟨_, a0, b0⟩, ⟨_, a1, b1⟩, ⟨_, a2, b2⟩, ⟨_, a3, b3⟩, _⟩ := h
 have he : TxIn w F e := TxIn.mono b0 (fun _ _ => rfl) _ a0
 have hny : SlIn' w F 5 eTy (sv nilS) [] ∧ TysIn w F [] := ⟨nil_in, trivial⟩
 refine ⟨⟨own_in a3 b3, fun f hf => ?_⟩, he⟩
 rw [List.mem_singleton.1 hf]
 exact ⟨nil_in, own_in a2 b2, ⟨⟨own_in a1 b1, he, trivial⟩, hny, hny⟩, trivial⟩
theorem zeros_len : ((List.range 256).map fun _ => (0 : Int)).length ≤ 1000000 := by rw [List.length_map, List.length_range]; decide
set_option maxHeartbeats 8000000 in
set_option maxRecDepth 100000 in
theorem constants_law (x0 : SV) (s : List Int) (b0 : ∀ n ∈ s, okI n) (n : Int) (hn : 0 ≤ n ∧ n < 256) :
  Spec Tryz.prog 6 [sv x0, .int .u8 n] [] [sl 1 eI (sv x0) s] (X := Unit) (fun _ => True) (fun _ => .bool true) (fun _ => []) (fun _ => []) := by
 refine r_enter Tryz.func6 rfl Tryz.ntmps6 rfl fun w0 M H => ?_
 obtain ⟨dp, hdp, hdp8⟩ : ∃ dp : Nat, n % 8 = (dp : Int) ∧ dp < 8 := ⟨(n % 8).toNat, by omega, by omega⟩
 refine r_nilsl 64 (α := Int) (s := 1) (enc := eU) ?_
 refine r_seq (r_region (r_p (p_assign rfl) rfl (r_nil (r_seq (r_region ?_)))))
 refine r_callN (xs := []) sanity_spec cb8 [] [] [] rfl rfl rfl rfl rfl rfl rfl rfl (fun _ _ => rfl) (fun _ _ _ => rfl) rfl (fun _ _ => ?_)
 refine r_p (p_assign rfl) rfl (r_nil (r_seq (r_region (r_p (p_move rfl) rfl (r_p (p_move rfl) rfl ?_)))))
 refine r_p (p_len_sl Tryz.underlying22 rfl (hs_sl (k := 0) rfl)) rfl ?_
 refine r_p (p_min rfl rfl rfl) rfl ?_
 refine r_slice_hi (j := (min s.length 100)) 0 20 Tryz.underlying22 t3 (by intro _; rfl) rfl rfl (by omega) (by omega) rfl rfl fun v20 => ?_
 refine r_p (p_move rfl) rfl ?_
 refine r_p (p_bin rfl rfl (b_rem (c := n % 8) (by decide) (Int.tmod_eq_emod_of_nonneg hn.1))) rfl ?_
 refine r_p (p_conv Tryz.underlying5 Tryz.underlying3 rfl (by first | exact w_i64 (by omega) (by omega) | rfl)) rfl ?_
 refine r_p (p_bin rfl rfl (b_add (c := ((dp + 1 : Nat) : Int)) (by rw [hdp, show 1 + (dp : Int) = ((dp + 1 : Nat) : Int) by omega]; exact w_i64 (by omega) (by omega)))) rfl ?_
 refine r_nilsl 65 (α := ByteArray) (s := 1) (enc := eS) ?_
 refine r_callN (xs := [.tmp 20, .const (.slice Option.none 0 0), .tmp 24]) (expr9_spec v20 (s.take (min s.length 100)) (fun x hx => b0 x (List.mem_of_mem_take hx)) nilS [] (by simp) (dp + 1) (by omega) (by omega)) cb17 [] [(false, 20), (false, 65)] [60] rfl rfl rfl rfl rfl rfl rfl rfl (fun _ _ => rfl) (fun _ _ _ => rfl) rfl (fun e he => ?_)
 obtain ⟨hke, hnx⟩ := he
 have hp8 : 2 ^ (dp + 1) ≤ 2 ^ 8 := Nat.pow_le_pow_right (by decide) (by omega)
 have hp9 : (2 : Nat) ^ 8 = 256 := by decide
 have hge := hke.gx (fun x hx => by simp at hx)
 refine r_alloc t48 rfl rfl fun b6 => ?_
 refine r_store_all (k := 6) t48 rfl rfl rfl rfl rfl rfl ?_
 refine r_nil (r_seq (r_region ?_))
 refine r_p (p_loadA t48 rfl rfl rfl (g_all (k := 6) rfl)) rfl ?_
 refine r_callN (xs := [.tmp 26]) (output_spec e) cb19 [] [] [27] rfl rfl rfl rfl rfl rfl rfl rfl (fun _ _ => rfl) (fun _ _ _ => rfl) rfl (fun v27 _ => ?_)
 refine r_bslice1 eTy (yOut v27 e) Tryz.underlying51 t53 rfl (by decide) (by decide) rfl rfl rfl rfl fun v28 => ?_
 refine r_callN (xs := [.tmp 28]) (main_spec v28 [yOut v27 e]) cb18 [] [] [29] rfl rfl rfl rfl rfl rfl rfl rfl (fun _ _ => rfl) (fun _ _ _ => rfl) rfl (fun v29 _ => ?_)
 refine r_collect 61 [60, 27, 28, 29] (C := pxA v29 (cProg v27 v28 e) e) rfl px_all ?_
 refine r_freeze 61 61 rfl (fun _ _ h => h) ?_
 refine r_more 61 62 rfl px_p ?_
 refine r_more 61 63 rfl px_e ?_
 have hgp : GP (cProg v27 v28 e) := gp_main (by show 1 ≤ 1000000; decide) ⟨gy_one (nmB_of rfl) hge, trivial⟩ (by show 1 + (nX e + 0) + 0 + 0 + 0 ≤ 1000000; omega)
 refine r_alloc t29 rfl rfl fun b7 => ?_
 refine r_store_all (k := 7) t29 rfl rfl rfl rfl rfl rfl ?_
 refine r_nil (r_seq (r_region ?_))
 refine r_p (p_loadA t48 rfl rfl rfl (g_all (k := 6) rfl)) rfl ?_
 refine r_callN (xs := [.tmp 30]) (size_spec e hge (by omega)) cb20 [] [(false, 63)] [] rfl rfl rfl rfl rfl rfl rfl rfl (fun _ _ => rfl) (fun _ _ _ => rfl) rfl (fun _ _ => ?_)
 refine r_p (p_bin rfl rfl (b_add (by first | exact w_i64 (by omega) (by omega) | rfl))) rfl ?_
 refine r_p (p_assign rfl) rfl (r_nil (r_seq (r_seq (r_region ?_))))
 refine r_p (p_loadA t29 rfl rfl rfl (g_all (k := 7) rfl)) rfl ?_
 refine r_callN (xs := [.tmp 33]) (check8_spec v29 (cProg v27 v28 e) hgp) cb14 [] [(false, 62)] [] rfl rfl rfl rfl rfl rfl rfl rfl (fun _ _ => rfl) (fun _ _ _ => rfl) rfl (fun _ _ => ?_)
 refine r_p (p_bin rfl rfl b_ne) rfl ?_
 refine r_nil ?_
 refine r_cond rfl (fun h1 => ?_) (fun h1 => ?_)
 ·(try simp only [decide_eq_true_eq, decide_eq_false_iff_not, Bool.and_eq_true, Bool.or_eq_true, Bool.and_eq_false_iff, Bool.or_eq_false_iff, Bool.not_eq_true, Bool.not_eq_false, Bool.not_eq_true', Bool.not_eq_false', Bool.not_not, bne_iff_ne, beq_iff_eq] at h1)
  refine r_seq (r_region (r_p (p_move rfl) rfl (r_p (p_assign rfl) rfl (r_nil (r_cret ?_)))))
  refine r_ret () trivial rfl (rs1 (rv_tmp rfl)) rfl [] [] rfl rfl rfl
 ·(try simp only [decide_eq_true_eq, decide_eq_false_iff_not, Bool.and_eq_true, Bool.or_eq_true, Bool.and_eq_false_iff, Bool.or_eq_false_iff, Bool.not_eq_true, Bool.not_eq_false, Bool.not_eq_true', Bool.not_eq_false', Bool.not_not, bne_iff_ne, beq_iff_eq] at h1)
  have hc : chk (cProg v27 v28 e) = 0 := by simpa using h1
  refine r_skip (r_seq (r_region ?_))
  refine r_p (p_loadA t29 rfl rfl rfl (g_all (k := 7) rfl)) rfl ?_
  refine r_p (p_move rfl) rfl ?_
  refine r_callN (xs := [.tmp 38, .const (.slice Option.none 0 0), .tmp 39]) (run_spec v29 nilS (cProg v27 v28 e) [] (1 + (nX e : Int)) hgp (by simp) (by simp) (by omega) _ (c_run hke hc)) cb15 [] [(false, 62), (false, 64)] [70, 71] rfl rfl rfl rfl rfl rfl rfl rfl (fun _ _ => rfl) (fun _ _ _ => rfl) rfl (fun ⟨ra, rb⟩ _ => ?_)
  dsimp only
  refine r_p (p_move rfl) rfl ?_
  refine r_p (p_extract rfl rfl) rfl ?_
  refine r_p (p_extract rfl rfl) rfl ?_
  refine r_p (p_extract rfl rfl) rfl ?_
  refine r_p (p_assign rfl) rfl (r_p (p_assign rfl) rfl (r_p (p_assign rfl) rfl (r_nil (r_seq (r_region ?_)))))
  refine r_p (p_loadA t29 rfl rfl rfl (g_all (k := 7) rfl)) rfl ?_
  refine r_p (p_move rfl) rfl ?_
  refine r_p (p_bin rfl rfl (b_sub (by first | exact w_i64 (by omega) (by omega) | rfl))) rfl ?_
  refine r_callN (xs := [.tmp 45, .const (.slice Option.none 0 0), .tmp 47]) (run_spec v29 nilS (cProg v27 v28 e) [] (1 + (nX e : Int) - 1) hgp (by simp) (by simp) (by omega) _ (c_short hke hc)) cb15 [] [(false, 62), (false, 64)] [72, 73] rfl rfl rfl rfl rfl rfl rfl rfl (fun _ _ => rfl) (fun _ _ _ => rfl) rfl (fun ⟨rc, rd⟩ _ => ?_)
  dsimp only
  refine r_p (p_move rfl) rfl ?_
  refine r_p (p_extract rfl rfl) rfl ?_
  refine r_p (p_extract rfl rfl) rfl ?_
  refine r_p (p_extract rfl rfl) rfl ?_
  refine r_p (p_assign rfl) rfl (r_p (p_assign rfl) rfl (r_p (p_assign rfl) rfl (r_nil (r_seq (r_region (r_p (p_move rfl) rfl (r_p (p_move rfl) rfl ?_)))))))
  refine r_gyes rfl rfl ?_
  refine r_p (p_move rfl) rfl ?_
  refine r_gyes rfl rfl ?_
  refine r_p (p_bin rfl rfl b_eq) rfl ?_
  with_reducible rw [decide_eq_true (rfl : (0 : Int) = (0 : Int))]
  refine r_p (p_pick rfl rfl rfl (pick_t rfl)) rfl ?_
  refine r_p (p_move rfl) rfl ?_
  refine r_gyes rfl rfl ?_
  refine r_p (p_move rfl) rfl ?_
  refine r_gyes rfl rfl ?_
  refine r_p (p_loadA t48 rfl rfl rfl (g_all (k := 6) rfl)) rfl ?_
  refine r_gyes rfl rfl ?_
  refine r_callN (xs := [.tmp 59]) (value_spec e hke) cb21 [] [(false, 63)] [] rfl rfl rfl rfl rfl rfl rfl rfl (fun _ _ => rfl) (fun _ _ _ => rfl) rfl (fun _ _ => ?_)
  refine r_gyes rfl rfl ?_
  refine r_bslice1 eU (valX [] e) Tryz.underlying23 t36 rfl (by decide) (by decide) rfl rfl rfl rfl fun v61 => ?_
  refine r_gyes rfl rfl ?_
  refine r_freeze 70 94 rfl own_to_sl ?_
  refine r_freeze 61 95 rfl own_to_sl ?_
  refine r_callN (xs := [.tmp 58, .tmp 61]) (rwords_spec ra v61 [valX [] e] [valX [] e] (by show 1 ≤ 1000000; decide)) cb16 [] [(false, 94), (false, 95)] [] rfl rfl rfl rfl rfl rfl rfl rfl (fun _ _ => rfl) (fun _ _ _ => rfl) rfl (fun _ _ => ?_)
  with_reducible rw [decide_eq_true (rfl : ([valX [] e] : List Int) = ([valX [] e] : List Int))]
  refine r_p (p_pick rfl rfl rfl (pick_t rfl)) rfl ?_
  refine r_p (p_move rfl) rfl ?_
  refine r_gyes rfl rfl ?_
  refine r_p (p_move rfl) rfl ?_
  refine r_gyes rfl rfl ?_
  refine r_p (p_bin rfl rfl b_eq) rfl ?_
  with_reducible rw [decide_eq_true (rfl : (25 : Int) = (25 : Int))]
  refine r_p (p_pick rfl rfl rfl (pick_t rfl)) rfl ?_
  refine r_p (p_assign rfl) rfl (r_nil (r_cret ?_))
  refine r_ret () trivial rfl (rs1 (rv_tmp rfl)) rfl [] [] rfl rfl rfl
end Go.Proofs.YtdcbbkpdlcojfaaGreat
