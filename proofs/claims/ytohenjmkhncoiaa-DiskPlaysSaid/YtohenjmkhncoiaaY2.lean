/-
  The encoding of snapshots, in plain Lean. No condition.
-/
import Derived.Test.YtohenjmkhncoiaaY1
namespace Go.Proofs.Ytohenjmkhncoiaa
set_option linter.unusedSimpArgs false
set_option linter.unusedVariables false

def Ps.map {α β : Type} (p : Ps α) (f : α → β) : Ps β := fun l => match p l with
  | none => none
  | some (a, r) => some (f a, r)
theorem Iv.map {α β : Type} {e : α → List Int} {p : Ps α} {ok : α → Prop} {m : Nat} (h : Iv e p ok m) (f : α → β) (g : β → α) (ok' : β → Prop) (h1 : ∀ b, ok' b → ok (g b) ∧ f (g b) = b) (h2 : ∀ a, ok a → ok' (f a) ∧ g (f a) = a) : Iv (fun b => e (g b)) (p.map f) ok' m where
  by_ := fun b hb => h.by_ _ (h1 b hb).1
  fwd := fun b r hb => by
    unfold Ps.map
    rw [h.fwd _ _ (h1 b hb).1]
    dsimp only
    rw [(h1 b hb).2]
  bwd := fun l b r hl hp => by
    unfold Ps.map at hp
    cases h3 : p l with
    | none => rw [h3] at hp; simp at hp
    | some x =>
      obtain ⟨a1, r1⟩ := x
      rw [h3] at hp
      simp only [Option.some.injEq, Prod.mk.injEq] at hp
      obtain ⟨rfl, rfl⟩ := hp
      obtain ⟨o1, e1⟩ := h.bwd l a1 r1 hl h3
      exact ⟨(h2 a1 o1).1, by rw [(h2 a1 o1).2]; exact e1⟩
  low := fun b hb => h.low _ (h1 b hb).1
/-- Numbers of eight bytes, with a sign. -/
def okI (n : Int) : Prop := -9223372036854775808 ≤ n ∧ n < 9223372036854775808
def splitI (n : Int) : Int × Int := (n % 4294967296, n / 4294967296 % 4294967296)
def joinI (x : Int × Int) : Int := if x.1 + x.2 * 4294967296 < 9223372036854775808 then x.1 + x.2 * 4294967296 else x.1 + x.2 * 4294967296 - 18446744073709551616
def eInt (n : Int) : List Int := put4 (n % 4294967296) ++ put4 (n / 4294967296 % 4294967296)
def pInt : Ps Int := (pWord.both pWord).map joinI
theorem iv_int : Iv eInt pInt okI 8 :=
  (iv_word.both iv_word).map joinI splitI okI (fun n hn => by
    unfold okI at hn
    refine ⟨⟨by dsimp only [splitI]; omega, by dsimp only [splitI]; omega⟩, ?_⟩
    unfold joinI splitI
    dsimp only
    split <;> omega) (fun x hx => by
    obtain ⟨a, b⟩ := x
    dsimp only at hx
    unfold joinI okI splitI
    dsimp only
    split
    · exact ⟨by omega, by rw [Prod.mk.injEq]; omega⟩
    · exact ⟨by omega, by rw [Prod.mk.injEq]; omega⟩)
/-- Strings: their length, then their bytes. -/
def eTxt (s : List Int) : List Int := eInt s.length ++ s
def pTxt : Ps (List Int) := fun l => match pInt l with
  | none => none
  | some (n, r) => if n < 0 ∨ (r.length : Int) < n then none else some (r.take n.toNat, r.drop n.toNat)
def okT (s : List Int) : Prop := By s ∧ (s.length : Int) < 9223372036854775808
theorem okI_len {n : Nat} (h : (n : Int) < 9223372036854775808) : okI n := ⟨by omega, h⟩
theorem iv_txt : Iv eTxt pTxt okT 8 where
  by_ := fun s hs => By.app.2 ⟨iv_int.by_ _ (okI_len hs.2), hs.1⟩
  fwd := fun s r hs => by
    unfold pTxt eTxt
    rw [List.append_assoc, iv_int.fwd _ _ (okI_len hs.2)]
    dsimp only
    rw [if_neg (by rw [List.length_append]; omega)]
    simp
  bwd := fun l s r hl hp => by
    unfold pTxt at hp
    cases h1 : pInt l with
    | none => rw [h1] at hp; simp at hp
    | some x =>
      obtain ⟨n, t⟩ := x
      rw [h1] at hp
      dsimp only at hp
      obtain ⟨o1, e1⟩ := iv_int.bwd l n t hl h1
      have hb := (By.app.1 (e1 ▸ hl)).2
      by_cases h : n < 0 ∨ (t.length : Int) < n
      · rw [if_pos h] at hp; simp at hp
      · rw [if_neg h] at hp
        simp only [Option.some.injEq, Prod.mk.injEq] at hp
        obtain ⟨rfl, rfl⟩ := hp
        have hlen : ((t.take n.toNat).length : Int) = n := by rw [List.length_take]; omega
        refine ⟨⟨hb.take _, by rw [hlen]; exact o1.2⟩, ?_⟩
        unfold eTxt
        rw [hlen, List.append_assoc, List.take_append_drop]
        exact e1
  low := fun s hs => by
    have := iv_int.low _ (okI_len hs.2)
    unfold eTxt
    rw [List.length_append]
    omega
/-- Lists: their length, then their elements. -/
def eLst {α : Type} (e : α → List Int) (l : List α) : List Int := eInt l.length ++ l.flatMap e
def pLst {α : Type} (size : Nat) (p : Ps α) : Ps (List α) := fun l => match pInt l with
  | none => none
  | some (n, r) => if n < 0 ∨ ((r.length / size : Nat) : Int) < n then none else p.times n.toNat r
def okL {α : Type} (ok : α → Prop) (l : List α) : Prop := (∀ a ∈ l, ok a) ∧ (l.length : Int) < 9223372036854775808
theorem iv_lst {α : Type} {e : α → List Int} {p : Ps α} {ok : α → Prop} {m : Nat} (h : Iv e p ok m) (size : Nat) (h0 : 0 < size) (hm : size ≤ m) : Iv (eLst e) (pLst size p) (okL ok) 8 where
  by_ := fun as ha => By.app.2 ⟨iv_int.by_ _ (okI_len ha.2), fun x hx => by
    obtain ⟨a, h1, h2⟩ := List.mem_flatMap.1 hx
    exact h.by_ a (ha.1 a h1) x h2⟩
  fwd := fun as r ha => by
    unfold pLst eLst
    rw [List.append_assoc, iv_int.fwd _ _ (okI_len ha.2)]
    dsimp only
    have h1 := times_low h as ha.1
    have h2 : as.length ≤ (as.flatMap e ++ r).length / size := by
      rw [Nat.le_div_iff_mul_le h0, List.length_append]
      have := Nat.mul_le_mul_left as.length hm
      rw [Nat.mul_comm m] at h1
      omega
    rw [if_neg (by omega), Int.toNat_natCast]
    exact times_fwd h as r ha.1
  bwd := fun l as r hl hp => by
    unfold pLst at hp
    cases h1 : pInt l with
    | none => rw [h1] at hp; simp at hp
    | some x =>
      obtain ⟨n, t⟩ := x
      rw [h1] at hp
      dsimp only at hp
      obtain ⟨o1, e1⟩ := iv_int.bwd l n t hl h1
      have hb := (By.app.1 (e1 ▸ hl)).2
      by_cases hn : n < 0 ∨ ((t.length / size : Nat) : Int) < n
      · rw [if_pos hn] at hp; simp at hp
      · rw [if_neg hn] at hp
        obtain ⟨o2, e2, e3⟩ := times_bwd h n.toNat t as r hb hp
        have hlen : (as.length : Int) = n := by omega
        refine ⟨⟨o2, by rw [hlen]; exact o1.2⟩, ?_⟩
        unfold eLst
        rw [hlen, List.append_assoc, ← e3]
        exact e1
  low := fun as ha => by
    have := iv_int.low _ (okI_len ha.2)
    unfold eLst
    rw [List.length_append]
    omega
theorem iv_times {α : Type} {e : α → List Int} {p : Ps α} {ok : α → Prop} {m : Nat} (h : Iv e p ok m) (n : Nat) : Iv (fun l : List α => l.flatMap e) (p.times n) (fun l => (∀ a ∈ l, ok a) ∧ l.length = n) (m * n) where
  by_ := fun as ha x hx => by
    obtain ⟨a, h1, h2⟩ := List.mem_flatMap.1 hx
    exact h.by_ a (ha.1 a h1) x h2
  fwd := fun as r ha => by
    rw [← ha.2]
    exact times_fwd h as r ha.1
  bwd := fun l as r hl hp => by
    obtain ⟨o2, e2, e3⟩ := times_bwd h n l as r hl hp
    exact ⟨⟨o2, e2⟩, e3⟩
  low := fun as ha => by
    have := times_low h as ha.1
    rw [ha.2] at this
    exact this
/-- A snapshot. Its strings are lists of bytes. -/
structure Sn where
  kind : Int
  steps : Int
  due : Int
  pc : Int
  f : Int
  R : List Int
  C : List Int
  rights : List Int
  data : List (List Int)
  code : List (List Int)
  inputs : List Int
  outputs : List Int
def okW (n : Int) : Prop := 0 ≤ n ∧ n < 4294967296
structure Sn.Ok (s : Sn) : Prop where
  kind : okI s.kind
  steps : okI s.steps
  due : okI s.due
  pc : okW s.pc
  f : okW s.f
  R : (∀ a ∈ s.R, okW a) ∧ s.R.length = 16
  C : (∀ a ∈ s.C, okW a) ∧ s.C.length = 4
  rights : okL okI s.rights
  data : okL okT s.data
  code : okL okT s.code
  inputs : okL okW s.inputs
  outputs : okL okW s.outputs
abbrev Tup : Type := Int × Int × Int × Int × Int × List Int × List Int × List Int × List (List Int) × List (List Int) × List Int × List Int
def Sn.tup (s : Sn) : Tup := (s.kind, s.steps, s.due, s.pc, s.f, s.R, s.C, s.rights, s.data, s.code, s.inputs, s.outputs)
def Sn.of (x : Tup) : Sn := ⟨x.1, x.2.1, x.2.2.1, x.2.2.2.1, x.2.2.2.2.1, x.2.2.2.2.2.1, x.2.2.2.2.2.2.1, x.2.2.2.2.2.2.2.1, x.2.2.2.2.2.2.2.2.1, x.2.2.2.2.2.2.2.2.2.1, x.2.2.2.2.2.2.2.2.2.2.1, x.2.2.2.2.2.2.2.2.2.2.2⟩
def eSn (s : Sn) : List Int := eInt s.kind ++ (eInt s.steps ++ (eInt s.due ++ (put4 s.pc ++ (put4 s.f ++ (s.R.flatMap put4 ++ (s.C.flatMap put4 ++ (eLst eInt s.rights ++ (eLst eTxt s.data ++ (eLst eTxt s.code ++ (eLst put4 s.inputs ++ eLst put4 s.outputs))))))))))
def pSn : Ps Sn := (pInt.both (pInt.both (pInt.both (pWord.both (pWord.both ((pWord.times 16).both ((pWord.times 4).both ((pLst 8 pInt).both ((pLst 8 pTxt).both ((pLst 8 pTxt).both ((pLst 4 pWord).both (pLst 4 pWord)))))))))))).map Sn.of
theorem iv_sn : Iv eSn pSn Sn.Ok 152 :=
  (iv_int.both (iv_int.both (iv_int.both (iv_word.both (iv_word.both ((iv_times iv_word 16).both ((iv_times iv_word 4).both ((iv_lst iv_int 8 (by decide) (by decide)).both ((iv_lst iv_txt 8 (by decide) (by decide)).both ((iv_lst iv_txt 8 (by decide) (by decide)).both ((iv_lst iv_word 4 (by decide) (by decide)).both (iv_lst iv_word 4 (by decide) (by decide))))))))))))).map Sn.of Sn.tup Sn.Ok
    (fun s h => ⟨⟨h.kind, h.steps, h.due, h.pc, h.f, h.R, h.C, h.rights, h.data, h.code, h.inputs, h.outputs⟩, rfl⟩)
    (fun x ⟨h1, h2, h3, h4, h5, h6, h7, h8, h9, h10, h11, h12⟩ => ⟨⟨h1, h2, h3, h4, h5, h6, h7, h8, h9, h10, h11, h12⟩, rfl⟩)
/-- What Read answers. -/
def readSn (t : List Int) : Option Sn := match pSn t with
  | some (s, []) => some s
  | _ => none
theorem read_enc {s : Sn} (h : s.Ok) : readSn (eSn s) = some s := by
  unfold readSn
  have := iv_sn.fwd s [] h
  rw [List.append_nil] at this
  rw [this]
theorem enc_read {t : List Int} {s : Sn} (ht : By t) (h : readSn t = some s) : s.Ok ∧ t = eSn s := by
  unfold readSn at h
  cases hp : pSn t with
  | none => rw [hp] at h; simp at h
  | some x =>
    obtain ⟨a, r⟩ := x
    rw [hp] at h
    cases r with
    | cons b c => simp at h
    | nil =>
      simp only [Option.some.injEq] at h
      subst h
      have := iv_sn.bwd t a [] ht hp
      rw [List.append_nil] at this
      exact this
theorem enc_prefix {a b : Sn} (ha : a.Ok) (hb : b.Ok) {r : List Int} (h : eSn a ++ r = eSn b) : a = b ∧ r = [] := by
  have h1 := iv_sn.fwd a r ha
  have h2 := iv_sn.fwd b [] hb
  rw [h, ← List.append_nil (eSn b), h2] at h1
  simp only [Option.some.injEq, Prod.mk.injEq] at h1
  exact ⟨h1.1.symm, h1.2.symm⟩
end Go.Proofs.Ytohenjmkhncoiaa
