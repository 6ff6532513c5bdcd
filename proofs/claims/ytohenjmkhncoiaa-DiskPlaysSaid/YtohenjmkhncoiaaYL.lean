/-
  Reading numbers and texts. Condition: at most a million bytes.
-/
import Derived.Test.YtohenjmkhncoiaaYK
import Derived.Test.YtohenjmkhncoiaaYD
namespace Go.Proofs.Ytohenjmkhncoiaa
set_option linter.unusedSimpArgs false
set_option linter.unusedVariables false
open Go.RowKit

/-- What a reader gives: a value, what is left, and whether it failed. -/
structure Rd (α : Type) where
  a : α
  s : ByteArray
  bad : Bool
structure RdOk {α : Type} (p : Ps α) (s : ByteArray) (bad : Bool) (x : Rd α) : Prop where
  good : bad = false → ∀ a r, p (bytesI s) = some (a, r) → x.a = a ∧ bytesI x.s = r ∧ x.bad = false
  fail : (bad = true ∨ p (bytesI s) = none) → x.bad = true
  small : x.s.size ≤ s.size
theorem RdOk.both {α β : Type} {p : Ps α} {q : Ps β} {s : ByteArray} {bad : Bool} {x : Rd α} {y : Rd β} (h : RdOk p s bad x) (k : RdOk q x.s x.bad y) : RdOk (p.both q) s bad ⟨(x.a, y.a), y.s, y.bad⟩ where
  good := fun hb c r hp => by
    unfold Ps.both at hp
    cases h1 : p (bytesI s) with
    | none => rw [h1] at hp; simp at hp
    | some u =>
      obtain ⟨a, r1⟩ := u
      rw [h1] at hp
      dsimp only at hp
      obtain ⟨e1, e2, e3⟩ := h.good hb a r1 h1
      cases h2 : q r1 with
      | none => rw [h2] at hp; simp at hp
      | some u2 =>
        obtain ⟨b, r2⟩ := u2
        rw [h2] at hp
        simp only [Option.some.injEq, Prod.mk.injEq] at hp
        obtain ⟨rfl, rfl⟩ := hp
        obtain ⟨f1, f2, f3⟩ := k.good e3 b r2 (by rw [e2]; exact h2)
        exact ⟨by rw [e1, f1], f2, f3⟩
  fail := fun hb => by
    by_cases hbad : bad = true
    · exact k.fail (.inl (h.fail (.inl hbad)))
    · have hbf : bad = false := by simpa using hbad
      rcases hb with hb | hb
      · exact absurd hb hbad
      · cases h1 : p (bytesI s) with
        | none => exact k.fail (.inl (h.fail (.inr h1)))
        | some u =>
          obtain ⟨a, r1⟩ := u
          obtain ⟨e1, e2, e3⟩ := h.good hbf a r1 h1
          refine k.fail (.inr ?_)
          unfold Ps.both at hb
          rw [h1] at hb
          dsimp only at hb
          rw [e2]
          cases h2 : q r1 with
          | none => rfl
          | some u2 => rw [h2] at hb; simp at hb
  small := Nat.le_trans k.small h.small
theorem RdOk.map {α β : Type} {p : Ps α} {s : ByteArray} {bad : Bool} {x : Rd α} (h : RdOk p s bad x) (f : α → β) : RdOk (p.map f) s bad ⟨f x.a, x.s, x.bad⟩ where
  good := fun hb c r hp => by
    unfold Ps.map at hp
    cases h1 : p (bytesI s) with
    | none => rw [h1] at hp; simp at hp
    | some u =>
      obtain ⟨a, r1⟩ := u
      rw [h1] at hp
      simp only [Option.some.injEq, Prod.mk.injEq] at hp
      obtain ⟨rfl, rfl⟩ := hp
      obtain ⟨e1, e2, e3⟩ := h.good hb a r1 h1
      exact ⟨by rw [e1], e2, e3⟩
  fail := fun hb => h.fail (by
    rcases hb with hb | hb
    · exact .inl hb
    · refine .inr ?_
      unfold Ps.map at hb
      cases h1 : p (bytesI s) with
      | none => rfl
      | some u => rw [h1] at hb; simp at hb)
  small := h.small
theorem times_succ {α : Type} (p : Ps α) : ∀ (i : Nat) (l : List Int), p.times (i + 1) l = match p.times i l with
    | none => none
    | some (zs, r) => match p r with
      | none => none
      | some (a, t) => some (zs ++ [a], t)
  | 0, l => by
    simp only [Ps.times]
    cases p l with
    | none => rfl
    | some u => rfl
  | i + 1, l => by
    have e : ∀ (n : Nat), p.times (n + 1) l = (match p l with
      | none => none
      | some (a, r) => match p.times n r with
        | none => none
        | some (b, t) => some (a :: b, t)) := fun _ => rfl
    rw [e (i + 1), e i]
    cases h : p l with
    | none => rfl
    | some u =>
      obtain ⟨a, r⟩ := u
      dsimp only
      rw [times_succ p i r]
      cases p.times i r with
      | none => rfl
      | some u2 =>
        obtain ⟨zs, r2⟩ := u2
        dsimp only
        cases p r2 with
        | none => rfl
        | some u3 => rfl
theorem RdOk.nil {α : Type} {p : Ps α} {s : ByteArray} {bad : Bool} : RdOk (p.times 0) s bad ⟨[], s, bad⟩ where
  good := fun hb a r hp => by
    simp only [Ps.times, Option.some.injEq, Prod.mk.injEq] at hp
    exact ⟨hp.1, hp.2, hb⟩
  fail := fun hb => by
    rcases hb with hb | hb
    · exact hb
    · simp [Ps.times] at hb
  small := Nat.le_refl _
theorem RdOk.snoc {α : Type} {p : Ps α} {s : ByteArray} {bad : Bool} {i : Nat} {x : Rd (List α)} {y : Rd α} (h : RdOk (p.times i) s bad x) (k : RdOk p x.s x.bad y) : RdOk (p.times (i + 1)) s bad ⟨x.a ++ [y.a], y.s, y.bad⟩ where
  good := fun hb c r hp => by
    rw [times_succ] at hp
    have := (h.both k).good hb
    cases h1 : p.times i (bytesI s) with
    | none => rw [h1] at hp; simp at hp
    | some u =>
      obtain ⟨zs, r1⟩ := u
      rw [h1] at hp
      dsimp only at hp
      cases h2 : p r1 with
      | none => rw [h2] at hp; simp at hp
      | some u2 =>
        obtain ⟨a, r2⟩ := u2
        rw [h2] at hp
        simp only [Option.some.injEq, Prod.mk.injEq] at hp
        obtain ⟨rfl, rfl⟩ := hp
        obtain ⟨e1, e2, e3⟩ := this (zs, a) r2 (by unfold Ps.both; rw [h1]; dsimp only; rw [h2])
        simp only [Prod.mk.injEq] at e1
        exact ⟨by rw [e1.1, e1.2], e2, e3⟩
  fail := fun hb => (h.both k).fail (by
    rcases hb with hb | hb
    · exact .inl hb
    · refine .inr ?_
      rw [times_succ] at hb
      unfold Ps.both
      cases h1 : p.times i (bytesI s) with
      | none => rfl
      | some u =>
        obtain ⟨zs, r1⟩ := u
        rw [h1] at hb
        dsimp only at hb ⊢
        cases h2 : p r1 with
        | none => rfl
        | some u2 => rw [h2] at hb; simp at hb)
  small := Nat.le_trans k.small h.small
def pCnt (size : Nat) : Ps Int := fun l => match pInt l with
  | none => none
  | some (n, r) => if n < 0 ∨ ((r.length / size : Nat) : Int) < n then none else some (n, r)
theorem pLst_eq {α : Type} (size : Nat) (p : Ps α) (l : List Int) : pLst size p l = match pCnt size l with
    | none => none
    | some (n, r) => p.times n.toNat r := by
  unfold pLst pCnt
  cases pInt l with
  | none => rfl
  | some u =>
    obtain ⟨n, r⟩ := u
    dsimp only
    by_cases h : n < 0 ∨ ((r.length / size : Nat) : Int) < n
    · rw [if_pos h, if_pos h]
    · rw [if_neg h, if_neg h]
theorem RdOk.lst {α : Type} {p : Ps α} {size : Nat} {s : ByteArray} {bad : Bool} {c : Rd Int} {x : Rd (List α)} (h : RdOk (pCnt size) s bad c) (k : RdOk (p.times c.a.toNat) c.s c.bad x) : RdOk (pLst size p) s bad x where
  good := fun hb zs r hp => by
    rw [pLst_eq] at hp
    cases h1 : pCnt size (bytesI s) with
    | none => rw [h1] at hp; simp at hp
    | some u =>
      obtain ⟨n, r1⟩ := u
      rw [h1] at hp
      dsimp only at hp
      obtain ⟨e1, e2, e3⟩ := h.good hb n r1 h1
      exact k.good e3 zs r (by rw [e1, e2]; exact hp)
  fail := fun hb => by
    by_cases hbad : bad = true
    · exact k.fail (.inl (h.fail (.inl hbad)))
    · have hbf : bad = false := by simpa using hbad
      rcases hb with hb | hb
      · exact absurd hb hbad
      · cases h1 : pCnt size (bytesI s) with
        | none => exact k.fail (.inl (h.fail (.inr h1)))
        | some u =>
          obtain ⟨n, r1⟩ := u
          obtain ⟨e1, e2, e3⟩ := h.good hbf n r1 h1
          refine k.fail (.inr ?_)
          rw [pLst_eq, h1] at hb
          dsimp only at hb
          rw [e1, e2]
          exact hb
  small := Nat.le_trans k.small h.small
theorem bytesI_extract (s : ByteArray) (i j : Nat) : bytesI (s.extract i j) = ((bytesI s).take j).drop i := by
  unfold bytesI
  rw [← List.map_take, ← List.map_drop]
  congr 1
  rw [ByteArray.data_extract, Array.toList_extract, List.extract_eq_take_drop]
  rw [List.drop_take]
theorem extract_size (s : ByteArray) (i j : Nat) : (s.extract i j).size = min j s.size - i := by
  rw [← bytesI_len, bytesI_extract, List.length_drop, List.length_take, bytesI_len]
/-- Taking n bytes. -/
def tkA (s : ByteArray) (bad : Bool) (n : Int) : ByteArray := if tkO s bad n = true then ByteArray.empty else s.extract 0 n.toNat
def tkS (s : ByteArray) (bad : Bool) (n : Int) : ByteArray := if tkO s bad n = true then s else s.extract n.toNat s.size
theorem tkS_size (s : ByteArray) (bad : Bool) (n : Int) : (tkS s bad n).size ≤ s.size := by
  unfold tkS
  split
  · exact Nat.le_refl _
  · rw [extract_size]; omega
theorem tk_good {s : ByteArray} {n : Int} (h : ¬ (n < 0 ∨ (s.size : Int) < n)) : tkO s false n = false ∧ bytesI (tkA s false n) = (bytesI s).take n.toNat ∧ bytesI (tkS s false n) = (bytesI s).drop n.toNat := by
  have ho : tkO s false n = false := by unfold tkO; rw [decide_eq_false h]; rfl
  refine ⟨ho, ?_, ?_⟩
  · unfold tkA
    rw [if_neg (by rw [ho]; simp), bytesI_extract, List.drop_zero]
  · unfold tkS
    rw [if_neg (by rw [ho]; simp), bytesI_extract]
    have : (bytesI s).take s.size = bytesI s := by rw [← bytesI_len s, List.take_length]
    rw [this]
theorem tk_bad {s : ByteArray} {bad : Bool} {n : Int} (h : bad = true ∨ n < 0 ∨ (s.size : Int) < n) : tkO s bad n = true := by
  unfold tkO
  rcases h with h | h
  · rw [h]; rfl
  · rw [decide_eq_true h]; cases bad <;> rfl
theorem take_spec' (W : Nat) (s : ByteArray) (bad : Bool) (n : Int) : Spec Try.prog 55 [.pointer (some ⟨W, 0, none⟩), .int .i64 n] [row W 113 (rdC s bad)] [] (X := Unit) (fun _ => True) (fun _ => .string (tkA s bad n)) (fun _ => [row W 113 (rdC (tkS s bad n) (tkO s bad n))]) (fun _ => []) := take_spec W s bad n
def wdA (s : ByteArray) (bad : Bool) : Int := if (tkA s bad 4).size = 4 then get4 (bytesI (tkA s bad 4)) else 0
theorem tkA_four (s : ByteArray) (bad : Bool) : (tkA s bad 4).size = 4 ∨ (tkA s bad 4).size = 0 := by
  unfold tkA
  split
  · exact .inr rfl
  · rename_i h
    left
    have : ¬ ((4 : Int) < 0 ∨ (s.size : Int) < 4) := fun hx => h (tk_bad (.inr hx))
    rw [extract_size]
    show min 4 s.size - 0 = 4
    omega
theorem get4_ok {l : List Int} (h : ∀ j, 0 ≤ l.getD j 0 ∧ l.getD j 0 < 256) : okW (get4 l) := by
  have h0 := h 0; have h1 := h 1; have h2 := h 2; have h3 := h 3
  unfold get4 okW
  omega
theorem wdA_ok (s : ByteArray) (bad : Bool) : okW (wdA s bad) := by
  unfold wdA
  split
  · exact get4_ok (bytesI_bd _)
  · exact ⟨by omega, by omega⟩
theorem rd_word (s : ByteArray) (bad : Bool) : RdOk pWord s bad ⟨wdA s bad, tkS s bad 4, tkO s bad 4⟩ where
  good := fun hb a r hp => by
    subst hb
    unfold pWord at hp
    by_cases h : (bytesI s).length < 4
    · rw [if_pos h] at hp; simp at hp
    · rw [if_neg h] at hp
      simp only [Option.some.injEq, Prod.mk.injEq] at hp
      obtain ⟨rfl, rfl⟩ := hp
      rw [bytesI_len] at h
      obtain ⟨e1, e2, e3⟩ := tk_good (s := s) (n := 4) (by omega)
      refine ⟨?_, e3, e1⟩
      show wdA s false = _
      unfold wdA
      have h4 : (tkA s false 4).size = 4 := by
        rw [← bytesI_len, e2, List.length_take, bytesI_len]
        show min 4 s.size = 4
        omega
      rw [if_pos h4, e2]
      rfl
  fail := fun hb => by
    refine tk_bad ?_
    rcases hb with hb | hb
    · exact .inl hb
    · right
      unfold pWord at hb
      by_cases h : (bytesI s).length < 4
      · rw [bytesI_len] at h
        omega
      · rw [if_neg h] at hb; simp at hb
  small := tkS_size s bad 4
theorem joinI_ok {x : Int × Int} (h1 : okW x.1) (h2 : okW x.2) : okI (joinI x) := by
  unfold joinI okI okW at *
  split <;> omega
/-- Texts. -/
theorem rd_text {s : ByteArray} {bad : Bool} {x : Rd Int} (h : RdOk pInt s bad x) : RdOk pTxt s bad ⟨bytesI (tkA x.s x.bad x.a), tkS x.s x.bad x.a, tkO x.s x.bad x.a⟩ where
  good := fun hb a r hp => by
    unfold pTxt at hp
    cases h1 : pInt (bytesI s) with
    | none => rw [h1] at hp; simp at hp
    | some u =>
      obtain ⟨n, r1⟩ := u
      rw [h1] at hp
      dsimp only at hp
      obtain ⟨e1, e2, e3⟩ := h.good hb n r1 h1
      by_cases hn : n < 0 ∨ (r1.length : Int) < n
      · rw [if_pos hn] at hp; simp at hp
      · rw [if_neg hn] at hp
        simp only [Option.some.injEq, Prod.mk.injEq] at hp
        obtain ⟨rfl, rfl⟩ := hp
        rw [← e2, bytesI_len, ← e1] at hn
        obtain ⟨f1, f2, f3⟩ := tk_good hn
        dsimp only
        rw [e3, f1, f2, f3, e1, e2]
        exact ⟨rfl, rfl, rfl⟩
  fail := fun hb => by
    refine tk_bad ?_
    by_cases hbad : x.bad = true
    · exact .inl hbad
    · right
      rcases hb with hb | hb
      · exact absurd (h.fail (.inl hb)) hbad
      · unfold pTxt at hb
        by_cases hbb : bad = true
        · exact absurd (h.fail (.inl hbb)) hbad
        have hbf : bad = false := by simpa using hbb
        cases h1 : pInt (bytesI s) with
        | none => exact absurd (h.fail (.inr h1)) hbad
        | some u =>
          obtain ⟨n, r1⟩ := u
          rw [h1] at hb
          dsimp only at hb
          obtain ⟨e1, e2, e3⟩ := h.good hbf n r1 h1
          by_cases hn : n < 0 ∨ (r1.length : Int) < n
          · rw [← e2, bytesI_len, ← e1] at hn; exact hn
          · rw [if_neg hn] at hb; simp at hb
  small := Nat.le_trans (tkS_size _ _ _) h.small
theorem rd_cnt_bad {size : Nat} {s : ByteArray} {bad : Bool} {x : Rd Int} (h : RdOk pInt s bad x) (hc : x.bad = true ∨ x.a < 0 ∨ ((x.s.size / size : Nat) : Int) < x.a) : RdOk (pCnt size) s bad ⟨0, x.s, true⟩ where
  good := fun hb a r hp => by
    exfalso
    unfold pCnt at hp
    cases h1 : pInt (bytesI s) with
    | none => rw [h1] at hp; simp at hp
    | some u =>
      obtain ⟨n, r1⟩ := u
      rw [h1] at hp
      dsimp only at hp
      obtain ⟨e1, e2, e3⟩ := h.good hb n r1 h1
      rcases hc with hc | hc
      · rw [e3] at hc; simp at hc
      · rw [← bytesI_len, e2, e1] at hc
        rw [if_pos hc] at hp
        simp at hp
  fail := fun _ => rfl
  small := h.small
theorem rd_cnt {size : Nat} {s : ByteArray} {bad : Bool} {x : Rd Int} (h : RdOk pInt s bad x) (hb0 : x.bad = false) (hc : ¬ (x.a < 0 ∨ ((x.s.size / size : Nat) : Int) < x.a)) : RdOk (pCnt size) s bad ⟨x.a, x.s, x.bad⟩ where
  good := fun hb a r hp => by
    unfold pCnt at hp
    cases h1 : pInt (bytesI s) with
    | none => rw [h1] at hp; simp at hp
    | some u =>
      obtain ⟨n, r1⟩ := u
      rw [h1] at hp
      dsimp only at hp
      obtain ⟨e1, e2, e3⟩ := h.good hb n r1 h1
      split at hp
      · simp at hp
      · simp only [Option.some.injEq, Prod.mk.injEq] at hp
        obtain ⟨rfl, rfl⟩ := hp
        exact ⟨e1, e2, e3⟩
  fail := fun hb => by
    exfalso
    by_cases hbb : bad = true
    · rw [h.fail (.inl hbb)] at hb0; simp at hb0
    have hbf : bad = false := by simpa using hbb
    rcases hb with hb | hb
    · exact hbb hb
    unfold pCnt at hb
    cases h1 : pInt (bytesI s) with
    | none => rw [h.fail (.inr h1)] at hb0; simp at hb0
    | some u =>
      obtain ⟨n, r1⟩ := u
      rw [h1] at hb
      dsimp only at hb
      obtain ⟨e1, e2, e3⟩ := h.good hbf n r1 h1
      rw [← bytesI_len, e2, e1] at hc
      rw [if_neg hc] at hb
      simp at hb
  small := h.small

set_option maxRecDepth 100000 in
theorem word_spec (W : Nat) (s : ByteArray) (bad : Bool) :
    Spec Try.prog 53 [.pointer (some ⟨W, 0, none⟩)] [row W 113 (rdC s bad)] [] (X := Rd Int) (fun x => RdOk pWord s bad x ∧ okW x.a) (fun x => .int .u32 x.a) (fun x => [row W 113 (rdC x.s x.bad)]) (fun _ => []) := by
  refine r_enter Try.func53 rfl Try.ntmps53 rfl fun w0 M H => ?_
  refine r_seq ?_
  refine r_region ?_
  refine r_p (p_assign rfl) rfl ?_
  refine r_nil ?_
  refine r_seq ?_
  refine r_region ?_
  refine r_p (p_move rfl) rfl ?_
  refine r_call (xs := [.tmp 3, .const (.int .i64 4)]) (take_spec' W s bad 4) cb55 [0] [] [0] [] rfl rfl rfl rfl rfl rfl rfl rfl (fun _ _ => rfl) (fun _ _ _ => rfl) rfl (fun _ _ => ?_)
  refine r_call (xs := [.tmp 4]) (get_spec (tkA s bad 4) (tkA_four s bad)) cb67 [] [] [] [] rfl rfl rfl rfl rfl rfl rfl rfl (fun _ _ => rfl) (fun _ _ _ => rfl) rfl (fun _ _ => ?_)
  refine r_p (p_assign rfl) rfl ?_
  refine r_nil ?_
  refine r_cret ?_
  refine r_ret ⟨wdA s bad, tkS s bad 4, tkO s bad 4⟩ ⟨rd_word s bad, wdA_ok s bad⟩ rfl (rs1 (rv_tmp rfl)) rfl [0] [] rfl rfl rfl
set_option maxRecDepth 100000 in
theorem int_spec (W : Nat) (s : ByteArray) (bad : Bool) :
    Spec Try.prog 52 [.pointer (some ⟨W, 0, none⟩)] [row W 113 (rdC s bad)] [] (X := Rd Int) (fun x => RdOk pInt s bad x ∧ okI x.a) (fun x => .int .i64 x.a) (fun x => [row W 113 (rdC x.s x.bad)]) (fun _ => []) := by
  refine r_enter Try.func52 rfl Try.ntmps52 rfl fun w0 M H => ?_
  refine r_seq ?_
  refine r_region ?_
  refine r_p (p_assign rfl) rfl ?_
  refine r_nil ?_
  refine r_seq ?_
  refine r_region ?_
  refine r_p (p_move rfl) rfl ?_
  refine r_call (xs := [.tmp 4]) (word_spec W s bad) cb53 [0] [] [0] [] rfl rfl rfl rfl rfl rfl rfl rfl (fun _ _ => rfl) (fun _ _ _ => rfl) rfl (fun x5 hx5 => ?_)
  have hb5 := hx5.2
  unfold okW at hb5
  refine r_p (p_assign rfl) rfl ?_
  refine r_nil ?_
  refine r_seq ?_
  refine r_region ?_
  refine r_p (p_move rfl) rfl ?_
  refine r_call (xs := [.tmp 6]) (word_spec W x5.s x5.bad) cb53 [0] [] [0] [] rfl rfl rfl rfl rfl rfl rfl rfl (fun _ _ => rfl) (fun _ _ _ => rfl) rfl (fun x7 hx7 => ?_)
  have hb7 := hx7.2
  unfold okW at hb7
  refine r_p (p_conv Try.underlying32 Try.underlying126 rfl (by first | exact w_u64 (by omega) (by omega) | rfl)) rfl ?_
  refine r_p (p_bin rfl rfl (b_shl (by omega) (by first | decide | (simp [IntKind.bits]; omega)) rfl)) rfl ?_
  refine r_p (p_move rfl) rfl ?_
  refine r_p (p_conv Try.underlying32 Try.underlying126 rfl (by first | exact w_u64 (by omega) (by omega) | rfl)) rfl ?_
  refine r_p (p_bin rfl rfl (b_or rfl)) rfl ?_
  refine r_p (p_conv Try.underlying126 Try.underlying3 rfl (by first | exact w_i64 (by omega) (by omega) | rfl)) rfl ?_
  refine r_p (p_assign rfl) rfl ?_
  refine r_nil ?_
  refine r_cret ?_
  refine r_ret ⟨joinI (x5.a, x7.a), x7.s, x7.bad⟩ ⟨(hx5.1.both hx7.1).map joinI, joinI_ok hx5.2 hx7.2⟩ rfl (rs1 (rv_tmp rfl)) (congrArg (Value.int .i64) (join_u64 hb5 hb7)) [0] [] rfl rfl rfl
set_option maxRecDepth 100000 in
theorem count_spec (W : Nat) (s : ByteArray) (bad : Bool) (size : Nat) (h0 : 0 < size) (h1 : size ≤ 1000) (hs : s.size ≤ 1000000) :
    Spec Try.prog 68 [.pointer (some ⟨W, 0, none⟩), .int .i64 (size : Int)] [row W 113 (rdC s bad)] [] (X := Rd Int) (fun x => RdOk (pCnt size) s bad x ∧ 0 ≤ x.a ∧ x.a ≤ 1000000) (fun x => .int .i64 x.a) (fun x => [row W 113 (rdC x.s x.bad)]) (fun _ => []) := by
  refine r_enter Try.func68 rfl Try.ntmps68 rfl fun w0 M H => ?_
  refine r_seq ?_
  refine r_region ?_
  refine r_p (p_assign rfl) rfl ?_
  refine r_nil ?_
  refine r_seq ?_
  refine r_region ?_
  refine r_p (p_move rfl) rfl ?_
  refine r_call (xs := [.tmp 6]) (int_spec W s bad) cb52 [0] [] [0] [] rfl rfl rfl rfl rfl rfl rfl rfl (fun _ _ => rfl) (fun _ _ _ => rfl) rfl (fun x7 hx7 => ?_)
  have htd : (x7.s.size : Int).tdiv (size : Int) = ((x7.s.size / size : Nat) : Int) := by rw [Int.ofNat_tdiv]
  have hdl : x7.s.size / size ≤ x7.s.size := Nat.div_le_self _ _
  have hnn : (0 : Int) ≤ ((x7.s.size / size : Nat) : Int) := Int.natCast_nonneg _
  have hsm := hx7.1.small
  have hoi := hx7.2
  unfold okI at hoi
  refine r_p (p_assign rfl) rfl ?_
  refine r_nil ?_
  refine r_seq ?_
  refine r_seq ?_
  refine r_region ?_
  refine r_p (p_move rfl) rfl ?_
  refine r_p (p_bin rfl rfl b_lt) rfl ?_
  refine r_p (p_move rfl) rfl ?_
  refine r_gp [] rfl rfl trivial (fun hg1 => p_move rfl) rfl ?_
  refine r_gp [(11, _)] rfl rfl ⟨rfl, trivial⟩ (fun hg2 => p_move rfl) rfl ?_
  refine r_gp [(11, _), (12, _)] rfl rfl ⟨rfl, rfl, trivial⟩ (fun hg3 => p_nilCheck rfl) rfl ?_
  refine r_gp [(11, _), (12, _), (13, _)] rfl rfl ⟨rfl, rfl, rfl, trivial⟩ (fun hg4 => p_field0 fo113_0 rfl) rfl ?_
  refine r_gp [(11, _), (12, _), (13, _), (14, _)] rfl rfl ⟨rfl, rfl, rfl, rfl, trivial⟩ (fun hg5 => p_load1 t9 rfl rfl (g_row1 (k := 0) rfl rfl)) rfl ?_
  refine r_gp [(11, _), (12, _), (13, _), (14, _), (15, _)] rfl rfl ⟨rfl, rfl, rfl, rfl, rfl, trivial⟩ (fun hg6 => p_len_str Try.underlying9 rfl) rfl ?_
  refine r_gp [(11, _), (12, _), (13, _), (14, _), (15, _), (16, _)] rfl rfl ⟨rfl, rfl, rfl, rfl, rfl, rfl, trivial⟩ (fun hg7 => p_move rfl) rfl ?_
  refine r_gp [(11, _), (12, _), (13, _), (14, _), (15, _), (16, _), (17, _)] rfl rfl ⟨rfl, rfl, rfl, rfl, rfl, rfl, rfl, trivial⟩ (fun hg8 => p_bin rfl rfl (b_quo (c := ((x7.s.size / size : Nat) : Int)) (by omega) (by rw [htd]; exact w_i64 (by omega) (by omega)))) rfl ?_
  refine r_gp [(11, _), (12, _), (13, _), (14, _), (15, _), (16, _), (17, _), (18, _)] rfl rfl ⟨rfl, rfl, rfl, rfl, rfl, rfl, rfl, rfl, trivial⟩ (fun hg9 => p_bin rfl rfl b_gt) rfl ?_
  refine r_p (p_pick rfl rfl rfl (by first | exact pick_and | exact pick_or |  rfl)) rfl ?_
  refine r_nil ?_
  refine r_cond rfl (fun h10 => ?_) (fun h10 => ?_)
  · (try simp only [decide_eq_true_eq, decide_eq_false_iff_not, Bool.and_eq_true, Bool.or_eq_true, Bool.and_eq_false_iff, Bool.or_eq_false_iff, Bool.not_eq_true, Bool.not_eq_false, Bool.not_eq_true', Bool.not_eq_false', Bool.not_not, bne_iff_ne, beq_iff_eq] at h10)
    have hc : x7.a < 0 ∨ ((x7.s.size / size : Nat) : Int) < x7.a := by omega
    refine r_region ?_
    refine r_p (p_move rfl) rfl ?_
    refine r_p (p_nilCheck rfl) rfl ?_
    refine r_p (p_field0 fo113_1 rfl) rfl ?_
    refine r_store_row (k := 0) t4 rfl rfl rfl rfl rfl rfl rfl rfl ?_
    refine r_nil ?_
    refine r_seq ?_
    refine r_seq ?_
    refine r_region ?_
    refine r_p (p_move rfl) rfl ?_
    refine r_p (p_nilCheck rfl) rfl ?_
    refine r_p (p_field0 fo113_1 rfl) rfl ?_
    refine r_p (p_load1 t4 rfl rfl (g_row1 (k := 0) rfl rfl)) rfl ?_
    refine r_nil ?_
    refine r_cond rfl (fun h11 => ?_) (fun h11 => ?_)
    · (try simp only [decide_eq_true_eq, decide_eq_false_iff_not, Bool.and_eq_true, Bool.or_eq_true, Bool.and_eq_false_iff, Bool.or_eq_false_iff, Bool.not_eq_true, Bool.not_eq_false, Bool.not_eq_true', Bool.not_eq_false', Bool.not_not, bne_iff_ne, beq_iff_eq] at h11)
      refine r_seq ?_
      refine r_region ?_
      refine r_p (p_assign rfl) rfl ?_
      refine r_nil ?_
      refine r_cret ?_
      refine r_ret ⟨0, x7.s, true⟩ ⟨rd_cnt_bad hx7.1 (.inr hc), by dsimp only; omega, by dsimp only; omega⟩ rfl (rs1 (rv_tmp rfl)) rfl [0] [] rfl rfl rfl
    · exact absurd h11 (by simp)
  · (try simp only [decide_eq_true_eq, decide_eq_false_iff_not, Bool.and_eq_true, Bool.or_eq_true, Bool.and_eq_false_iff, Bool.or_eq_false_iff, Bool.not_eq_true, Bool.not_eq_false, Bool.not_eq_true', Bool.not_eq_false', Bool.not_not, bne_iff_ne, beq_iff_eq] at h10)
    have hc : ¬ (x7.a < 0 ∨ ((x7.s.size / size : Nat) : Int) < x7.a) := by omega
    refine r_skip ?_
    refine r_seq ?_
    refine r_seq ?_
    refine r_region ?_
    refine r_p (p_move rfl) rfl ?_
    refine r_p (p_nilCheck rfl) rfl ?_
    refine r_p (p_field0 fo113_1 rfl) rfl ?_
    refine r_p (p_load1 t4 rfl rfl (g_row1 (k := 0) rfl rfl)) rfl ?_
    refine r_nil ?_
    refine r_cond rfl (fun h12 => ?_) (fun h12 => ?_)
    · have hq : x7.bad = true := h12
      refine r_seq ?_
      refine r_region ?_
      refine r_p (p_assign rfl) rfl ?_
      refine r_nil ?_
      refine r_cret ?_
      refine r_ret ⟨0, x7.s, true⟩ ⟨rd_cnt_bad hx7.1 (.inl hq), by dsimp only; omega, by dsimp only; omega⟩ rfl (rs1 (rv_tmp rfl)) rfl [0] [] rfl (by rw [hq]; rfl) rfl
    · have hq : x7.bad = false := h12
      refine r_skip ?_
      refine r_seq ?_
      refine r_region ?_
      refine r_p (p_move rfl) rfl ?_
      refine r_p (p_assign rfl) rfl ?_
      refine r_nil ?_
      refine r_cret ?_
      refine r_ret ⟨x7.a, x7.s, x7.bad⟩ ⟨rd_cnt hx7.1 hq hc, by dsimp only; omega, by dsimp only; omega⟩ rfl (rs1 (rv_tmp rfl)) rfl [0] [] rfl rfl rfl
set_option maxRecDepth 100000 in
theorem text_spec (W bp : Nat) (s : ByteArray) (bad : Bool) :
    Spec Try.prog 54 [.pointer (some ⟨bp, 0, none⟩)] [row W 113 (rdC s bad)] [row bp 111 [.pointer (some ⟨W, 0, none⟩)]] (X := Rd ByteArray) (fun x => RdOk pTxt s bad ⟨bytesI x.a, x.s, x.bad⟩) (fun x => .string x.a) (fun x => [row W 113 (rdC x.s x.bad)]) (fun _ => []) := by
  refine r_enter Try.func54 rfl Try.ntmps54 rfl fun w0 M H => ?_
  refine r_seq ?_
  refine r_region ?_
  refine r_p (p_assign rfl) rfl ?_
  refine r_nil ?_
  refine r_seq ?_
  refine r_draw [2, 3, 4, 5, 1] _ rfl (stg_mem (V := [(0, 2, _), (1, 3, _)]) [0, 1] 2 [2, 1] [] (fun x4 => []) rfl rfl (prs_cons (pri rfl (p_load1 t111 rfl rfl (g_row1R (k := 0) rfl rfl))) (prs_cons (pri rfl (p_load1 t111 rfl rfl (g_row1R (k := 0) rfl rfl))) prs_nil)) rfl rfl rfl rfl rfl rfl rfl rfl rfl rfl rfl (fun _ _ => rfl) rfl (ms_call (xs := [.tmp 3]) (int_spec W s bad) cb52 [0] [] [0] [] rfl rfl rfl rfl rfl rfl rfl rfl (fun _ _ => rfl) (fun _ _ _ => rfl)) (fun x4 hx4 => stg_mem [0] 3 [3, 2, 1, 0] [4] (fun _ => [(4, 1, _)]) rfl rfl (prs_cons (pri rfl (p_load1 t111 rfl rfl (g_row1R (k := 0) rfl rfl))) prs_nil) rfl rfl rfl rfl rfl rfl rfl rfl rfl rfl rfl (fun _ _ => rfl) rfl (ms_call (xs := [.tmp 2, .tmp 4]) (take_spec' W x4.s x4.bad x4.a) cb55 [0] [] [0] [] rfl rfl rfl rfl rfl rfl rfl rfl (fun _ _ => rfl) (fun _ _ _ => rfl)) (fun _ _ => stg_end [4] rfl rfl (prs_cons (pri rfl (p_assign rfl)) prs_nil) rfl rfl rfl ?_)))
  refine r_cret ?_
  refine r_ret ⟨tkA x4.s x4.bad x4.a, tkS x4.s x4.bad x4.a, tkO x4.s x4.bad x4.a⟩ (rd_text hx4.1) rfl (rs1 (rv_tmp rfl)) rfl [0] [] rfl rfl rfl

end Go.Proofs.Ytohenjmkhncoiaa
