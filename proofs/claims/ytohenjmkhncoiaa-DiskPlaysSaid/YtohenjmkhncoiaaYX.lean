/-
  The plain law of the journal: what a disk holds, how a checkpoint goes on, what a crash leaves. No condition.
-/
import Derived.Test.YtohenjmkhncoiaaYW
namespace Go.Proofs.Ytohenjmkhncoiaa
set_option linter.unusedSimpArgs false
set_option linter.unusedVariables false

/-- The number in a header. -/
def hnum (h : ByteArray) : Int := match pInt (bytesI h) with
  | some (n, _) => n
  | none => 0
/-- What the sectors hold. -/
def view (dur : List ByteArray) : Int → ByteArray := cnt dur []
theorem view_get {dur : List ByteArray} {k : Nat} (h : k < dur.length) : view dur (k : Int) = dur.getD k ByteArray.empty := by
  unfold view cnt rdF
  rw [if_neg (by simp), if_neg (by omega)]
  simp
/-- The disk holds the checkpoint s with the number n. -/
def Hold (c : Int → ByteArray) (room : Nat) (n : Int) (s : Sn) : Prop :=
  (n = 0 ∧ s = zSp.sn ∧ hnum (c 0) < 1 ∧ hnum (c 1) < 1) ∨ (1 ≤ n ∧ storedF c room (n % 2).toNat = some (n, s) ∧ hnum (c ((n + 1) % 2)) < n)
theorem both_some {α β : Type} {p : Ps α} {q : Ps β} {l : List Int} {a : α} {b : β} {r : List Int} (h : (p.both q) l = some ((a, b), r)) : ∃ t, p l = some (a, t) := by
  unfold Ps.both at h
  cases hp : p l with
  | none => rw [hp] at h; simp at h
  | some u =>
    obtain ⟨x, t⟩ := u
    rw [hp] at h
    dsimp only at h
    cases hq : q t with
    | none => rw [hq] at h; simp at h
    | some w =>
      rw [hq] at h
      simp only [Option.some.injEq, Prod.mk.injEq] at h
      rw [h.1.1]
      exact ⟨t, rfl⟩
theorem stored_num {c : Int → ByteArray} {room slot : Nat} {m : Int} {s : Sn} (h : storedF c room slot = some (m, s)) : hnum (c (slot : Int)) = m := by
  unfold storedF at h
  cases hp : (pInt.both pInt) (bytesI (c (slot : Int))) with
  | none => rw [hp] at h; simp at h
  | some u =>
    obtain ⟨⟨n, size⟩, r⟩ := u
    rw [hp] at h
    dsimp only at h
    split at h
    · simp at h
    · cases hr : readSn (bytesI (bodyC c (2 + (slot : Int) * (room : Int)) size)) with
      | none => rw [hr] at h; simp at h
      | some t =>
        rw [hr] at h
        dsimp only at h
        split at h
        · simp only [Option.some.injEq, Prod.mk.injEq] at h
          obtain ⟨t2, ht2⟩ := both_some hp
          unfold hnum
          rw [ht2]
          exact h.1
        · simp at h
theorem stored_none {c : Int → ByteArray} {room slot : Nat} (h : hnum (c (slot : Int)) < 1) : storedF c room slot = none := by
  cases hs : storedF c room slot with
  | none => rfl
  | some u =>
    obtain ⟨m, s⟩ := u
    have h1 := stored_num hs
    have h2 := stored_pos hs
    omega
theorem hold_open {c : Int → ByteArray} {room : Nat} {n : Int} {s : Sn} (h : Hold c room n s) : openF (storedF c room 0) (storedF c room 1) = (n, s) := by
  rcases h with ⟨rfl, rfl, h0, h1⟩ | ⟨hn, hs, ho⟩
  · rw [stored_none (slot := 0) h0, stored_none (slot := 1) h1]
    rfl
  · rcases (by omega : n % 2 = 0 ∨ n % 2 = 1) with e | e
    · rw [e] at hs
      have hs' : storedF c room 0 = some (n, s) := hs
      rw [show (n + 1) % 2 = 1 by omega] at ho
      rw [hs']
      unfold openF
      cases h1 : storedF c room 1 with
      | none => rw [if_neg (by simp only [opN]; omega)]; rfl
      | some u =>
        obtain ⟨m, t⟩ := u
        have hm : hnum (c 1) = m := stored_num (slot := 1) h1
        rw [if_neg (by simp only [opN]; omega)]
        rfl
    · rw [e] at hs
      have hs' : storedF c room 1 = some (n, s) := hs
      rw [show (n + 1) % 2 = 0 by omega] at ho
      rw [hs']
      unfold openF
      cases h1 : storedF c room 0 with
      | none => rw [if_pos (by simp only [opN]; omega)]; rfl
      | some u =>
        obtain ⟨m, t⟩ := u
        have hm : hnum (c 0) = m := stored_num (slot := 0) h1
        rw [if_pos (by simp only [opN]; omega)]
        rfl
theorem catC_congr {c c' : Int → ByteArray} {base : Int} : ∀ {k : Nat}, (∀ i : Nat, i < k → c (base + (i : Int)) = c' (base + (i : Int))) → catC c base k = catC c' base k
  | 0, _ => rfl
  | k + 1, h => by rw [catC_succ, catC_succ, catC_congr (fun i hi => h i (by omega)), h k (by omega)]
theorem stored_congr {c c' : Int → ByteArray} {room slot : Nat} (h0 : c (slot : Int) = c' (slot : Int)) (h1 : ∀ i : Nat, i < room → c (2 + (slot : Int) * (room : Int) + (i : Int)) = c' (2 + (slot : Int) * (room : Int) + (i : Int))) : storedF c room slot = storedF c' room slot := by
  unfold storedF
  rw [h0]
  cases hp : (pInt.both pInt) (bytesI (c' (slot : Int))) with
  | none => rfl
  | some u =>
    obtain ⟨⟨n, size⟩, r⟩ := u
    dsimp only
    by_cases hc : n < 1 ∨ size < 0 ∨ (room : Int) * 64 < size
    · rw [if_pos hc, if_pos hc]
    · rw [if_neg hc, if_neg hc]
      have : bodyC c (2 + (slot : Int) * (room : Int)) size = bodyC c' (2 + (slot : Int) * (room : Int)) size := by
        unfold bodyC
        rw [catC_congr fun i hi => h1 i (by omega)]
      rw [this]
/-- What does not touch the held slot and the other header changes nothing. -/
theorem hold_congr {c c' : Int → ByteArray} {room : Nat} {n : Int} {s : Sn} (h : Hold c room n s) (h0 : c 0 = c' 0) (h1 : c 1 = c' 1) (hb : ∀ i : Nat, i < room → c (2 + n % 2 * (room : Int) + (i : Int)) = c' (2 + n % 2 * (room : Int) + (i : Int))) : Hold c' room n s := by
  rcases h with ⟨rfl, rfl, g0, g1⟩ | ⟨hn, hs, ho⟩
  · exact .inl ⟨rfl, rfl, h0 ▸ g0, h1 ▸ g1⟩
  · refine .inr ⟨hn, ?_, ?_⟩
    · rw [← stored_congr (c := c) (c' := c') (room := room) (slot := (n % 2).toNat) ?_ ?_]
      · exact hs
      · rcases (by omega : n % 2 = 0 ∨ n % 2 = 1) with e | e <;> rw [e]
        · exact h0
        · exact h1
      · intro i hi
        have := hb i hi
        rw [show (((n % 2).toNat : Nat) : Int) = n % 2 by omega]
        exact this
    · rcases (by omega : (n + 1) % 2 = 0 ∨ (n + 1) % 2 = 1) with e | e <;> rw [e] at ho ⊢
      · rw [← h0]; exact ho
      · rw [← h1]; exact ho
theorem bytesI_append (a b : ByteArray) : bytesI (a ++ b) = bytesI a ++ bytesI b := by
  unfold bytesI
  rw [← List.map_append]
  congr 1
theorem By_rep (n : Nat) : By (List.replicate n 0) := fun x hx => by
  have := (List.mem_replicate.1 hx).2
  omega
theorem catC_blk {c : Int → ByteArray} {base : Int} {body : ByteArray} : ∀ {k : Nat}, k ≤ nbk body → (∀ j : Nat, j < k → c (base + (j : Int)) = blk body j) → (catC c base k).take body.size = (bytesI body).take (64 * k)
  | 0, _, _ => by simp [catC]
  | k + 1, hk, h => by
    unfold nbk at hk
    have hks : 64 * k < body.size := by omega
    have ih := catC_blk (body := body) (k := k) (by unfold nbk; omega) (fun j hj => h j (by omega))
    have hl : (catC c base k).length = 64 * k := catC_len fun i hi => by rw [h i (by omega)]; exact blk_size _ _
    rw [List.take_of_length_le (by omega)] at ih
    rw [catC_succ, h k (by omega), List.take_append, List.take_of_length_le (by omega), hl, ih]
    unfold blk
    rw [bytesI_append, bytesI_ofI (By_rep _)]
    have hp := prt_size body k
    have hpl : (bytesI (prt body k)).length = min body.size (64 * k + 64) - 64 * k := by rw [bytesI_len, hp]
    have e1 : (bytesI (prt body k) ++ List.replicate (64 - (prt body k).size) 0).take (body.size - 64 * k) = bytesI (prt body k) := by
      by_cases h64 : 64 ≤ body.size - 64 * k
      · rw [List.take_of_length_le (by rw [List.length_append, List.length_replicate, hpl]; omega)]
        have : 64 - (prt body k).size = 0 := by omega
        rw [this]
        simp
      · rw [List.take_append_of_le_length (by rw [hpl]; omega), List.take_of_length_le (by rw [hpl]; omega)]
    rw [e1]
    unfold prt
    rw [bytesI_extract, List.drop_take, show 64 * (k + 1) = 64 * k + 64 by omega, List.take_add]
    congr 1
    rw [List.take_eq_take_iff, List.length_drop, bytesI_len]
    omega
theorem bodyC_eq {c : Int → ByteArray} {base : Int} {body : ByteArray} (h : ∀ j : Nat, j < nbk body → c (base + (j : Int)) = blk body j) : bodyC c base (body.size : Int) = body := by
  unfold bodyC
  rw [Int.toNat_natCast]
  have := catC_blk (Nat.le_refl (nbk body)) h
  unfold nbk at this
  rw [this, List.take_of_length_le (by rw [bytesI_len]; omega), ofI_bytesI]
theorem By_hdrL (n : Int) (body : ByteArray) : By (hdrL n body) := by
  unfold hdrL hdrP
  intro x hx
  rcases List.mem_append.1 hx with hx | hx
  · rcases List.mem_append.1 hx with hx | hx
    · obtain ⟨a, _, ha⟩ := List.mem_flatMap.1 hx
      exact By_eInt a x ha
    · obtain ⟨a, _, ha⟩ := List.mem_flatMap.1 hx
      exact By_put4 a x ha
  · obtain ⟨a, _, ha⟩ := List.mem_flatMap.1 hx
    exact By_put4 a x ha
theorem hdr_parse (n : Int) (body : ByteArray) (hn : okI n) (hb : body.size ≤ 100000) : ∃ r, (pInt.both pInt) (bytesI (hdrS n body)) = some ((n, (body.size : Int)), r) := by
  unfold hdrS
  rw [bytesI_append, bytesI_ofI (By_hdrL n body)]
  unfold hdrL hdrP
  have := (iv_int.both iv_int).fwd (n, (body.size : Int)) ([crc body].flatMap put4 ++ ([crc (ofI (hdrP n body))].flatMap put4 ++ bytesI (ofI (List.replicate 40 0)))) ⟨hn, ⟨by dsimp only; omega, by dsimp only; omega⟩⟩
  simp only [List.flatMap_cons, List.flatMap_nil, List.append_nil, List.append_assoc] at this ⊢
  exact ⟨_, this⟩
theorem hdr_num (n : Int) (body : ByteArray) (hn : okI n) (hb : body.size ≤ 100000) : hnum (hdrS n body) = n := by
  obtain ⟨r, h⟩ := hdr_parse n body hn hb
  obtain ⟨t, ht⟩ := both_some h
  unfold hnum
  rw [ht]
/-- A complete checkpoint is the last one. -/
theorem hold_put {c c' : Int → ByteArray} {room : Nat} {n : Int} {s s' : Sn} {body : ByteArray} (h : Hold c room n s) (h0 : c' (n % 2) = c (n % 2)) (hh : c' ((n + 1) % 2) = hdrS (n + 1) body) (hb : ∀ j : Nat, j < nbk body → c' (2 + (n + 1) % 2 * (room : Int) + (j : Int)) = blk body j)
    (hr : readSn (bytesI body) = some s') (hsz : body.size ≤ room * 64) (hlim : body.size ≤ 100000) (hn2 : n ≤ 1000000000) : Hold c' room (n + 1) s' := by
  have hn0 : 0 ≤ n := by rcases h with ⟨rfl, _⟩ | ⟨h, _⟩ <;> omega
  have hok : okI (n + 1) := ⟨by omega, by omega⟩
  refine .inr ⟨by omega, ?_, ?_⟩
  · unfold storedF
    have hslot : ((((n + 1) % 2).toNat : Nat) : Int) = (n + 1) % 2 := by omega
    rw [hslot, hh]
    obtain ⟨r, hp⟩ := hdr_parse (n + 1) body hok hlim
    rw [hp]
    dsimp only
    rw [if_neg (by omega), bodyC_eq hb, hr]
    dsimp only
    rw [if_pos rfl]
  · rw [show (n + 1 + 1) % 2 = n % 2 by omega, h0]
    rcases h with ⟨rfl, _, g0, _⟩ | ⟨hn, hs, _⟩
    · show hnum (c 0) < 0 + 1
      omega
    · have := stored_num hs
      rw [show (((n % 2).toNat : Nat) : Int) = n % 2 by omega] at this
      omega
/-! ### Sectors that become durable -/
theorem set_getD {α : Type} (l : List α) (i k : Nat) (x d : α) : (l.set i x).getD k d = if i = k ∧ k < l.length then x else l.getD k d := by
  rw [List.getD_eq_getElem?_getD, List.getElem?_set, List.getD_eq_getElem?_getD]
  by_cases h : i = k
  · subst h
    by_cases hl : i < l.length
    · simp [hl]
    · simp [hl]
  · simp [h]
theorem putL_other (k : Nat) : ∀ (l : List (Int × ByteArray)) (dur : List ByteArray), (∀ p ∈ l, 0 ≤ p.1 ∧ p.1 ≠ (k : Int)) → (putL l dur).getD k ByteArray.empty = dur.getD k ByteArray.empty
  | [], _, _ => rfl
  | p :: l, dur, h => by
    have h1 := h p (List.mem_cons_self ..)
    show (putL l (dur.set p.1.toNat p.2)).getD k ByteArray.empty = _
    rw [putL_other k l _ (fun q hq => h q (List.mem_cons_of_mem _ hq)), set_getD, if_neg (by omega)]
theorem putL_mem (k : Nat) (s : ByteArray) : ∀ (l : List (Int × ByteArray)) (dur : List ByteArray), k < dur.length → (l.map Prod.fst).Nodup → (∀ p ∈ l, 0 ≤ p.1) → ((k : Int), s) ∈ l → (putL l dur).getD k ByteArray.empty = s
  | [], _, _, _, _, h => by simp at h
  | p :: l, dur, hk, hnd, hr, h => by
    have hnd' := List.nodup_cons.1 (show (p.1 :: l.map Prod.fst).Nodup from hnd)
    show (putL l (dur.set p.1.toNat p.2)).getD k ByteArray.empty = _
    rcases List.mem_cons.1 h with e | e
    · subst e
      rw [putL_other k l _ (fun q hq => ⟨hr q (List.mem_cons_of_mem _ hq), fun e => hnd'.1 (by rw [← show q.1 = (k : Int) from e]; exact List.mem_map.2 ⟨q, hq, rfl⟩)⟩), set_getD, if_pos ⟨by simp, hk⟩]
    · exact putL_mem k s l _ (by rw [List.length_set]; exact hk) hnd'.2 (fun q hq => hr q (List.mem_cons_of_mem _ hq)) e
/-! ### A crash -/
structure CrI (dur : List ByteArray) (fr : List (Int × ByteArray)) (j : Nat) (x : List ByteArray × List (Int × ByteArray) × Nat) : Prop where
  len : x.1.length = dur.length
  old : ∀ k : Nat, x.1.getD k ByteArray.empty = dur.getD k ByteArray.empty ∨ ∃ s, ((k : Int), s) ∈ fr ∧ x.1.getD k ByteArray.empty = s
  left : ∀ p, p ∈ x.2.1 → p ∈ fr ∧ ¬ (0 ≤ p.1 ∧ p.1 < (j : Int))
theorem crash_inv (q : List Int) (dur : List ByteArray) (fr : List (Int × ByteArray)) : ∀ j, CrI dur fr j (sdN q (dur, fr, 0) j)
  | 0 => ⟨rfl, fun k => .inl rfl, fun p hp => ⟨hp, by omega⟩⟩
  | j + 1 => by
    have ih := crash_inv q dur fr j
    show CrI dur fr (j + 1) (std q (sdN q (dur, fr, 0) j) j)
    obtain ⟨x, hx⟩ : ∃ x, sdN q (dur, fr, 0) j = x := ⟨_, rfl⟩
    rw [hx] at ih ⊢
    unfold std
    cases hf : x.2.1.find? (fun p => decide (p.1 = (j : Int))) with
    | none =>
      refine ⟨ih.len, ih.old, fun p hp => ⟨(ih.left p hp).1, fun h => ?_⟩⟩
      have h1 := (ih.left p hp).2
      have h2 := List.find?_eq_none.1 hf p hp
      simp at h2
      omega
    | some p =>
      have hp1 := List.find?_some hf
      have hp2 := List.mem_of_find?_eq_some hf
      simp only [decide_eq_true_eq] at hp1
      refine ⟨?_, fun k => ?_, fun p' hp' => ?_⟩
      · dsimp only
        split
        · rw [List.length_set]; exact ih.len
        · exact ih.len
      · dsimp only
        split
        · rw [set_getD]
          by_cases hk : j = k ∧ k < x.1.length
          · rw [if_pos hk]
            right
            refine ⟨p.2, ?_, rfl⟩
            have := (ih.left p hp2).1
            rw [← hk.1, ← hp1]
            exact this
          · rw [if_neg hk]; exact ih.old k
        · exact ih.old k
      · obtain ⟨g1, g2⟩ := List.mem_filter.1 hp'
        have h1 := ih.left p' g1
        refine ⟨h1.1, fun h => ?_⟩
        have h3 := of_decide_eq_true g2
        have := h1.2
        omega
theorem crash_done {q : List Int} {dur : List ByteArray} {fr : List (Int × ByteArray)} (h : ∀ p ∈ fr, 0 ≤ p.1 ∧ p.1 < dur.length) : (sdN q (dur, fr, 0) dur.length).2.1 = [] := by
  have ih := crash_inv q dur fr dur.length
  apply List.eq_nil_iff_forall_not_mem.2
  intro p hp
  obtain ⟨h1, h2⟩ := ih.left p hp
  exact h2 (h p h1)
theorem crash_idle (q : List Int) (dur : List ByteArray) : ∀ j, sdN q (dur, [], 0) j = (dur, [], 0)
  | 0 => rfl
  | j + 1 => by
    show std q (sdN q (dur, [], 0) j) j = _
    rw [crash_idle q dur j]
    rfl
/-! ### A checkpoint on its way -/
/-- The disk's sectors. -/
structure Geo (dur : List ByteArray) (S : Nat) : Prop where
  len : dur.length = S
  lo : 4 ≤ S
  hi : S ≤ 1000
  sz : ∀ k : Nat, k < S → (dur.getD k ByteArray.empty).size = 64
abbrev rm (S : Nat) : Nat := (S - 2) / 2
def fst' (n : Int) (S : Nat) : Int := 2 + (n + 1) % 2 * ((rm S : Nat) : Int)
/-- The sectors that are written so far. -/
structure FrA (n : Int) (S : Nat) (body : ByteArray) (fr : List (Int × ByteArray)) (i : Nat) : Prop where
  nd : (fr.map Prod.fst).Nodup
  sub : ∀ p ∈ fr, ∃ j : Nat, j < i ∧ p = (fst' n S + (j : Int), blk body j)
  all : ∀ j : Nat, j < i → (fst' n S + (j : Int), blk body j) ∈ fr
def Bd (n : Int) (S : Nat) (body : ByteArray) (dur : List ByteArray) : Prop := ∀ j : Nat, j < nbk body → view dur (fst' n S + (j : Int)) = blk body j
def wrs (n : Int) (S : Nat) (body : ByteArray) (i : Nat) : List (Option (Int × ByteArray)) := ((List.range (nbk body)).drop i).map fun j : Nat => some (fst' n S + (j : Int), blk body j)
inductive Phase (n : Int) (S : Nat) (body : ByteArray) (dur : List ByteArray) (fr : List (Int × ByteArray)) : Nat → List (Option (Int × ByteArray)) → Prop
  | a (i : Nat) (hi : i ≤ nbk body) (hf : FrA n S body fr i) : Phase n S body dur fr i (wrs n S body i ++ [none, some ((n + 1) % 2, hdrS (n + 1) body), none])
  | b (hf : fr = []) (hb : Bd n S body dur) : Phase n S body dur fr (nbk body + 1) [some ((n + 1) % 2, hdrS (n + 1) body), none]
  | c (hf : fr = [((n + 1) % 2, hdrS (n + 1) body)]) (hb : Bd n S body dur) : Phase n S body dur fr (nbk body + 2) [none]
theorem plan_eq (n : Int) (S : Nat) (body : ByteArray) : planF n (rm S) body = wrs n S body 0 ++ [none, some ((n + 1) % 2, hdrS (n + 1) body), none] := rfl
/-- A body that fits. -/
structure Fits (S : Nat) (body : ByteArray) (s' : Sn) : Prop where
  read : readSn (bytesI body) = some s'
  fit : body.size ≤ rm S * 64
  lim : body.size ≤ 100000
theorem Fits.nb {S : Nat} {body : ByteArray} {s' : Sn} (h : Fits S body s') : nbk body ≤ rm S := by
  have := h.fit
  unfold nbk
  omega
theorem fst_bd {n : Int} {S : Nat} (h4 : 4 ≤ S) (j : Nat) (hj : j < rm S) : 2 ≤ fst' n S + (j : Int) ∧ fst' n S + (j : Int) < (S : Int) := by
  have hrm : rm S = (S - 2) / 2 := rfl
  unfold fst'
  rcases (by omega : (n + 1) % 2 = 0 ∨ (n + 1) % 2 = 1) with e | e <;> rw [e] <;> omega
/-- The other slot's sectors are others. -/
theorem fst_apart {n : Int} {S : Nat} (i j : Nat) (hi : i < rm S) (hj : j < rm S) : (2 + n % 2 * ((rm S : Nat) : Int) + (i : Int)) ≠ fst' n S + (j : Int) := by
  unfold fst'
  rcases (by omega : (n % 2 = 0 ∧ (n + 1) % 2 = 1) ∨ (n % 2 = 1 ∧ (n + 1) % 2 = 0)) with e | e <;> rw [e.1, e.2] <;> omega
theorem own_bd {n : Int} {S : Nat} (h4 : 4 ≤ S) (i : Nat) (hi : i < rm S) : 2 ≤ 2 + n % 2 * ((rm S : Nat) : Int) + (i : Int) ∧ 2 + n % 2 * ((rm S : Nat) : Int) + (i : Int) < (S : Int) := by
  have hrm : rm S = (S - 2) / 2 := rfl
  rcases (by omega : n % 2 = 0 ∨ n % 2 = 1) with e | e <;> rw [e] <;> omega
theorem nat_of {z : Int} (h : 0 ≤ z) : ∃ k : Nat, z = (k : Int) := Int.eq_ofNat_of_zero_le h
/-- Two disks that agree but on the sectors of the checkpoint on its way. -/
theorem hold_body {dur dur' : List ByteArray} {S : Nat} {n : Int} {s : Sn} {body : ByteArray} (hg : Geo dur S) (hl' : dur'.length = S) (hnb : nbk body ≤ rm S) (h : Hold (view dur) (rm S) n s)
    (ho : ∀ k : Nat, k < S → (∀ j : Nat, j < nbk body → (k : Int) ≠ fst' n S + (j : Int)) → dur'.getD k ByteArray.empty = dur.getD k ByteArray.empty) : Hold (view dur') (rm S) n s := by
  have h4 := hg.lo
  have hl := hg.len
  have hv : ∀ k : Nat, k < S → (∀ j : Nat, j < nbk body → (k : Int) ≠ fst' n S + (j : Int)) → view dur k = view dur' k := fun k hk hne => by
    rw [view_get (by omega), view_get (by omega), ho k hk hne]
  refine hold_congr h (hv 0 (by omega) fun j hj => ?_) (hv 1 (by omega) fun j hj => ?_) fun i hi => ?_
  · have := fst_bd (n := n) h4 j (by omega); omega
  · have := fst_bd (n := n) h4 j (by omega); omega
  · have hb := own_bd (n := n) h4 i hi
    obtain ⟨k, hk⟩ := nat_of (z := 2 + n % 2 * ((rm S : Nat) : Int) + (i : Int)) (by omega)
    rw [hk] at hb ⊢
    refine hv k (by omega) fun j hj => ?_
    rw [← hk]
    exact fst_apart i j hi (by omega)
theorem wrs_cons {n : Int} {S : Nat} {body : ByteArray} {i : Nat} (hi : i < nbk body) : wrs n S body i = some (fst' n S + (i : Int), blk body i) :: wrs n S body (i + 1) := by
  unfold wrs
  rw [List.drop_eq_getElem_cons (by rw [List.length_range]; exact hi), List.map_cons, List.getElem_range]
theorem wrs_nil {n : Int} {S : Nat} {body : ByteArray} : wrs n S body (nbk body) = [] := by
  unfold wrs
  rw [List.drop_of_length_le (by rw [List.length_range]; exact Nat.le_refl _)]
  rfl
theorem wrs_len {n : Int} {S : Nat} {body : ByteArray} {i : Nat} : (wrs n S body i).length = nbk body - i := by
  unfold wrs
  rw [List.length_map, List.length_drop, List.length_range]
theorem Phase.len {n : Int} {S : Nat} {body : ByteArray} {dur : List ByteArray} {fr : List (Int × ByteArray)} {i : Nat} {todo : List (Option (Int × ByteArray))} (h : Phase n S body dur fr i todo) : i + todo.length = nbk body + 3 := by
  cases h with
  | a i hi hf => rw [List.length_append, wrs_len]; simp; omega
  | b hf hb => simp
  | c hf hb => simp
theorem phase_init {n : Int} {S : Nat} {body : ByteArray} {dur : List ByteArray} : Phase n S body dur [] 0 (planF n (rm S) body) := by
  rw [plan_eq]
  exact .a 0 (Nat.zero_le _) ⟨by simp, by simp, fun j hj => by omega⟩
theorem dstep_sync (off armed : Bool) (left : Int) (dur : List ByteArray) (fr l : List (Int × ByteArray)) : dstep off armed left dur fr none l = if pwO off armed left = true then ⟨50, true, if off = true then left else IntKind.i64.wrap (left - 1), dur, fr⟩ else ⟨0, false, IntKind.i64.wrap (left - 1), putL l dur, []⟩ := by
  cases off <;> cases armed <;> by_cases h : left = 0 <;> simp [dstep, pwO, h]
theorem dstep_wr (off armed : Bool) (left : Int) (dur : List ByteArray) (fr l : List (Int × ByteArray)) (k : Int) (s : ByteArray) (hk : 0 ≤ k ∧ k < dur.length) (hs : s.size = 64) : dstep off armed left dur fr (some (k, s)) l = if pwO off armed left = true then ⟨50, true, if off = true then left else IntKind.i64.wrap (left - 1), dur, fr⟩ else ⟨0, false, IntKind.i64.wrap (left - 1), dur, putS fr k s⟩ := by
  have hw : ¬ wrB dur.length k s := by unfold wrB; omega
  cases off <;> cases armed <;> by_cases h : left = 0 <;> simp [dstep, wrF, pwO, h, hw]
/-- What a step of a checkpoint on its way gives. -/
structure StepG (S : Nat) (off armed : Bool) (left n : Int) (s s' : Sn) (body : ByteArray) (dur : List ByteArray) (fr : List (Int × ByteArray)) (i : Nat) (rest : List (Option (Int × ByteArray))) (d : DR) : Prop where
  he : d.e = if pwO off armed left = true then 50 else 0
  ho : d.off = pwO off armed left
  hl : d.left = if off = true then left else IntKind.i64.wrap (left - 1)
  bad : pwO off armed left = true → d.dur = dur ∧ d.fr = fr
  good : pwO off armed left = false → Geo d.dur S ∧ ((rest ≠ [] ∧ Hold (view d.dur) (rm S) n s ∧ Phase n S body d.dur d.fr (i + 1) rest) ∨ (rest = [] ∧ d.fr = [] ∧ Hold (view d.dur) (rm S) (n + 1) s'))
theorem pw_off {off armed : Bool} {left : Int} (h : pwO off armed left = false) : off = false := by
  cases off
  · rfl
  · simp [pwO] at h
theorem FrA.range {n : Int} {S : Nat} {body : ByteArray} {fr : List (Int × ByteArray)} {i : Nat} (h : FrA n S body fr i) (h4 : 4 ≤ S) (hi : i ≤ rm S) : ∀ p ∈ fr, 0 ≤ p.1 ∧ p.1 < (S : Int) := fun p hp => by
  obtain ⟨j, hj, rfl⟩ := h.sub p hp
  have := fst_bd (n := n) h4 j (by omega)
  dsimp only
  omega
theorem Phase.range {n : Int} {S : Nat} {body : ByteArray} {dur : List ByteArray} {fr : List (Int × ByteArray)} {i : Nat} {todo : List (Option (Int × ByteArray))} (h : Phase n S body dur fr i todo) (h4 : 4 ≤ S) (hnb : nbk body ≤ rm S) : ∀ p ∈ fr, 0 ≤ p.1 ∧ p.1 < (S : Int) := by
  cases h with
  | a i hi hf => exact hf.range h4 (by omega)
  | b hf hb => rw [hf]; simp
  | c hf hb =>
    rw [hf]
    intro p hp
    simp only [List.mem_cons, List.not_mem_nil, or_false] at hp
    subst hp
    dsimp only
    omega
theorem step_good {S : Nat} {off armed : Bool} {left n : Int} {s s' : Sn} {body : ByteArray} {dur : List ByteArray} {fr l : List (Int × ByteArray)} {i : Nat} {a : Option (Int × ByteArray)} {rest : List (Option (Int × ByteArray))}
    (hg : Geo dur S) (hh : Hold (view dur) (rm S) n s) (hF : Fits S body s') (hn : n ≤ 1000000000) (hp : Phase n S body dur fr i (a :: rest)) (hl : l.Perm fr) : StepG S off armed left n s s' body dur fr i rest (dstep off armed left dur fr a l) := by
  have h4 := hg.lo
  have hlen := hg.len
  have hnb := hF.nb
  generalize htd : a :: rest = todo at hp
  cases hp with
  | a i hi hf =>
    by_cases hin : i < nbk body
    · rw [wrs_cons hin] at htd
      simp only [List.cons_append, List.cons.injEq] at htd
      obtain ⟨rfl, rfl⟩ := htd
      have hb := fst_bd (n := n) h4 i (by omega)
      rw [dstep_wr off armed left dur fr l _ _ (by omega) (blk_size _ _)]
      cases hpw : pwO off armed left with
      | true => rw [if_pos rfl]; exact ⟨by rw [hpw]; rfl, by rw [hpw], rfl, fun _ => ⟨rfl, rfl⟩, fun h => by rw [hpw] at h; simp at h⟩
      | false =>
        have hoff := pw_off hpw
        rw [if_neg (by simp)]
        refine ⟨by rw [hpw]; rfl, by rw [hpw], by rw [hoff]; rfl, fun h => (by rw [hpw] at h; simp at h), fun _ => ⟨hg, .inl ⟨by simp, hh, ?_⟩⟩⟩
        refine .a (i + 1) hin ?_
        have hnot : ∀ p ∈ fr, p.1 ≠ fst' n S + (i : Int) := fun p hp => by
          obtain ⟨j, hj, rfl⟩ := hf.sub p hp
          dsimp only
          omega
        have hfil : fr.filter (fun p => decide (p.1 ≠ fst' n S + (i : Int))) = fr := List.filter_eq_self.2 fun p hp => by simpa using hnot p hp
        show FrA n S body (putS fr (fst' n S + (i : Int)) (blk body i)) (i + 1)
        unfold putS
        rw [hfil]
        refine ⟨?_, fun p hp => ?_, fun j hj => ?_⟩
        · rw [List.map_cons, List.nodup_cons]
          refine ⟨fun hm => ?_, hf.nd⟩
          obtain ⟨p, hp, he⟩ := List.mem_map.1 hm
          exact hnot p hp he
        · rcases List.mem_cons.1 hp with rfl | hp
          · exact ⟨i, by omega, rfl⟩
          · obtain ⟨j, hj, e⟩ := hf.sub p hp
            exact ⟨j, by omega, e⟩
        · by_cases hji : j = i
          · rw [hji]; exact List.mem_cons_self ..
          · exact List.mem_cons_of_mem _ (hf.all j (by omega))
    · have hin' : i = nbk body := by omega
      subst hin'
      rw [wrs_nil] at htd
      simp only [List.nil_append, List.cons.injEq] at htd
      obtain ⟨rfl, rfl⟩ := htd
      rw [dstep_sync]
      cases hpw : pwO off armed left with
      | true => rw [if_pos rfl]; exact ⟨by rw [hpw]; rfl, by rw [hpw], rfl, fun _ => ⟨rfl, rfl⟩, fun h => by rw [hpw] at h; simp at h⟩
      | false =>
        have hoff := pw_off hpw
        rw [if_neg (by simp)]
        have hr := hf.range h4 hnb
        have hr' : ∀ p ∈ l, 0 ≤ p.1 := fun p hp => (hr p (hl.mem_iff.1 hp)).1
        have hnd : (l.map Prod.fst).Nodup := (hl.map Prod.fst).nodup_iff.2 hf.nd
        have ho : ∀ k : Nat, k < S → (∀ j : Nat, j < nbk body → (k : Int) ≠ fst' n S + (j : Int)) → (putL l dur).getD k ByteArray.empty = dur.getD k ByteArray.empty := fun k hk hne => putL_other k l dur fun p hp => ⟨hr' p hp, fun e => by
          obtain ⟨j, hj, rfl⟩ := hf.sub p (hl.mem_iff.1 hp)
          exact hne j hj e.symm⟩
        have hnew : ∀ j : Nat, j < nbk body → ∀ k : Nat, (k : Int) = fst' n S + (j : Int) → (putL l dur).getD k ByteArray.empty = blk body j := fun j hj k hk => by
          have hb := fst_bd (n := n) h4 j (by omega)
          refine putL_mem k (blk body j) l dur (by omega) hnd hr' ?_
          rw [hk]
          exact hl.mem_iff.2 (hf.all j hj)
        refine ⟨by rw [hpw]; rfl, by rw [hpw], by rw [hoff]; rfl, fun h => (by rw [hpw] at h; simp at h), fun _ => ⟨⟨by rw [putL_len]; exact hlen, h4, hg.hi, fun k hk => ?_⟩, .inl ⟨by simp, hold_body hg (by rw [putL_len]; exact hlen) hnb hh ho, .b rfl fun j hj => ?_⟩⟩⟩
        · by_cases hex : ∃ j : Nat, j < nbk body ∧ (k : Int) = fst' n S + (j : Int)
          · obtain ⟨j, hj, e⟩ := hex
            show ((putL l dur).getD k ByteArray.empty).size = 64
            rw [hnew j hj k e]
            exact blk_size _ _
          · show ((putL l dur).getD k ByteArray.empty).size = 64
            rw [ho k hk fun j hj e => hex ⟨j, hj, e⟩]
            exact hg.sz k hk
        · have hb := fst_bd (n := n) h4 j (by omega)
          obtain ⟨k, hk⟩ := nat_of (z := fst' n S + (j : Int)) (by omega)
          show view (putL l dur) (fst' n S + (j : Int)) = blk body j
          rw [hk, view_get (by rw [putL_len]; omega)]
          exact hnew j hj k hk.symm
  | b hf hb =>
    simp only [List.cons.injEq] at htd
    obtain ⟨rfl, rfl⟩ := htd
    subst hf
    rw [dstep_wr off armed left dur [] l _ _ (by omega) (hdrS_size _ _)]
    cases hpw : pwO off armed left with
    | true => rw [if_pos rfl]; exact ⟨by rw [hpw]; rfl, by rw [hpw], rfl, fun _ => ⟨rfl, rfl⟩, fun h => by rw [hpw] at h; simp at h⟩
    | false =>
      have hoff := pw_off hpw
      rw [if_neg (by simp)]
      exact ⟨by rw [hpw]; rfl, by rw [hpw], by rw [hoff]; rfl, fun h => (by rw [hpw] at h; simp at h), fun _ => ⟨hg, .inl ⟨by simp, hh, .c rfl hb⟩⟩⟩
  | c hf hb =>
    simp only [List.cons.injEq] at htd
    obtain ⟨rfl, rfl⟩ := htd
    subst hf
    rw [List.perm_singleton] at hl
    subst hl
    rw [dstep_sync]
    cases hpw : pwO off armed left with
    | true => rw [if_pos rfl]; exact ⟨by rw [hpw]; rfl, by rw [hpw], rfl, fun _ => ⟨rfl, rfl⟩, fun h => by rw [hpw] at h; simp at h⟩
    | false =>
      have hoff := pw_off hpw
      rw [if_neg (by simp)]
      obtain ⟨k0, hk0⟩ := nat_of (z := (n + 1) % 2) (by omega)
      have hset : putL [((n + 1) % 2, hdrS (n + 1) body)] dur = dur.set k0 (hdrS (n + 1) body) := by
        show dur.set ((n + 1) % 2).toNat _ = _
        rw [hk0, Int.toNat_natCast]
      have hother : ∀ k : Nat, k < S → k ≠ k0 → view (dur.set k0 (hdrS (n + 1) body)) k = view dur k := fun k hk hne => by
        rw [view_get (by rw [List.length_set]; omega), view_get (by omega), set_getD, if_neg (by omega)]
      refine ⟨by rw [hpw]; rfl, by rw [hpw], by rw [hoff]; rfl, fun h => (by rw [hpw] at h; simp at h), fun _ => ⟨?_, .inr ⟨rfl, rfl, ?_⟩⟩⟩
      · show Geo (putL _ dur) S
        rw [hset]
        refine ⟨by rw [List.length_set]; exact hlen, h4, hg.hi, fun k hk => ?_⟩
        rw [set_getD]
        split
        · exact hdrS_size _ _
        · exact hg.sz k hk
      · show Hold (view (putL _ dur)) (rm S) (n + 1) s'
        rw [hset]
        refine hold_put hh ?_ ?_ ?_ hF.read hF.fit hF.lim hn
        · obtain ⟨k1, hk1⟩ := nat_of (z := n % 2) (by omega)
          rw [hk1]
          exact hother k1 (by omega) (by omega)
        · rw [hk0, view_get (by rw [List.length_set]; omega), set_getD, if_pos ⟨rfl, by omega⟩]
        · intro j hj
          have hbd := fst_bd (n := n) h4 j (by omega)
          obtain ⟨k, hk⟩ := nat_of (z := fst' n S + (j : Int)) (by omega)
          have := hb j hj
          show view _ (fst' n S + (j : Int)) = _
          rw [hk] at this hbd ⊢
          rw [hother k (by omega) (by omega)]
          exact this
/-- What a crash leaves. -/
theorem crash_good {S : Nat} {n : Int} {s s' : Sn} {body : ByteArray} {dur : List ByteArray} {fr : List (Int × ByteArray)} {i : Nat} {todo : List (Option (Int × ByteArray))} (q : List Int)
    (hg : Geo dur S) (hh : Hold (view dur) (rm S) n s) (hF : Fits S body s') (hn : n ≤ 1000000000) (hp : Phase n S body dur fr i todo) :
    Geo (sdN q (dur, fr, 0) dur.length).1 S ∧ (sdN q (dur, fr, 0) dur.length).2.1 = [] ∧ (Hold (view (sdN q (dur, fr, 0) dur.length).1) (rm S) n s ∨ (nbk body + 2 ≤ i ∧ Hold (view (sdN q (dur, fr, 0) dur.length).1) (rm S) (n + 1) s')) := by
  have h4 := hg.lo
  have hlen := hg.len
  have hnb := hF.nb
  have hr := hp.range h4 hnb
  have hI := crash_inv q dur fr dur.length
  have hd := crash_done (q := q) (dur := dur) (fr := fr) (by rw [hlen]; exact hr)
  obtain ⟨x, hx⟩ : ∃ x, sdN q (dur, fr, 0) dur.length = x := ⟨_, rfl⟩
  rw [hx] at hI hd ⊢
  have hsz : ∀ p ∈ fr, p.2.size = 64 := by
    cases hp with
    | a i hi hf =>
      intro p hp
      obtain ⟨j, hj, rfl⟩ := hf.sub p hp
      exact blk_size _ _
    | b hf hb => rw [hf]; simp
    | c hf hb =>
      rw [hf]
      intro p hp
      simp only [List.mem_cons, List.not_mem_nil, or_false] at hp
      subst hp
      exact hdrS_size _ _
  have hgeo : Geo x.1 S := ⟨hI.len.trans hlen, h4, hg.hi, fun k hk => by
    rcases hI.old k with e | ⟨t, ht, e⟩
    · rw [e]; exact hg.sz k hk
    · rw [e]; exact hsz _ ht⟩
  refine ⟨hgeo, hd, ?_⟩
  cases hp with
  | a i hi hf =>
    left
    refine hold_body hg hgeo.len hnb hh fun k hk hne => ?_
    rcases hI.old k with e | ⟨t, ht, e⟩
    · exact e
    · obtain ⟨j, hj, e2⟩ := hf.sub _ ht
      simp only [Prod.mk.injEq] at e2
      exact absurd e2.1 (hne j (by omega))
  | b hf hb =>
    left
    subst hf
    refine hold_body hg hgeo.len hnb hh fun k hk hne => ?_
    rcases hI.old k with e | ⟨t, ht, e⟩
    · exact e
    · simp at ht
  | c hf hb =>
    subst hf
    obtain ⟨k0, hk0⟩ := nat_of (z := (n + 1) % 2) (by omega)
    have hother : ∀ k : Nat, k ≠ k0 → x.1.getD k ByteArray.empty = dur.getD k ByteArray.empty := fun k hne => by
      rcases hI.old k with e | ⟨t, ht, e⟩
      · exact e
      · simp only [List.mem_cons, List.not_mem_nil, or_false, Prod.mk.injEq] at ht
        omega
    have hxl := hgeo.len
    have hov : ∀ k : Nat, k < S → k ≠ k0 → view x.1 k = view dur k := fun k hk hne => by rw [view_get (by omega), view_get (by omega), hother k hne]
    rcases hI.old k0 with e | ⟨t, ht, e⟩
    · left
      refine hold_body hg hgeo.len hnb hh fun k hk hne => ?_
      by_cases hk : k = k0
      · rw [hk]; exact e
      · exact hother k hk
    · right
      simp only [List.mem_cons, List.not_mem_nil, or_false, Prod.mk.injEq] at ht
      refine ⟨by omega, hold_put hh ?_ ?_ ?_ hF.read hF.fit hF.lim hn⟩
      · obtain ⟨k1, hk1⟩ := nat_of (z := n % 2) (by omega)
        rw [hk1]
        exact hov k1 (by omega) (by omega)
      · rw [hk0, view_get (by omega), e, ht.2]
      · intro j hj
        have hbd := fst_bd (n := n) h4 j (by omega)
        obtain ⟨k, hk⟩ := nat_of (z := fst' n S + (j : Int)) (by omega)
        have := hb j hj
        show view _ (fst' n S + (j : Int)) = _
        rw [hk] at this hbd ⊢
        rw [hov k (by omega) (by omega)]
        exact this
/-- A new disk holds nothing. -/
theorem hold_new {S : Nat} (h4 : 4 ≤ S) (h1 : S ≤ 1000) : Geo (List.replicate S zsec) S ∧ Hold (view (List.replicate S zsec)) (rm S) 0 zSp.sn := by
  have hz : ∀ k : Nat, k < S → (List.replicate S zsec).getD k ByteArray.empty = zsec := fun k hk => by
    rw [List.getD_eq_getElem?_getD, List.getElem?_replicate, if_pos hk]
    rfl
  have hn : hnum zsec < 1 := by
    have hb : bytesI zsec = List.replicate 64 0 := bytesI_ofI (By_rep 64)
    unfold hnum
    rw [hb]
    decide
  refine ⟨⟨List.length_replicate, h4, h1, fun k hk => ?_⟩, .inl ⟨rfl, rfl, ?_, ?_⟩⟩
  · rw [hz k hk]
    unfold zsec
    rw [ofI_size, List.length_replicate]
  · show hnum (view _ ((0 : Nat) : Int)) < 1
    rw [view_get (by rw [List.length_replicate]; omega), hz 0 (by omega)]
    exact hn
  · show hnum (view _ ((1 : Nat) : Int)) < 1
    rw [view_get (by rw [List.length_replicate]; omega), hz 1 (by omega)]
    exact hn
theorem fits_of {S : Nat} {s : Sn} (hok : s.Ok) (h1 : (eSn s).length ≤ rm S * 64) (h2 : (eSn s).length ≤ 100000) : Fits S (ofI (eSn s)) s := by
  have hB : By (eSn s) := iv_sn.by_ s hok
  refine ⟨by rw [bytesI_ofI hB]; exact read_enc hok, by rw [ofI_size]; exact h1, by rw [ofI_size]; exact h2⟩
end Go.Proofs.Ytohenjmkhncoiaa
