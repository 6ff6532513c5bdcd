/-
  A disk and its model: plain. No condition.
-/
import Derived.Test.YtohenjmkhncoiaaP3
namespace Go.Proofs.Ytohenjmkhncoiaa
set_option linter.unusedSimpArgs false
set_option linter.unusedVariables false
open Go.RowKit

theorem find_putS' (fr : List (Int × ByteArray)) (n : Int) (s : ByteArray) (k : Int) : (putS fr n s).find? (fun p => decide (p.1 = k)) = if k = n then some (n, s) else fr.find? (fun p => decide (p.1 = k)) := by
  unfold putS
  rw [List.find?_cons]
  by_cases h : k = n
  · subst h; simp
  · rw [if_neg h]
    have h' : ¬ n = k := fun e => h e.symm
    simp only [h', decide_false]
    induction fr with
    | nil => rfl
    | cons p r ih =>
      by_cases hp : p.1 = n
      · rw [List.filter_cons_of_neg (by simp [hp]), ih, List.find?_cons_of_neg (by simp [hp, h'])]
      · rw [List.filter_cons_of_pos (by simp [hp])]
        by_cases hk : p.1 = k
        · rw [List.find?_cons_of_pos (by simp [hk]), List.find?_cons_of_pos (by simp [hk])]
        · rw [List.find?_cons_of_neg (by simp [hk]), List.find?_cons_of_neg (by simp [hk]), ih]
theorem nd_putS' {fr : List (Int × ByteArray)} (h : (fr.map Prod.fst).Nodup) (n : Int) (s : ByteArray) : ((putS fr n s).map Prod.fst).Nodup := by
  unfold putS
  rw [List.map_cons, List.nodup_cons]
  refine ⟨fun hm => ?_, (List.filter_sublist.map Prod.fst).nodup h⟩
  obtain ⟨p, hp, e⟩ := List.mem_map.1 hm
  have := (List.mem_filter.1 hp).2
  simp [e] at this
theorem find_filter' (l : List (Int × ByteArray)) (j k : Int) (h : k ≠ j) : (l.filter (fun p => decide (p.1 ≠ j))).find? (fun p => decide (p.1 = k)) = l.find? (fun p => decide (p.1 = k)) := by
  induction l with
  | nil => rfl
  | cons p r ih =>
    by_cases hp : p.1 = j
    · rw [List.filter_cons_of_neg (by simp [hp]), ih, List.find?_cons_of_neg (by simp [hp]; exact fun e => h e.symm)]
    · rw [List.filter_cons_of_pos (by simp [hp])]
      by_cases hk : p.1 = k
      · rw [List.find?_cons_of_pos (by simp [hk]), List.find?_cons_of_pos (by simp [hk])]
      · rw [List.find?_cons_of_neg (by simp [hk]), List.find?_cons_of_neg (by simp [hk]), ih]
theorem find_filter_self (l : List (Int × ByteArray)) (j : Int) : (l.filter (fun p => decide (p.1 ≠ j))).find? (fun p => decide (p.1 = j)) = none := by
  rw [List.find?_eq_none]
  intro p hp
  have := (List.mem_filter.1 hp).2
  simpa using this
/-- What is not durable yet is what the model says. -/
structure FrM (S : Nat) (fr : List (Int × ByteArray)) (new : List ByteArray) (has : List Bool) : Prop where
  bd : ∀ p ∈ fr, 0 ≤ p.1 ∧ p.1 < (S : Int)
  nd : (fr.map Prod.fst).Nodup
  find : ∀ k : Nat, k < S → fr.find? (fun p => decide (p.1 = (k : Int))) = if has.getD k false = true then some ((k : Int), new.getD k ByteArray.empty) else none
/-- A disk and its model. -/
structure Pl where
  off : Bool
  armed : Bool
  left : Int
  dur : List ByteArray
  fr : List (Int × ByteArray)
  rleft : Int
  new : List ByteArray
  has : List Bool
structure DM (S : Nat) (x : Pl) : Prop where
  dur : x.dur.length = S
  new : x.new.length = S
  has : x.has.length = S
  fr : FrM S x.fr x.new x.has
  pw : x.off = false → (x.armed = false ∧ x.rleft = -1) ∨ (x.armed = true ∧ x.rleft = x.left ∧ 0 ≤ x.left)
  rl : x.rleft < 9223372036854775808
theorem FrM.put {S : Nat} {fr : List (Int × ByteArray)} {new : List ByteArray} {has : List Bool} (h : FrM S fr new has) (hn : new.length = S) (hh : has.length = S) {n : Int} (h0 : 0 ≤ n ∧ n < (S : Int)) (s : ByteArray) : FrM S (putS fr n s) (new.set n.toNat s) (has.set n.toNat true) := by
  refine ⟨fun p hp => ?_, nd_putS' h.nd n s, fun k hk => ?_⟩
  · rcases List.mem_cons.1 hp with rfl | hp
    · exact h0
    · exact h.bd p (List.mem_filter.1 hp).1
  · rw [find_putS']
    by_cases hkn : (k : Int) = n
    · have ht : n.toNat = k := by omega
      have e1 : (has.set n.toNat true).getD k false = true := by rw [set_getD, if_pos ⟨ht, by omega⟩]
      have e2 : (new.set n.toNat s).getD k ByteArray.empty = s := by rw [set_getD, if_pos ⟨ht, by omega⟩]
      rw [if_pos hkn, if_pos e1, e2, hkn]
    · have e1 : (has.set n.toNat true).getD k false = has.getD k false := by rw [set_getD, if_neg (fun e => hkn (by omega))]
      have e2 : (new.set n.toNat s).getD k ByteArray.empty = new.getD k ByteArray.empty := by rw [set_getD, if_neg (fun e => hkn (by omega))]
      rw [if_neg hkn, e1, e2, h.find k hk]
theorem DM.pwo {S : Nat} {x : Pl} (h : DM S x) : flO x.off x.rleft = pwO x.off x.armed x.left := by
  unfold flO pwO
  cases ho : x.off with
  | true => rfl
  | false =>
    rcases h.pw ho with ⟨h1, h2⟩ | ⟨h1, h2, h3⟩
    · rw [h1, h2]; rfl
    · rw [h1, h2]; rfl
theorem DM.lft {S : Nat} {x : Pl} (h : DM S x) (hp : pwO x.off x.armed x.left = false) : ((x.armed = false ∧ flL x.rleft = -1) ∨ (x.armed = true ∧ flL x.rleft = IntKind.i64.wrap (x.left - 1) ∧ 0 ≤ IntKind.i64.wrap (x.left - 1))) := by
  have ho := pw_off hp
  have hr := h.rl
  rcases h.pw ho with ⟨h1, h2⟩ | ⟨h1, h2, h3⟩
  · exact .inl ⟨h1, by rw [h2]; rfl⟩
  · have hl : x.left ≠ 0 := fun e => by rw [h1, e] at hp; simp [pwO] at hp
    rw [h2] at hr
    rw [w_i64 (by omega) (by omega), h2]
    exact .inr ⟨h1, by unfold flL; rw [if_pos (by omega)], by omega⟩
theorem flL_rl {l : Int} (h : l < 9223372036854775808) : flL l < 9223372036854775808 := by unfold flL; split <;> omega
/-- Writing. -/
theorem DM.write {S : Nat} {x : Pl} (h : DM S x) (n : Int) (s : ByteArray) {d : Dk} {r : Dr} (hd : wrF x.off x.armed x.left x.dur.length x.fr n s = d) (hr : rwF x.off x.rleft x.dur.length x.new x.has n s = r) :
    r.e = d.e ∧ r.off = d.off ∧ DM S ⟨d.off, x.armed, d.left, x.dur, d.fr, r.left, r.new, r.has⟩ := by
  subst hd
  subst hr
  unfold wrF rwF
  rw [h.pwo]
  by_cases ho : x.off = true
  · rw [if_pos ho, if_pos ho]
    exact ⟨rfl, rfl, ⟨h.dur, h.new, h.has, h.fr, h.pw, h.rl⟩⟩
  · rw [if_neg ho, if_neg ho]
    by_cases hb : wrB x.dur.length n s
    · rw [if_pos hb, if_pos hb]
      exact ⟨rfl, rfl, ⟨h.dur, h.new, h.has, h.fr, h.pw, h.rl⟩⟩
    · rw [if_neg hb, if_neg hb]
      cases hp : pwO x.off x.armed x.left with
      | true =>
        rw [if_pos rfl, if_pos rfl]
        exact ⟨rfl, rfl, ⟨h.dur, h.new, h.has, h.fr, fun e => by simp at e, flL_rl h.rl⟩⟩
      | false =>
        rw [if_neg (by simp), if_neg (by simp)]
        unfold wrB at hb
        have h0 : 0 ≤ n ∧ n < (S : Int) := by have := h.dur; omega
        exact ⟨rfl, rfl, ⟨h.dur, by dsimp only; rw [List.length_set]; exact h.new, by dsimp only; rw [List.length_set]; exact h.has, h.fr.put h.new h.has h0 s, fun _ => h.lft hp, flL_rl h.rl⟩⟩
/-- Reading. -/
theorem DM.read {S : Nat} {x : Pl} (h : DM S x) (n : Int) : rrF x.off x.dur x.new x.has n = rdF x.off x.dur x.fr n := by
  unfold rrF rdF
  by_cases ho : x.off = true
  · rw [if_pos ho, if_pos ho]
  · rw [if_neg ho, if_neg ho]
    by_cases hb : n < 0 ∨ (x.dur.length : Int) ≤ n
    · rw [if_pos hb, if_pos hb]
    · rw [if_neg hb, if_neg hb]
      have hd := h.dur
      have hf := h.fr.find n.toNat (by omega)
      rw [show ((n.toNat : Nat) : Int) = n by omega] at hf
      rw [hf]
      by_cases hh : x.has.getD n.toNat false = true
      · rw [if_pos hh, if_pos hh]
      · rw [if_neg hh, if_neg hh]
/-- Arming. -/
theorem DM.arm {S : Nat} {x : Pl} (h : DM S x) {n : Int} (hn : n < 9223372036854775808) : DM S ⟨x.off, if x.off = true then x.armed else decide (n ≥ 0), if x.off = true then x.left else n, x.dur, x.fr, if x.off = true then x.rleft else max n (-1), x.new, x.has⟩ := by
  refine ⟨h.dur, h.new, h.has, h.fr, fun ho => ?_, ?_⟩
  · dsimp only at ho ⊢
    rw [if_neg (by simp [ho]), if_neg (by simp [ho]), if_neg (by simp [ho])]
    by_cases hp : n ≥ 0
    · exact .inr ⟨decide_eq_true hp, by omega, hp⟩
    · exact .inl ⟨decide_eq_false hp, by omega⟩
  · dsimp only
    have := h.rl
    split <;> omega
theorem ext_getD {α : Type} {a b : List α} (d : α) (hl : a.length = b.length) (h : ∀ k, k < a.length → a.getD k d = b.getD k d) : a = b := by
  refine List.ext_getElem hl fun k h1 h2 => ?_
  have := h k h1
  rw [List.getD_eq_getElem?_getD, List.getD_eq_getElem?_getD, List.getElem?_eq_getElem h1, List.getElem?_eq_getElem h2] at this
  exact this
/-- What Sync gives, up to sector j. -/
theorem syN_get (new old : List ByteArray) (has : List Bool) (S : Nat) (hh : has.length = S) (ho : old.length = S) : ∀ j, j ≤ S → ∀ k, k < S → (syN new (old, has) j).1.getD k ByteArray.empty = (if k < j ∧ has.getD k false = true then new.getD k ByteArray.empty else old.getD k ByteArray.empty) ∧ (syN new (old, has) j).2.getD k false = (if k < j then false else has.getD k false)
  | 0, _, k, _ => ⟨by rw [if_neg (by omega)]; rfl, by rw [if_neg (by omega)]; rfl⟩
  | j + 1, hj, k, hk => by
    have ih := syN_get new old has S hh ho j (by omega)
    obtain ⟨l1, l2⟩ := syN_len new (old, has) j
    dsimp only at l1 l2
    show (stp new (syN new (old, has) j) j).1.getD k ByteArray.empty = _ ∧ (stp new (syN new (old, has) j) j).2.getD k false = _
    unfold stp
    dsimp only
    obtain ⟨i1, i2⟩ := ih k hk
    obtain ⟨j1, j2⟩ := ih j (by omega)
    rw [if_neg (Nat.lt_irrefl j)] at j2
    rw [j2]
    constructor
    · by_cases hb : has.getD j false = true
      · rw [if_pos hb, set_getD]
        by_cases hjk : j = k
        · subst hjk
          rw [if_pos ⟨rfl, by rw [l1, ho]; exact hk⟩, if_pos ⟨by omega, hb⟩]
        · rw [if_neg (fun e => hjk e.1), i1]
          by_cases h2 : k < j ∧ has.getD k false = true
          · rw [if_pos h2, if_pos ⟨by omega, h2.2⟩]
          · rw [if_neg h2, if_neg (fun e => h2 ⟨by omega, e.2⟩)]
      · rw [if_neg hb, i1]
        by_cases hjk : j = k
        · subst hjk
          rw [if_neg (by omega), if_neg (fun e => hb e.2)]
        · by_cases h2 : k < j ∧ has.getD k false = true
          · rw [if_pos h2, if_pos ⟨by omega, h2.2⟩]
          · rw [if_neg h2, if_neg (fun e => h2 ⟨by omega, e.2⟩)]
    · rw [set_getD, i2]
      by_cases hjk : j = k
      · subst hjk
        rw [if_pos ⟨rfl, by rw [l2, hh]; exact hk⟩, if_pos (by omega)]
      · rw [if_neg (fun e => hjk e.1)]
        by_cases h2 : k < j
        · rw [if_pos h2, if_pos (by omega)]
        · rw [if_neg h2, if_neg (by omega)]
theorem putL_syN {S : Nat} {fr l : List (Int × ByteArray)} {new dur : List ByteArray} {has : List Bool} (h : FrM S fr new has) (hl : l.Perm fr) (hd : dur.length = S) (hh : has.length = S) : (syN new (dur, has) S).1 = putL l dur := by
  obtain ⟨l1, l2⟩ := syN_len new (dur, has) S
  dsimp only at l1 l2
  refine ext_getD ByteArray.empty (by rw [l1, putL_len]) fun k hk => ?_
  have hk : k < S := by omega
  rw [(syN_get new dur has S hh hd S (Nat.le_refl _) k hk).1]
  have hf := h.find k hk
  have hp : ∀ p ∈ l, 0 ≤ p.1 := fun p hp => (h.bd p (hl.mem_iff.1 hp)).1
  by_cases hb : has.getD k false = true
  · rw [if_pos ⟨hk, hb⟩]
    rw [if_pos hb] at hf
    exact (putL_mem k _ l dur (by omega) ((hl.map Prod.fst).nodup_iff.2 h.nd) hp (hl.mem_iff.2 (List.mem_of_find?_eq_some hf))).symm
  · rw [if_neg (fun e => hb e.2)]
    rw [if_neg hb, List.find?_eq_none] at hf
    exact (putL_other k l dur fun p hp2 => ⟨hp p hp2, fun e => hf p (hl.mem_iff.1 hp2) (by simp [e])⟩).symm
/-- What Sync of the model gives. -/
structure Dy where
  e : Int
  off : Bool
  left : Int
  old : List ByteArray
  has : List Bool
def rsF (off : Bool) (left : Int) (old new : List ByteArray) (has : List Bool) : Dy :=
  if off = true then ⟨50, off, left, old, has⟩ else if flO off left = true then ⟨50, flO off left, flL left, old, has⟩ else ⟨0, flO off left, flL left, (syN new (old, has) old.length).1, (syN new (old, has) old.length).2⟩
theorem DM.sync {S : Nat} {x : Pl} (h : DM S x) {l : List (Int × ByteArray)} (hl : l.Perm x.fr) {d : DR} {r : Dy} (hd : d = dstep x.off x.armed x.left x.dur x.fr none l) (hr : rsF x.off x.rleft x.dur x.new x.has = r) :
    r.e = d.e ∧ r.off = d.off ∧ r.old = d.dur ∧ DM S ⟨d.off, x.armed, d.left, d.dur, d.fr, r.left, x.new, r.has⟩ := by
  subst hd
  subst hr
  unfold rsF dstep
  dsimp only
  rw [h.pwo]
  by_cases ho : x.off = true
  · rw [if_pos ho, if_pos ho]
    exact ⟨rfl, rfl, rfl, ⟨h.dur, h.new, h.has, h.fr, h.pw, h.rl⟩⟩
  · have hof : x.off = false := by simpa using ho
    rw [if_neg ho, if_neg ho]
    rw [show pwO false x.armed x.left = pwO x.off x.armed x.left by rw [hof]]
    cases hp : pwO x.off x.armed x.left with
    | true =>
      rw [if_pos rfl, if_pos rfl]
      exact ⟨rfl, rfl, rfl, ⟨h.dur, h.new, h.has, h.fr, fun e => by simp at e, flL_rl h.rl⟩⟩
    | false =>
      rw [if_neg (by simp), if_neg (by simp), h.dur]
      have h1 := putL_syN (dur := x.dur) h.fr hl h.dur h.has
      obtain ⟨l1, l2⟩ := syN_len x.new (x.dur, x.has) S
      dsimp only at l1 l2
      refine ⟨rfl, rfl, h1, ⟨by dsimp only; rw [putL_len]; exact h.dur, h.new, l2.trans h.has, ⟨fun p hp => by simp at hp, by simp, fun k hk => ?_⟩, fun _ => h.lft hp, flL_rl h.rl⟩⟩
      dsimp only
      rw [(syN_get x.new x.dur x.has S h.has h.dur S (Nat.le_refl _) k hk).2, if_pos hk]
      rfl
/-- A crash, up to sector j. -/
structure CrM (S : Nat) (new : List ByteArray) (j : Nat) (x : List ByteArray × List (Int × ByteArray) × Nat) (y : List ByteArray × List Bool × Nat) : Prop where
  dur : y.1 = x.1
  at_ : y.2.2 = x.2.2
  has : y.2.1.length = S
  fr : FrM S x.2.1 new y.2.1
theorem crM {S : Nat} {fr : List (Int × ByteArray)} {new dur : List ByteArray} {has : List Bool} (q : List Int) (h : FrM S fr new has) (hh : has.length = S) : ∀ j, j ≤ S → CrM S new j (sdN q (dur, fr, 0) j) (crN q new (dur, has, 0) j)
  | 0, _ => ⟨rfl, rfl, hh, h⟩
  | j + 1, hj => by
    have ih := crM (dur := dur) q h hh j (by omega)
    show CrM S new (j + 1) (std q (sdN q (dur, fr, 0) j) j) (stc q new (crN q new (dur, has, 0) j) j)
    obtain ⟨x, hx⟩ : ∃ x, sdN q (dur, fr, 0) j = x := ⟨_, rfl⟩
    obtain ⟨y, hy⟩ : ∃ y, crN q new (dur, has, 0) j = y := ⟨_, rfl⟩
    rw [hx, hy] at ih
    rw [hx, hy]
    obtain ⟨i1, i2, i3, i4⟩ := ih
    have hf := i4.find j (by omega)
    unfold std stc
    by_cases hb : y.2.1.getD j false = true
    · rw [if_pos hb] at hf
      rw [if_pos hb, hf, i1, i2]
      refine ⟨rfl, rfl, by dsimp only; rw [List.length_set]; exact i3, ⟨fun p hp => i4.bd p (List.mem_filter.1 hp).1, (List.filter_sublist.map Prod.fst).nodup i4.nd, fun k hk => ?_⟩⟩
      dsimp only
      by_cases hjk : j = k
      · subst hjk
        have e1 : (y.2.1.set j false).getD j false = false := by rw [set_getD, if_pos ⟨rfl, by omega⟩]
        rw [e1, find_filter_self]
        rfl
      · have e1 : (y.2.1.set j false).getD k false = y.2.1.getD k false := by rw [set_getD, if_neg (fun e => hjk e.1)]
        rw [e1, find_filter' _ _ _ (by omega)]
        exact i4.find k hk
    · rw [if_neg hb] at hf
      rw [if_neg hb, hf]
      exact ⟨i1, i2, i3, i4⟩
/-- A crash. -/
theorem DM.crash {S : Nat} {x : Pl} (h : DM S x) (q : List Int) {y : List ByteArray × List (Int × ByteArray) × Nat} {z : List ByteArray × List Bool × Nat} (hy : sdN q (x.dur, x.fr, 0) x.dur.length = y) (hz : crN q x.new (x.dur, x.has, 0) x.dur.length = z) :
    z.1 = y.1 ∧ DM S ⟨false, false, x.left, y.1, y.2.1, -1, x.new, z.2.1⟩ := by
  subst hy
  subst hz
  rw [h.dur]
  have hc := crM (dur := x.dur) q h.fr h.has S (Nat.le_refl _)
  have hl := (sdN_len q (x.dur, x.fr, 0) S).1
  exact ⟨hc.dur, ⟨hl.trans h.dur, h.new, hc.has, hc.fr, fun _ => .inl ⟨rfl, rfl⟩, by dsimp only; decide⟩⟩
theorem DM.init (S : Nat) : DM S ⟨false, false, 0, List.replicate S zsec, [], -1, List.replicate S ByteArray.empty, List.replicate S false⟩ := by
  refine ⟨by simp, by simp, by simp, ⟨by simp, by simp, fun k hk => ?_⟩, fun _ => .inl ⟨rfl, rfl⟩, by dsimp only; decide⟩
  rw [List.getD_eq_getElem?_getD, List.getElem?_replicate, if_pos hk]
  rfl
end Go.Proofs.Ytohenjmkhncoiaa
