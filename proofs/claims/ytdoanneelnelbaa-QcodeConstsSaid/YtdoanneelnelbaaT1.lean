/-
  The table that shapes makes: one round of its inner function. Conditions: the lists are of operations below 64.
-/
import Derived.Test.YtdoanneelnelbaaW2
import Derived.Deep.MidRow
import Derived.Laws.AppendOwn
import Derived.Deep.Cut
import Derived.Deep.CutBlock
namespace Go.Proofs.Ytdoanneelnelbaa
set_option linter.unusedSimpArgs false
set_option linter.unusedVariables false
open Go.RowKit

structure Shape where
  is : Bool
  d : Bool
  a : Bool
  b : Bool
  kind : Int
  bits : Int
  most : Int
deriving DecidableEq

def svl (f : Shape) : List Value := [.bool f.is, .bool f.d, .bool f.a, .bool f.b, .int .i64 f.kind, .int .i64 f.bits, .int .u32 f.most]

def Tab (w : World) (B : Nat) (T : Nat → Shape) : Prop := (∀ k, k < 64 → w.rangeAt B (k * 7) (svl (T k))) ∧ w.there B 0 448

def upd (T : Nat → Shape) (f : Shape) (i : Int) : Nat → Shape := fun k => if (k : Int) = i then f else T k
def setAll (f : Shape) (T : Nat → Shape) (xs : List Int) : Nat → Shape := xs.foldl (fun T i => upd T f i) T

theorem setAll_snoc (f : Shape) (T : Nat → Shape) (xs : List Int) (k : Nat) (h : k < xs.length) : setAll f T (xs.take (k + 1)) = upd (setAll f T (xs.take k)) f xs[k] := by
  rw [List.take_succ_eq_append_getElem h]; unfold setAll; rw [List.foldl_append]; rfl

theorem Tab.cell {w : World} {B : Nat} {T : Nat → Shape} (h : Tab w B T) (o : Nat) (ho : o < 448) : ∃ v, w.cell? ⟨B, o, none⟩ = some v ∧ w.frozen? ⟨B, o, none⟩ = false := by
  obtain ⟨h1, h2⟩ := h.2 o ho
  rw [Nat.zero_add] at h1 h2
  obtain ⟨v, hv⟩ := Option.isSome_iff_exists.1 h1
  exact ⟨v, hv, h2⟩

theorem Tab.alloc {w : World} {B : Nat} {T : Nat → Shape} (h : Tab w B T) (o : Obj) : Tab (w.alloc o) B T :=
  ⟨fun k hk => World.rangeAt_alloc (h.1 k hk) o, World.there_alloc h.2 o⟩

theorem Tab.lt {w : World} {B : Nat} {T : Nat → Shape} (h : Tab w B T) : B < w.heap.size := by
  obtain ⟨v, hv, _⟩ := h.cell 0 (by omega)
  exact World.block_lt_of_cell? w _ hv

/-- One row of the table is stored. -/
theorem Tab.stored {w : World} {B : Nat} {T : Nat → Shape} (h : Tab w B T) (f : Shape) (i : Nat) (hi : i < 64) : Tab (w.setCells B (i * 7) (svl f)) B (upd T f i) := by
  refine ⟨fun k hk => ?_, World.there_setCells h.2 _ _ _⟩
  unfold upd
  by_cases e : (k : Int) = (i : Int)
  · have : k = i := by omega
    subst this
    rw [if_pos rfl]
    refine World.rangeAt_setCells_same _ _ _ _ (fun j hj => ?_)
    have hj7 : j < 7 := by simpa [svl] using hj
    obtain ⟨h1, h2⟩ := h.2 (k * 7 + j) (by omega)
    rw [Nat.zero_add] at h1 h2
    exact ⟨h1, h2⟩
  · rw [if_neg e]
    refine World.rangeAt_setCells_apart (h.1 k hk) _ _ _ ?_
    simp [svl]; omega

theorem there_at {w : World} {B : Nat} {T : Nat → Shape} (h : Tab w B T) (i : Nat) (hi : i < 64) : w.there B (i * 7) 7 := fun j hj => by
  obtain ⟨h1, h2⟩ := h.2 (i * 7 + j) (by omega)
  rw [Nat.zero_add] at h1 h2
  exact ⟨h1, h2⟩

theorem World.grownBy.refl' (w : World) (row : Option Nat) : w.grownBy w row := ⟨rfl, rfl, rfl, Nat.le_refl _, fun _ _ _ => rfl⟩
theorem only_alloc {a w : World} {row : Option Nat} (h : a.grownBy w row) (o : Obj) : a.grownBy (w.alloc o) row :=
  ⟨h.os, h.tape, h.output, Nat.le_trans h.size (by simp), fun i hi hne => (Below.heap_alloc w o i (Nat.lt_of_lt_of_le hi h.size)).trans (h.block i hi hne)⟩
theorem only_setCell {a w : World} {g : Nat} (h : a.grownBy w (some g)) {p : Addr} (hp : p.block = g ∨ a.heap.size ≤ p.block) (u : Value) : a.grownBy (w.setCell p u) (some g) :=
  ⟨h.os, h.tape, h.output, by simpa [World.setCell] using h.size, fun i hi hne => (Below.heap_setCell w p u i (by
    rintro rfl
    rcases hp with hp | hp
    · exact hne (by rw [hp])
    · omega)).trans (h.block i hi hne)⟩
theorem only_setCells {a : World} {g : Nat} : ∀ {w : World} (_ : a.grownBy w (some g)) (o : Nat) (vs : List Value), a.grownBy (w.setCells g o vs) (some g)
  | _, h, _, [] => h
  | _, h, o, v :: vs => by
    rw [World.setCells]
    exact only_setCells (only_setCell h (.inl rfl) v) (o + 1) vs
theorem grown_trans' {a b c : World} {row : Option Nat} (h : a.grownBy b row) (k : b.grownBy c row) : a.grownBy c row :=
  ⟨k.os.trans h.os, k.tape.trans h.tape, k.output.trans h.output, Nat.le_trans h.size k.size, fun i hi hne => (k.block i (Nat.lt_of_lt_of_le hi h.size) hne).trans (h.block i hi hne)⟩
theorem heap_alloc_new' (w : World) (o : Obj) : (w.alloc o).heap[w.heap.size]? = some o := by
  show (w.heap.push o)[w.heap.size]? = _
  simp

set_option maxHeartbeats 400000 in
theorem set_any (b0 d a b : Bool) (kind bits most : Int) (xs : List Int) (C B : Nat) (T : Nat → Shape) (w : World) (hT : Tab w B T)
    (hxs : w.rangeAt C 0 (xs.map (Value.int .i64))) (hx : ∀ x ∈ xs, 0 ≤ x ∧ x < 64) (hn : xs.length ≤ 64) (hCB : C ≠ B) (hC : C < w.heap.size) :
    Calls Try.prog 46 #[.agg #[.bool b0, .bool d, .bool a, .bool b, .int .i64 kind, .int .i64 bits, .int .u32 most],
      .slice (some ⟨C, 0, none⟩) xs.length xs.length, .pointer (some ⟨B, 0, none⟩)] w
      fun e w' => e = .returned (.tuple #[]) ∧ Tab w' B (setAll ⟨true, d, a, b, kind, bits, most⟩ T xs) ∧ w.grownBy w' (some B) := by
  go_enter Try.func46, Try.ntmps46
  go_wp2
  have hB := hT.lt
  go_loopw [10, 6] (fun i _ wr => ∃ k : Nat, k ≤ xs.length ∧ i = .int .i64 k ∧ Tab wr B (setAll ⟨true, d, a, b, kind, bits, most⟩ T (xs.take k)) ∧
      wr.rangeAt w.heap.size 0 (svl ⟨true, d, a, b, kind, bits, most⟩) ∧ wr.rangeAt C 0 (xs.map (Value.int .i64)) ∧ w.grownBy wr (some B)) (fun i _ _ => xs.length - (intOf i).toNat)
  case atStart =>
    refine ⟨0, Nat.zero_le _, rfl, hT.alloc _, ?_, World.rangeAt_alloc hxs _, only_alloc (World.grownBy.refl' w _) _⟩
    have := World.rangeAt_of_block (heap_alloc_new' w (.cells #[.bool true, .bool d, .bool a, .bool b, .int .i64 kind, .int .i64 bits, .int .u32 most] 62)) 0 7
    exact this
  case round =>
    obtain ⟨k, hk, rfl, hTk, hs, hcs, hg⟩ := hrel
    by_cases hlt : k < xs.length
    · have hck : wr.cell? ⟨C, k, none⟩ = some (.int .i64 xs[k]) := by
        have := hcs k (.int .i64 xs[k]) (by simp [hlt]); simpa using this
      have hxk := hx xs[k] (List.getElem_mem hlt)
      have s0 := hs 0 _ rfl
      have s1 := hs 1 _ rfl
      have s2 := hs 2 _ rfl
      have s3 := hs 3 _ rfl
      have s4 := hs 4 _ rfl
      have s5 := hs 5 _ rfl
      have s6 := hs 6 _ rfl
      simp only [Nat.zero_add] at s0 s1 s2 s3 s4 s5 s6
      obtain ⟨x, hxe⟩ := Int.eq_ofNat_of_zero_le hxk.1
      have Hsn := Lib.hid (setAll_snoc ⟨true, d, a, b, kind, bits, most⟩ T xs k hlt)
      rw [hxe] at hck hxk
      have Hxe := Lib.hid hxe
      clear hxe
      have hth := there_at hTk x (by omega)
      have h1c : (#[.bool true, .bool d, .bool a, .bool b, .int .i64 kind, .int .i64 bits, .int .u32 most] : Array Value).all (·.oneCell') = true := by simp [Value.oneCell']
      have hsz : (Try.prog.info? 62).map (·.size) = some 7 := by kernel_rfl
      go_upto_region 5 with (fail)
      · apply wp_region_lit
        iterate 9 go_step
        refine wpList_store_mid rfl 62 (.tmp 16) (.tmp 15) rfl B (x * 7) #[.bool true, .bool d, .bool a, .bool b, .int .i64 kind, .int .i64 bits, .int .u32 most] rfl rfl hth hsz h1c ?_
        go_wp2
        go_roundw
        case rel =>
          have hst : Tab (wr.setCells B (x * 7) (svl ⟨true, d, a, b, kind, bits, most⟩)) B (setAll ⟨true, d, a, b, kind, bits, most⟩ T (xs.take (k + 1))) := by
            rw [Hsn.out, Hxe.out]
            exact hTk.stored _ x (by omega)
          exact ⟨k + 1, by omega, by go_num, hst, World.rangeAt_setCells_apart hs _ _ _ (.inl (by omega)), World.rangeAt_setCells_apart hcs _ _ _ (.inl hCB), only_setCells hg _ _⟩
        case measure => simp [intOf]; omega
    · go_wp2
      go_end0
      have hkx : k = xs.length := by omega
      rw [hkx, List.take_length] at hTk
      exact ⟨rfl, hTk, hg⟩
end Go.Proofs.Ytdoanneelnelbaa
