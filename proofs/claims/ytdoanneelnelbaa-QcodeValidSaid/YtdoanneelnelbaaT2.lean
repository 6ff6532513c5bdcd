/-
  What shapes computes: the table of forms. No condition.
-/
import Derived.Test.YtdoanneelnelbaaT1
namespace Go.Proofs.Ytdoanneelnelbaa
set_option linter.unusedSimpArgs false
set_option linter.unusedVariables false
open Go.RowKit

theorem set_new (b0 d a b : Bool) (kind bits most : Int) (xs : List Int) (n : Nat) (C : Array Value) (B : Nat) (T : Nat → Shape) (wr : World) (hT : Tab wr B T)
    (hn : n = xs.length) (hC : C = (xs.map (Value.int .i64)).toArray) (hx : ∀ x ∈ xs, 0 ≤ x ∧ x < 64) (hm : xs.length ≤ 64) :
    Calls Try.prog 46 #[.agg #[.bool b0, .bool d, .bool a, .bool b, .int .i64 kind, .int .i64 bits, .int .u32 most],
      .slice (some ⟨wr.heap.size, 0, none⟩) n n, .pointer (some ⟨B, 0, none⟩)] (wr.alloc (.cells C 3))
      fun e w' => e = .returned (.tuple #[]) ∧ Tab w' B (setAll ⟨true, d, a, b, kind, bits, most⟩ T xs) ∧ wr.grownBy w' (some B) := by
  subst hn hC
  have hB := hT.lt
  have hxs : (wr.alloc (.cells (xs.map (Value.int .i64)).toArray 3)).rangeAt wr.heap.size 0 (xs.map (Value.int .i64)) := by
    have := World.rangeAt_of_block (heap_alloc_new' wr (.cells (xs.map (Value.int .i64)).toArray 3)) 0 xs.length
    have e : ((xs.map (Value.int .i64)).toArray.extract 0 (0 + xs.length)).toList = xs.map (Value.int .i64) := by simp [List.take_of_length_le]
    rw [e] at this
    exact this
  refine (set_any b0 d a b kind bits most xs wr.heap.size B T _ (hT.alloc _) hxs hx hm (by omega) (by simp)).mono ?_
  rintro e w' ⟨h1, h2, h3⟩
  exact ⟨h1, h2, grown_trans' (only_alloc (World.grownBy.refl' _ _) _) h3⟩

def T0 : Nat → Shape := fun _ => ⟨false, false, false, false, 0, 0, 0⟩
def tabCells (T : Nat → Shape) : List Value := (List.range 64).flatMap fun k => svl (T k)
def from1 (m : Int) (k : Nat) : List Int := (List.range k).map fun (j : Nat) => (j : Int) + m

theorem from1_succ (f : Shape) (T : Nat → Shape) (m : Int) (k : Nat) : setAll f T (from1 m (k + 1)) = setAll f (setAll f T (from1 m k)) [(k : Int) + m] := by
  unfold from1 setAll
  rw [List.range_succ, List.map_append, List.foldl_append]
  rfl

def Z70 : Array Value := (tabCells T0).toArray
theorem zero70 (W : World) : (zeroValue 70).run Try.prog W = .ok (.agg Z70) W := by kernel_rfl

def sAll : Shape := ⟨true, true, true, true, 0, 0, 0⟩
def sImm : Shape := ⟨true, true, true, false, 1, 18, 0⟩

theorem Tab.kept {w w' : World} {B : Nat} {T : Nat → Shape} (h : Tab w B T) (hb : w'.heap[B]? = w.heap[B]?) : Tab w' B T := by
  have hc : ∀ o, w'.cell? ⟨B, o, none⟩ = w.cell? ⟨B, o, none⟩ := fun o => World.cell?_of_block hb
  have hf : ∀ o, w'.frozen? ⟨B, o, none⟩ = w.frozen? ⟨B, o, none⟩ := fun o => by unfold World.frozen?; rw [hb]
  exact ⟨fun k hk j v hv => (hc _).trans (h.1 k hk j v hv), fun j hj => ⟨by rw [hc]; exact (h.2 j hj).1, by rw [hf]; exact (h.2 j hj).2⟩⟩

theorem flat_len (f : Nat → List Value) (h : ∀ k, (f k).length = 7) (n : Nat) : ((List.range n).flatMap f).length = n * 7 := by
  induction n with
  | zero => rfl
  | succ n ih => rw [List.range_succ, List.flatMap_append, List.length_append, ih]; simp [h]; omega

theorem flat_get (f : Nat → List Value) (h : ∀ k, (f k).length = 7) (n k j : Nat) (hk : k < n) (hj : j < 7) : ((List.range n).flatMap f)[k * 7 + j]? = (f k)[j]? := by
  induction n with
  | zero => omega
  | succ n ih =>
    rw [List.range_succ, List.flatMap_append]
    have hl := flat_len f h n
    by_cases e : k < n
    · rw [List.getElem?_append_left (by omega)]; exact ih e
    · have : k = n := by omega
      subst this
      rw [List.getElem?_append_right (by omega), hl]
      simp

theorem svl_len (f : Shape) : (svl f).length = 7 := rfl

theorem tab_of (w : World) (B : Nat) (T : Nat → Shape) (hb : w.heap[B]? = some (.cells (tabCells T).toArray 70 (0, 0))) : Tab w B T := by
  have hl : (tabCells T).length = 448 := flat_len _ (fun k => svl_len _) 64
  have hc : ∀ o, w.cell? ⟨B, o, none⟩ = (tabCells T)[o]? := fun o => by unfold World.cell?; rw [hb]; simp
  refine ⟨fun k hk j v hv => ?_, fun j hj => ?_⟩
  · have hj : j < 7 := by have := (List.getElem?_eq_some_iff.1 hv).1; rwa [svl_len] at this
    rw [hc, ← hv]
    exact flat_get _ (fun k => svl_len _) 64 k j hk hj
  · rw [Nat.zero_add, hc]
    refine ⟨by simp [hl, hj], ?_⟩
    unfold World.frozen?
    rw [hb]
    simp

theorem tab_new (w : World) : Tab (w.alloc (.cells Z70 70)) w.heap.size T0 := tab_of _ _ _ (heap_alloc_new' w (.cells Z70 70))

theorem Tab.whole {w : World} {B : Nat} {T : Nat → Shape} (h : Tab w B T) : w.rangeAt B 0 (tabCells T) := fun i v hv => by
  have hl : (tabCells T).length = 448 := flat_len _ (fun k => svl_len _) 64
  have hi : i < 448 := by have := (List.getElem?_eq_some_iff.1 hv).1; omega
  have e : i = i / 7 * 7 + i % 7 := by omega
  have hg := flat_get (fun k => svl (T k)) (fun k => svl_len _) 64 (i / 7) (i % 7) (by omega) (by omega)
  rw [← e] at hg
  rw [Nat.zero_add]
  have := h.1 (i / 7) (by omega) (i % 7) v (by rw [← hg]; exact hv)
  rwa [← e] at this

theorem tab_one (T : Nat → Shape) : ∀ v ∈ tabCells T, v.oneCell' = true := by
  intro v hv
  unfold tabCells at hv
  rw [List.mem_flatMap] at hv
  obtain ⟨k, _, hk⟩ := hv
  simp [svl] at hk
  rcases hk with h | h | h | h | h | h | h <;> subst h <;> rfl

theorem below_setCells {a : World} : ∀ {w : World} (_ : Below a.heap.size a w) {g : Nat} (_ : a.heap.size ≤ g) (o : Nat) (vs : List Value), Below a.heap.size a (w.setCells g o vs)
  | _, h, _, _, _, [] => h
  | _, h, _, hg, o, v :: vs => by
    rw [World.setCells]
    exact below_setCells (below_set h hg v) hg (o + 1) vs

def shapeOf (op : Int) : Shape := ⟨(formOf op).is, (formOf op).d, (formOf op).a, (formOf op).b, if (formOf op).bits = 0 then 0 else if (formOf op).sg then 1 else 2, (formOf op).bits, (formOf op).most⟩
def shapeT : Nat → Shape := fun k => shapeOf k

def finT : Nat → Shape :=
  setAll ⟨true, false, true, false, 2, 18, 4⟩ (setAll ⟨true, true, false, false, 2, 18, 3⟩ (setAll ⟨true, false, true, false, 0, 0, 0⟩ (setAll ⟨true, false, false, false, 0, 0, 0⟩
    (setAll ⟨true, false, false, false, 2, 18, 0⟩ (setAll ⟨true, true, false, false, 2, 22, 0⟩ (setAll ⟨true, true, false, false, 1, 22, 0⟩ (setAll ⟨true, true, true, false, 1, 18, 0⟩
      (setAll ⟨true, true, true, false, 2, 18, 0⟩ (setAll sImm (setAll sAll T0 (from1 1 12)) (from1 16 12)) [17, 18, 19]) [32, 33, 34, 35, 36, 37]) [40]) [41]) [48]) [49, 50, 51]) [52]) [53]) [54]

theorem finT_eq : ∀ k, k < 64 → finT k = shapeT k := by decide +kernel

theorem Tab.fin {w : World} {B : Nat} (h : Tab w B finT) : Tab w B shapeT := ⟨fun k hk => by rw [← finT_eq k hk]; exact h.1 k hk, h.2⟩

set_option maxHeartbeats 2000000 in
theorem shapes_any (w : World) :
    Calls Try.prog 44 #[] w fun e w' => e = .returned (.agg (tabCells shapeT).toArray) ∧ Below w.heap.size w w' := by
  have hz70 := zero70
  go_enter Try.func44, Try.ntmps44
  go_wp2
  have hT0 : Tab ((w.alloc (.cells Z70 70)).alloc (.cells Z70 70)) (w.heap.size + 1) T0 := by
    have := tab_new (w.alloc (.cells Z70 70))
    simpa using this
  generalize hW : ((w.alloc (.cells Z70 70)).alloc (.cells Z70 70)) = W at hT0 ⊢
  go_loopw [3] (fun i wr => ∃ k : Nat, k ≤ 12 ∧ i = .int .i64 ((k : Int) + 1) ∧ Tab wr (w.heap.size + 1) (setAll sAll T0 (from1 1 k)) ∧ W.grownBy wr (some (w.heap.size + 1))) (fun i _ => 13 - (intOf i).toNat)
  case atStart => exact ⟨0, by omega, rfl, hT0, World.grownBy.refl' _ _⟩
  case round =>
    obtain ⟨k, hk, rfl, hTk, hg⟩ := hrel
    by_cases hlt : k < 12
    · go_wp2_with (go_at_call 46; refine (set_new false true true true 0 0 0 [(k : Int) + 1] 1 _ _ _ wr hTk rfl rfl (by simp; omega) (by simp)).mono ?_; rintro e w1 ⟨rfl, hT1, hg1⟩)
      go_roundw
      case rel => exact ⟨k + 1, by omega, by go_num, by rw [from1_succ]; exact hT1, grown_trans' hg hg1⟩
      case measure => simp [intOf]; omega
    · obtain rfl : k = 12 := by omega
      rw [show ((12 : Nat) : Int) + 1 = 13 from rfl]
      go_wp2
      obtain ⟨wo, rfl⟩ : ∃ wo : World, wo = wr := ⟨_, rfl⟩
      go_loopw [4] (fun i wr => ∃ k : Nat, k ≤ 12 ∧ i = .int .i64 ((k : Int) + 16) ∧ Tab wr (w.heap.size + 1) (setAll sImm (setAll sAll T0 (from1 1 12)) (from1 16 k)) ∧ W.grownBy wr (some (w.heap.size + 1))) (fun i wr => 28 - (intOf i).toNat)
      case atStart => exact ⟨0, by omega, rfl, hTk, hg⟩
      case round =>
        clear hTk hg
        obtain ⟨k, hk, rfl, hTk, hg⟩ := hrel
        by_cases hlt : k < 12
        · go_wp2_with (go_at_call 46; refine (set_new false true true false 1 18 0 [(k : Int) + 16] 1 _ _ _ wr hTk rfl rfl (by simp; omega) (by simp)).mono ?_; rintro e w1 ⟨rfl, hT1, hg1⟩)
          go_roundw
          case rel => exact ⟨k + 1, by omega, by go_num, by rw [from1_succ]; exact hT1, grown_trans' hg hg1⟩
          case measure => simp [intOf]; omega
        · obtain rfl : k = 12 := by omega
          go_wp2_with fail
          refine (set_new false true true false 2 18 0 [17, 18, 19] 3 _ _ _ _ hTk rfl rfl (by simp) (by simp)).mono ?_
          rintro e w1 ⟨rfl, hT1, hg1'⟩
          have hg1 := grown_trans' hg hg1'
          clear hg1' hTk hg
          go_wp2_with fail
          refine (set_new false true true false 1 18 0 [32, 33, 34, 35, 36, 37] 6 _ _ _ _ hT1 rfl rfl (by simp) (by simp)).mono ?_
          rintro e w2 ⟨rfl, hT2, hg2'⟩
          have hg2 := grown_trans' hg1 hg2'
          clear hg2' hT1 hg1
          go_wp2_with fail
          refine (set_new false true false false 1 22 0 [40] 1 _ _ _ _ hT2 rfl rfl (by simp) (by simp)).mono ?_
          rintro e w3 ⟨rfl, hT3, hg3'⟩
          have hg3 := grown_trans' hg2 hg3'
          clear hg3' hT2 hg2
          go_wp2_with fail
          refine (set_new false true false false 2 22 0 [41] 1 _ _ _ _ hT3 rfl rfl (by simp) (by simp)).mono ?_
          rintro e w4 ⟨rfl, hT4, hg4'⟩
          have hg4 := grown_trans' hg3 hg4'
          clear hg4' hT3 hg3
          go_wp2_with fail
          refine (set_new false false false false 2 18 0 [48] 1 _ _ _ _ hT4 rfl rfl (by simp) (by simp)).mono ?_
          rintro e w5 ⟨rfl, hT5, hg5'⟩
          have hg5 := grown_trans' hg4 hg5'
          clear hg5' hT4 hg4
          go_wp2_with fail
          refine (set_new false false false false 0 0 0 [49, 50, 51] 3 _ _ _ _ hT5 rfl rfl (by simp) (by simp)).mono ?_
          rintro e w6 ⟨rfl, hT6, hg6'⟩
          have hg6 := grown_trans' hg5 hg6'
          clear hg6' hT5 hg5
          go_wp2_with fail
          refine (set_new false false true false 0 0 0 [52] 1 _ _ _ _ hT6 rfl rfl (by simp) (by simp)).mono ?_
          rintro e w7 ⟨rfl, hT7, hg7'⟩
          have hg7 := grown_trans' hg6 hg7'
          clear hg7' hT6 hg6
          go_wp2_with fail
          refine (set_new false true false false 2 18 3 [53] 1 _ _ _ _ hT7 rfl rfl (by simp) (by simp)).mono ?_
          rintro e w8 ⟨rfl, hT8, hg8'⟩
          have hg8 := grown_trans' hg7 hg8'
          clear hg8' hT7 hg7
          go_wp2_with fail
          refine (set_new false false true false 2 18 4 [54] 1 _ _ _ _ hT8 rfl rfl (by simp) (by simp)).mono ?_
          rintro e w9 ⟨rfl, hT9, hg9'⟩
          have hg9 := grown_trans' hg8 hg9'
          clear hg9' hT8 hg8
          have hTf : Tab w9 (w.heap.size + 1) shapeT := Tab.fin hT9
          have hA : W.heap[w.heap.size]? = some (.cells Z70 70 (0, 0)) := by
            rw [← hW, Below.heap_alloc _ _ _ (by simp)]; exact heap_alloc_new' w _
          have hA9 : w9.heap[w.heap.size]? = some (.cells Z70 70 (0, 0)) := by
            rw [hg9.block _ (by rw [← hW]; simp; omega) (by simp)]; exact hA
          have hth : w9.there w.heap.size 0 448 := (tab_of w9 w.heap.size T0 hA9).2
          have hb : Below w.heap.size w w9 := by
            have h1 : Below w.heap.size w W := by rw [← hW]; exact below_alloc (below_alloc (Below.refl _ _) _) _
            have h2 : Below w.heap.size W w9 := (Below.refl _ _).grown hg9 h1.size (fun k hk => by injection hk with hk; omega)
            exact h1.trans h2
          clear hT0 hz70 hT9 hA hA9 hg9 hW
          have hlen : (tabCells shapeT).length = 448 := flat_len _ (fun k => svl_len _) 64
          have hsz : (Try.prog.info? 70).map (·.size) = some (tabCells shapeT).length := by rw [hlen]; kernel_rfl
          have hsz2 : (Try.prog.info? 70).map (·.size) = some (tabCells shapeT).toArray.size := by rw [List.size_toArray]; exact hsz
          have hth2 : w9.there w.heap.size 0 (tabCells shapeT).toArray.size := by
            have h448 : (tabCells shapeT).toArray.size = 448 := by rw [List.size_toArray, hlen]
            rw [h448]; exact hth
          have hth3 : w9.there w.heap.size 0 (tabCells shapeT).length := by rw [hlen]; exact hth
          have hres := run_loadVar_mid (P := Try.prog) (w9.setCells w.heap.size 0 (tabCells shapeT)) w.heap.size 0 70 (tabCells shapeT) _ (World.rangeAt_setCells_same _ _ _ _ hth3) Try.underlying70 rfl hsz
          go_upto_region 20 with (fail)
          apply wp_region_lit
          refine wpList_load_mid rfl 70 (.tmp 1) rfl (w.heap.size + 1) 0 rfl (tabCells shapeT) _ hTf.whole Try.underlying70 rfl hsz ?_
          refine wpList_store_mid rfl 70 (.tmp 0) (.tmp 60) rfl w.heap.size 0 (tabCells shapeT).toArray rfl rfl hth2 hsz2 (all_oneCell_toArray (tab_one _)) ?_
          clear hth hth2 hth3 hsz hsz2 hlen
          have hbf := below_setCells hb (Nat.le_refl _) 0 (tabCells shapeT)
          have Hbf := Lib.hid hbf
          clear hbf hb hTf
          go_wp2
          exact bodyPost_ret (v := .agg (tabCells shapeT).toArray) (by simp [results, Try.results44, Act.put, asAddr, hres]) rfl ⟨rfl, Hbf.out⟩
end Go.Proofs.Ytdoanneelnelbaa
