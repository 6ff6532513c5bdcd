/-
  Ranges over strings. No condition.
-/
import Derived.Test.YtdcbbkpdlcojfaaKC
import Derived.Laws.RangeString
import Derived.Lib.OthersKept
namespace Go.Proofs.Ytdcbbkpdlcojfaa
set_option linter.unusedSimpArgs false
set_option linter.unusedVariables false
open Go.RowKit

/-- An iterator over a string. -/
def sit (i : Nat) (s : ByteArray) (pos : Nat) : Asn := ⟨fun w F => (∀ x, F x ↔ x = i) ∧ w.heap[i]? = some (.stringIter s pos), fun ⟨h1, h2⟩ hs => ⟨h1, (hs i ((h1 i).2 rfl)).trans h2⟩⟩
section
variable {P : Program} {N : Nat} {w0 : World} {M H : Nat → Prop} {E : Env} {Γ R : Ctx} {Q : Exit → Act → World → Prop}
variable {ops : Array Oper} {rest : List Oper} {T : TypeId} {ps : String} {af : Array Edge} {d : Nat}
theorem ms_rangeS {S : TypeId} {x : Operand} {s : ByteArray} (hS : P.underlying S = some .string) (hx : ev E x = some (.string s)) :
    MS P N w0 M H E Γ R ⟨some d, .range S x, T, ps, af, none⟩ (X := Nat) (fun _ => True) (fun i => .pointer (some ⟨i, 0, none⟩)) (fun i => (d, sit i s 0) :: Γ) (fun _ => R) := by
  refine ms_gen fun a w hE hC => ?_
  refine ⟨w.heap.size, w.alloc (.stringIter s 0), trivial, ?_, hC.new (Touch.alloc _ _ _) ⟨fun x => x = w.heap.size, ⟨fun x => Iff.rfl, by simpa using (Go.MapKept.heap_alloc w _).1⟩, fun b hb => by subst hb; simp⟩⟩
  simp [execOp, hE.ev hx, Instr.range, run_underlying hS, newObj, Sem.run]
theorem r_rangeS {S : TypeId} {x : Operand} {s : ByteArray} (hS : P.underlying S = some .string) (hx : ev E x = some (.string s)) (hd : Nat.blt d N = true)
    (kk : ∀ i, At N w0 M H ((d, .pointer (some ⟨i, 0, none⟩)) :: E) ((d, sit i s 0) :: Γ) R (wpList P ops Q rest)) : At N w0 M H E Γ R (wpList P ops Q (⟨some d, .range S x, T, ps, af, none⟩ :: rest)) := r_ms (ms_rangeS hS hx) hd fun i _ => kk i
theorem r_nextS {x : Operand} {i k pos : Nat} {s : ByteArray} (hx : ev E x = some (.pointer (some ⟨i, 0, none⟩))) (hk : cget Γ k = some (sit i s pos)) (has : ∀ (h : pos < s.size), (s[pos]'h).toNat < 128) (hd : Nat.blt d N = true)
    (over : ¬ pos < s.size → At N w0 M H ((d, .tuple #[.bool false]) :: E) Γ R (wpList P ops Q rest))
    (more : ∀ h : pos < s.size, At N w0 M H ((d, .tuple #[.bool true, .int .i64 (pos : Int), .int .i32 ((s[pos]'h).toNat : Int)]) :: E) ((k, sit i s (pos + 1)) :: Γ) R (wpList P ops Q rest)) :
    At N w0 M H E Γ R (wpList P ops Q (⟨some d, .next x true, T, ps, af, none⟩ :: rest)) := by
  intro a w hE hC
  obtain ⟨GI, ⟨hI1, hI2⟩, _⟩ := hC.reads (.inl hk)
  unfold wpList
  rw [if_pos (by simp [Region.wanted])]
  left
  unfold Oper.wp
  by_cases h : pos < s.size
  · have hr : (Instr.next (.pointer (some ⟨i, 0, none⟩)) true T).run P w = .ok (.tuple #[.bool true, .int .i64 (pos : Int), .int .i32 ((s[pos]'h).toNat : Int)]) (Go.ChangeMaps.setBlock w i (.stringIter s (pos + 1))) := by
      simp only [Instr.next, Sem.run_bind, run_getObj hI2 rfl, Result.andThen_ok, h, if_true, decode_ascii s pos h (has h), run_setObj hI2 rfl]
      simp [goInt]
    have hrun : (execOp a.eval ⟨some d, .next x true, T, ps, af, none⟩).run P w = .ok (.value (.tuple #[.bool true, .int .i64 (pos : Int), .int .i32 ((s[pos]'h).toNat : Int)])) (Go.ChangeMaps.setBlock w i (.stringIter s (pos + 1))) := by
      simp [execOp, hE.ev hx, hr]
    rw [hrun]
    refine more h _ _ (hE.put hd _) (hC.upd hk fun G hG hGlt => ?_)
    obtain ⟨g1, g2⟩ := hG
    have hGb : G i := (g1 i).2 rfl
    exact ⟨G, ⟨g1, setBlock_same g2⟩, fun c hc => ⟨by rw [setBlock_size]; exact hGlt c hc, fun _ => hc⟩, touch_setBlock hGb⟩
  · have hr : (Instr.next (.pointer (some ⟨i, 0, none⟩)) true T).run P w = .ok (.tuple #[.bool false]) w := by
      simp only [Instr.next, Sem.run_bind, run_getObj hI2 rfl, Result.andThen_ok, h, if_false]
      rfl
    have hrun : (execOp a.eval ⟨some d, .next x true, T, ps, af, none⟩).run P w = .ok (.value (.tuple #[.bool false])) w := by
      simp [execOp, hE.ev hx, hr]
    rw [hrun]
    exact over h _ _ (hE.put hd _) hC
end
end Go.Proofs.Ytdcbbkpdlcojfaa
