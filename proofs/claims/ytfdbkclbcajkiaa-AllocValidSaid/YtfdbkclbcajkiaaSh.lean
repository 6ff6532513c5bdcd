/-
  The contract of slices.Sort at integers, laid at this program by the kit shelf tool. No condition.
-/
import Derived.Shelf.Sort.Plain
import Derived.Test.YtfdbkclbcajkiaaProg
namespace Go.Proofs.Ytfdbkclbcajkiaa
open Go.Shelf
def Try.lays189_ren : Go.Shelf.Ren := ⟨fun | 189 => 37 | 125 => 45 | 257 => 44 | 128 => 57 | 129 => 58 | 294 => 48 | 295 => 49 | 296 => 50 | 297 => 51 | 298 => 52 | 299 => 53 | 216 => 54 | 300 => 55 | 301 => 56 | 328 => 60 | 329 => 61 | 330 => 62 | 331 => 63 | 332 => 64 | 215 => 65 | 343 => 67 | n => n, fun | 28 => 22 | 3 => 3 | 46 => 80 | 0 => 0 | 51 => 45 | 53 => 94 | 4 => 4 | 183 => 85 | 182 => 84 | 131 => 90 | 5 => 5 | 9 => 9 | 218 => 95 | 222 => 99 | 228 => 102 | 229 => 103 | n => n, fun | n => n⟩
theorem Try.lays189 : Go.Proofs.Lays.n189 Try.prog Try.lays189_ren := {
  mixed := by kernel_rfl
  f125 := Try.func45.trans (congrArg some (by kernel_rfl))
  f128 := Try.func57.trans (congrArg some (by kernel_rfl))
  f129 := Try.func58.trans (congrArg some (by kernel_rfl))
  f189 := Try.func37.trans (congrArg some (by kernel_rfl))
  f215 := Try.func65.trans (congrArg some (by kernel_rfl))
  f216 := Try.func54.trans (congrArg some (by kernel_rfl))
  f257 := Try.func44.trans (congrArg some (by kernel_rfl))
  f294 := Try.func48.trans (congrArg some (by kernel_rfl))
  f295 := Try.func49.trans (congrArg some (by kernel_rfl))
  f296 := Try.func50.trans (congrArg some (by kernel_rfl))
  f297 := Try.func51.trans (congrArg some (by kernel_rfl))
  f298 := Try.func52.trans (congrArg some (by kernel_rfl))
  f299 := Try.func53.trans (congrArg some (by kernel_rfl))
  f300 := Try.func55.trans (congrArg some (by kernel_rfl))
  f301 := Try.func56.trans (congrArg some (by kernel_rfl))
  f328 := Try.func60.trans (congrArg some (by kernel_rfl))
  f329 := Try.func61.trans (congrArg some (by kernel_rfl))
  f330 := Try.func62.trans (congrArg some (by kernel_rfl))
  f331 := Try.func63.trans (congrArg some (by kernel_rfl))
  f332 := Try.func64.trans (congrArg some (by kernel_rfl))
  f343 := Try.func67.trans (congrArg some (by kernel_rfl))
  t0 := Try.underlying0
  a0 := Try.isAgg0
  z0 := Try.sizeOf0
  v0 := Try.zeroValue0
  t3 := Try.underlying3
  a3 := Try.isAgg3
  z3 := Try.sizeOf3
  v3 := Try.zeroValue3
  t4 := Try.underlying4
  a4 := Try.isAgg4
  z4 := Try.sizeOf4
  v4 := Try.zeroValue4
  t5 := Try.underlying5
  a5 := Try.isAgg5
  z5 := Try.sizeOf5
  v5 := Try.zeroValue5
  t9 := Try.underlying9
  a9 := Try.isAgg9
  z9 := Try.sizeOf9
  v9 := Try.zeroValue9
  t28 := Try.underlying22
  a28 := Try.isAgg22
  z28 := Try.sizeOf22
  v28 := Try.zeroValue22
  t46 := Try.underlying80
  a46 := Try.isAgg80
  z46 := Try.sizeOf80
  v46 := Try.zeroValue80
  t51 := Try.underlying45
  a51 := Try.isAgg45
  z51 := Try.sizeOf45
  v51 := Try.zeroValue45
  t53 := Try.underlying94
  a53 := Try.isAgg94
  z53 := Try.sizeOf94
  v53 := Try.zeroValue94
  t131 := Try.underlying90
  a131 := Try.isAgg90
  z131 := Try.sizeOf90
  v131 := Try.zeroValue90
  t182 := Try.underlying84
  a182 := Try.isAgg84
  z182 := Try.sizeOf84
  v182 := Try.zeroValue84
  t183 := Try.underlying85
  a183 := Try.isAgg85
  z183 := Try.sizeOf85
  v183 := Try.zeroValue85
  t218 := Try.underlying95
  a218 := Try.isAgg95
  z218 := Try.sizeOf95
  v218 := Try.zeroValue95
  t222 := Try.underlying99
  a222 := Try.isAgg99
  z222 := Try.sizeOf99
  v222 := Try.zeroValue99
  t228 := Try.underlying102
  a228 := Try.isAgg102
  z228 := Try.sizeOf102
  v228 := Try.zeroValue102
  t229 := Try.underlying103
  a229 := Try.isAgg103
  z229 := Try.sizeOf103
  v229 := Try.zeroValue103 }
open Go.Sort Go.RowKit in
theorem Try.slices_Sort_int (blk off cap : Nat) (zs : List Int) (w : World) (hH : Holds (Value.int .i64) w blk off zs.toArray) (hblk : blk < w.heap.size) (hsz : zs.length < 4611686018427387904) :
    Calls Try.prog 37 #[.slice (some ⟨blk, off, none⟩) zs.length cap] w fun e w' =>
      e = .returned (.tuple #[]) ∧ ∃ n os, w' = grow (putRow (Value.int .i64) (Sort.ahead w n) blk off (zs.mergeSort fun x y => decide (x ≤ y)).toArray) os := Any.slices_Sort_int Try.lays189 blk off cap zs w hH hblk hsz
end Go.Proofs.Ytfdbkclbcajkiaa
