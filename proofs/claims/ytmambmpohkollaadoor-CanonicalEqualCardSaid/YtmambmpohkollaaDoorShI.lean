/- Contracts of the library laid at this program (cut out of what the kit's tools wrote). -/
import Derived.Shelf.Sort.Plain
import Derived.Shelf.Slices.In.SortNone
import Derived.Test.YtmambmpohkollaaDoorProg
namespace Go.Proofs
open Go.Shelf
def Tryd.lays189_ren : Go.Shelf.Ren := ⟨fun | 189 => 64 | 125 => 42 | 257 => 77 | 128 => 61 | 129 => 62 | 294 => 83 | 295 => 84 | 296 => 85 | 297 => 86 | 298 => 87 | 299 => 88 | 216 => 51 | 300 => 89 | 301 => 90 | 328 => 93 | 329 => 73 | 330 => 74 | 331 => 94 | 332 => 95 | 215 => 63 | 343 => 96 | n => n, fun | 28 => 22 | 3 => 3 | 46 => 75 | 0 => 0 | 51 => 91 | 53 => 93 | 4 => 4 | 183 => 85 | 182 => 84 | 131 => 71 | 5 => 5 | 9 => 9 | 218 => 102 | 222 => 106 | 228 => 113 | 229 => 114 | n => n, fun | n => n⟩
theorem Tryd.lays189 : Go.Proofs.Lays.n189 Tryd.prog Tryd.lays189_ren := {
  mixed := by kernel_rfl
  f125 := Tryd.func42.trans (congrArg some (by kernel_rfl))
  f128 := Tryd.func61.trans (congrArg some (by kernel_rfl))
  f129 := Tryd.func62.trans (congrArg some (by kernel_rfl))
  f189 := Tryd.func64.trans (congrArg some (by kernel_rfl))
  f215 := Tryd.func63.trans (congrArg some (by kernel_rfl))
  f216 := Tryd.func51.trans (congrArg some (by kernel_rfl))
  f257 := Tryd.func77.trans (congrArg some (by kernel_rfl))
  f294 := Tryd.func83.trans (congrArg some (by kernel_rfl))
  f295 := Tryd.func84.trans (congrArg some (by kernel_rfl))
  f296 := Tryd.func85.trans (congrArg some (by kernel_rfl))
  f297 := Tryd.func86.trans (congrArg some (by kernel_rfl))
  f298 := Tryd.func87.trans (congrArg some (by kernel_rfl))
  f299 := Tryd.func88.trans (congrArg some (by kernel_rfl))
  f300 := Tryd.func89.trans (congrArg some (by kernel_rfl))
  f301 := Tryd.func90.trans (congrArg some (by kernel_rfl))
  f328 := Tryd.func93.trans (congrArg some (by kernel_rfl))
  f329 := Tryd.func73.trans (congrArg some (by kernel_rfl))
  f330 := Tryd.func74.trans (congrArg some (by kernel_rfl))
  f331 := Tryd.func94.trans (congrArg some (by kernel_rfl))
  f332 := Tryd.func95.trans (congrArg some (by kernel_rfl))
  f343 := Tryd.func96.trans (congrArg some (by kernel_rfl))
  t0 := Tryd.underlying0
  a0 := Tryd.isAgg0
  z0 := Tryd.sizeOf0
  v0 := Tryd.zeroValue0
  t3 := Tryd.underlying3
  a3 := Tryd.isAgg3
  z3 := Tryd.sizeOf3
  v3 := Tryd.zeroValue3
  t4 := Tryd.underlying4
  a4 := Tryd.isAgg4
  z4 := Tryd.sizeOf4
  v4 := Tryd.zeroValue4
  t5 := Tryd.underlying5
  a5 := Tryd.isAgg5
  z5 := Tryd.sizeOf5
  v5 := Tryd.zeroValue5
  t9 := Tryd.underlying9
  a9 := Tryd.isAgg9
  z9 := Tryd.sizeOf9
  v9 := Tryd.zeroValue9
  t28 := Tryd.underlying22
  a28 := Tryd.isAgg22
  z28 := Tryd.sizeOf22
  v28 := Tryd.zeroValue22
  t46 := Tryd.underlying75
  a46 := Tryd.isAgg75
  z46 := Tryd.sizeOf75
  v46 := Tryd.zeroValue75
  t51 := Tryd.underlying91
  a51 := Tryd.isAgg91
  z51 := Tryd.sizeOf91
  v51 := Tryd.zeroValue91
  t53 := Tryd.underlying93
  a53 := Tryd.isAgg93
  z53 := Tryd.sizeOf93
  v53 := Tryd.zeroValue93
  t131 := Tryd.underlying71
  a131 := Tryd.isAgg71
  z131 := Tryd.sizeOf71
  v131 := Tryd.zeroValue71
  t182 := Tryd.underlying84
  a182 := Tryd.isAgg84
  z182 := Tryd.sizeOf84
  v182 := Tryd.zeroValue84
  t183 := Tryd.underlying85
  a183 := Tryd.isAgg85
  z183 := Tryd.sizeOf85
  v183 := Tryd.zeroValue85
  t218 := Tryd.underlying102
  a218 := Tryd.isAgg102
  z218 := Tryd.sizeOf102
  v218 := Tryd.zeroValue102
  t222 := Tryd.underlying106
  a222 := Tryd.isAgg106
  z222 := Tryd.sizeOf106
  v222 := Tryd.zeroValue106
  t228 := Tryd.underlying113
  a228 := Tryd.isAgg113
  z228 := Tryd.sizeOf113
  v228 := Tryd.zeroValue113
  t229 := Tryd.underlying114
  a229 := Tryd.isAgg114
  z229 := Tryd.sizeOf114
  v229 := Tryd.zeroValue114 }
open Go.Sort Go.RowKit in
theorem Tryd.slices_Sort_int (blk off cap : Nat) (zs : List Int) (w : World) (hH : Holds (Value.int .i64) w blk off zs.toArray) (hblk : blk < w.heap.size) (hsz : zs.length < 4611686018427387904) :
    Calls Tryd.prog 64 #[.slice (some ⟨blk, off, none⟩) zs.length cap] w fun e w' =>
      e = .returned (.tuple #[]) ∧ ∃ n os, w' = grow (putRow (Value.int .i64) (Sort.ahead w n) blk off (zs.mergeSort fun x y => decide (x ≤ y)).toArray) os := Any.slices_Sort_int Tryd.lays189 blk off cap zs w hH hblk hsz
open Go.RowKit Go.Sort in
theorem Tryd.slices_Sort_int_none (p : Option Addr) (cap : Nat) (w : World) :
    Calls Tryd.prog 64 #[.slice p 0 cap] w fun e w' => e = .returned (.tuple #[]) ∧ w' = w := Any.slices_Sort_int_none Tryd.lays189 p cap w
end Go.Proofs
