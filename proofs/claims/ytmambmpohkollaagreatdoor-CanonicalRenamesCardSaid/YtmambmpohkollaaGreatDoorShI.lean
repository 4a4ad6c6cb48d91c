/- Contracts of the library laid at this program (cut out of what the kit's tools wrote). -/
import Derived.Shelf.Sort.Plain
import Derived.Shelf.Slices.In.SortNone
import Derived.Test.YtmambmpohkollaaGreatDoorProg
namespace Go.Proofs
open Go.Shelf
def Tryz.lays189_ren : Go.Shelf.Ren := ⟨fun | 189 => 74 | 125 => 78 | 257 => 88 | 128 => 99 | 129 => 100 | 294 => 110 | 295 => 111 | 296 => 112 | 297 => 113 | 298 => 114 | 299 => 115 | 216 => 89 | 300 => 116 | 301 => 117 | 328 => 127 | 329 => 119 | 330 => 120 | 331 => 128 | 332 => 129 | 215 => 101 | 343 => 133 | n => n, fun | 28 => 22 | 3 => 3 | 46 => 96 | 0 => 0 | 51 => 113 | 53 => 115 | 4 => 4 | 183 => 107 | 182 => 106 | 131 => 92 | 5 => 5 | 9 => 9 | 218 => 129 | 222 => 133 | 228 => 141 | 229 => 142 | n => n, fun | n => n⟩
theorem Tryz.lays189 : Go.Proofs.Lays.n189 Tryz.prog Tryz.lays189_ren := {
  mixed := by kernel_rfl
  f125 := Tryz.func78.trans (congrArg some (by kernel_rfl))
  f128 := Tryz.func99.trans (congrArg some (by kernel_rfl))
  f129 := Tryz.func100.trans (congrArg some (by kernel_rfl))
  f189 := Tryz.func74.trans (congrArg some (by kernel_rfl))
  f215 := Tryz.func101.trans (congrArg some (by kernel_rfl))
  f216 := Tryz.func89.trans (congrArg some (by kernel_rfl))
  f257 := Tryz.func88.trans (congrArg some (by kernel_rfl))
  f294 := Tryz.func110.trans (congrArg some (by kernel_rfl))
  f295 := Tryz.func111.trans (congrArg some (by kernel_rfl))
  f296 := Tryz.func112.trans (congrArg some (by kernel_rfl))
  f297 := Tryz.func113.trans (congrArg some (by kernel_rfl))
  f298 := Tryz.func114.trans (congrArg some (by kernel_rfl))
  f299 := Tryz.func115.trans (congrArg some (by kernel_rfl))
  f300 := Tryz.func116.trans (congrArg some (by kernel_rfl))
  f301 := Tryz.func117.trans (congrArg some (by kernel_rfl))
  f328 := Tryz.func127.trans (congrArg some (by kernel_rfl))
  f329 := Tryz.func119.trans (congrArg some (by kernel_rfl))
  f330 := Tryz.func120.trans (congrArg some (by kernel_rfl))
  f331 := Tryz.func128.trans (congrArg some (by kernel_rfl))
  f332 := Tryz.func129.trans (congrArg some (by kernel_rfl))
  f343 := Tryz.func133.trans (congrArg some (by kernel_rfl))
  t0 := Tryz.underlying0
  a0 := Tryz.isAgg0
  z0 := Tryz.sizeOf0
  v0 := Tryz.zeroValue0
  t3 := Tryz.underlying3
  a3 := Tryz.isAgg3
  z3 := Tryz.sizeOf3
  v3 := Tryz.zeroValue3
  t4 := Tryz.underlying4
  a4 := Tryz.isAgg4
  z4 := Tryz.sizeOf4
  v4 := Tryz.zeroValue4
  t5 := Tryz.underlying5
  a5 := Tryz.isAgg5
  z5 := Tryz.sizeOf5
  v5 := Tryz.zeroValue5
  t9 := Tryz.underlying9
  a9 := Tryz.isAgg9
  z9 := Tryz.sizeOf9
  v9 := Tryz.zeroValue9
  t28 := Tryz.underlying22
  a28 := Tryz.isAgg22
  z28 := Tryz.sizeOf22
  v28 := Tryz.zeroValue22
  t46 := Tryz.underlying96
  a46 := Tryz.isAgg96
  z46 := Tryz.sizeOf96
  v46 := Tryz.zeroValue96
  t51 := Tryz.underlying113
  a51 := Tryz.isAgg113
  z51 := Tryz.sizeOf113
  v51 := Tryz.zeroValue113
  t53 := Tryz.underlying115
  a53 := Tryz.isAgg115
  z53 := Tryz.sizeOf115
  v53 := Tryz.zeroValue115
  t131 := Tryz.underlying92
  a131 := Tryz.isAgg92
  z131 := Tryz.sizeOf92
  v131 := Tryz.zeroValue92
  t182 := Tryz.underlying106
  a182 := Tryz.isAgg106
  z182 := Tryz.sizeOf106
  v182 := Tryz.zeroValue106
  t183 := Tryz.underlying107
  a183 := Tryz.isAgg107
  z183 := Tryz.sizeOf107
  v183 := Tryz.zeroValue107
  t218 := Tryz.underlying129
  a218 := Tryz.isAgg129
  z218 := Tryz.sizeOf129
  v218 := Tryz.zeroValue129
  t222 := Tryz.underlying133
  a222 := Tryz.isAgg133
  z222 := Tryz.sizeOf133
  v222 := Tryz.zeroValue133
  t228 := Tryz.underlying141
  a228 := Tryz.isAgg141
  z228 := Tryz.sizeOf141
  v228 := Tryz.zeroValue141
  t229 := Tryz.underlying142
  a229 := Tryz.isAgg142
  z229 := Tryz.sizeOf142
  v229 := Tryz.zeroValue142 }
open Go.Sort Go.RowKit in
theorem Tryz.slices_Sort_int (blk off cap : Nat) (zs : List Int) (w : World) (hH : Holds (Value.int .i64) w blk off zs.toArray) (hblk : blk < w.heap.size) (hsz : zs.length < 4611686018427387904) :
    Calls Tryz.prog 74 #[.slice (some ⟨blk, off, none⟩) zs.length cap] w fun e w' =>
      e = .returned (.tuple #[]) ∧ ∃ n os, w' = grow (putRow (Value.int .i64) (Sort.ahead w n) blk off (zs.mergeSort fun x y => decide (x ≤ y)).toArray) os := Any.slices_Sort_int Tryz.lays189 blk off cap zs w hH hblk hsz
open Go.RowKit Go.Sort in
theorem Tryz.slices_Sort_int_none (p : Option Addr) (cap : Nat) (w : World) :
    Calls Tryz.prog 74 #[.slice p 0 cap] w fun e w' => e = .returned (.tuple #[]) ∧ w' = w := Any.slices_Sort_int_none Tryz.lays189 p cap w
end Go.Proofs
