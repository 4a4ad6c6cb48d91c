/- Contracts of the library laid at this program (cut out of what the kit's tools wrote). -/
import Derived.Shelf.Sort.Plain
import Derived.Shelf.Slices.In.SortNone
import Derived.Test.YtjkbamfcoiikmaaGreatDoorProg
namespace Go.Proofs
open Go.Shelf
def Tryz.lays189_ren : Go.Shelf.Ren := ⟨fun | 189 => 90 | 125 => 106 | 257 => 115 | 128 => 129 | 129 => 130 | 294 => 141 | 295 => 142 | 296 => 143 | 297 => 144 | 298 => 145 | 299 => 146 | 216 => 147 | 300 => 148 | 301 => 149 | 328 => 165 | 329 => 156 | 330 => 157 | 331 => 166 | 332 => 167 | 215 => 168 | 343 => 175 | n => n, fun | 28 => 32 | 3 => 3 | 46 => 135 | 0 => 0 | 51 => 79 | 53 => 43 | 4 => 4 | 183 => 156 | 182 => 155 | 131 => 160 | 5 => 5 | 9 => 9 | 218 => 180 | 222 => 184 | 228 => 197 | 229 => 104 | n => n, fun | n => n⟩
theorem Tryz.lays189 : Go.Proofs.Lays.n189 Tryz.prog Tryz.lays189_ren := {
  mixed := by kernel_rfl
  f125 := Tryz.func106.trans (congrArg some (by kernel_rfl))
  f128 := Tryz.func129.trans (congrArg some (by kernel_rfl))
  f129 := Tryz.func130.trans (congrArg some (by kernel_rfl))
  f189 := Tryz.func90.trans (congrArg some (by kernel_rfl))
  f215 := Tryz.func168.trans (congrArg some (by kernel_rfl))
  f216 := Tryz.func147.trans (congrArg some (by kernel_rfl))
  f257 := Tryz.func115.trans (congrArg some (by kernel_rfl))
  f294 := Tryz.func141.trans (congrArg some (by kernel_rfl))
  f295 := Tryz.func142.trans (congrArg some (by kernel_rfl))
  f296 := Tryz.func143.trans (congrArg some (by kernel_rfl))
  f297 := Tryz.func144.trans (congrArg some (by kernel_rfl))
  f298 := Tryz.func145.trans (congrArg some (by kernel_rfl))
  f299 := Tryz.func146.trans (congrArg some (by kernel_rfl))
  f300 := Tryz.func148.trans (congrArg some (by kernel_rfl))
  f301 := Tryz.func149.trans (congrArg some (by kernel_rfl))
  f328 := Tryz.func165.trans (congrArg some (by kernel_rfl))
  f329 := Tryz.func156.trans (congrArg some (by kernel_rfl))
  f330 := Tryz.func157.trans (congrArg some (by kernel_rfl))
  f331 := Tryz.func166.trans (congrArg some (by kernel_rfl))
  f332 := Tryz.func167.trans (congrArg some (by kernel_rfl))
  f343 := Tryz.func175.trans (congrArg some (by kernel_rfl))
  t0 := Tryz.underlying0
  a0 := Tryz.isAgg0
  z0 := Tryz.sizeOf0
  v0 := Tryz.zeroValue0
  t3 := Tryz.underlying3
  a3 := Tryz.isAgg3
  z3 := Tryz.sizeOf3
  v3 := Tryz.zeroValue3
  t4 := Tryz.underlying4
  a4 := Tryz.isAgg4
  z4 := Tryz.sizeOf4
  v4 := Tryz.zeroValue4
  t5 := Tryz.underlying5
  a5 := Tryz.isAgg5
  z5 := Tryz.sizeOf5
  v5 := Tryz.zeroValue5
  t9 := Tryz.underlying9
  a9 := Tryz.isAgg9
  z9 := Tryz.sizeOf9
  v9 := Tryz.zeroValue9
  t28 := Tryz.underlying32
  a28 := Tryz.isAgg32
  z28 := Tryz.sizeOf32
  v28 := Tryz.zeroValue32
  t46 := Tryz.underlying135
  a46 := Tryz.isAgg135
  z46 := Tryz.sizeOf135
  v46 := Tryz.zeroValue135
  t51 := Tryz.underlying79
  a51 := Tryz.isAgg79
  z51 := Tryz.sizeOf79
  v51 := Tryz.zeroValue79
  t53 := Tryz.underlying43
  a53 := Tryz.isAgg43
  z53 := Tryz.sizeOf43
  v53 := Tryz.zeroValue43
  t131 := Tryz.underlying160
  a131 := Tryz.isAgg160
  z131 := Tryz.sizeOf160
  v131 := Tryz.zeroValue160
  t182 := Tryz.underlying155
  a182 := Tryz.isAgg155
  z182 := Tryz.sizeOf155
  v182 := Tryz.zeroValue155
  t183 := Tryz.underlying156
  a183 := Tryz.isAgg156
  z183 := Tryz.sizeOf156
  v183 := Tryz.zeroValue156
  t218 := Tryz.underlying180
  a218 := Tryz.isAgg180
  z218 := Tryz.sizeOf180
  v218 := Tryz.zeroValue180
  t222 := Tryz.underlying184
  a222 := Tryz.isAgg184
  z222 := Tryz.sizeOf184
  v222 := Tryz.zeroValue184
  t228 := Tryz.underlying197
  a228 := Tryz.isAgg197
  z228 := Tryz.sizeOf197
  v228 := Tryz.zeroValue197
  t229 := Tryz.underlying104
  a229 := Tryz.isAgg104
  z229 := Tryz.sizeOf104
  v229 := Tryz.zeroValue104 }
open Go.Sort Go.RowKit in
theorem Tryz.slices_Sort_int (blk off cap : Nat) (zs : List Int) (w : World) (hH : Holds (Value.int .i64) w blk off zs.toArray) (hblk : blk < w.heap.size) (hsz : zs.length < 4611686018427387904) :
    Calls Tryz.prog 90 #[.slice (some ⟨blk, off, none⟩) zs.length cap] w fun e w' =>
      e = .returned (.tuple #[]) ∧ ∃ n os, w' = grow (putRow (Value.int .i64) (Sort.ahead w n) blk off (zs.mergeSort fun x y => decide (x ≤ y)).toArray) os := Any.slices_Sort_int Tryz.lays189 blk off cap zs w hH hblk hsz
open Go.RowKit Go.Sort in
theorem Tryz.slices_Sort_int_none (p : Option Addr) (cap : Nat) (w : World) :
    Calls Tryz.prog 90 #[.slice p 0 cap] w fun e w' => e = .returned (.tuple #[]) ∧ w' = w := Any.slices_Sort_int_none Tryz.lays189 p cap w
end Go.Proofs
