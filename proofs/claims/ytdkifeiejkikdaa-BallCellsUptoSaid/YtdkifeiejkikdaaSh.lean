/- Sh: contracts of Go's library at this dump, as the kit's tools laid them. -/
import Derived.Shelf.Sort.Plain
import Derived.Ground.Names2Prog
import Derived.Shelf.Slices.CompactI
import Derived.Shelf.Slices.In.SortNone
import Derived.Test.YtdkifeiejkikdaaProg
namespace Go.Proofs
open Go.Shelf
def Try.lays189_ren : Go.Shelf.Ren := ⟨fun | 189 => 47 | 125 => 67 | 257 => 75 | 128 => 85 | 129 => 99 | 294 => 101 | 295 => 102 | 296 => 103 | 297 => 104 | 298 => 105 | 299 => 106 | 216 => 107 | 300 => 108 | 301 => 109 | 328 => 136 | 329 => 130 | 330 => 131 | 331 => 137 | 332 => 138 | 215 => 139 | 343 => 150 | n => n, fun | 28 => 30 | 3 => 3 | 46 => 109 | 0 => 0 | 51 => 105 | 53 => 108 | 4 => 4 | 183 => 136 | 182 => 135 | 131 => 121 | 5 => 5 | 9 => 9 | 218 => 159 | 222 => 163 | 228 => 177 | 229 => 178 | n => n, fun | n => n⟩
theorem Try.lays189 : Go.Proofs.Lays.n189 Try.prog Try.lays189_ren := {
  mixed := by kernel_rfl
  f125 := Try.func67.trans (congrArg some (by kernel_rfl))
  f128 := Try.func85.trans (congrArg some (by kernel_rfl))
  f129 := Try.func99.trans (congrArg some (by kernel_rfl))
  f189 := Try.func47.trans (congrArg some (by kernel_rfl))
  f215 := Try.func139.trans (congrArg some (by kernel_rfl))
  f216 := Try.func107.trans (congrArg some (by kernel_rfl))
  f257 := Try.func75.trans (congrArg some (by kernel_rfl))
  f294 := Try.func101.trans (congrArg some (by kernel_rfl))
  f295 := Try.func102.trans (congrArg some (by kernel_rfl))
  f296 := Try.func103.trans (congrArg some (by kernel_rfl))
  f297 := Try.func104.trans (congrArg some (by kernel_rfl))
  f298 := Try.func105.trans (congrArg some (by kernel_rfl))
  f299 := Try.func106.trans (congrArg some (by kernel_rfl))
  f300 := Try.func108.trans (congrArg some (by kernel_rfl))
  f301 := Try.func109.trans (congrArg some (by kernel_rfl))
  f328 := Try.func136.trans (congrArg some (by kernel_rfl))
  f329 := Try.func130.trans (congrArg some (by kernel_rfl))
  f330 := Try.func131.trans (congrArg some (by kernel_rfl))
  f331 := Try.func137.trans (congrArg some (by kernel_rfl))
  f332 := Try.func138.trans (congrArg some (by kernel_rfl))
  f343 := Try.func150.trans (congrArg some (by kernel_rfl))
  t0 := Try.underlying0
  a0 := Try.isAgg0
  z0 := Try.sizeOf0
  v0 := Try.zeroValue0
  t3 := Try.underlying3
  a3 := Try.isAgg3
  z3 := Try.sizeOf3
  v3 := Try.zeroValue3
  t4 := Try.underlying4
  a4 := Try.isAgg4
  z4 := Try.sizeOf4
  v4 := Try.zeroValue4
  t5 := Try.underlying5
  a5 := Try.isAgg5
  z5 := Try.sizeOf5
  v5 := Try.zeroValue5
  t9 := Try.underlying9
  a9 := Try.isAgg9
  z9 := Try.sizeOf9
  v9 := Try.zeroValue9
  t28 := Try.underlying30
  a28 := Try.isAgg30
  z28 := Try.sizeOf30
  v28 := Try.zeroValue30
  t46 := Try.underlying109
  a46 := Try.isAgg109
  z46 := Try.sizeOf109
  v46 := Try.zeroValue109
  t51 := Try.underlying105
  a51 := Try.isAgg105
  z51 := Try.sizeOf105
  v51 := Try.zeroValue105
  t53 := Try.underlying108
  a53 := Try.isAgg108
  z53 := Try.sizeOf108
  v53 := Try.zeroValue108
  t131 := Try.underlying121
  a131 := Try.isAgg121
  z131 := Try.sizeOf121
  v131 := Try.zeroValue121
  t182 := Try.underlying135
  a182 := Try.isAgg135
  z182 := Try.sizeOf135
  v182 := Try.zeroValue135
  t183 := Try.underlying136
  a183 := Try.isAgg136
  z183 := Try.sizeOf136
  v183 := Try.zeroValue136
  t218 := Try.underlying159
  a218 := Try.isAgg159
  z218 := Try.sizeOf159
  v218 := Try.zeroValue159
  t222 := Try.underlying163
  a222 := Try.isAgg163
  z222 := Try.sizeOf163
  v222 := Try.zeroValue163
  t228 := Try.underlying177
  a228 := Try.isAgg177
  z228 := Try.sizeOf177
  v228 := Try.zeroValue177
  t229 := Try.underlying178
  a229 := Try.isAgg178
  z229 := Try.sizeOf178
  v229 := Try.zeroValue178 }
open Go.Sort Go.RowKit in
theorem Try.slices_Sort_int (blk off cap : Nat) (zs : List Int) (w : World) (hH : Holds (Value.int .i64) w blk off zs.toArray) (hblk : blk < w.heap.size) (hsz : zs.length < 4611686018427387904) :
    Calls Try.prog 47 #[.slice (some ⟨blk, off, none⟩) zs.length cap] w fun e w' =>
      e = .returned (.tuple #[]) ∧ ∃ n os, w' = grow (putRow (Value.int .i64) (Sort.ahead w n) blk off (zs.mergeSort fun x y => decide (x ≤ y)).toArray) os := Any.slices_Sort_int Try.lays189 blk off cap zs w hH hblk hsz
def Try.laysNm220_ren : Go.Shelf.Ren := ⟨fun | 20 => 74 | n => n, fun | 22 => 30 | 3 => 3 | 4 => 4 | 0 => 0 | n => n, fun | n => n⟩
theorem Try.laysNm220 : Go.Proofs.Lays2.n20 Try.prog Try.laysNm220_ren := {
  mixed := by kernel_rfl
  f20 := Try.func74.trans (congrArg some (by kernel_rfl))
  t0 := Try.underlying0
  a0 := Try.isAgg0
  z0 := Try.sizeOf0
  v0 := Try.zeroValue0
  t3 := Try.underlying3
  a3 := Try.isAgg3
  z3 := Try.sizeOf3
  v3 := Try.zeroValue3
  t4 := Try.underlying4
  a4 := Try.isAgg4
  z4 := Try.sizeOf4
  v4 := Try.zeroValue4
  t22 := Try.underlying30
  a22 := Try.isAgg30
  z22 := Try.sizeOf30
  v22 := Try.zeroValue30
  i3 := by kernel_rfl }
open Go.RowKit Go.Lib Go.Sort in
theorem Try.slices_Compact_int_arr (blk off cap : Nat) (d : Array Int) (w : World) (hH : Holds encI w blk off d) (hsz : d.size ≤ 9223372036854775807) (hcap : d.size ≤ cap) :
    Calls Try.prog 74 #[.slice (some ⟨blk, off, none⟩) d.size cap] w fun e w' => e = .returned (.slice (some ⟨blk, off, none⟩) (compactUpTo d d.size).length cap) ∧ ∃ q, w' = putRow encI (Sort.ahead w q) blk off (compactUpTo d d.size ++ List.replicate (d.size - (compactUpTo d d.size).length) 0).toArray := Any.slices_Compact_int_arr Try.laysNm220 blk off cap d w hH hsz hcap
open Go.RowKit Go.Lib Go.Sort in
theorem Try.slices_Compact_int (blk off cap : Nat) (zs : List Int) (w : World) (hH : Holds (Value.int .i64) w blk off zs.toArray) (hsz : zs.length ≤ 9223372036854775807) (hcap : zs.length ≤ cap) :
    Calls Try.prog 74 #[.slice (some ⟨blk, off, none⟩) zs.length cap] w fun e w' => e = .returned (.slice (some ⟨blk, off, none⟩) (Lib.compact zs).length cap) ∧ ∃ q, w' = putRow (Value.int .i64) (Sort.ahead w q) blk off (Lib.compact zs ++ List.replicate (zs.length - (Lib.compact zs).length) 0).toArray := Any.slices_Compact_int Try.laysNm220 blk off cap zs w hH hsz hcap
open Go.RowKit Go.Lib Go.Sort in
theorem Try.slices_Compact_int_empty (a : Option Addr) (cap : Nat) (w : World) :
    Calls Try.prog 74 #[.slice a 0 cap] w fun e w' => e = .returned (.slice a 0 cap) ∧ w' = w := Any.slices_Compact_int_empty Try.laysNm220 a cap w
open Go.RowKit Go.Sort in
theorem Try.slices_Sort_int_none (p : Option Addr) (cap : Nat) (w : World) :
    Calls Try.prog 47 #[.slice p 0 cap] w fun e w' => e = .returned (.tuple #[]) ∧ w' = w := Any.slices_Sort_int_none Try.lays189 p cap w
end Go.Proofs
