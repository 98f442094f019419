/- The library's contract of the sort of whole numbers, at this program: two layings, in plain words. -/
import Derived.Shelf.Sort.Plain
import Derived.Shelf.Slices.In.SortNone
import Derived.Test.YtbhancgonaleoaaProg
namespace Go.Proofs
open Go.Shelf
def Try.lays189_ren : Go.Shelf.Ren := ⟨fun | 189 => 141 | 125 => 162 | 257 => 161 | 128 => 185 | 129 => 186 | 294 => 176 | 295 => 177 | 296 => 178 | 297 => 179 | 298 => 180 | 299 => 181 | 216 => 182 | 300 => 183 | 301 => 184 | 328 => 189 | 329 => 190 | 330 => 191 | 331 => 192 | 332 => 193 | 215 => 194 | 343 => 195 | n => n, fun | 28 => 41 | 3 => 3 | 46 => 66 | 0 => 0 | 51 => 178 | 53 => 180 | 4 => 4 | 183 => 187 | 182 => 186 | 131 => 60 | 5 => 5 | 9 => 9 | 218 => 192 | 222 => 196 | 228 => 198 | 229 => 103 | n => n, fun | n => n⟩
theorem Try.lays189 : Go.Proofs.Lays.n189 Try.prog Try.lays189_ren := {
  mixed := by kernel_rfl
  f125 := Try.func162.trans (congrArg some (by kernel_rfl))
  f128 := Try.func185.trans (congrArg some (by kernel_rfl))
  f129 := Try.func186.trans (congrArg some (by kernel_rfl))
  f189 := Try.func141.trans (congrArg some (by kernel_rfl))
  f215 := Try.func194.trans (congrArg some (by kernel_rfl))
  f216 := Try.func182.trans (congrArg some (by kernel_rfl))
  f257 := Try.func161.trans (congrArg some (by kernel_rfl))
  f294 := Try.func176.trans (congrArg some (by kernel_rfl))
  f295 := Try.func177.trans (congrArg some (by kernel_rfl))
  f296 := Try.func178.trans (congrArg some (by kernel_rfl))
  f297 := Try.func179.trans (congrArg some (by kernel_rfl))
  f298 := Try.func180.trans (congrArg some (by kernel_rfl))
  f299 := Try.func181.trans (congrArg some (by kernel_rfl))
  f300 := Try.func183.trans (congrArg some (by kernel_rfl))
  f301 := Try.func184.trans (congrArg some (by kernel_rfl))
  f328 := Try.func189.trans (congrArg some (by kernel_rfl))
  f329 := Try.func190.trans (congrArg some (by kernel_rfl))
  f330 := Try.func191.trans (congrArg some (by kernel_rfl))
  f331 := Try.func192.trans (congrArg some (by kernel_rfl))
  f332 := Try.func193.trans (congrArg some (by kernel_rfl))
  f343 := Try.func195.trans (congrArg some (by kernel_rfl))
  t0 := Try.underlying0
  a0 := Try.isAgg0
  z0 := Try.sizeOf0
  v0 := Try.zeroValue0
  t3 := Try.underlying3
  a3 := Try.isAgg3
  z3 := Try.sizeOf3
  v3 := Try.zeroValue3
  t4 := Try.underlying4
  a4 := Try.isAgg4
  z4 := Try.sizeOf4
  v4 := Try.zeroValue4
  t5 := Try.underlying5
  a5 := Try.isAgg5
  z5 := Try.sizeOf5
  v5 := Try.zeroValue5
  t9 := Try.underlying9
  a9 := Try.isAgg9
  z9 := Try.sizeOf9
  v9 := Try.zeroValue9
  t28 := Try.underlying41
  a28 := Try.isAgg41
  z28 := Try.sizeOf41
  v28 := Try.zeroValue41
  t46 := Try.underlying66
  a46 := Try.isAgg66
  z46 := Try.sizeOf66
  v46 := Try.zeroValue66
  t51 := Try.underlying178
  a51 := Try.isAgg178
  z51 := Try.sizeOf178
  v51 := Try.zeroValue178
  t53 := Try.underlying180
  a53 := Try.isAgg180
  z53 := Try.sizeOf180
  v53 := Try.zeroValue180
  t131 := Try.underlying60
  a131 := Try.isAgg60
  z131 := Try.sizeOf60
  v131 := Try.zeroValue60
  t182 := Try.underlying186
  a182 := Try.isAgg186
  z182 := Try.sizeOf186
  v182 := Try.zeroValue186
  t183 := Try.underlying187
  a183 := Try.isAgg187
  z183 := Try.sizeOf187
  v183 := Try.zeroValue187
  t218 := Try.underlying192
  a218 := Try.isAgg192
  z218 := Try.sizeOf192
  v218 := Try.zeroValue192
  t222 := Try.underlying196
  a222 := Try.isAgg196
  z222 := Try.sizeOf196
  v222 := Try.zeroValue196
  t228 := Try.underlying198
  a228 := Try.isAgg198
  z228 := Try.sizeOf198
  v228 := Try.zeroValue198
  t229 := Try.underlying103
  a229 := Try.isAgg103
  z229 := Try.sizeOf103
  v229 := Try.zeroValue103 }
open Go.Sort Go.RowKit in
theorem Try.slices_Sort_int (blk off cap : Nat) (zs : List Int) (w : World) (hH : Holds (Value.int .i64) w blk off zs.toArray) (hblk : blk < w.heap.size) (hsz : zs.length < 4611686018427387904) :
    Calls Try.prog 141 #[.slice (some ⟨blk, off, none⟩) zs.length cap] w fun e w' =>
      e = .returned (.tuple #[]) ∧ ∃ n os, w' = grow (putRow (Value.int .i64) (Sort.ahead w n) blk off (zs.mergeSort fun x y => decide (x ≤ y)).toArray) os := Any.slices_Sort_int Try.lays189 blk off cap zs w hH hblk hsz
open Go.RowKit Go.Sort in
/-- .. and plain. (LAID: no walk: one application.) -/
theorem Try.slices_Sort_int_none (p : Option Addr) (cap : Nat) (w : World) :
    Calls Try.prog 141 #[.slice p 0 cap] w fun e w' => e = .returned (.tuple #[]) ∧ w' = w := Any.slices_Sort_int_none Try.lays189 p cap w
end Go.Proofs
