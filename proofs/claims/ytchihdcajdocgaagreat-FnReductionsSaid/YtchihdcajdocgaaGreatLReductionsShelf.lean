/- The library's contract of the sort of whole numbers, at this program: two layings, in plain words. -/
import Derived.Shelf.Sort.Plain
import Derived.Shelf.Slices.In.SortNone
import Derived.Test.YtchihdcajdocgaaGreatProg
namespace Go.Proofs
open Go.Shelf
def Tryz.lays189_ren : Go.Shelf.Ren := ⟨fun | 189 => 205 | 125 => 103 | 257 => 242 | 128 => 180 | 129 => 181 | 294 => 254 | 295 => 255 | 296 => 256 | 297 => 257 | 298 => 258 | 299 => 259 | 216 => 260 | 300 => 261 | 301 => 262 | 328 => 266 | 329 => 267 | 330 => 268 | 331 => 269 | 332 => 270 | 215 => 271 | 343 => 273 | n => n, fun | 28 => 66 | 3 => 3 | 46 => 76 | 0 => 0 | 51 => 186 | 53 => 110 | 4 => 4 | 183 => 229 | 182 => 228 | 131 => 77 | 5 => 5 | 9 => 9 | 218 => 235 | 222 => 239 | 228 => 241 | 229 => 142 | n => n, fun | n => n⟩
theorem Tryz.lays189 : Go.Proofs.Lays.n189 Tryz.prog Tryz.lays189_ren := {
  mixed := by kernel_rfl
  f125 := Tryz.func103.trans (congrArg some (by kernel_rfl))
  f128 := Tryz.func180.trans (congrArg some (by kernel_rfl))
  f129 := Tryz.func181.trans (congrArg some (by kernel_rfl))
  f189 := Tryz.func205.trans (congrArg some (by kernel_rfl))
  f215 := Tryz.func271.trans (congrArg some (by kernel_rfl))
  f216 := Tryz.func260.trans (congrArg some (by kernel_rfl))
  f257 := Tryz.func242.trans (congrArg some (by kernel_rfl))
  f294 := Tryz.func254.trans (congrArg some (by kernel_rfl))
  f295 := Tryz.func255.trans (congrArg some (by kernel_rfl))
  f296 := Tryz.func256.trans (congrArg some (by kernel_rfl))
  f297 := Tryz.func257.trans (congrArg some (by kernel_rfl))
  f298 := Tryz.func258.trans (congrArg some (by kernel_rfl))
  f299 := Tryz.func259.trans (congrArg some (by kernel_rfl))
  f300 := Tryz.func261.trans (congrArg some (by kernel_rfl))
  f301 := Tryz.func262.trans (congrArg some (by kernel_rfl))
  f328 := Tryz.func266.trans (congrArg some (by kernel_rfl))
  f329 := Tryz.func267.trans (congrArg some (by kernel_rfl))
  f330 := Tryz.func268.trans (congrArg some (by kernel_rfl))
  f331 := Tryz.func269.trans (congrArg some (by kernel_rfl))
  f332 := Tryz.func270.trans (congrArg some (by kernel_rfl))
  f343 := Tryz.func273.trans (congrArg some (by kernel_rfl))
  t0 := Tryz.underlying0
  a0 := Tryz.isAgg0
  z0 := Tryz.sizeOf0
  v0 := Tryz.zeroValue0
  t3 := Tryz.underlying3
  a3 := Tryz.isAgg3
  z3 := Tryz.sizeOf3
  v3 := Tryz.zeroValue3
  t4 := Tryz.underlying4
  a4 := Tryz.isAgg4
  z4 := Tryz.sizeOf4
  v4 := Tryz.zeroValue4
  t5 := Tryz.underlying5
  a5 := Tryz.isAgg5
  z5 := Tryz.sizeOf5
  v5 := Tryz.zeroValue5
  t9 := Tryz.underlying9
  a9 := Tryz.isAgg9
  z9 := Tryz.sizeOf9
  v9 := Tryz.zeroValue9
  t28 := Tryz.underlying66
  a28 := Tryz.isAgg66
  z28 := Tryz.sizeOf66
  v28 := Tryz.zeroValue66
  t46 := Tryz.underlying76
  a46 := Tryz.isAgg76
  z46 := Tryz.sizeOf76
  v46 := Tryz.zeroValue76
  t51 := Tryz.underlying186
  a51 := Tryz.isAgg186
  z51 := Tryz.sizeOf186
  v51 := Tryz.zeroValue186
  t53 := Tryz.underlying110
  a53 := Tryz.isAgg110
  z53 := Tryz.sizeOf110
  v53 := Tryz.zeroValue110
  t131 := Tryz.underlying77
  a131 := Tryz.isAgg77
  z131 := Tryz.sizeOf77
  v131 := Tryz.zeroValue77
  t182 := Tryz.underlying228
  a182 := Tryz.isAgg228
  z182 := Tryz.sizeOf228
  v182 := Tryz.zeroValue228
  t183 := Tryz.underlying229
  a183 := Tryz.isAgg229
  z183 := Tryz.sizeOf229
  v183 := Tryz.zeroValue229
  t218 := Tryz.underlying235
  a218 := Tryz.isAgg235
  z218 := Tryz.sizeOf235
  v218 := Tryz.zeroValue235
  t222 := Tryz.underlying239
  a222 := Tryz.isAgg239
  z222 := Tryz.sizeOf239
  v222 := Tryz.zeroValue239
  t228 := Tryz.underlying241
  a228 := Tryz.isAgg241
  z228 := Tryz.sizeOf241
  v228 := Tryz.zeroValue241
  t229 := Tryz.underlying142
  a229 := Tryz.isAgg142
  z229 := Tryz.sizeOf142
  v229 := Tryz.zeroValue142 }
open Go.Sort Go.RowKit in
theorem Tryz.slices_Sort_int (blk off cap : Nat) (zs : List Int) (w : World) (hH : Holds (Value.int .i64) w blk off zs.toArray) (hblk : blk < w.heap.size) (hsz : zs.length < 4611686018427387904) :
    Calls Tryz.prog 205 #[.slice (some ⟨blk, off, none⟩) zs.length cap] w fun e w' =>
      e = .returned (.tuple #[]) ∧ ∃ n os, w' = grow (putRow (Value.int .i64) (Sort.ahead w n) blk off (zs.mergeSort fun x y => decide (x ≤ y)).toArray) os := Any.slices_Sort_int Tryz.lays189 blk off cap zs w hH hblk hsz
open Go.RowKit Go.Sort in
/-- .. and plain. (LAID: no walk: one application.) -/
theorem Tryz.slices_Sort_int_none (p : Option Addr) (cap : Nat) (w : World) :
    Calls Tryz.prog 205 #[.slice p 0 cap] w fun e w' => e = .returned (.tuple #[]) ∧ w' = w := Any.slices_Sort_int_none Tryz.lays189 p cap w
end Go.Proofs
