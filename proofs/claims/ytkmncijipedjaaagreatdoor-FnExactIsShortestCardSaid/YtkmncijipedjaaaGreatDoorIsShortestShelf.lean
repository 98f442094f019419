/- The library's contracts, at this program: layings, in plain words. -/
import Derived.Shelf.Strconv.Itoa3
import Derived.Shelf.Strings.OnBuilder
import Derived.Test.YtkmncijipedjaaaGreatDoorProg
namespace Go.Proofs
open Go.Shelf
def Tryz.laysM171_ren : Go.Shelf.Ren := ⟨fun | 171 => 96 | 243 => 118 | 246 => 129 | 283 => 134 | 284 => 135 | 285 => 136 | 286 => 137 | 129 => 139 | 317 => 138 | 318 => 140 | 319 => 141 | 320 => 142 | 337 => 143 | 338 => 144 | n => n, fun | 3 => 3 | 9 => 9 | 2 => 2 | 4 => 4 | 171 => 160 | 0 => 0 | 53 => 161 | 37 => 128 | 5 => 5 | 173 => 164 | 212 => 167 | 51 => 168 | 20 => 20 | 213 => 169 | 46 => 84 | 232 => 172 | 233 => 173 | n => n, fun | 17 => 1 | 18 => 2 | 19 => 3 | n => n⟩
theorem Tryz.laysM171 : Go.Proofs.LaysM.n171 Tryz.prog Tryz.laysM171_ren := {
  mixed := by kernel_rfl
  f129 := Tryz.func139.trans (congrArg some (by kernel_rfl))
  f171 := Tryz.func96.trans (congrArg some (by kernel_rfl))
  f243 := Tryz.func118.trans (congrArg some (by kernel_rfl))
  f246 := Tryz.func129.trans (congrArg some (by kernel_rfl))
  f283 := Tryz.func134.trans (congrArg some (by kernel_rfl))
  f284 := Tryz.func135.trans (congrArg some (by kernel_rfl))
  f285 := Tryz.func136.trans (congrArg some (by kernel_rfl))
  f286 := Tryz.func137.trans (congrArg some (by kernel_rfl))
  f317 := Tryz.func138.trans (congrArg some (by kernel_rfl))
  f318 := Tryz.func140.trans (congrArg some (by kernel_rfl))
  f319 := Tryz.func141.trans (congrArg some (by kernel_rfl))
  f320 := Tryz.func142.trans (congrArg some (by kernel_rfl))
  f337 := Tryz.func143.trans (congrArg some (by kernel_rfl))
  f338 := Tryz.func144.trans (congrArg some (by kernel_rfl))
  t0 := Tryz.underlying0
  a0 := Tryz.isAgg0
  z0 := Tryz.sizeOf0
  v0 := Tryz.zeroValue0
  t2 := Tryz.underlying2
  a2 := Tryz.isAgg2
  z2 := Tryz.sizeOf2
  v2 := Tryz.zeroValue2
  t3 := Tryz.underlying3
  a3 := Tryz.isAgg3
  z3 := Tryz.sizeOf3
  v3 := Tryz.zeroValue3
  t4 := Tryz.underlying4
  a4 := Tryz.isAgg4
  z4 := Tryz.sizeOf4
  v4 := Tryz.zeroValue4
  t5 := Tryz.underlying5
  a5 := Tryz.isAgg5
  z5 := Tryz.sizeOf5
  v5 := Tryz.zeroValue5
  t9 := Tryz.underlying9
  a9 := Tryz.isAgg9
  z9 := Tryz.sizeOf9
  v9 := Tryz.zeroValue9
  t20 := Tryz.underlying20
  a20 := Tryz.isAgg20
  z20 := Tryz.sizeOf20
  v20 := Tryz.zeroValue20
  t37 := Tryz.underlying128
  a37 := Tryz.isAgg128
  z37 := Tryz.sizeOf128
  v37 := Tryz.zeroValue128
  t46 := Tryz.underlying84
  a46 := Tryz.isAgg84
  z46 := Tryz.sizeOf84
  v46 := Tryz.zeroValue84
  t51 := Tryz.underlying168
  a51 := Tryz.isAgg168
  z51 := Tryz.sizeOf168
  v51 := Tryz.zeroValue168
  t53 := Tryz.underlying161
  a53 := Tryz.isAgg161
  z53 := Tryz.sizeOf161
  v53 := Tryz.zeroValue161
  t171 := Tryz.underlying160
  a171 := Tryz.isAgg160
  z171 := Tryz.sizeOf160
  v171 := Tryz.zeroValue160
  t173 := Tryz.underlying164
  a173 := Tryz.isAgg164
  z173 := Tryz.sizeOf164
  v173 := Tryz.zeroValue164
  t212 := Tryz.underlying167
  a212 := Tryz.isAgg167
  z212 := Tryz.sizeOf167
  v212 := Tryz.zeroValue167
  t213 := Tryz.underlying169
  a213 := Tryz.isAgg169
  z213 := Tryz.sizeOf169
  t232 := Tryz.underlying172
  a232 := Tryz.isAgg172
  z232 := Tryz.sizeOf172
  v232 := Tryz.zeroValue172
  t233 := Tryz.underlying173
  a233 := Tryz.isAgg173
  z233 := Tryz.sizeOf173
  v233 := Tryz.zeroValue173
  g17 := by kernel_rfl
  g18 := by kernel_rfl
  g19 := by kernel_rfl
  i0 := by kernel_rfl
  i2 := by kernel_rfl
  i3 := by kernel_rfl
  i4 := by kernel_rfl
  i5 := by kernel_rfl
  i9 := by kernel_rfl
  i20 := by kernel_rfl
  i37 := by kernel_rfl
  i46 := by kernel_rfl
  i51 := by kernel_rfl
  i53 := by kernel_rfl
  i171 := by kernel_rfl
  i173 := by kernel_rfl
  i212 := by kernel_rfl
  i232 := by kernel_rfl
  i233 := by kernel_rfl
  m17 := by kernel_rfl
  m18 := by kernel_rfl
  m19 := by kernel_rfl }
open Go.RowKit Go.Sort Go.Lib in
/-- strconv.Itoa: "Itoa is equivalent to FormatInt(int64(i), 10).": i's DECIMAL NUMERAL ('Lib.itoa': a '-' where i is negative, then the digits), FOR EVERY int. The world behind the call: the world before it, new blocks behind the heap (the library's 'var a [24]byte'), draws. (LAID: no walk: one application.) -/
theorem Tryz.strconv_Itoa (n : Int) (h0 : -9223372036854775808 ≤ n) (h1 : n ≤ 9223372036854775807) (w : World) (htab : Lib.TabIs Tryz.prog w "internal/strconv.uint64pow10" .u64 Lib.pow10Tab) :
    Calls Tryz.prog 96 #[.int .i64 n] w fun e w' => e = .returned (.string ⟨(Lib.itoa n).toArray⟩) ∧ ∃ k os, w' = grow (w.drewN k) os := Any.strconv_Itoa Tryz.laysM171 n h0 h1 w htab
def Tryz.lays156_ren : Go.Shelf.Ren := ⟨fun | 156 => 59 | 165 => 97 | 166 => 98 | 169 => 99 | 240 => 119 | 241 => 120 | 276 => 130 | 277 => 131 | n => n, fun | 31 => 99 | 9 => 9 | 3 => 3 | 4 => 4 | 0 => 0 | 20 => 20 | 72 => 130 | 76 => 134 | 70 => 127 | 37 => 128 | 75 => 133 | 127 => 149 | 164 => 156 | 5 => 5 | 80 => 136 | n => n, fun | n => n⟩
theorem Tryz.lays156 : Go.Proofs.Lays.n156 Tryz.prog Tryz.lays156_ren := {
  mixed := by kernel_rfl
  f156 := Tryz.func59.trans (congrArg some (by kernel_rfl))
  f165 := Tryz.func97.trans (congrArg some (by kernel_rfl))
  f166 := Tryz.func98.trans (congrArg some (by kernel_rfl))
  f169 := Tryz.func99.trans (congrArg some (by kernel_rfl))
  f240 := Tryz.func119.trans (congrArg some (by kernel_rfl))
  f241 := Tryz.func120.trans (congrArg some (by kernel_rfl))
  f276 := Tryz.func130.trans (congrArg some (by kernel_rfl))
  f277 := Tryz.func131.trans (congrArg some (by kernel_rfl))
  t0 := Tryz.underlying0
  a0 := Tryz.isAgg0
  z0 := Tryz.sizeOf0
  v0 := Tryz.zeroValue0
  t3 := Tryz.underlying3
  a3 := Tryz.isAgg3
  z3 := Tryz.sizeOf3
  v3 := Tryz.zeroValue3
  t4 := Tryz.underlying4
  a4 := Tryz.isAgg4
  z4 := Tryz.sizeOf4
  v4 := Tryz.zeroValue4
  t9 := Tryz.underlying9
  a9 := Tryz.isAgg9
  z9 := Tryz.sizeOf9
  v9 := Tryz.zeroValue9
  t20 := Tryz.underlying20
  a20 := Tryz.isAgg20
  z20 := Tryz.sizeOf20
  v20 := Tryz.zeroValue20
  t31 := Tryz.underlying99
  a31 := Tryz.isAgg99
  z31 := Tryz.sizeOf99
  v31 := Tryz.zeroValue99
  t37 := Tryz.underlying128
  a37 := Tryz.isAgg128
  z37 := Tryz.sizeOf128
  v37 := Tryz.zeroValue128
  t70 := Tryz.underlying127
  a70 := Tryz.isAgg127
  z70 := Tryz.sizeOf127
  v70 := Tryz.zeroValue127
  t72 := Tryz.underlying130
  a72 := Tryz.isAgg130
  z72 := Tryz.sizeOf130
  v72 := Tryz.zeroValue130
  t75 := Tryz.underlying133
  a75 := Tryz.isAgg133
  z75 := Tryz.sizeOf133
  v75 := Tryz.zeroValue133
  t76 := Tryz.underlying134
  a76 := Tryz.isAgg134
  z76 := Tryz.sizeOf134
  v76 := Tryz.zeroValue134
  t127 := Tryz.underlying149
  a127 := Tryz.isAgg149
  z127 := Tryz.sizeOf149
  v127 := Tryz.zeroValue149
  t164 := Tryz.underlying156
  a164 := Tryz.isAgg156
  z164 := Tryz.sizeOf156
  v164 := Tryz.zeroValue156 }
theorem Tryz.Builder_Extra_156 : Builder.Extra Tryz.prog Tryz.lays156_ren := {
  sizeBuilder := by kernel_rfl
  liesBuilder := by kernel_rfl
  t5 := Tryz.underlying5
  a5 := Tryz.isAgg5
  z5 := Tryz.sizeOf5
  v5 := Tryz.zeroValue5
  infoByte := by kernel_rfl
  cellsByte := by kernel_rfl
  sizeByte := by kernel_rfl
  neB5 := by decide }
open Go.RowKit in
/-- strings.Join: "Join concatenates the elements of its first argument to create a single string. The separator string sep is placed between elements in the resulting string.": HOWEVER MANY ELEMENTS. Below the heap's end the world is as it was. (LAID: no walk: one application.) -/
theorem Tryz.strings_Join (bk o c : Nat) (xs : List ByteArray) (sep : ByteArray) (w : World) (hcells : ∀ (j : Nat) x, xs[j]? = some x → w.cell? ⟨bk, o + j, none⟩ = some (.string x)) (hbk : bk < w.heap.size) (hN : xs.length ≤ 140737488355328) (hcap : xs.length ≤ c) (hlen : (Lib.join (xs.map (·.data.toList)) sep.data.toList).length ≤ 140737488355328) :
    Calls Tryz.prog 59 #[.slice (some ⟨bk, o, none⟩) xs.length c, .string sep] w fun e w' => e = .returned (.string ⟨(Lib.join (xs.map (·.data.toList)) sep.data.toList).toArray⟩) ∧ Below w.heap.size w w' := Any.strings_Join Tryz.lays156 Tryz.Builder_Extra_156 bk o c xs sep w hcells hbk hN hcap hlen
open Go.RowKit in
/-- No element: the empty string; the world is as it was. (Whatever the slice's address and capacity: a nil slice too.) (LAID: no walk: one application.) -/
theorem Tryz.strings_Join_none (a : Option Addr) (c : Nat) (sep : ByteArray) (w : World) :
    Calls Tryz.prog 59 #[.slice a 0 c, .string sep] w fun e w' => e = .returned (.string ⟨#[]⟩) ∧ w' = w := Any.strings_Join_none Tryz.lays156 Tryz.Builder_Extra_156 a c sep w
end Go.Proofs
