/-
  The library's functions at this seat's program, from the shelf (laid by lay-shelf.mjs and lay-plain.mjs).
-/
import Derived.Test.YtafcebkjmeinnaaGreatDoorCona2
import Derived.Test.YtafcebkjmeinnaaGreatDoorCona1
import Derived.Test.YtafcebkjmeinnaaGreatDoorSrT
import Derived.Lib.IndexBytes
import Derived.Shelf.Bits.Mul64
import Derived.Shelf.LaysM
import Derived.Shelf.Slices.Turned
import Derived.Shelf.Small.Strs
import Derived.Shelf.Strconv.Itoa0
import Derived.Shelf.Strconv.Itoa1
import Derived.Shelf.Strconv.Itoa2
import Derived.Shelf.Strconv.Itoa3
import Derived.Shelf.Strings.Builder1
import Derived.Shelf.Strings.Builder2
import Derived.Shelf.Strings.Builder2Cap
import Derived.Shelf.Strings.BuilderF
import Derived.Shelf.Strings.BuilderK
import Derived.Shelf.Strings.Count
import Derived.Shelf.Strings.Explode
import Derived.Shelf.Strings.OnBuilder
import Derived.Shelf.Strings.Prefix
import Derived.Shelf.Strings.Repeat
import Derived.Shelf.Strings.RuneCount
import Derived.Shelf.Strings.Search1
import Derived.Shelf.Strings.Search2
import Derived.Shelf.Strings.Search3
import Derived.Shelf.Strings.Shaped
import Derived.Shelf.Strings.Split
import Derived.Shelf.Unicode.Decode
import Derived.Shelf.Unicode.DecodeAny
import Derived.Shelf.Unicode.DecodeSlow
import Derived.Shelf.Utf8.RuneCount

set_option linter.unusedSimpArgs false
set_option linter.unusedVariables false
set_option linter.unnecessarySimpa false
set_option maxRecDepth 100000
namespace Go.Proofs
open Go.Shelf
def Tryz.lays156_ren : Go.Shelf.Ren := ⟨fun | 156 => 83 | 165 => 132 | 166 => 49 | 169 => 53 | 240 => 94 | 241 => 162 | 276 => 135 | 277 => 177 | n => n, fun | 31 => 36 | 9 => 9 | 3 => 3 | 4 => 4 | 0 => 0 | 20 => 20 | 72 => 106 | 76 => 109 | 70 => 104 | 37 => 87 | 75 => 108 | 127 => 177 | 164 => 227 | 5 => 5 | 80 => 119 | n => n, fun | n => n⟩
theorem Tryz.lays156 : Go.Proofs.Lays.n156 Tryz.prog Tryz.lays156_ren := {
  mixed := by kernel_rfl
  f156 := Tryz.func83.trans (congrArg some (by kernel_rfl))
  f165 := Tryz.func132.trans (congrArg some (by kernel_rfl))
  f166 := Tryz.func49.trans (congrArg some (by kernel_rfl))
  f169 := Tryz.func53.trans (congrArg some (by kernel_rfl))
  f240 := Tryz.func94.trans (congrArg some (by kernel_rfl))
  f241 := Tryz.func162.trans (congrArg some (by kernel_rfl))
  f276 := Tryz.func135.trans (congrArg some (by kernel_rfl))
  f277 := Tryz.func177.trans (congrArg some (by kernel_rfl))
  t0 := Tryz.underlying0
  a0 := Tryz.isAgg0
  z0 := Tryz.sizeOf0
  v0 := Tryz.zeroValue0
  t3 := Tryz.underlying3
  a3 := Tryz.isAgg3
  z3 := Tryz.sizeOf3
  v3 := Tryz.zeroValue3
  t4 := Tryz.underlying4
  a4 := Tryz.isAgg4
  z4 := Tryz.sizeOf4
  v4 := Tryz.zeroValue4
  t9 := Tryz.underlying9
  a9 := Tryz.isAgg9
  z9 := Tryz.sizeOf9
  v9 := Tryz.zeroValue9
  t20 := Tryz.underlying20
  a20 := Tryz.isAgg20
  z20 := Tryz.sizeOf20
  v20 := Tryz.zeroValue20
  t31 := Tryz.underlying36
  a31 := Tryz.isAgg36
  z31 := Tryz.sizeOf36
  v31 := Tryz.zeroValue36
  t37 := Tryz.underlying87
  a37 := Tryz.isAgg87
  z37 := Tryz.sizeOf87
  v37 := Tryz.zeroValue87
  t70 := Tryz.underlying104
  a70 := Tryz.isAgg104
  z70 := Tryz.sizeOf104
  v70 := Tryz.zeroValue104
  t72 := Tryz.underlying106
  a72 := Tryz.isAgg106
  z72 := Tryz.sizeOf106
  v72 := Tryz.zeroValue106
  t75 := Tryz.underlying108
  a75 := Tryz.isAgg108
  z75 := Tryz.sizeOf108
  v75 := Tryz.zeroValue108
  t76 := Tryz.underlying109
  a76 := Tryz.isAgg109
  z76 := Tryz.sizeOf109
  v76 := Tryz.zeroValue109
  t127 := Tryz.underlying177
  a127 := Tryz.isAgg177
  z127 := Tryz.sizeOf177
  v127 := Tryz.zeroValue177
  t164 := Tryz.underlying227
  a164 := Tryz.isAgg227
  z164 := Tryz.sizeOf227
  v164 := Tryz.zeroValue227 }
theorem Tryz.Builder_Extra_156 : Builder.Extra Tryz.prog Tryz.lays156_ren := {
  sizeBuilder := by kernel_rfl
  liesBuilder := by kernel_rfl
  t5 := Tryz.underlying5
  a5 := Tryz.isAgg5
  z5 := Tryz.sizeOf5
  v5 := Tryz.zeroValue5
  infoByte := by kernel_rfl
  cellsByte := by kernel_rfl
  sizeByte := by kernel_rfl
  neB5 := by decide }
open Go.RowKit in
theorem Tryz.strings_Join_none (a : Option Addr) (c : Nat) (sep : ByteArray) (w : World) :
    Calls Tryz.prog 83 #[.slice a 0 c, .string sep] w fun e w' => e = .returned (.string ⟨#[]⟩) ∧ w' = w := Any.strings_Join_none Tryz.lays156 Tryz.Builder_Extra_156 a c sep w
open Go.RowKit in
theorem Tryz.strings_Join (bk o c : Nat) (xs : List ByteArray) (sep : ByteArray) (w : World) (hcells : ∀ (j : Nat) x, xs[j]? = some x → w.cell? ⟨bk, o + j, none⟩ = some (.string x)) (hbk : bk < w.heap.size) (hN : xs.length ≤ 140737488355328) (hcap : xs.length ≤ c) (hlen : (Lib.join (xs.map (·.data.toList)) sep.data.toList).length ≤ 140737488355328) :
    Calls Tryz.prog 83 #[.slice (some ⟨bk, o, none⟩) xs.length c, .string sep] w fun e w' => e = .returned (.string ⟨(Lib.join (xs.map (·.data.toList)) sep.data.toList).toArray⟩) ∧ Below w.heap.size w w' := Any.strings_Join Tryz.lays156 Tryz.Builder_Extra_156 bk o c xs sep w hcells hbk hN hcap hlen
def Tryz.lays137_ren : Go.Shelf.Ren := ⟨fun | 137 => 82 | 217 => 131 | 266 => 161 | n => n, fun | 9 => 9 | 5 => 5 | 3 => 3 | n => n, fun | n => n⟩
theorem Tryz.lays137 : Go.Proofs.Lays.n137 Tryz.prog Tryz.lays137_ren := {
  mixed := by kernel_rfl
  f137 := Tryz.func82.trans (congrArg some (by kernel_rfl))
  f217 := Tryz.func131.trans (congrArg some (by kernel_rfl))
  f266 := Tryz.func161.trans (congrArg some (by kernel_rfl))
  t3 := Tryz.underlying3
  a3 := Tryz.isAgg3
  z3 := Tryz.sizeOf3
  v3 := Tryz.zeroValue3
  t5 := Tryz.underlying5
  a5 := Tryz.isAgg5
  z5 := Tryz.sizeOf5
  v5 := Tryz.zeroValue5
  t9 := Tryz.underlying9
  a9 := Tryz.isAgg9
  z9 := Tryz.sizeOf9
  v9 := Tryz.zeroValue9 }
open Go.RowKit in
theorem Tryz.strings_IndexByte (s : ByteArray) (c : Int) (w : World) :
    Calls Tryz.prog 82 #[.string s, .int .u8 c] w fun e w' => e = .returned (.int .i64 (Lib.indexByte s.data.toList c.toNat.toUInt8)) ∧ w' = w := Any.strings_IndexByte Tryz.lays137 s c w
def Tryz.laysM171_ren : Go.Shelf.Ren := ⟨fun | 171 => 136 | 243 => 164 | 246 => 180 | 283 => 186 | 284 => 187 | 285 => 188 | 286 => 189 | 129 => 193 | 317 => 192 | 318 => 194 | 319 => 195 | 320 => 196 | 337 => 197 | 338 => 198 | n => n, fun | 3 => 3 | 9 => 9 | 2 => 2 | 4 => 4 | 171 => 269 | 0 => 0 | 53 => 127 | 37 => 87 | 5 => 5 | 173 => 272 | 212 => 280 | 51 => 115 | 20 => 20 | 213 => 281 | 46 => 84 | 232 => 284 | 233 => 285 | n => n, fun | 17 => 3 | 18 => 4 | 19 => 5 | n => n⟩
theorem Tryz.laysM171 : Go.Proofs.LaysM.n171 Tryz.prog Tryz.laysM171_ren := {
  mixed := by kernel_rfl
  f129 := Tryz.func193.trans (congrArg some (by kernel_rfl))
  f171 := Tryz.func136.trans (congrArg some (by kernel_rfl))
  f243 := Tryz.func164.trans (congrArg some (by kernel_rfl))
  f246 := Tryz.func180.trans (congrArg some (by kernel_rfl))
  f283 := Tryz.func186.trans (congrArg some (by kernel_rfl))
  f284 := Tryz.func187.trans (congrArg some (by kernel_rfl))
  f285 := Tryz.func188.trans (congrArg some (by kernel_rfl))
  f286 := Tryz.func189.trans (congrArg some (by kernel_rfl))
  f317 := Tryz.func192.trans (congrArg some (by kernel_rfl))
  f318 := Tryz.func194.trans (congrArg some (by kernel_rfl))
  f319 := Tryz.func195.trans (congrArg some (by kernel_rfl))
  f320 := Tryz.func196.trans (congrArg some (by kernel_rfl))
  f337 := Tryz.func197.trans (congrArg some (by kernel_rfl))
  f338 := Tryz.func198.trans (congrArg some (by kernel_rfl))
  t0 := Tryz.underlying0
  a0 := Tryz.isAgg0
  z0 := Tryz.sizeOf0
  v0 := Tryz.zeroValue0
  t2 := Tryz.underlying2
  a2 := Tryz.isAgg2
  z2 := Tryz.sizeOf2
  v2 := Tryz.zeroValue2
  t3 := Tryz.underlying3
  a3 := Tryz.isAgg3
  z3 := Tryz.sizeOf3
  v3 := Tryz.zeroValue3
  t4 := Tryz.underlying4
  a4 := Tryz.isAgg4
  z4 := Tryz.sizeOf4
  v4 := Tryz.zeroValue4
  t5 := Tryz.underlying5
  a5 := Tryz.isAgg5
  z5 := Tryz.sizeOf5
  v5 := Tryz.zeroValue5
  t9 := Tryz.underlying9
  a9 := Tryz.isAgg9
  z9 := Tryz.sizeOf9
  v9 := Tryz.zeroValue9
  t20 := Tryz.underlying20
  a20 := Tryz.isAgg20
  z20 := Tryz.sizeOf20
  v20 := Tryz.zeroValue20
  t37 := Tryz.underlying87
  a37 := Tryz.isAgg87
  z37 := Tryz.sizeOf87
  v37 := Tryz.zeroValue87
  t46 := Tryz.underlying84
  a46 := Tryz.isAgg84
  z46 := Tryz.sizeOf84
  v46 := Tryz.zeroValue84
  t51 := Tryz.underlying115
  a51 := Tryz.isAgg115
  z51 := Tryz.sizeOf115
  v51 := Tryz.zeroValue115
  t53 := Tryz.underlying127
  a53 := Tryz.isAgg127
  z53 := Tryz.sizeOf127
  v53 := Tryz.zeroValue127
  t171 := Tryz.underlying269
  a171 := Tryz.isAgg269
  z171 := Tryz.sizeOf269
  v171 := Tryz.zeroValue269
  t173 := Tryz.underlying272
  a173 := Tryz.isAgg272
  z173 := Tryz.sizeOf272
  v173 := Tryz.zeroValue272
  t212 := Tryz.underlying280
  a212 := Tryz.isAgg280
  z212 := Tryz.sizeOf280
  v212 := Tryz.zeroValue280
  t213 := Tryz.underlying281
  a213 := Tryz.isAgg281
  z213 := Tryz.sizeOf281
  t232 := Tryz.underlying284
  a232 := Tryz.isAgg284
  z232 := Tryz.sizeOf284
  v232 := Tryz.zeroValue284
  t233 := Tryz.underlying285
  a233 := Tryz.isAgg285
  z233 := Tryz.sizeOf285
  v233 := Tryz.zeroValue285
  g17 := by kernel_rfl
  g18 := by kernel_rfl
  g19 := by kernel_rfl
  i0 := by kernel_rfl
  i2 := by kernel_rfl
  i3 := by kernel_rfl
  i4 := by kernel_rfl
  i5 := by kernel_rfl
  i9 := by kernel_rfl
  i20 := by kernel_rfl
  i37 := by kernel_rfl
  i46 := by kernel_rfl
  i51 := by kernel_rfl
  i53 := by kernel_rfl
  i171 := by kernel_rfl
  i173 := by kernel_rfl
  i212 := by kernel_rfl
  i232 := by kernel_rfl
  i233 := by kernel_rfl
  m17 := by kernel_rfl
  m18 := by kernel_rfl
  m19 := by kernel_rfl }
open Go.RowKit Go.Sort Go.Lib in
theorem Tryz.strconv_Itoa (n : Int) (h0 : -9223372036854775808 ≤ n) (h1 : n ≤ 9223372036854775807) (w : World) (htab : Lib.TabIs Tryz.prog w "internal/strconv.uint64pow10" .u64 Lib.pow10Tab) :
    Calls Tryz.prog 136 #[.int .i64 n] w fun e w' => e = .returned (.string ⟨(Lib.itoa n).toArray⟩) ∧ ∃ k os, w' = grow (w.drewN k) os := Any.strconv_Itoa Tryz.laysM171 n h0 h1 w htab
def Tryz.lays138_ren : Go.Shelf.Ren := ⟨fun | 138 => 107 | 195 => 148 | 218 => 149 | 143 => 150 | 219 => 173 | 217 => 131 | 225 => 181 | 224 => 182 | 267 => 183 | 266 => 161 | 314 => 190 | n => n, fun | 9 => 9 | 3 => 3 | 4 => 4 | 5 => 5 | 0 => 0 | 46 => 84 | 146 => 255 | 51 => 115 | n => n, fun | 1 => 0 | n => n⟩
theorem Tryz.lays138 : Go.Proofs.Lays.n138 Tryz.prog Tryz.lays138_ren := {
  mixed := by kernel_rfl
  f138 := Tryz.func107.trans (congrArg some (by kernel_rfl))
  f143 := Tryz.func150.trans (congrArg some (by kernel_rfl))
  f195 := Tryz.func148.trans (congrArg some (by kernel_rfl))
  f217 := Tryz.func131.trans (congrArg some (by kernel_rfl))
  f218 := Tryz.func149.trans (congrArg some (by kernel_rfl))
  f219 := Tryz.func173.trans (congrArg some (by kernel_rfl))
  f224 := Tryz.func182.trans (congrArg some (by kernel_rfl))
  f225 := Tryz.func181.trans (congrArg some (by kernel_rfl))
  f266 := Tryz.func161.trans (congrArg some (by kernel_rfl))
  f267 := Tryz.func183.trans (congrArg some (by kernel_rfl))
  f314 := Tryz.func190.trans (congrArg some (by kernel_rfl))
  t0 := Tryz.underlying0
  a0 := Tryz.isAgg0
  z0 := Tryz.sizeOf0
  v0 := Tryz.zeroValue0
  t3 := Tryz.underlying3
  a3 := Tryz.isAgg3
  z3 := Tryz.sizeOf3
  v3 := Tryz.zeroValue3
  t4 := Tryz.underlying4
  a4 := Tryz.isAgg4
  z4 := Tryz.sizeOf4
  v4 := Tryz.zeroValue4
  t5 := Tryz.underlying5
  a5 := Tryz.isAgg5
  z5 := Tryz.sizeOf5
  v5 := Tryz.zeroValue5
  t9 := Tryz.underlying9
  a9 := Tryz.isAgg9
  z9 := Tryz.sizeOf9
  v9 := Tryz.zeroValue9
  t46 := Tryz.underlying84
  a46 := Tryz.isAgg84
  z46 := Tryz.sizeOf84
  v46 := Tryz.zeroValue84
  t51 := Tryz.underlying115
  a51 := Tryz.isAgg115
  z51 := Tryz.sizeOf115
  v51 := Tryz.zeroValue115
  t146 := Tryz.underlying255
  a146 := Tryz.isAgg255
  z146 := Tryz.sizeOf255
  v146 := Tryz.zeroValue255
  g1 := by kernel_rfl }
open Go.RowKit Go.Lib in
theorem Tryz.strings_Count_one (s : ByteArray) (c : UInt8) (w : World) :
    Calls Tryz.prog 107 #[.string s, .string ⟨#[c]⟩] w fun e w' => e = .returned (.int .i64 (Lib.countByte s.data.toList c)) ∧ w' = w := Any.strings_Count_one Tryz.lays138 s c w
def Tryz.laysM143_ren : Go.Shelf.Ren := ⟨fun | 143 => 150 | 219 => 173 | 217 => 131 | 225 => 181 | 224 => 182 | 267 => 183 | 266 => 161 | 314 => 190 | n => n, fun | 9 => 9 | 3 => 3 | 4 => 4 | 5 => 5 | 46 => 84 | 146 => 255 | 51 => 115 | n => n, fun | 1 => 0 | n => n⟩
theorem Tryz.laysM143 : Go.Proofs.LaysM.n143 Tryz.prog Tryz.laysM143_ren := {
  mixed := by kernel_rfl
  f143 := Tryz.func150.trans (congrArg some (by kernel_rfl))
  f217 := Tryz.func131.trans (congrArg some (by kernel_rfl))
  f219 := Tryz.func173.trans (congrArg some (by kernel_rfl))
  f224 := Tryz.func182.trans (congrArg some (by kernel_rfl))
  f225 := Tryz.func181.trans (congrArg some (by kernel_rfl))
  f266 := Tryz.func161.trans (congrArg some (by kernel_rfl))
  f267 := Tryz.func183.trans (congrArg some (by kernel_rfl))
  f314 := Tryz.func190.trans (congrArg some (by kernel_rfl))
  t3 := Tryz.underlying3
  a3 := Tryz.isAgg3
  z3 := Tryz.sizeOf3
  v3 := Tryz.zeroValue3
  t4 := Tryz.underlying4
  a4 := Tryz.isAgg4
  z4 := Tryz.sizeOf4
  v4 := Tryz.zeroValue4
  t5 := Tryz.underlying5
  a5 := Tryz.isAgg5
  z5 := Tryz.sizeOf5
  v5 := Tryz.zeroValue5
  t9 := Tryz.underlying9
  a9 := Tryz.isAgg9
  z9 := Tryz.sizeOf9
  v9 := Tryz.zeroValue9
  t46 := Tryz.underlying84
  a46 := Tryz.isAgg84
  z46 := Tryz.sizeOf84
  v46 := Tryz.zeroValue84
  t51 := Tryz.underlying115
  a51 := Tryz.isAgg115
  z51 := Tryz.sizeOf115
  v51 := Tryz.zeroValue115
  t146 := Tryz.underlying255
  a146 := Tryz.isAgg255
  z146 := Tryz.sizeOf255
  v146 := Tryz.zeroValue255
  g1 := by kernel_rfl
  i3 := by kernel_rfl
  i4 := by kernel_rfl
  i5 := by kernel_rfl
  i9 := by kernel_rfl
  i46 := by kernel_rfl
  i51 := by kernel_rfl
  i146 := by kernel_rfl
  m1 := by kernel_rfl
  s1_3 := fun w h => Go.Proofs.cell_of_shapedOpen_int (zero := #[.int .i64 0]) (t := 3) h (of_decide_eq_true (by kernel_rfl)) (by kernel_rfl) rfl (by kernel_rfl) (by kernel_rfl) Tryz.underlying3 }
open Go.RowKit Go.Lib in
theorem Tryz.strings_Index_shaped (s sub : ByteArray) (w : World) (h : w.ShapedOpen Tryz.prog) (hs : s.size < 4294967281) :
    Calls Tryz.prog 150 #[.string s, .string sub] w fun e w' => e = .returned (.int .i64 (Lib.index s.data.toList sub.data.toList)) ∧ w' = w := Any.strings_Index_shaped Tryz.laysM143 s sub w h hs
theorem Tryz.strings_Index_one (s : ByteArray) (c : UInt8) (w : World) :
    Calls Tryz.prog 150 #[.string s, .string ⟨#[c]⟩] w fun e w' => e = .returned (.int .i64 (Lib.indexByte s.data.toList c)) ∧ w' = w := Any.strings_Index_one { Tryz.laysM143 with } s c w
def Tryz.lays221_ren : Go.Shelf.Ren := ⟨fun | 221 => 108 | 268 => 151 | 138 => 107 | 143 => 150 | 195 => 148 | 197 => 174 | 218 => 149 | 219 => 173 | 260 => 184 | 217 => 131 | 225 => 181 | 224 => 182 | 267 => 183 | 266 => 161 | 314 => 190 | n => n, fun | 9 => 9 | 3 => 3 | 31 => 36 | 4 => 4 | 0 => 0 | 105 => 262 | 21 => 21 | 5 => 5 | 46 => 84 | 119 => 275 | 139 => 278 | 138 => 277 | 146 => 255 | 51 => 115 | n => n, fun | 1 => 0 | 3 => 1 | 4 => 2 | n => n⟩
theorem Tryz.lays221 : Go.Proofs.Lays.n221 Tryz.prog Tryz.lays221_ren := {
  mixed := by kernel_rfl
  f138 := Tryz.func107.trans (congrArg some (by kernel_rfl))
  f143 := Tryz.func150.trans (congrArg some (by kernel_rfl))
  f195 := Tryz.func148.trans (congrArg some (by kernel_rfl))
  f197 := Tryz.func174.trans (congrArg some (by kernel_rfl))
  f217 := Tryz.func131.trans (congrArg some (by kernel_rfl))
  f218 := Tryz.func149.trans (congrArg some (by kernel_rfl))
  f219 := Tryz.func173.trans (congrArg some (by kernel_rfl))
  f221 := Tryz.func108.trans (congrArg some (by kernel_rfl))
  f224 := Tryz.func182.trans (congrArg some (by kernel_rfl))
  f225 := Tryz.func181.trans (congrArg some (by kernel_rfl))
  f260 := Tryz.func184.trans (congrArg some (by kernel_rfl))
  f266 := Tryz.func161.trans (congrArg some (by kernel_rfl))
  f267 := Tryz.func183.trans (congrArg some (by kernel_rfl))
  f268 := Tryz.func151.trans (congrArg some (by kernel_rfl))
  f314 := Tryz.func190.trans (congrArg some (by kernel_rfl))
  t0 := Tryz.underlying0
  a0 := Tryz.isAgg0
  z0 := Tryz.sizeOf0
  v0 := Tryz.zeroValue0
  t3 := Tryz.underlying3
  a3 := Tryz.isAgg3
  z3 := Tryz.sizeOf3
  v3 := Tryz.zeroValue3
  t4 := Tryz.underlying4
  a4 := Tryz.isAgg4
  z4 := Tryz.sizeOf4
  v4 := Tryz.zeroValue4
  t5 := Tryz.underlying5
  a5 := Tryz.isAgg5
  z5 := Tryz.sizeOf5
  v5 := Tryz.zeroValue5
  t9 := Tryz.underlying9
  a9 := Tryz.isAgg9
  z9 := Tryz.sizeOf9
  v9 := Tryz.zeroValue9
  t21 := Tryz.underlying21
  a21 := Tryz.isAgg21
  z21 := Tryz.sizeOf21
  v21 := Tryz.zeroValue21
  t31 := Tryz.underlying36
  a31 := Tryz.isAgg36
  z31 := Tryz.sizeOf36
  v31 := Tryz.zeroValue36
  t46 := Tryz.underlying84
  a46 := Tryz.isAgg84
  z46 := Tryz.sizeOf84
  v46 := Tryz.zeroValue84
  t51 := Tryz.underlying115
  a51 := Tryz.isAgg115
  z51 := Tryz.sizeOf115
  v51 := Tryz.zeroValue115
  t105 := Tryz.underlying262
  a105 := Tryz.isAgg262
  z105 := Tryz.sizeOf262
  v105 := Tryz.zeroValue262
  t119 := Tryz.underlying275
  a119 := Tryz.isAgg275
  z119 := Tryz.sizeOf275
  t138 := Tryz.underlying277
  a138 := Tryz.isAgg277
  z138 := Tryz.sizeOf277
  v138 := Tryz.zeroValue277
  t139 := Tryz.underlying278
  a139 := Tryz.isAgg278
  z139 := Tryz.sizeOf278
  v139 := Tryz.zeroValue278
  t146 := Tryz.underlying255
  a146 := Tryz.isAgg255
  z146 := Tryz.sizeOf255
  v146 := Tryz.zeroValue255
  g1 := by kernel_rfl
  g3 := by kernel_rfl
  g4 := by kernel_rfl }
open Go.RowKit Go.Lib in
theorem Tryz.strings_genSplit (s sep : ByteArray) (sv : Nat) (n : Int) (N : Nat) (m : Int) (w : World) (hs : s.size < 4294967281) (hm : w.cell? ⟨0, 0, none⟩ = some (.int .i64 m)) (h1 : 1 ≤ sep.size) (hsv : sv ≤ sep.size) (hn0 : n ≠ 0) (hn63 : n ≤ 9223372036854775807) (hN : (N : Int) = min (if n < 0 then (Lib.countB s sep : Int) + 1 else n) ((s.size : Int) + 1)) :
    Calls Tryz.prog 108 #[.string s, .string sep, .int .i64 sv, .int .i64 n] w fun e w' =>
      e = .returned (.slice (some ⟨w.heap.size, 0, none⟩) (Lib.splitB sep sv (N - 1) s).length N) ∧ w' = w.alloc (.cells (Lib.cellsOf (Lib.splitB sep sv (N - 1) s) N) 9) := Any.strings_genSplit Tryz.lays221 (by kernel_rfl) s sep sv n N m w hs hm h1 hsv hn0 hn63 hN
def Tryz.lays105_ren : Go.Shelf.Ren := ⟨fun | 105 => 96 | 212 => 137 | 99 => 138 | 165 => 132 | 166 => 49 | 170 => 139 | 169 => 53 | 263 => 165 | 264 => 166 | 206 => 167 | 240 => 94 | 241 => 162 | 276 => 135 | 277 => 177 | n => n, fun | 9 => 9 | 3 => 3 | 4 => 4 | 20 => 20 | 0 => 0 | 46 => 84 | 109 => 229 | 5 => 5 | 72 => 106 | 76 => 109 | 51 => 115 | 146 => 255 | 53 => 127 | 148 => 257 | 70 => 104 | 37 => 87 | 75 => 108 | 127 => 177 | 164 => 227 | 80 => 119 | n => n, fun | n => n⟩
theorem Tryz.lays105 : Go.Proofs.Lays.n105 Tryz.prog Tryz.lays105_ren := {
  mixed := by kernel_rfl
  f99 := Tryz.func138.trans (congrArg some (by kernel_rfl))
  f105 := Tryz.func96.trans (congrArg some (by kernel_rfl))
  f165 := Tryz.func132.trans (congrArg some (by kernel_rfl))
  f166 := Tryz.func49.trans (congrArg some (by kernel_rfl))
  f169 := Tryz.func53.trans (congrArg some (by kernel_rfl))
  f170 := Tryz.func139.trans (congrArg some (by kernel_rfl))
  f206 := Tryz.func167.trans (congrArg some (by kernel_rfl))
  f212 := Tryz.func137.trans (congrArg some (by kernel_rfl))
  f240 := Tryz.func94.trans (congrArg some (by kernel_rfl))
  f241 := Tryz.func162.trans (congrArg some (by kernel_rfl))
  f263 := Tryz.func165.trans (congrArg some (by kernel_rfl))
  f264 := Tryz.func166.trans (congrArg some (by kernel_rfl))
  f276 := Tryz.func135.trans (congrArg some (by kernel_rfl))
  f277 := Tryz.func177.trans (congrArg some (by kernel_rfl))
  t0 := Tryz.underlying0
  a0 := Tryz.isAgg0
  z0 := Tryz.sizeOf0
  v0 := Tryz.zeroValue0
  t3 := Tryz.underlying3
  a3 := Tryz.isAgg3
  z3 := Tryz.sizeOf3
  v3 := Tryz.zeroValue3
  t4 := Tryz.underlying4
  a4 := Tryz.isAgg4
  z4 := Tryz.sizeOf4
  v4 := Tryz.zeroValue4
  t5 := Tryz.underlying5
  a5 := Tryz.isAgg5
  z5 := Tryz.sizeOf5
  v5 := Tryz.zeroValue5
  t9 := Tryz.underlying9
  a9 := Tryz.isAgg9
  z9 := Tryz.sizeOf9
  v9 := Tryz.zeroValue9
  t20 := Tryz.underlying20
  a20 := Tryz.isAgg20
  z20 := Tryz.sizeOf20
  v20 := Tryz.zeroValue20
  t37 := Tryz.underlying87
  a37 := Tryz.isAgg87
  z37 := Tryz.sizeOf87
  v37 := Tryz.zeroValue87
  t46 := Tryz.underlying84
  a46 := Tryz.isAgg84
  z46 := Tryz.sizeOf84
  v46 := Tryz.zeroValue84
  t51 := Tryz.underlying115
  a51 := Tryz.isAgg115
  z51 := Tryz.sizeOf115
  v51 := Tryz.zeroValue115
  t53 := Tryz.underlying127
  a53 := Tryz.isAgg127
  z53 := Tryz.sizeOf127
  v53 := Tryz.zeroValue127
  t70 := Tryz.underlying104
  a70 := Tryz.isAgg104
  z70 := Tryz.sizeOf104
  v70 := Tryz.zeroValue104
  t72 := Tryz.underlying106
  a72 := Tryz.isAgg106
  z72 := Tryz.sizeOf106
  v72 := Tryz.zeroValue106
  t75 := Tryz.underlying108
  a75 := Tryz.isAgg108
  z75 := Tryz.sizeOf108
  v75 := Tryz.zeroValue108
  t76 := Tryz.underlying109
  a76 := Tryz.isAgg109
  z76 := Tryz.sizeOf109
  v76 := Tryz.zeroValue109
  t109 := Tryz.underlying229
  a109 := Tryz.isAgg229
  z109 := Tryz.sizeOf229
  v109 := Tryz.zeroValue229
  t127 := Tryz.underlying177
  a127 := Tryz.isAgg177
  z127 := Tryz.sizeOf177
  v127 := Tryz.zeroValue177
  t146 := Tryz.underlying255
  a146 := Tryz.isAgg255
  z146 := Tryz.sizeOf255
  v146 := Tryz.zeroValue255
  t148 := Tryz.underlying257
  a148 := Tryz.isAgg257
  z148 := Tryz.sizeOf257
  v148 := Tryz.zeroValue257
  t164 := Tryz.underlying227
  a164 := Tryz.isAgg227
  z164 := Tryz.sizeOf227
  v164 := Tryz.zeroValue227 }
theorem Tryz.Builder_Extra_105 : Builder.Extra Tryz.prog Tryz.lays105_ren := {
  sizeBuilder := by kernel_rfl
  liesBuilder := by kernel_rfl
  t5 := Tryz.underlying5
  a5 := Tryz.isAgg5
  z5 := Tryz.sizeOf5
  v5 := Tryz.zeroValue5
  infoByte := by kernel_rfl
  cellsByte := by kernel_rfl
  sizeByte := by kernel_rfl
  neB5 := by decide }
open Go.RowKit Go.Lib in
theorem Tryz.strings_Repeat (s : ByteArray) (c : Nat) (w : World) (hc : c ≤ 9223372036854775807) (hlen : s.size * c ≤ 140737488355328) :
    Calls Tryz.prog 96 #[.string s, .int .i64 c] w fun e w' => e = .returned (.string ⟨(Lib.repeatL s.data.toList c).toArray⟩) ∧ Below w.heap.size w w' := Any.strings_Repeat Tryz.lays105 Tryz.Builder_Extra_105 s c w hc hlen
end Go.Proofs
open Go Go.Proofs
namespace Go.AE.Seat

theorem arr2 {vs : Array Value} (h : vs.size = 2) : vs = #[vs.getD 0 undef, vs.getD 1 undef] := by
  apply Array.ext
  · simpa using h
  · intro i h2 h3
    have : i = 0 ∨ i = 1 := by simp at h3; omega
    rcases this with rfl | rfl <;> simp [Array.getD, h2]

theorem has_strings_Index : Has Tryz.prog 150 S_strings_Index := by
  refine ⟨by kernel_rfl, .of2 fun s n hp w I vs hW _ hs hr => ?_⟩
  have h0 := hr 0 (by simp)
  have h1 := hr 1 (by simp)
  rw [arr2 hs]
  generalize vs.getD 0 undef = a at h0 ⊢
  generalize vs.getD 1 undef = b at h1 ⊢
  cases h0
  cases h1
  rcases hp with hp | hp
  · refine (Tryz.strings_Index_shaped ⟨s.toArray⟩ ⟨n.toArray⟩ w hW.1 (by simpa [ByteArray.size] using hp)).mono ?_
    rintro e w' ⟨rfl, rfl⟩
    exact ⟨_, rfl, .int _ _, .refl _ _⟩
  · obtain ⟨c, rfl⟩ := List.length_eq_one_iff.1 hp
    refine (Tryz.strings_Index_one ⟨s.toArray⟩ c w).mono ?_
    rintro e w' ⟨rfl, rfl⟩
    refine ⟨_, rfl, ?_, .refl _ _⟩
    show DRep _ _ (.int .i64 (Lib.index s [c])) _
    rw [Lib.index_one]
    exact .int _ _

theorem has_strings_Count : Has Tryz.prog 107 S_strings_Count := by
  refine ⟨by kernel_rfl, .of2 fun s n hp w I vs hW _ hs hr => ?_⟩
  have h0 := hr 0 (by simp)
  have h1 := hr 1 (by simp)
  rw [arr2 hs]
  generalize vs.getD 0 undef = a at h0 ⊢
  generalize vs.getD 1 undef = b at h1 ⊢
  cases h0
  cases h1
  obtain ⟨c, rfl⟩ := List.length_eq_one_iff.1 hp
  refine (Tryz.strings_Count_one ⟨s.toArray⟩ c w).mono ?_
  rintro e w' ⟨rfl, rfl⟩
  exact ⟨_, rfl, .int _ _, .refl _ _⟩

theorem has_strings_IndexByte : Has Tryz.prog 82 S_strings_IndexByte := by
  refine ⟨by kernel_rfl, fun ds hp w I vs hW _ hs hr => ?_⟩
  match ds, hp with
  | [.str s, .int .u8 c], hp =>
    have h0 := hr 0 (by simp)
    have h1 := hr 1 (by simp)
    rw [arr2 hs]
    generalize vs.getD 0 undef = a at h0 ⊢
    generalize vs.getD 1 undef = b at h1 ⊢
    cases h0
    cases h1
    refine (Tryz.strings_IndexByte ⟨s.toArray⟩ c w).mono ?_
    rintro e w' ⟨rfl, rfl⟩
    exact ⟨_, rfl, .int _ _, .refl _ _⟩

theorem arr4 {vs : Array Value} (h : vs.size = 4) : vs = #[vs.getD 0 undef, vs.getD 1 undef, vs.getD 2 undef, vs.getD 3 undef] := by
  apply Array.ext
  · simpa using h
  · intro i h2 h3
    have : i = 0 ∨ i = 1 ∨ i = 2 ∨ i = 3 := by simp at h3; omega
    rcases this with rfl | rfl | rfl | rfl <;> simp [Array.getD, h2]

theorem maxLenCell (w : World) (h : w.ShapedOpen Tryz.prog) : ∃ m, w.cell? ⟨0, 0, none⟩ = some (.int .i64 m) :=
  Go.Proofs.cell_of_shapedOpen_int (zero := #[.int .i64 0]) (t := 3) h (of_decide_eq_true (by kernel_rfl)) (by kernel_rfl) rfl (by kernel_rfl) (by kernel_rfl) Tryz.underlying3

theorem has_strings_genSplit : Has Tryz.prog 108 S_strings_genSplit := by
  refine ⟨by kernel_rfl, fun ds hp w I vs hW _ hs hr => ?_⟩
  match ds, hp with
  | [.str s, .str sep, .int .i64 sv, .int .i64 n], hp =>
    obtain ⟨p1, p2, p3, rfl, p5⟩ := hp
    have h0 := hr 0 (by simp)
    have h1 := hr 1 (by simp)
    have h2 := hr 2 (by simp)
    have h3 := hr 3 (by simp)
    rw [arr4 hs]
    generalize vs.getD 0 undef = a at h0 ⊢
    generalize vs.getD 1 undef = b at h1 ⊢
    generalize vs.getD 2 undef = c at h2 ⊢
    generalize vs.getD 3 undef = d at h3 ⊢
    cases h0
    cases h1
    cases h2
    cases h3
    obtain ⟨sv, rfl⟩ := Int.eq_ofNat_of_zero_le p2
    obtain ⟨m, hm⟩ := maxLenCell w hW.1
    have hss : (⟨sep.toArray⟩ : ByteArray).size = 1 := by simpa [ByteArray.size] using p1
    have hsz : (⟨s.toArray⟩ : ByteArray).size = s.length := by simp [ByteArray.size]
    have hle := Lib.countB_le ⟨sep.toArray⟩ (by omega) _ ⟨s.toArray⟩ (Nat.le_refl _)
    have hcb : Lib.countB ⟨s.toArray⟩ ⟨sep.toArray⟩ = Lib.count s sep := rfl
    have hall := Lib.splitB_all ⟨sep.toArray⟩ (by omega) sv (Lib.count s sep) ⟨s.toArray⟩ hcb
    have hdat := Lib.splitB_data ⟨sep.toArray⟩ sv (Lib.count s sep) ⟨s.toArray⟩
    have key := Tryz.strings_genSplit ⟨s.toArray⟩ ⟨sep.toArray⟩ sv (-1) (Lib.count s sep + 1) m w (by omega) hm (by omega) (by omega) (by omega) (by omega) (by rw [hcb] at hle ⊢; simp; omega)
    refine key.mono ?_
    rintro e w' ⟨rfl, rfl⟩
    simp only [Nat.add_sub_cancel]
    generalize hL : Lib.splitB ⟨sep.toArray⟩ sv (Lib.count s sep) ⟨s.toArray⟩ = L at *
    have hk : Lib.splitK sep sv (Lib.count s sep) s = L.map (·.data.toList) := hdat.symm
    refine ⟨_, rfl, ?_, RowKit.Below.alloc (.refl _ _) (Nat.le_refl _) _⟩
    show DRep _ _ (.sl 1 ((Lib.splitK sep ((sv : Int)).toNat (Lib.count s sep) s).map Rep.to)) _
    rw [Int.toNat_natCast, hk]
    refine .sl 1 _ w.heap.size 0 L.length (Lib.count s sep + 1) (fun i _ => .string (L.getD i ⟨#[]⟩)) (by simp) (by omega) ?_ (fun _ _ _ _ => .inr (Nat.le_refl _)) ?_ ?_
    · intro x hx
      simp only [List.mem_map] at hx
      obtain ⟨y, _, rfl⟩ := hx
      rfl
    · intro i j hi hj
      obtain rfl : j = 0 := by omega
      rw [show (0 + i * 1 + 0) = i by omega, World.cell?_alloc_new, ← hall, Lib.cellsOf_full]
      simp [List.getD, hi]
    · intro i j hi hj
      obtain rfl : j = 0 := by omega
      have e : ((L.map (·.data.toList)).map (Rep.to (α := Str))).getD i default = D.str (L.getD i ⟨#[]⟩).data.toList := by simp [List.getD, hi]
      rw [e]
      exact .str _

theorem has_strings_Join : Has Tryz.prog 83 S_strings_Join := by
  refine ⟨by kernel_rfl, .of2 fun l sep hp w I vs hW _ hs hr => ?_⟩
  obtain ⟨p1, p2⟩ := hp
  have h0 := hr 0 (by simp)
  have h1 := hr 1 (by simp)
  rw [arr2 hs]
  generalize vs.getD 0 undef = a at h0 ⊢
  generalize vs.getD 1 undef = b at h1 ⊢
  cases h1
  have empty0 : ∀ (x : Option Addr) (c : Nat), l = [] → Calls Tryz.prog 83 #[.slice x 0 c, .string ⟨sep.toArray⟩] w (fun e w' => ∃ v, e = .returned v ∧ DRep w' (fun b j => I b j ∨ w.heap.size ≤ b) (.str (Lib.join l sep)) v ∧ RowKit.Below w.heap.size w w') := by
    rintro x c rfl
    refine (Tryz.strings_Join_none x c ⟨sep.toArray⟩ w).mono ?_
    rintro e w' ⟨rfl, rfl⟩
    exact ⟨_, rfl, .str _, .refl _ _⟩
  have hr0 : DRep w I (.sl 1 (l.map fun x => D.str x)) a := h0
  generalize hxs : (l.map fun x => D.str x) = xs at hr0
  cases hr0 with
  | sl0 _ x cap => exact empty0 x cap (by simpa using hxs)
  | sl _ _ bk off n cap u hn hcap hsz hI hc hrr =>
    have hn2 : n = l.length := by rw [hn, ← hxs]; simp
    by_cases hl : l = []
    · have : n = 0 := by rw [hn2, hl]; rfl
      rw [this]
      exact empty0 _ _ hl
    · have hcell : ∀ (j : Nat) x, (l.map fun (y : Str) => (⟨y.toArray⟩ : ByteArray))[j]? = some x → w.cell? ⟨bk, off + j, none⟩ = some (.string x) := by
        intro j x hj
        rw [List.getElem?_map] at hj
        obtain ⟨y, hy, rfl⟩ := Option.map_eq_some_iff.1 hj
        obtain ⟨hjl, rfl⟩ := List.getElem?_eq_some_iff.1 hy
        have h2 := hrr j 0 (by omega) (by omega)
        have h3 := hc j 0 (by omega) (by omega)
        have h4 : (xs.getD j default).cells.getD 0 default = D.str l[j] := by
          rw [← hxs]
          simp [List.getD, hjl, D.cells]
        rw [h4] at h2
        generalize u j 0 = v at h2 h3
        cases h2
        simpa using h3
      have hpos : 0 < l.length := List.length_pos_iff.2 hl
      have hbk : bk < w.heap.size := World.block_lt_of_cell? _ _ (hc 0 0 (by omega) (by omega))
      have hmap : (l.map fun (y : Str) => (⟨y.toArray⟩ : ByteArray)).map (·.data.toList) = l := by
        rw [List.map_map]
        exact (List.map_congr_left (fun _ _ => rfl)).trans (List.map_id l)
      have hlen : (l.map fun (y : Str) => (⟨y.toArray⟩ : ByteArray)).length = n := by simp [hn2]
      have key := Tryz.strings_Join bk off cap (l.map fun (y : Str) => (⟨y.toArray⟩ : ByteArray)) ⟨sep.toArray⟩ w hcell hbk (by rw [hlen, hn2]; exact p1) (by rw [hlen]; exact hcap) (by rw [hmap]; simpa using p2)
      rw [hlen, hmap] at key
      refine key.mono ?_
      rintro e w' ⟨rfl, hb⟩
      exact ⟨_, rfl, .str _, hb⟩


theorem below_grow {w : World} (k : Nat) (os : Array Obj) : RowKit.Below w.heap.size w (Go.Sort.grow (w.drewN k) os) := by
  have h : (Go.Sort.grow (w.drewN k) os).heap = w.heap ++ os := rfl
  exact ⟨rfl, rfl, rfl, by rw [h]; simp, fun b hb => by rw [h, Array.getElem?_append_left hb]⟩
theorem pow_tab : pow10Z = Lib.pow10Tab := by decide
theorem has_strconv_Itoa : Has Tryz.prog 136 S_strconv_Itoa := by
  refine ⟨by kernel_rfl, .of1 fun n hp w I vs hW _ hs hr => ?_⟩
  have h0 := hr 0 (by simp)
  have hv : vs = #[vs.getD 0 undef] := by
    apply Array.ext
    · simpa using hs
    · intro i h2 h3
      obtain rfl : i = 0 := by simp at h3; omega
      simp [Array.getD, h2]
  rw [hv]
  generalize vs.getD 0 undef = a at h0 ⊢
  cases h0
  have htab : Lib.TabIs Tryz.prog w "internal/strconv.uint64pow10" .u64 Lib.pow10Tab := by
    have := (hW.tab _ (by kernel_rfl : Tryz.prog.globalNamed pow10N = some 3)).2
    rw [pow_tab] at this
    exact this
  refine (Tryz.strconv_Itoa n (by omega) hp.2 w htab).mono ?_
  rintro e w' ⟨rfl, k, os, rfl⟩
  exact ⟨_, rfl, .str _, below_grow k os⟩

theorem has_strings_Repeat : Has Tryz.prog 96 S_strings_Repeat := by
  refine ⟨by kernel_rfl, .of2 fun s c hp w I vs hW _ hs hr => ?_⟩
  obtain ⟨p1, p2, p3⟩ := hp
  have h0 := hr 0 (by simp)
  have h1 := hr 1 (by simp)
  rw [arr2 hs]
  generalize vs.getD 0 undef = a at h0 ⊢
  generalize vs.getD 1 undef = b at h1 ⊢
  cases h0
  cases h1
  obtain ⟨k, rfl⟩ := Int.eq_ofNat_of_zero_le p1
  simp only [Int.toNat_natCast] at p2 ⊢
  refine (Tryz.strings_Repeat ⟨s.toArray⟩ k w (by omega) (by simpa [ByteArray.size] using p2)).mono ?_
  rintro e w' ⟨rfl, hb⟩
  exact ⟨_, rfl, .str _, hb⟩

end Go.AE.Seat
