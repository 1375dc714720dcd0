/-
  strings.Index, strings.Contains at this seat, from the shelf.
-/
import Derived.Test.YtjibgbmilpdanaaDoorSh5N
import Derived.Shelf.LaysM
import Derived.Shelf.Slices.Turned
import Derived.Shelf.Strings.Count
import Derived.Shelf.Strings.Prefix
import Derived.Shelf.Strings.RuneCount
import Derived.Shelf.Strings.Search1
import Derived.Shelf.Strings.Search2
import Derived.Shelf.Strings.Search3
import Derived.Shelf.Strings.Shaped
import Derived.Shelf.Strings.Split
import Derived.Shelf.Unicode.Decode
import Derived.Shelf.Unicode.DecodeAny
import Derived.Shelf.Unicode.DecodeSlow
import Derived.Shelf.Utf8.RuneCount
import Derived.Test.YtjibgbmilpdanaaDoorProg

set_option linter.unusedSimpArgs false
set_option linter.unusedVariables false
set_option linter.unnecessarySimpa false
set_option maxRecDepth 100000
namespace Go.Proofs
open Go.Shelf
def Tryd.lays143_ren : Go.Shelf.Ren := ⟨fun | 143 => 65 | 219 => 70 | 217 => 74 | 225 => 75 | 224 => 76 | 267 => 77 | 266 => 79 | 314 => 80 | n => n, fun | 9 => 9 | 3 => 3 | 4 => 4 | 5 => 5 | 46 => 51 | 146 => 91 | 51 => 90 | n => n, fun | 1 => 0 | n => n⟩
theorem Tryd.lays143 : Go.Proofs.Lays.n143 Tryd.prog Tryd.lays143_ren := {
  mixed := by kernel_rfl
  f143 := Tryd.func65.trans (congrArg some (by kernel_rfl))
  f217 := Tryd.func74.trans (congrArg some (by kernel_rfl))
  f219 := Tryd.func70.trans (congrArg some (by kernel_rfl))
  f224 := Tryd.func76.trans (congrArg some (by kernel_rfl))
  f225 := Tryd.func75.trans (congrArg some (by kernel_rfl))
  f266 := Tryd.func79.trans (congrArg some (by kernel_rfl))
  f267 := Tryd.func77.trans (congrArg some (by kernel_rfl))
  f314 := Tryd.func80.trans (congrArg some (by kernel_rfl))
  t3 := Tryd.underlying3
  a3 := Tryd.isAgg3
  z3 := Tryd.sizeOf3
  v3 := Tryd.zeroValue3
  t4 := Tryd.underlying4
  a4 := Tryd.isAgg4
  z4 := Tryd.sizeOf4
  v4 := Tryd.zeroValue4
  t5 := Tryd.underlying5
  a5 := Tryd.isAgg5
  z5 := Tryd.sizeOf5
  v5 := Tryd.zeroValue5
  t9 := Tryd.underlying9
  a9 := Tryd.isAgg9
  z9 := Tryd.sizeOf9
  v9 := Tryd.zeroValue9
  t46 := Tryd.underlying51
  a46 := Tryd.isAgg51
  z46 := Tryd.sizeOf51
  v46 := Tryd.zeroValue51
  t51 := Tryd.underlying90
  a51 := Tryd.isAgg90
  z51 := Tryd.sizeOf90
  v51 := Tryd.zeroValue90
  t146 := Tryd.underlying91
  a146 := Tryd.isAgg91
  z146 := Tryd.sizeOf91
  v146 := Tryd.zeroValue91
  g1 := by kernel_rfl }
open Go.RowKit Go.Lib in
theorem Tryd.strings_Index_one (s : ByteArray) (c : UInt8) (w : World) :
    Calls Tryd.prog 65 #[.string s, .string ⟨#[c]⟩] w fun e w' => e = .returned (.int .i64 (Lib.indexByte s.data.toList c)) ∧ w' = w := Any.strings_Index_one Tryd.lays143 s c w
def Tryd.lays144_ren : Go.Shelf.Ren := ⟨fun | 144 => 59 | 143 => 65 | 219 => 70 | 217 => 74 | 225 => 75 | 224 => 76 | 267 => 77 | 266 => 79 | 314 => 80 | n => n, fun | 9 => 9 | 4 => 4 | 3 => 3 | 5 => 5 | 46 => 51 | 146 => 91 | 51 => 90 | n => n, fun | 1 => 0 | n => n⟩
theorem Tryd.lays144 : Go.Proofs.Lays.n144 Tryd.prog Tryd.lays144_ren := {
  mixed := by kernel_rfl
  f143 := Tryd.func65.trans (congrArg some (by kernel_rfl))
  f144 := Tryd.func59.trans (congrArg some (by kernel_rfl))
  f217 := Tryd.func74.trans (congrArg some (by kernel_rfl))
  f219 := Tryd.func70.trans (congrArg some (by kernel_rfl))
  f224 := Tryd.func76.trans (congrArg some (by kernel_rfl))
  f225 := Tryd.func75.trans (congrArg some (by kernel_rfl))
  f266 := Tryd.func79.trans (congrArg some (by kernel_rfl))
  f267 := Tryd.func77.trans (congrArg some (by kernel_rfl))
  f314 := Tryd.func80.trans (congrArg some (by kernel_rfl))
  t3 := Tryd.underlying3
  a3 := Tryd.isAgg3
  z3 := Tryd.sizeOf3
  v3 := Tryd.zeroValue3
  t4 := Tryd.underlying4
  a4 := Tryd.isAgg4
  z4 := Tryd.sizeOf4
  v4 := Tryd.zeroValue4
  t5 := Tryd.underlying5
  a5 := Tryd.isAgg5
  z5 := Tryd.sizeOf5
  v5 := Tryd.zeroValue5
  t9 := Tryd.underlying9
  a9 := Tryd.isAgg9
  z9 := Tryd.sizeOf9
  v9 := Tryd.zeroValue9
  t46 := Tryd.underlying51
  a46 := Tryd.isAgg51
  z46 := Tryd.sizeOf51
  v46 := Tryd.zeroValue51
  t51 := Tryd.underlying90
  a51 := Tryd.isAgg90
  z51 := Tryd.sizeOf90
  v51 := Tryd.zeroValue90
  t146 := Tryd.underlying91
  a146 := Tryd.isAgg91
  z146 := Tryd.sizeOf91
  v146 := Tryd.zeroValue91
  g1 := by kernel_rfl }
open Go.RowKit Go.Lib in
theorem Tryd.strings_Contains_one (s : ByteArray) (c : UInt8) (w : World) :
    Calls Tryd.prog 59 #[.string s, .string ⟨#[c]⟩] w fun e w' => e = .returned (.bool (decide (0 ≤ Lib.indexByte s.data.toList c))) ∧ w' = w := Any.strings_Contains_one Tryd.lays144 s c w
end Go.Proofs
