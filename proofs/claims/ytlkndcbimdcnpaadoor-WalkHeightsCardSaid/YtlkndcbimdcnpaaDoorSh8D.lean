/-
  The library's functions at this seat's program, from the shelf (laid by lay-shelf.mjs and lay-plain.mjs).
-/
import Derived.Test.YtlkndcbimdcnpaaDoorCona1
import Derived.Test.YtlkndcbimdcnpaaDoorSr8D
import Derived.Shelf.LaysM
import Derived.Shelf.Slices.Turned
import Derived.Shelf.Strings.Count
import Derived.Shelf.Strings.Prefix
import Derived.Shelf.Strings.RuneCount
import Derived.Shelf.Strings.Search1
import Derived.Shelf.Strings.Search2
import Derived.Shelf.Strings.Search3
import Derived.Shelf.Strings.Shaped
import Derived.Shelf.Strings.Split
import Derived.Shelf.Unicode.Decode
import Derived.Shelf.Unicode.DecodeAny
import Derived.Shelf.Unicode.DecodeSlow
import Derived.Shelf.Utf8.RuneCount

set_option linter.unusedSimpArgs false
set_option linter.unusedVariables false
set_option linter.unnecessarySimpa false
set_option maxRecDepth 100000
namespace Go.Proofs
open Go.Shelf
def Tryd.lays138_ren : Go.Shelf.Ren := ⟨fun | 138 => 66 | 195 => 70 | 218 => 71 | 143 => 68 | 219 => 73 | 217 => 77 | 225 => 78 | 224 => 79 | 267 => 80 | 266 => 82 | 314 => 83 | n => n, fun | 9 => 9 | 3 => 3 | 4 => 4 | 5 => 5 | 0 => 0 | 46 => 61 | 146 => 104 | 51 => 103 | n => n, fun | 1 => 0 | n => n⟩
theorem Tryd.lays138 : Go.Proofs.Lays.n138 Tryd.prog Tryd.lays138_ren := {
  mixed := by kernel_rfl
  f138 := Tryd.func66.trans (congrArg some (by kernel_rfl))
  f143 := Tryd.func68.trans (congrArg some (by kernel_rfl))
  f195 := Tryd.func70.trans (congrArg some (by kernel_rfl))
  f217 := Tryd.func77.trans (congrArg some (by kernel_rfl))
  f218 := Tryd.func71.trans (congrArg some (by kernel_rfl))
  f219 := Tryd.func73.trans (congrArg some (by kernel_rfl))
  f224 := Tryd.func79.trans (congrArg some (by kernel_rfl))
  f225 := Tryd.func78.trans (congrArg some (by kernel_rfl))
  f266 := Tryd.func82.trans (congrArg some (by kernel_rfl))
  f267 := Tryd.func80.trans (congrArg some (by kernel_rfl))
  f314 := Tryd.func83.trans (congrArg some (by kernel_rfl))
  t0 := Tryd.underlying0
  a0 := Tryd.isAgg0
  z0 := Tryd.sizeOf0
  v0 := Tryd.zeroValue0
  t3 := Tryd.underlying3
  a3 := Tryd.isAgg3
  z3 := Tryd.sizeOf3
  v3 := Tryd.zeroValue3
  t4 := Tryd.underlying4
  a4 := Tryd.isAgg4
  z4 := Tryd.sizeOf4
  v4 := Tryd.zeroValue4
  t5 := Tryd.underlying5
  a5 := Tryd.isAgg5
  z5 := Tryd.sizeOf5
  v5 := Tryd.zeroValue5
  t9 := Tryd.underlying9
  a9 := Tryd.isAgg9
  z9 := Tryd.sizeOf9
  v9 := Tryd.zeroValue9
  t46 := Tryd.underlying61
  a46 := Tryd.isAgg61
  z46 := Tryd.sizeOf61
  v46 := Tryd.zeroValue61
  t51 := Tryd.underlying103
  a51 := Tryd.isAgg103
  z51 := Tryd.sizeOf103
  v51 := Tryd.zeroValue103
  t146 := Tryd.underlying104
  a146 := Tryd.isAgg104
  z146 := Tryd.sizeOf104
  v146 := Tryd.zeroValue104
  g1 := by kernel_rfl }
open Go.RowKit Go.Lib in
theorem Tryd.strings_Count_one (s : ByteArray) (c : UInt8) (w : World) :
    Calls Tryd.prog 66 #[.string s, .string ⟨#[c]⟩] w fun e w' => e = .returned (.int .i64 (Lib.countByte s.data.toList c)) ∧ w' = w := Any.strings_Count_one Tryd.lays138 s c w
def Tryd.lays100_ren : Go.Shelf.Ren := ⟨fun | 100 => 72 | 207 => 76 | n => n, fun | 9 => 9 | 4 => 4 | 3 => 3 | n => n, fun | n => n⟩
theorem Tryd.lays100 : Go.Proofs.Lays.n100 Tryd.prog Tryd.lays100_ren := {
  mixed := by kernel_rfl
  f100 := Tryd.func72.trans (congrArg some (by kernel_rfl))
  f207 := Tryd.func76.trans (congrArg some (by kernel_rfl))
  t3 := Tryd.underlying3
  a3 := Tryd.isAgg3
  z3 := Tryd.sizeOf3
  v3 := Tryd.zeroValue3
  t4 := Tryd.underlying4
  a4 := Tryd.isAgg4
  z4 := Tryd.sizeOf4
  v4 := Tryd.zeroValue4
  t9 := Tryd.underlying9
  a9 := Tryd.isAgg9
  z9 := Tryd.sizeOf9
  v9 := Tryd.zeroValue9 }
open Go.RowKit Go.Lib in
theorem Tryd.strings_HasSuffix (s p : ByteArray) (w : World) (hs : s.size ≤ 9223372036854775807) :
    Calls Tryd.prog 72 #[.string s, .string p] w fun e w' => e = .returned (.bool (Lib.hasSuffix s.data.toList p.data.toList)) ∧ w' = w := Any.strings_HasSuffix Tryd.lays100 s p w hs
end Go.Proofs
open Go Go.Proofs
namespace Go.AE.Seat

theorem arr2 {vs : Array Value} (h : vs.size = 2) : vs = #[vs.getD 0 undef, vs.getD 1 undef] := by
  apply Array.ext
  · simpa using h
  · intro i h2 h3
    have : i = 0 ∨ i = 1 := by simp at h3; omega
    rcases this with rfl | rfl <;> simp [Array.getD, h2]

theorem has_strings_Count : Has Tryd.prog 66 S_strings_Count := by
  refine ⟨by kernel_rfl, .of2 fun s n hp w I vs hW _ hs hr => ?_⟩
  have h0 := hr 0 (by simp)
  have h1 := hr 1 (by simp)
  rw [arr2 hs]
  generalize vs.getD 0 undef = a at h0 ⊢
  generalize vs.getD 1 undef = b at h1 ⊢
  cases h0
  cases h1
  obtain ⟨c, rfl⟩ := List.length_eq_one_iff.1 hp
  refine (Tryd.strings_Count_one ⟨s.toArray⟩ c w).mono ?_
  rintro e w' ⟨rfl, rfl⟩
  exact ⟨_, rfl, .int _ _, .refl _ _⟩

theorem has_strings_HasSuffix : Has Tryd.prog 72 S_strings_HasSuffix := by
  refine ⟨by kernel_rfl, .of2 fun s n hp w I vs hW _ hs hr => ?_⟩
  have h0 := hr 0 (by simp)
  have h1 := hr 1 (by simp)
  rw [arr2 hs]
  generalize vs.getD 0 undef = a at h0 ⊢
  generalize vs.getD 1 undef = b at h1 ⊢
  cases h0
  cases h1
  refine (Tryd.strings_HasSuffix ⟨s.toArray⟩ ⟨n.toArray⟩ w (by simpa [ByteArray.size] using hp)).mono ?_
  rintro e w' ⟨rfl, rfl⟩
  exact ⟨_, rfl, .bool _, .refl _ _⟩

end Go.AE.Seat
