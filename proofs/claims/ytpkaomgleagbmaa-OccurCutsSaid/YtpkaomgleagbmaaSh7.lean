/-
  The library's functions at this seat's program, from the shelf (laid by lay-shelf.mjs and lay-plain.mjs).
-/
import Derived.Test.YtpkaomgleagbmaaCona1
import Derived.Test.YtpkaomgleagbmaaSr7
import Derived.Lib.IndexBytes
import Derived.Shelf.LaysM
import Derived.Shelf.Strings.Builder1
import Derived.Shelf.Strings.BuilderCap
import Derived.Shelf.Strings.BuilderF
import Derived.Shelf.Strings.BuilderK
import Derived.Shelf.Strings.Search1
import Derived.Shelf.Strings.Search2
import Derived.Shelf.Strings.Search3
import Derived.Shelf.Strings.Shaped

set_option linter.unusedSimpArgs false
set_option linter.unusedVariables false
set_option linter.unnecessarySimpa false
set_option maxRecDepth 100000
namespace Go.Proofs
open Go.Shelf
def Try.laysM143_ren : Go.Shelf.Ren := ⟨fun | 143 => 21 | 219 => 24 | 217 => 25 | 225 => 26 | 224 => 27 | 267 => 28 | 266 => 29 | 314 => 30 | n => n, fun | 9 => 9 | 3 => 3 | 4 => 4 | 5 => 5 | 46 => 48 | 146 => 57 | 51 => 56 | n => n, fun | 1 => 0 | n => n⟩
theorem Try.laysM143 : Go.Proofs.LaysM.n143 Try.prog Try.laysM143_ren := {
  mixed := by kernel_rfl
  f143 := Try.func21.trans (congrArg some (by kernel_rfl))
  f217 := Try.func25.trans (congrArg some (by kernel_rfl))
  f219 := Try.func24.trans (congrArg some (by kernel_rfl))
  f224 := Try.func27.trans (congrArg some (by kernel_rfl))
  f225 := Try.func26.trans (congrArg some (by kernel_rfl))
  f266 := Try.func29.trans (congrArg some (by kernel_rfl))
  f267 := Try.func28.trans (congrArg some (by kernel_rfl))
  f314 := Try.func30.trans (congrArg some (by kernel_rfl))
  t3 := Try.underlying3
  a3 := Try.isAgg3
  z3 := Try.sizeOf3
  v3 := Try.zeroValue3
  t4 := Try.underlying4
  a4 := Try.isAgg4
  z4 := Try.sizeOf4
  v4 := Try.zeroValue4
  t5 := Try.underlying5
  a5 := Try.isAgg5
  z5 := Try.sizeOf5
  v5 := Try.zeroValue5
  t9 := Try.underlying9
  a9 := Try.isAgg9
  z9 := Try.sizeOf9
  v9 := Try.zeroValue9
  t46 := Try.underlying48
  a46 := Try.isAgg48
  z46 := Try.sizeOf48
  v46 := Try.zeroValue48
  t51 := Try.underlying56
  a51 := Try.isAgg56
  z51 := Try.sizeOf56
  v51 := Try.zeroValue56
  t146 := Try.underlying57
  a146 := Try.isAgg57
  z146 := Try.sizeOf57
  v146 := Try.zeroValue57
  g1 := by kernel_rfl
  i3 := by kernel_rfl
  i4 := by kernel_rfl
  i5 := by kernel_rfl
  i9 := by kernel_rfl
  i46 := by kernel_rfl
  i51 := by kernel_rfl
  i146 := by kernel_rfl
  m1 := by kernel_rfl
  s1_3 := fun w h => Go.Proofs.cell_of_shapedOpen_int (zero := #[.int .i64 0]) (t := 3) h (of_decide_eq_true (by kernel_rfl)) (by kernel_rfl) rfl (by kernel_rfl) (by kernel_rfl) Try.underlying3 }
open Go.RowKit Go.Lib in
theorem Try.strings_Index_shaped (s sub : ByteArray) (w : World) (h : w.ShapedOpen Try.prog) (hs : s.size < 4294967281) :
    Calls Try.prog 21 #[.string s, .string sub] w fun e w' => e = .returned (.int .i64 (Lib.index s.data.toList sub.data.toList)) ∧ w' = w := Any.strings_Index_shaped Try.laysM143 s sub w h hs
theorem Try.strings_Index_one (s : ByteArray) (c : UInt8) (w : World) :
    Calls Try.prog 21 #[.string s, .string ⟨#[c]⟩] w fun e w' => e = .returned (.int .i64 (Lib.indexByte s.data.toList c)) ∧ w' = w := Any.strings_Index_one { Try.laysM143 with } s c w
end Go.Proofs
open Go Go.Proofs
namespace Go.AE.Seat

theorem arr2 {vs : Array Value} (h : vs.size = 2) : vs = #[vs.getD 0 undef, vs.getD 1 undef] := by
  apply Array.ext
  · simpa using h
  · intro i h2 h3
    have : i = 0 ∨ i = 1 := by simp at h3; omega
    rcases this with rfl | rfl <;> simp [Array.getD, h2]

theorem has_strings_Index : Has Try.prog 21 S_strings_Index := by
  refine ⟨by kernel_rfl, .of2 fun s n hp w I vs hW _ hs hr => ?_⟩
  have h0 := hr 0 (by simp)
  have h1 := hr 1 (by simp)
  rw [arr2 hs]
  generalize vs.getD 0 undef = a at h0 ⊢
  generalize vs.getD 1 undef = b at h1 ⊢
  cases h0
  cases h1
  rcases hp with hp | hp
  · refine (Try.strings_Index_shaped ⟨s.toArray⟩ ⟨n.toArray⟩ w hW.1 (by simpa [ByteArray.size] using hp)).mono ?_
    rintro e w' ⟨rfl, rfl⟩
    exact ⟨_, rfl, .int _ _, .refl _ _⟩
  · obtain ⟨c, rfl⟩ := List.length_eq_one_iff.1 hp
    refine (Try.strings_Index_one ⟨s.toArray⟩ c w).mono ?_
    rintro e w' ⟨rfl, rfl⟩
    refine ⟨_, rfl, ?_, .refl _ _⟩
    show DRep _ _ (.int .i64 (Lib.index s [c])) _
    rw [Lib.index_one]
    exact .int _ _

end Go.AE.Seat
