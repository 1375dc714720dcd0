/-
  The library's functions at this seat's program, from the shelf (laid by lay-shelf.mjs and lay-plain.mjs).
-/
import Derived.Test.YtchgnhinilehiaaGreatDoorCona1
import Derived.Test.YtchgnhinilehiaaGreatDoorSr9Z
import Derived.Shelf.LaysM
import Derived.Shelf.Slices.Turned
import Derived.Shelf.Strings.Count
import Derived.Shelf.Strings.Explode
import Derived.Shelf.Strings.Prefix
import Derived.Shelf.Strings.RuneCount
import Derived.Shelf.Strings.Search1
import Derived.Shelf.Strings.Search2
import Derived.Shelf.Strings.Search3
import Derived.Shelf.Strings.Shaped
import Derived.Shelf.Strings.Split
import Derived.Shelf.Unicode.Decode
import Derived.Shelf.Unicode.DecodeAny
import Derived.Shelf.Unicode.DecodeSlow
import Derived.Shelf.Utf8.RuneCount

set_option linter.unusedSimpArgs false
set_option linter.unusedVariables false
set_option linter.unnecessarySimpa false
set_option maxRecDepth 100000
namespace Go.Proofs
open Go.Shelf
def Tryz.lays138_ren : Go.Shelf.Ren := ⟨fun | 138 => 100 | 195 => 119 | 218 => 120 | 143 => 121 | 219 => 133 | 217 => 145 | 225 => 146 | 224 => 147 | 267 => 148 | 266 => 151 | 314 => 152 | n => n, fun | 9 => 9 | 3 => 3 | 4 => 4 | 5 => 5 | 0 => 0 | 46 => 82 | 146 => 203 | 51 => 202 | n => n, fun | 1 => 0 | n => n⟩
theorem Tryz.lays138 : Go.Proofs.Lays.n138 Tryz.prog Tryz.lays138_ren := {
  mixed := by kernel_rfl
  f138 := Tryz.func100.trans (congrArg some (by kernel_rfl))
  f143 := Tryz.func121.trans (congrArg some (by kernel_rfl))
  f195 := Tryz.func119.trans (congrArg some (by kernel_rfl))
  f217 := Tryz.func145.trans (congrArg some (by kernel_rfl))
  f218 := Tryz.func120.trans (congrArg some (by kernel_rfl))
  f219 := Tryz.func133.trans (congrArg some (by kernel_rfl))
  f224 := Tryz.func147.trans (congrArg some (by kernel_rfl))
  f225 := Tryz.func146.trans (congrArg some (by kernel_rfl))
  f266 := Tryz.func151.trans (congrArg some (by kernel_rfl))
  f267 := Tryz.func148.trans (congrArg some (by kernel_rfl))
  f314 := Tryz.func152.trans (congrArg some (by kernel_rfl))
  t0 := Tryz.underlying0
  a0 := Tryz.isAgg0
  z0 := Tryz.sizeOf0
  v0 := Tryz.zeroValue0
  t3 := Tryz.underlying3
  a3 := Tryz.isAgg3
  z3 := Tryz.sizeOf3
  v3 := Tryz.zeroValue3
  t4 := Tryz.underlying4
  a4 := Tryz.isAgg4
  z4 := Tryz.sizeOf4
  v4 := Tryz.zeroValue4
  t5 := Tryz.underlying5
  a5 := Tryz.isAgg5
  z5 := Tryz.sizeOf5
  v5 := Tryz.zeroValue5
  t9 := Tryz.underlying9
  a9 := Tryz.isAgg9
  z9 := Tryz.sizeOf9
  v9 := Tryz.zeroValue9
  t46 := Tryz.underlying82
  a46 := Tryz.isAgg82
  z46 := Tryz.sizeOf82
  v46 := Tryz.zeroValue82
  t51 := Tryz.underlying202
  a51 := Tryz.isAgg202
  z51 := Tryz.sizeOf202
  v51 := Tryz.zeroValue202
  t146 := Tryz.underlying203
  a146 := Tryz.isAgg203
  z146 := Tryz.sizeOf203
  v146 := Tryz.zeroValue203
  g1 := by kernel_rfl }
open Go.RowKit Go.Lib in
theorem Tryz.strings_Count_one (s : ByteArray) (c : UInt8) (w : World) :
    Calls Tryz.prog 100 #[.string s, .string ⟨#[c]⟩] w fun e w' => e = .returned (.int .i64 (Lib.countByte s.data.toList c)) ∧ w' = w := Any.strings_Count_one Tryz.lays138 s c w
def Tryz.lays100_ren : Go.Shelf.Ren := ⟨fun | 100 => 122 | 207 => 134 | n => n, fun | 9 => 9 | 4 => 4 | 3 => 3 | n => n, fun | n => n⟩
theorem Tryz.lays100 : Go.Proofs.Lays.n100 Tryz.prog Tryz.lays100_ren := {
  mixed := by kernel_rfl
  f100 := Tryz.func122.trans (congrArg some (by kernel_rfl))
  f207 := Tryz.func134.trans (congrArg some (by kernel_rfl))
  t3 := Tryz.underlying3
  a3 := Tryz.isAgg3
  z3 := Tryz.sizeOf3
  v3 := Tryz.zeroValue3
  t4 := Tryz.underlying4
  a4 := Tryz.isAgg4
  z4 := Tryz.sizeOf4
  v4 := Tryz.zeroValue4
  t9 := Tryz.underlying9
  a9 := Tryz.isAgg9
  z9 := Tryz.sizeOf9
  v9 := Tryz.zeroValue9 }
open Go.RowKit Go.Lib in
theorem Tryz.strings_HasSuffix (s p : ByteArray) (w : World) (hs : s.size ≤ 9223372036854775807) :
    Calls Tryz.prog 122 #[.string s, .string p] w fun e w' => e = .returned (.bool (Lib.hasSuffix s.data.toList p.data.toList)) ∧ w' = w := Any.strings_HasSuffix Tryz.lays100 s p w hs
def Tryz.lays221_ren : Go.Shelf.Ren := ⟨fun | 221 => 102 | 268 => 123 | 138 => 100 | 143 => 121 | 195 => 119 | 197 => 135 | 218 => 120 | 219 => 133 | 260 => 149 | 217 => 145 | 225 => 146 | 224 => 147 | 267 => 148 | 266 => 151 | 314 => 152 | n => n, fun | 9 => 9 | 3 => 3 | 31 => 50 | 4 => 4 | 0 => 0 | 105 => 188 | 21 => 21 | 5 => 5 | 46 => 82 | 119 => 205 | 139 => 208 | 138 => 207 | 146 => 203 | 51 => 202 | n => n, fun | 1 => 0 | 3 => 1 | 4 => 2 | n => n⟩
theorem Tryz.lays221 : Go.Proofs.Lays.n221 Tryz.prog Tryz.lays221_ren := {
  mixed := by kernel_rfl
  f138 := Tryz.func100.trans (congrArg some (by kernel_rfl))
  f143 := Tryz.func121.trans (congrArg some (by kernel_rfl))
  f195 := Tryz.func119.trans (congrArg some (by kernel_rfl))
  f197 := Tryz.func135.trans (congrArg some (by kernel_rfl))
  f217 := Tryz.func145.trans (congrArg some (by kernel_rfl))
  f218 := Tryz.func120.trans (congrArg some (by kernel_rfl))
  f219 := Tryz.func133.trans (congrArg some (by kernel_rfl))
  f221 := Tryz.func102.trans (congrArg some (by kernel_rfl))
  f224 := Tryz.func147.trans (congrArg some (by kernel_rfl))
  f225 := Tryz.func146.trans (congrArg some (by kernel_rfl))
  f260 := Tryz.func149.trans (congrArg some (by kernel_rfl))
  f266 := Tryz.func151.trans (congrArg some (by kernel_rfl))
  f267 := Tryz.func148.trans (congrArg some (by kernel_rfl))
  f268 := Tryz.func123.trans (congrArg some (by kernel_rfl))
  f314 := Tryz.func152.trans (congrArg some (by kernel_rfl))
  t0 := Tryz.underlying0
  a0 := Tryz.isAgg0
  z0 := Tryz.sizeOf0
  v0 := Tryz.zeroValue0
  t3 := Tryz.underlying3
  a3 := Tryz.isAgg3
  z3 := Tryz.sizeOf3
  v3 := Tryz.zeroValue3
  t4 := Tryz.underlying4
  a4 := Tryz.isAgg4
  z4 := Tryz.sizeOf4
  v4 := Tryz.zeroValue4
  t5 := Tryz.underlying5
  a5 := Tryz.isAgg5
  z5 := Tryz.sizeOf5
  v5 := Tryz.zeroValue5
  t9 := Tryz.underlying9
  a9 := Tryz.isAgg9
  z9 := Tryz.sizeOf9
  v9 := Tryz.zeroValue9
  t21 := Tryz.underlying21
  a21 := Tryz.isAgg21
  z21 := Tryz.sizeOf21
  v21 := Tryz.zeroValue21
  t31 := Tryz.underlying50
  a31 := Tryz.isAgg50
  z31 := Tryz.sizeOf50
  v31 := Tryz.zeroValue50
  t46 := Tryz.underlying82
  a46 := Tryz.isAgg82
  z46 := Tryz.sizeOf82
  v46 := Tryz.zeroValue82
  t51 := Tryz.underlying202
  a51 := Tryz.isAgg202
  z51 := Tryz.sizeOf202
  v51 := Tryz.zeroValue202
  t105 := Tryz.underlying188
  a105 := Tryz.isAgg188
  z105 := Tryz.sizeOf188
  v105 := Tryz.zeroValue188
  t119 := Tryz.underlying205
  a119 := Tryz.isAgg205
  z119 := Tryz.sizeOf205
  t138 := Tryz.underlying207
  a138 := Tryz.isAgg207
  z138 := Tryz.sizeOf207
  v138 := Tryz.zeroValue207
  t139 := Tryz.underlying208
  a139 := Tryz.isAgg208
  z139 := Tryz.sizeOf208
  v139 := Tryz.zeroValue208
  t146 := Tryz.underlying203
  a146 := Tryz.isAgg203
  z146 := Tryz.sizeOf203
  v146 := Tryz.zeroValue203
  g1 := by kernel_rfl
  g3 := by kernel_rfl
  g4 := by kernel_rfl }
open Go.RowKit Go.Lib in
theorem Tryz.strings_genSplit (s sep : ByteArray) (sv : Nat) (n : Int) (N : Nat) (m : Int) (w : World) (hs : s.size < 4294967281) (hm : w.cell? ⟨0, 0, none⟩ = some (.int .i64 m)) (h1 : 1 ≤ sep.size) (hsv : sv ≤ sep.size) (hn0 : n ≠ 0) (hn63 : n ≤ 9223372036854775807) (hN : (N : Int) = min (if n < 0 then (Lib.countB s sep : Int) + 1 else n) ((s.size : Int) + 1)) :
    Calls Tryz.prog 102 #[.string s, .string sep, .int .i64 sv, .int .i64 n] w fun e w' =>
      e = .returned (.slice (some ⟨w.heap.size, 0, none⟩) (Lib.splitB sep sv (N - 1) s).length N) ∧ w' = w.alloc (.cells (Lib.cellsOf (Lib.splitB sep sv (N - 1) s) N) 9) := Any.strings_genSplit Tryz.lays221 (by kernel_rfl) s sep sv n N m w hs hm h1 hsv hn0 hn63 hN
end Go.Proofs
open Go Go.Proofs
namespace Go.AE.Seat

theorem arr2 {vs : Array Value} (h : vs.size = 2) : vs = #[vs.getD 0 undef, vs.getD 1 undef] := by
  apply Array.ext
  · simpa using h
  · intro i h2 h3
    have : i = 0 ∨ i = 1 := by simp at h3; omega
    rcases this with rfl | rfl <;> simp [Array.getD, h2]

theorem has_strings_Count : Has Tryz.prog 100 S_strings_Count := by
  refine ⟨by kernel_rfl, .of2 fun s n hp w I vs hW _ hs hr => ?_⟩
  have h0 := hr 0 (by simp)
  have h1 := hr 1 (by simp)
  rw [arr2 hs]
  generalize vs.getD 0 undef = a at h0 ⊢
  generalize vs.getD 1 undef = b at h1 ⊢
  cases h0
  cases h1
  obtain ⟨c, rfl⟩ := List.length_eq_one_iff.1 hp
  refine (Tryz.strings_Count_one ⟨s.toArray⟩ c w).mono ?_
  rintro e w' ⟨rfl, rfl⟩
  exact ⟨_, rfl, .int _ _, .refl _ _⟩

theorem has_strings_HasSuffix : Has Tryz.prog 122 S_strings_HasSuffix := by
  refine ⟨by kernel_rfl, .of2 fun s n hp w I vs hW _ hs hr => ?_⟩
  have h0 := hr 0 (by simp)
  have h1 := hr 1 (by simp)
  rw [arr2 hs]
  generalize vs.getD 0 undef = a at h0 ⊢
  generalize vs.getD 1 undef = b at h1 ⊢
  cases h0
  cases h1
  refine (Tryz.strings_HasSuffix ⟨s.toArray⟩ ⟨n.toArray⟩ w (by simpa [ByteArray.size] using hp)).mono ?_
  rintro e w' ⟨rfl, rfl⟩
  exact ⟨_, rfl, .bool _, .refl _ _⟩

theorem arr4 {vs : Array Value} (h : vs.size = 4) : vs = #[vs.getD 0 undef, vs.getD 1 undef, vs.getD 2 undef, vs.getD 3 undef] := by
  apply Array.ext
  · simpa using h
  · intro i h2 h3
    have : i = 0 ∨ i = 1 ∨ i = 2 ∨ i = 3 := by simp at h3; omega
    rcases this with rfl | rfl | rfl | rfl <;> simp [Array.getD, h2]

theorem maxLenCell (w : World) (h : w.ShapedOpen Tryz.prog) : ∃ m, w.cell? ⟨0, 0, none⟩ = some (.int .i64 m) :=
  Go.Proofs.cell_of_shapedOpen_int (zero := #[.int .i64 0]) (t := 3) h (of_decide_eq_true (by kernel_rfl)) (by kernel_rfl) rfl (by kernel_rfl) (by kernel_rfl) Tryz.underlying3

theorem has_strings_genSplit : Has Tryz.prog 102 S_strings_genSplit := by
  refine ⟨by kernel_rfl, fun ds hp w I vs hW _ hs hr => ?_⟩
  match ds, hp with
  | [.str s, .str sep, .int .i64 sv, .int .i64 n], hp =>
    obtain ⟨p1, p2, p3, rfl, p5⟩ := hp
    have h0 := hr 0 (by simp)
    have h1 := hr 1 (by simp)
    have h2 := hr 2 (by simp)
    have h3 := hr 3 (by simp)
    rw [arr4 hs]
    generalize vs.getD 0 undef = a at h0 ⊢
    generalize vs.getD 1 undef = b at h1 ⊢
    generalize vs.getD 2 undef = c at h2 ⊢
    generalize vs.getD 3 undef = d at h3 ⊢
    cases h0
    cases h1
    cases h2
    cases h3
    obtain ⟨sv, rfl⟩ := Int.eq_ofNat_of_zero_le p2
    obtain ⟨m, hm⟩ := maxLenCell w hW.1
    have hss : (⟨sep.toArray⟩ : ByteArray).size = 1 := by simpa [ByteArray.size] using p1
    have hsz : (⟨s.toArray⟩ : ByteArray).size = s.length := by simp [ByteArray.size]
    have hle := Lib.countB_le ⟨sep.toArray⟩ (by omega) _ ⟨s.toArray⟩ (Nat.le_refl _)
    have hcb : Lib.countB ⟨s.toArray⟩ ⟨sep.toArray⟩ = Lib.count s sep := rfl
    have hall := Lib.splitB_all ⟨sep.toArray⟩ (by omega) sv (Lib.count s sep) ⟨s.toArray⟩ hcb
    have hdat := Lib.splitB_data ⟨sep.toArray⟩ sv (Lib.count s sep) ⟨s.toArray⟩
    have key := Tryz.strings_genSplit ⟨s.toArray⟩ ⟨sep.toArray⟩ sv (-1) (Lib.count s sep + 1) m w (by omega) hm (by omega) (by omega) (by omega) (by omega) (by rw [hcb] at hle ⊢; simp; omega)
    refine key.mono ?_
    rintro e w' ⟨rfl, rfl⟩
    simp only [Nat.add_sub_cancel]
    generalize hL : Lib.splitB ⟨sep.toArray⟩ sv (Lib.count s sep) ⟨s.toArray⟩ = L at *
    have hk : Lib.splitK sep sv (Lib.count s sep) s = L.map (·.data.toList) := hdat.symm
    refine ⟨_, rfl, ?_, RowKit.Below.alloc (.refl _ _) (Nat.le_refl _) _⟩
    show DRep _ _ (.sl 1 ((Lib.splitK sep ((sv : Int)).toNat (Lib.count s sep) s).map Rep.to)) _
    rw [Int.toNat_natCast, hk]
    refine .sl 1 _ w.heap.size 0 L.length (Lib.count s sep + 1) (fun i _ => .string (L.getD i ⟨#[]⟩)) (by simp) (by omega) ?_ (fun _ _ _ _ => .inr (Nat.le_refl _)) ?_ ?_
    · intro x hx
      simp only [List.mem_map] at hx
      obtain ⟨y, _, rfl⟩ := hx
      rfl
    · intro i j hi hj
      obtain rfl : j = 0 := by omega
      rw [show (0 + i * 1 + 0) = i by omega, World.cell?_alloc_new, ← hall, Lib.cellsOf_full]
      simp [List.getD, hi]
    · intro i j hi hj
      obtain rfl : j = 0 := by omega
      have e : ((L.map (·.data.toList)).map (Rep.to (α := Str))).getD i default = D.str (L.getD i ⟨#[]⟩).data.toList := by simp [List.getD, hi]
      rw [e]
      exact .str _

end Go.AE.Seat
