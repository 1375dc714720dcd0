/-
  The library's functions at this seat's program, from the shelf (laid by lay-shelf.mjs and lay-plain.mjs).
-/
import Derived.Test.YthiadehceiaieaaDoorCona1
import Derived.Test.YthiadehceiaieaaDoorSr6D
import Derived.Shelf.LaysM
import Derived.Shelf.Strings.Count
import Derived.Shelf.Strings.Explode
import Derived.Shelf.Strings.Prefix
import Derived.Shelf.Strings.RuneCount
import Derived.Shelf.Strings.Search1
import Derived.Shelf.Strings.Search2
import Derived.Shelf.Strings.Search3
import Derived.Shelf.Strings.Shaped
import Derived.Shelf.Strings.Split
import Derived.Shelf.Unicode.Decode
import Derived.Shelf.Unicode.DecodeAny
import Derived.Shelf.Unicode.DecodeSlow
import Derived.Shelf.Utf8.RuneCount

set_option linter.unusedSimpArgs false
set_option linter.unusedVariables false
set_option linter.unnecessarySimpa false
set_option maxRecDepth 100000
namespace Go.Proofs
open Go.Shelf
def Tryd.lays138_ren : Go.Shelf.Ren := ⟨fun | 138 => 37 | 195 => 44 | 218 => 45 | 143 => 46 | 219 => 49 | 217 => 52 | 225 => 53 | 224 => 54 | 267 => 55 | 266 => 57 | 314 => 58 | n => n, fun | 9 => 9 | 3 => 3 | 4 => 4 | 5 => 5 | 0 => 0 | 46 => 51 | 146 => 88 | 51 => 87 | n => n, fun | 1 => 0 | n => n⟩
theorem Tryd.lays138 : Go.Proofs.Lays.n138 Tryd.prog Tryd.lays138_ren := {
  mixed := by kernel_rfl
  f138 := Tryd.func37.trans (congrArg some (by kernel_rfl))
  f143 := Tryd.func46.trans (congrArg some (by kernel_rfl))
  f195 := Tryd.func44.trans (congrArg some (by kernel_rfl))
  f217 := Tryd.func52.trans (congrArg some (by kernel_rfl))
  f218 := Tryd.func45.trans (congrArg some (by kernel_rfl))
  f219 := Tryd.func49.trans (congrArg some (by kernel_rfl))
  f224 := Tryd.func54.trans (congrArg some (by kernel_rfl))
  f225 := Tryd.func53.trans (congrArg some (by kernel_rfl))
  f266 := Tryd.func57.trans (congrArg some (by kernel_rfl))
  f267 := Tryd.func55.trans (congrArg some (by kernel_rfl))
  f314 := Tryd.func58.trans (congrArg some (by kernel_rfl))
  t0 := Tryd.underlying0
  a0 := Tryd.isAgg0
  z0 := Tryd.sizeOf0
  v0 := Tryd.zeroValue0
  t3 := Tryd.underlying3
  a3 := Tryd.isAgg3
  z3 := Tryd.sizeOf3
  v3 := Tryd.zeroValue3
  t4 := Tryd.underlying4
  a4 := Tryd.isAgg4
  z4 := Tryd.sizeOf4
  v4 := Tryd.zeroValue4
  t5 := Tryd.underlying5
  a5 := Tryd.isAgg5
  z5 := Tryd.sizeOf5
  v5 := Tryd.zeroValue5
  t9 := Tryd.underlying9
  a9 := Tryd.isAgg9
  z9 := Tryd.sizeOf9
  v9 := Tryd.zeroValue9
  t46 := Tryd.underlying51
  a46 := Tryd.isAgg51
  z46 := Tryd.sizeOf51
  v46 := Tryd.zeroValue51
  t51 := Tryd.underlying87
  a51 := Tryd.isAgg87
  z51 := Tryd.sizeOf87
  v51 := Tryd.zeroValue87
  t146 := Tryd.underlying88
  a146 := Tryd.isAgg88
  z146 := Tryd.sizeOf88
  v146 := Tryd.zeroValue88
  g1 := by kernel_rfl }
open Go.RowKit Go.Lib in
theorem Tryd.strings_Count_one (s : ByteArray) (c : UInt8) (w : World) :
    Calls Tryd.prog 37 #[.string s, .string ⟨#[c]⟩] w fun e w' => e = .returned (.int .i64 (Lib.countByte s.data.toList c)) ∧ w' = w := Any.strings_Count_one Tryd.lays138 s c w
def Tryd.lays100_ren : Go.Shelf.Ren := ⟨fun | 100 => 47 | 207 => 50 | n => n, fun | 9 => 9 | 4 => 4 | 3 => 3 | n => n, fun | n => n⟩
theorem Tryd.lays100 : Go.Proofs.Lays.n100 Tryd.prog Tryd.lays100_ren := {
  mixed := by kernel_rfl
  f100 := Tryd.func47.trans (congrArg some (by kernel_rfl))
  f207 := Tryd.func50.trans (congrArg some (by kernel_rfl))
  t3 := Tryd.underlying3
  a3 := Tryd.isAgg3
  z3 := Tryd.sizeOf3
  v3 := Tryd.zeroValue3
  t4 := Tryd.underlying4
  a4 := Tryd.isAgg4
  z4 := Tryd.sizeOf4
  v4 := Tryd.zeroValue4
  t9 := Tryd.underlying9
  a9 := Tryd.isAgg9
  z9 := Tryd.sizeOf9
  v9 := Tryd.zeroValue9 }
open Go.RowKit Go.Lib in
theorem Tryd.strings_HasSuffix (s p : ByteArray) (w : World) (hs : s.size ≤ 9223372036854775807) :
    Calls Tryd.prog 47 #[.string s, .string p] w fun e w' => e = .returned (.bool (Lib.hasSuffix s.data.toList p.data.toList)) ∧ w' = w := Any.strings_HasSuffix Tryd.lays100 s p w hs
def Tryd.lays221_ren : Go.Shelf.Ren := ⟨fun | 221 => 39 | 268 => 48 | 138 => 37 | 143 => 46 | 195 => 44 | 197 => 51 | 218 => 45 | 219 => 49 | 260 => 56 | 217 => 52 | 225 => 53 | 224 => 54 | 267 => 55 | 266 => 57 | 314 => 58 | n => n, fun | 9 => 9 | 3 => 3 | 31 => 34 | 4 => 4 | 0 => 0 | 105 => 84 | 21 => 21 | 5 => 5 | 46 => 51 | 119 => 90 | 139 => 93 | 138 => 92 | 146 => 88 | 51 => 87 | n => n, fun | 1 => 0 | 3 => 1 | 4 => 2 | n => n⟩
theorem Tryd.lays221 : Go.Proofs.Lays.n221 Tryd.prog Tryd.lays221_ren := {
  mixed := by kernel_rfl
  f138 := Tryd.func37.trans (congrArg some (by kernel_rfl))
  f143 := Tryd.func46.trans (congrArg some (by kernel_rfl))
  f195 := Tryd.func44.trans (congrArg some (by kernel_rfl))
  f197 := Tryd.func51.trans (congrArg some (by kernel_rfl))
  f217 := Tryd.func52.trans (congrArg some (by kernel_rfl))
  f218 := Tryd.func45.trans (congrArg some (by kernel_rfl))
  f219 := Tryd.func49.trans (congrArg some (by kernel_rfl))
  f221 := Tryd.func39.trans (congrArg some (by kernel_rfl))
  f224 := Tryd.func54.trans (congrArg some (by kernel_rfl))
  f225 := Tryd.func53.trans (congrArg some (by kernel_rfl))
  f260 := Tryd.func56.trans (congrArg some (by kernel_rfl))
  f266 := Tryd.func57.trans (congrArg some (by kernel_rfl))
  f267 := Tryd.func55.trans (congrArg some (by kernel_rfl))
  f268 := Tryd.func48.trans (congrArg some (by kernel_rfl))
  f314 := Tryd.func58.trans (congrArg some (by kernel_rfl))
  t0 := Tryd.underlying0
  a0 := Tryd.isAgg0
  z0 := Tryd.sizeOf0
  v0 := Tryd.zeroValue0
  t3 := Tryd.underlying3
  a3 := Tryd.isAgg3
  z3 := Tryd.sizeOf3
  v3 := Tryd.zeroValue3
  t4 := Tryd.underlying4
  a4 := Tryd.isAgg4
  z4 := Tryd.sizeOf4
  v4 := Tryd.zeroValue4
  t5 := Tryd.underlying5
  a5 := Tryd.isAgg5
  z5 := Tryd.sizeOf5
  v5 := Tryd.zeroValue5
  t9 := Tryd.underlying9
  a9 := Tryd.isAgg9
  z9 := Tryd.sizeOf9
  v9 := Tryd.zeroValue9
  t21 := Tryd.underlying21
  a21 := Tryd.isAgg21
  z21 := Tryd.sizeOf21
  v21 := Tryd.zeroValue21
  t31 := Tryd.underlying34
  a31 := Tryd.isAgg34
  z31 := Tryd.sizeOf34
  v31 := Tryd.zeroValue34
  t46 := Tryd.underlying51
  a46 := Tryd.isAgg51
  z46 := Tryd.sizeOf51
  v46 := Tryd.zeroValue51
  t51 := Tryd.underlying87
  a51 := Tryd.isAgg87
  z51 := Tryd.sizeOf87
  v51 := Tryd.zeroValue87
  t105 := Tryd.underlying84
  a105 := Tryd.isAgg84
  z105 := Tryd.sizeOf84
  v105 := Tryd.zeroValue84
  t119 := Tryd.underlying90
  a119 := Tryd.isAgg90
  z119 := Tryd.sizeOf90
  t138 := Tryd.underlying92
  a138 := Tryd.isAgg92
  z138 := Tryd.sizeOf92
  v138 := Tryd.zeroValue92
  t139 := Tryd.underlying93
  a139 := Tryd.isAgg93
  z139 := Tryd.sizeOf93
  v139 := Tryd.zeroValue93
  t146 := Tryd.underlying88
  a146 := Tryd.isAgg88
  z146 := Tryd.sizeOf88
  v146 := Tryd.zeroValue88
  g1 := by kernel_rfl
  g3 := by kernel_rfl
  g4 := by kernel_rfl }
open Go.RowKit Go.Lib in
theorem Tryd.strings_genSplit (s sep : ByteArray) (sv : Nat) (n : Int) (N : Nat) (m : Int) (w : World) (hs : s.size < 4294967281) (hm : w.cell? ⟨0, 0, none⟩ = some (.int .i64 m)) (h1 : 1 ≤ sep.size) (hsv : sv ≤ sep.size) (hn0 : n ≠ 0) (hn63 : n ≤ 9223372036854775807) (hN : (N : Int) = min (if n < 0 then (Lib.countB s sep : Int) + 1 else n) ((s.size : Int) + 1)) :
    Calls Tryd.prog 39 #[.string s, .string sep, .int .i64 sv, .int .i64 n] w fun e w' =>
      e = .returned (.slice (some ⟨w.heap.size, 0, none⟩) (Lib.splitB sep sv (N - 1) s).length N) ∧ w' = w.alloc (.cells (Lib.cellsOf (Lib.splitB sep sv (N - 1) s) N) 9) := Any.strings_genSplit Tryd.lays221 (by kernel_rfl) s sep sv n N m w hs hm h1 hsv hn0 hn63 hN
end Go.Proofs
open Go Go.Proofs
namespace Go.AE.Seat

theorem arr2 {vs : Array Value} (h : vs.size = 2) : vs = #[vs.getD 0 undef, vs.getD 1 undef] := by
  apply Array.ext
  · simpa using h
  · intro i h2 h3
    have : i = 0 ∨ i = 1 := by simp at h3; omega
    rcases this with rfl | rfl <;> simp [Array.getD, h2]

theorem has_strings_HasSuffix : Has Tryd.prog 47 S_strings_HasSuffix := by
  refine ⟨by kernel_rfl, .of2 fun s n hp w I vs hW _ hs hr => ?_⟩
  have h0 := hr 0 (by simp)
  have h1 := hr 1 (by simp)
  rw [arr2 hs]
  generalize vs.getD 0 undef = a at h0 ⊢
  generalize vs.getD 1 undef = b at h1 ⊢
  cases h0
  cases h1
  refine (Tryd.strings_HasSuffix ⟨s.toArray⟩ ⟨n.toArray⟩ w (by simpa [ByteArray.size] using hp)).mono ?_
  rintro e w' ⟨rfl, rfl⟩
  exact ⟨_, rfl, .bool _, .refl _ _⟩

theorem has_strings_Count : Has Tryd.prog 37 S_strings_Count := by
  refine ⟨by kernel_rfl, .of2 fun s n hp w I vs hW _ hs hr => ?_⟩
  have h0 := hr 0 (by simp)
  have h1 := hr 1 (by simp)
  rw [arr2 hs]
  generalize vs.getD 0 undef = a at h0 ⊢
  generalize vs.getD 1 undef = b at h1 ⊢
  cases h0
  cases h1
  obtain ⟨c, rfl⟩ := List.length_eq_one_iff.1 hp
  refine (Tryd.strings_Count_one ⟨s.toArray⟩ c w).mono ?_
  rintro e w' ⟨rfl, rfl⟩
  exact ⟨_, rfl, .int _ _, .refl _ _⟩

theorem arr4 {vs : Array Value} (h : vs.size = 4) : vs = #[vs.getD 0 undef, vs.getD 1 undef, vs.getD 2 undef, vs.getD 3 undef] := by
  apply Array.ext
  · simpa using h
  · intro i h2 h3
    have : i = 0 ∨ i = 1 ∨ i = 2 ∨ i = 3 := by simp at h3; omega
    rcases this with rfl | rfl | rfl | rfl <;> simp [Array.getD, h2]

theorem maxLenCell (w : World) (h : w.ShapedOpen Tryd.prog) : ∃ m, w.cell? ⟨0, 0, none⟩ = some (.int .i64 m) :=
  Go.Proofs.cell_of_shapedOpen_int (zero := #[.int .i64 0]) (t := 3) h (of_decide_eq_true (by kernel_rfl)) (by kernel_rfl) rfl (by kernel_rfl) (by kernel_rfl) Tryd.underlying3

theorem has_strings_genSplit : Has Tryd.prog 39 S_strings_genSplit := by
  refine ⟨by kernel_rfl, fun ds hp w I vs hW _ hs hr => ?_⟩
  match ds, hp with
  | [.str s, .str sep, .int .i64 sv, .int .i64 n], hp =>
    obtain ⟨p1, p2, p3, rfl, p5⟩ := hp
    have h0 := hr 0 (by simp)
    have h1 := hr 1 (by simp)
    have h2 := hr 2 (by simp)
    have h3 := hr 3 (by simp)
    rw [arr4 hs]
    generalize vs.getD 0 undef = a at h0 ⊢
    generalize vs.getD 1 undef = b at h1 ⊢
    generalize vs.getD 2 undef = c at h2 ⊢
    generalize vs.getD 3 undef = d at h3 ⊢
    cases h0
    cases h1
    cases h2
    cases h3
    obtain ⟨sv, rfl⟩ := Int.eq_ofNat_of_zero_le p2
    obtain ⟨m, hm⟩ := maxLenCell w hW.1
    have hss : (⟨sep.toArray⟩ : ByteArray).size = 1 := by simpa [ByteArray.size] using p1
    have hsz : (⟨s.toArray⟩ : ByteArray).size = s.length := by simp [ByteArray.size]
    have hle := Lib.countB_le ⟨sep.toArray⟩ (by omega) _ ⟨s.toArray⟩ (Nat.le_refl _)
    have hcb : Lib.countB ⟨s.toArray⟩ ⟨sep.toArray⟩ = Lib.count s sep := rfl
    have hall := Lib.splitB_all ⟨sep.toArray⟩ (by omega) sv (Lib.count s sep) ⟨s.toArray⟩ hcb
    have hdat := Lib.splitB_data ⟨sep.toArray⟩ sv (Lib.count s sep) ⟨s.toArray⟩
    have key := Tryd.strings_genSplit ⟨s.toArray⟩ ⟨sep.toArray⟩ sv (-1) (Lib.count s sep + 1) m w (by omega) hm (by omega) (by omega) (by omega) (by omega) (by rw [hcb] at hle ⊢; simp; omega)
    refine key.mono ?_
    rintro e w' ⟨rfl, rfl⟩
    simp only [Nat.add_sub_cancel]
    generalize hL : Lib.splitB ⟨sep.toArray⟩ sv (Lib.count s sep) ⟨s.toArray⟩ = L at *
    have hk : Lib.splitK sep sv (Lib.count s sep) s = L.map (·.data.toList) := hdat.symm
    refine ⟨_, rfl, ?_, RowKit.Below.alloc (.refl _ _) (Nat.le_refl _) _⟩
    show DRep _ _ (.sl 1 ((Lib.splitK sep ((sv : Int)).toNat (Lib.count s sep) s).map Rep.to)) _
    rw [Int.toNat_natCast, hk]
    refine .sl 1 _ w.heap.size 0 L.length (Lib.count s sep + 1) (fun i _ => .string (L.getD i ⟨#[]⟩)) (by simp) (by omega) ?_ (fun _ _ _ _ => .inr (Nat.le_refl _)) ?_ ?_
    · intro x hx
      simp only [List.mem_map] at hx
      obtain ⟨y, _, rfl⟩ := hx
      rfl
    · intro i j hi hj
      obtain rfl : j = 0 := by omega
      rw [show (0 + i * 1 + 0) = i by omega, World.cell?_alloc_new, ← hall, Lib.cellsOf_full]
      simp [List.getD, hi]
    · intro i j hi hj
      obtain rfl : j = 0 := by omega
      have e : ((L.map (·.data.toList)).map (Rep.to (α := Str))).getD i default = D.str (L.getD i ⟨#[]⟩).data.toList := by simp [List.getD, hi]
      rw [e]
      exact .str _

end Go.AE.Seat
