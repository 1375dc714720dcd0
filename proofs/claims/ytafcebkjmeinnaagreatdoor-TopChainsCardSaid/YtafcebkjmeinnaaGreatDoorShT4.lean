/-
  slices.Clone of an empty list at this seat.
-/
import Derived.Test.YtafcebkjmeinnaaGreatDoorCona3
import Derived.Test.YtafcebkjmeinnaaGreatDoorSrT
import Derived.Deep.LoopGhost
import Derived.Lib.SliceRun
import Derived.Lib.Slices
import Derived.Lib.Walk
import Derived.Shelf.RegionOpenPlain
import Derived.Test.YtafcebkjmeinnaaGreatDoorProg
import Derived.WalkKit

set_option linter.unusedSimpArgs false
set_option linter.unusedVariables false
set_option linter.unnecessarySimpa false
set_option linter.unusedVariables false
namespace Go.Proofs
open Go.RowKit Go.Lib

set_option maxHeartbeats 1000000 in
set_option maxRecDepth 100000 in
theorem Tryz.clone_change_nil (n c : Nat) (w : World) : Calls Tryz.prog 116 #[.slice none n c] w fun e w' => e = .returned (.slice none 0 0) ∧ w' = w := by
  have q22 : ∀ (w : World) (a : Option Addr) (n c n' c' : Nat), (binOp .eql 68 (.slice a n c) (.slice none n' c')).run Tryz.prog w = .ok (.bool a.isNone) w := fun w a n c n' c' => Lib.run_eql_slice_nil w _ _ a n c n' c' Tryz.underlying68
  go_enter Tryz.func116, Tryz.ntmps116
  go_wp2
  go_ret
  exact ⟨rfl, rfl⟩

set_option maxHeartbeats 2000000 in
set_option maxRecDepth 100000 in
theorem Tryz.clone_change_zero (a : Addr) (c : Nat) (w : World) : Calls Tryz.prog 116 #[.slice (some a) 0 c] w fun e w' => ∃ b, (∃ k, e = .returned (.slice b 0 k)) ∧ Below w.heap.size w w' := by
  have q22 : ∀ (w : World) (a : Option Addr) (n c n' c' : Nat), (binOp .eql 68 (.slice a n c) (.slice none n' c')).run Tryz.prog w = .ok (.bool a.isNone) w := fun w a n c n' c' => Lib.run_eql_slice_nil w _ _ a n c n' c' Tryz.underlying68
  have u22 : ∀ w, Sem.run Tryz.prog (underlying 68) w = .ok (TypeDesc.slice 144) w := run_underlying Tryz.underlying68
  go_enter Tryz.func116, Tryz.ntmps116
  go_wp2
  go_ret
  exact ⟨_, ⟨_, rfl⟩, (Below.refl _ w).alloc (Nat.le_refl _) _⟩

end Go.Proofs
open Go Go.Proofs
namespace Go.AE.Seat
open Go.AE

theorem clone0_calls : RCalls Tryz.prog 116 [.d (.sl 4 [])] [.res] (.d (.sl 4 [])) [.res] := by
  intro w M vs hW hN g hl ha
  have h0 := ha 0 (by simp)
  have hv : vs = #[vs.getD 0 undef] := by
    simp at hl
    apply Array.ext
    · simpa using hl
    · intro i h2 h3
      obtain rfl : i = 0 := by simp at h3; omega
      simp [Array.getD, h2]
  generalize vs.getD 0 undef = v at h0 hv
  subst hv
  obtain ⟨a, cap, rfl⟩ : ∃ a cap, v = .slice a 0 cap := by
    cases h0 with
    | d _ _ h =>
      cases h with
      | sl0 => exact ⟨_, _, rfl⟩
      | sl _ _ b off n cap u hn => simp at hn; subst hn; exact ⟨_, _, rfl⟩
  have key : Calls Tryz.prog 116 #[.slice a 0 cap] w fun e w' => ∃ b, (∃ k, e = .returned (.slice b 0 k)) ∧ RowKit.Below w.heap.size w w' := by
    cases a with
    | none =>
      refine (Tryz.clone_change_nil 0 cap w).mono ?_
      rintro e w' ⟨rfl, rfl⟩
      exact ⟨_, ⟨_, rfl⟩, RowKit.Below.refl _ _⟩
    | some a => exact Tryz.clone_change_zero a cap w
  refine key.mono ?_
  rintro e w' ⟨b, ⟨k, rfl⟩, hb⟩
  exact ⟨_, M.after w w', rfl, Good.below g hb, Ext.below g hb, .d _ _ (.sl0 _ _ _)⟩

theorem ok_Clone_Change : RSpec.Ok Tryz.prog 116 R_slices_Clone_Change_Change := ct_slices_Clone_Change_Change code_slices_Clone_Change_Change (GamOk.nil _) clone0_calls

end Go.AE.Seat
