/-
  The code of the functions of this seat.
-/
import Derived.Test.YtblhhmephhhpeaaCode1
import Derived.Test.YtblhhmephhhpeaaProg

set_option linter.unusedSimpArgs false
set_option linter.unusedVariables false
set_option linter.unnecessarySimpa false
set_option maxRecDepth 100000
open Go Go.Proofs
namespace Go.AE
def rfsZ:List (Nat × Nat):=[(23,1)]
theorem code_law03_InternNumbers:CodeOf Try.prog 3 2 10 [2] (x_law03_InternNumbers 7 8 10 9 11 13 14 12 16 17 15) :=
  CodeOf.of [0,1,4,5,6,7,8,11,15,23] [5,7] rfsZ Try.func3 rfl (by kernel_rfl) (by kernel_rfl)
theorem code_law03_InternFirst:CodeOf Try.prog 4 2 14 [2] (x_law03_InternFirst 7 8 13 12 16) :=
  CodeOf.of [0,1,4,5,6,7,8,9,17,42,46,55,76,85] [] rfsZ Try.func4 rfl (by kernel_rfl) (by kernel_rfl)
theorem code_law03_InternSpells:CodeOf Try.prog 5 3 13 [3] (x_law03_InternSpells 8 9 18 19 15) :=
  CodeOf.of [0,1,2,6,7,8,9,10,11,12,20,25,40] [1000000] rfsZ Try.func5 rfl (by kernel_rfl) (by kernel_rfl)
theorem code_law03_InternExact:CodeOf Try.prog 6 5 16 [5] (x_law03_InternExact 7 8 13 16 18 15 9) :=
  CodeOf.of [0,1,2,3,4,10,11,12,13,14,15,23,33,37,72,94] [] rfsZ Try.func6 rfl (by kernel_rfl) (by kernel_rfl)
theorem code_law03_small:CodeOf Try.prog 7 1 6 [1] x_law03_small :=
  CodeOf.of [0,2,3,6,10,18] [] rfsZ Try.func7 rfl (by kernel_rfl) (by kernel_rfl)
theorem code_law03_awake:CodeOf Try.prog 8 0 2 [0] (x_law03_awake 13 12 16 15) :=
  CodeOf.of [0,1] [] rfsZ Try.func8 rfl (by kernel_rfl) (by kernel_rfl)
theorem code_gen_Mod:CodeOf Try.prog 9 2 3 [2] x_gen_Mod :=
  CodeOf.of [0,1,4] [] rfsZ Try.func9 rfl (by kernel_rfl) (by kernel_rfl)
theorem code_gen_At:CodeOf Try.prog 10 2 5 [2] x_gen_At :=
  CodeOf.of [0,1,4,5,12] [] rfsZ Try.func10 rfl (by kernel_rfl) (by kernel_rfl)
theorem code_gen_Line:CodeOf Try.prog 11 1 2 [1] (x_gen_Line 9) :=
  CodeOf.of [0,2] [] rfsZ Try.func11 rfl (by kernel_rfl) (by kernel_rfl)
theorem code_gen_Lists:CodeOf Try.prog 12 2 7 [2] (x_gen_Lists 20) :=
  CodeOf.of [0,1,4,5,10,14,26] [] rfsZ Try.func12 rfl (by kernel_rfl) (by kernel_rfl)
theorem code_intern_Ids:CodeOf Try.prog 13 1 3 [1] (x_intern_Ids 21) :=
  CodeOf.of [0,2,3] [] rfsZ Try.func13 rfl (by kernel_rfl) (by kernel_rfl)
theorem code_ref03_Ids:CodeOf Try.prog 14 1 9 [1] (x_ref03_Ids 17 22) :=
  CodeOf.of [0,2,3,4,5,6,7,13,23] [4,6] rfsZ Try.func14 rfl (by kernel_rfl) (by kernel_rfl)
theorem code_gen_Strings:CodeOf Try.prog 15 2 7 [2] x_gen_Strings :=
  CodeOf.of [0,1,4,5,10,14,25] [] rfsZ Try.func15 rfl (by kernel_rfl) (by kernel_rfl)
theorem code_intern_Names:CodeOf Try.prog 16 1 3 [1] (x_intern_Names 21) :=
  CodeOf.of [0,2,4] [] rfsZ Try.func16 rfl (by kernel_rfl) (by kernel_rfl)
theorem code_ref03_Names:CodeOf Try.prog 17 1 8 [1] (x_ref03_Names 22) :=
  CodeOf.of [0,2,3,4,5,9,18,30] [3] rfsZ Try.func17 rfl (by kernel_rfl) (by kernel_rfl)
theorem code_intern_Spell:CodeOf Try.prog 18 2 11 [2,3] x_intern_Spell :=
  CodeOf.of [0,1,4,5,6,8,9,10,11,12,22] [6] rfsZ Try.func18 rfl (by kernel_rfl) (by kernel_rfl)
theorem code_ref03_Spell:CodeOf Try.prog 19 2 8 [2,3] x_ref03_Spell :=
  CodeOf.of [0,1,4,5,6,7,11,27] [6] rfsZ Try.func19 rfl (by kernel_rfl) (by kernel_rfl)
theorem code_gen_Ints:CodeOf Try.prog 20 2 7 [2] x_gen_Ints :=
  CodeOf.of [0,1,4,5,10,14,25] [] rfsZ Try.func20 rfl (by kernel_rfl) (by kernel_rfl)
theorem code_intern_number:CodeOf Try.prog 21 1 16 [1,2] (x_intern_number 23) :=
  CodeOf.of [0,2,3,4,5,6,7,9,16,17,18,19,23,24,25,26] [] rfsZ Try.func21 rfl (by kernel_rfl) (by kernel_rfl)
theorem code_ref03_place:CodeOf Try.prog 22 2 6 [2] x_ref03_place :=
  CodeOf.of [0,1,4,5,9,17] [] rfsZ Try.func22 rfl (by kernel_rfl) (by kernel_rfl)
theorem code_intern_table_id:CodeOf Try.prog 23 2 6 [2] x_intern_table_id :=
  CodeOf.of [0,1,4,5,6,17] [] rfsZ Try.func23 rfl (by kernel_rfl) (by kernel_rfl)
end Go.AE
