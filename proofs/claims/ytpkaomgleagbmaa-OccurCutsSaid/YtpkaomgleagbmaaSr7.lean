/-
  The code of the functions of this seat.
-/
import Derived.Test.YtpkaomgleagbmaaCode1
import Derived.Test.YtpkaomgleagbmaaProg

set_option linter.unusedSimpArgs false
set_option linter.unusedVariables false
set_option linter.unnecessarySimpa false
set_option maxRecDepth 100000
open Go Go.Proofs
namespace Go.AE
theorem code_law07_OccurReplaces:CodeOf Try.prog 3 4 16 [4] (x_law07_OccurReplaces 5 6 7 8) :=
  CodeOf.of [0,1,2,3,8,9,10,11,12,13,14,15,16,17,18,31] [] [] Try.func3 rfl (by kernel_rfl) (by kernel_rfl)
theorem code_law07_OccurCuts:CodeOf Try.prog 4 2 13 [2] (x_law07_OccurCuts 8 9 5 10 6 11) :=
  CodeOf.of [0,1,4,5,6,7,8,9,10,11,12,22,41] [] [] Try.func4 rfl (by kernel_rfl) (by kernel_rfl)
theorem code_law07_awake:CodeOf Try.prog 5 0 1 [0] (x_law07_awake 9 12 13 11) :=
  CodeOf.of [0] [] [] Try.func5 rfl (by kernel_rfl) (by kernel_rfl)
theorem code_ref07_Replace:CodeOf Try.prog 7 3 11 [3,4] (x_ref07_Replace 16) :=
  CodeOf.of [0,1,2,6,7,8,9,10,11,18,46] [9] [] Try.func7 rfl (by kernel_rfl) (by kernel_rfl)
theorem code_law07_word:CodeOf Try.prog 8 3 7 [3] (x_law07_word 17 10) :=
  CodeOf.of [0,1,2,6,7,8,16] [] [] Try.func8 rfl (by kernel_rfl) (by kernel_rfl)
theorem code_occur_Positions:CodeOf Try.prog 9 2 7 [2] (x_occur_Positions 18) :=
  CodeOf.of [0,1,4,5,6,7,14] [5] [] Try.func9 rfl (by kernel_rfl) (by kernel_rfl)
theorem code_gen_Mod:CodeOf Try.prog 10 2 3 [2] x_gen_Mod :=
  CodeOf.of [0,1,4] [] [] Try.func10 rfl (by kernel_rfl) (by kernel_rfl)
theorem code_occur_Count:CodeOf Try.prog 11 2 3 [2] (x_occur_Count 9) :=
  CodeOf.of [0,1,4] [] [] Try.func11 rfl (by kernel_rfl) (by kernel_rfl)
theorem code_gen_Ints:CodeOf Try.prog 12 2 7 [2] x_gen_Ints :=
  CodeOf.of [0,1,4,5,10,14,25] [] [] Try.func12 rfl (by kernel_rfl) (by kernel_rfl)
theorem code_occur_Borders:CodeOf Try.prog 13 1 8 [1] x_occur_Borders :=
  CodeOf.of [0,2,3,4,5,12,30,42] [] [] Try.func13 rfl (by kernel_rfl) (by kernel_rfl)
theorem code_ref07_Positions:CodeOf Try.prog 16 2 8 [2] (x_ref07_Positions 20) :=
  CodeOf.of [0,1,4,5,6,7,8,17] [5] [] Try.func16 rfl (by kernel_rfl) (by kernel_rfl)
theorem code_gen_At:CodeOf Try.prog 17 2 5 [2] x_gen_At :=
  CodeOf.of [0,1,4,5,12] [] [] Try.func17 rfl (by kernel_rfl) (by kernel_rfl)
theorem code_occur_Next:CodeOf Try.prog 18 3 8 [3,4] (x_occur_Next 21) :=
  CodeOf.of [0,1,2,6,7,8,20,27] [] [] Try.func18 rfl (by kernel_rfl) (by kernel_rfl)
theorem code_ref07_Next:CodeOf Try.prog 20 3 8 [3,4] (x_ref07_Next 23) :=
  CodeOf.of [0,1,2,6,7,8,17,23] [] [] Try.func20 rfl (by kernel_rfl) (by kernel_rfl)
theorem code_ref07_At:CodeOf Try.prog 23 3 4 [3] x_ref07_At :=
  CodeOf.of [0,1,2,6] [] [] Try.func23 rfl (by kernel_rfl) (by kernel_rfl)
end Go.AE
