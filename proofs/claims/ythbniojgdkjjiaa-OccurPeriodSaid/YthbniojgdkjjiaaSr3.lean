/-
  The code of the functions of this seat.
-/
import Derived.Test.YthbniojgdkjjiaaCode1
import Derived.Test.YthbniojgdkjjiaaProg

set_option linter.unusedSimpArgs false
set_option linter.unusedVariables false
set_option linter.unnecessarySimpa false
set_option maxRecDepth 100000
open Go Go.Proofs
namespace Go.AE
theorem code_law07_OccurFinds:CodeOf Try.prog 3 4 16 [4] (x_law07_OccurFinds 9 10 11 12 13 15 16 14 17) :=
  CodeOf.of [0,1,2,3,8,9,10,11,12,13,14,15,16,17,18,26] [] [] Try.func3 rfl (by kernel_rfl) (by kernel_rfl)
theorem code_law07_OccurBorders:CodeOf Try.prog 4 2 5 [2] (x_law07_OccurBorders 9 12 18 19 14) :=
  CodeOf.of [0,1,4,5,8] [] [] Try.func4 rfl (by kernel_rfl) (by kernel_rfl)
theorem code_law07_OccurGreatest:CodeOf Try.prog 5 2 15 [2] (x_law07_OccurGreatest 12 15 13 17 9) :=
  CodeOf.of [0,1,4,5,6,7,8,9,10,11,12,23,82,94,121] [] [] Try.func5 rfl (by kernel_rfl) (by kernel_rfl)
theorem code_law07_OccurPeriod:CodeOf Try.prog 6 1 12 [1] (x_law07_OccurPeriod 12 18 9) :=
  CodeOf.of [0,2,3,4,5,6,7,16,20,56,63,76] [] [] Try.func6 rfl (by kernel_rfl) (by kernel_rfl)
theorem code_law07_awake:CodeOf Try.prog 9 0 1 [0] (x_law07_awake 15 14 18 17) :=
  CodeOf.of [0] [] [] Try.func9 rfl (by kernel_rfl) (by kernel_rfl)
theorem code_occur_Next:CodeOf Try.prog 10 3 8 [3,4] (x_occur_Next 22) :=
  CodeOf.of [0,1,2,6,7,8,20,27] [] [] Try.func10 rfl (by kernel_rfl) (by kernel_rfl)
theorem code_ref07_Next:CodeOf Try.prog 11 3 8 [3,4] (x_ref07_Next 23) :=
  CodeOf.of [0,1,2,6,7,8,17,23] [] [] Try.func11 rfl (by kernel_rfl) (by kernel_rfl)
theorem code_law07_word:CodeOf Try.prog 12 3 7 [3] (x_law07_word 24 13) :=
  CodeOf.of [0,1,2,6,7,8,16] [] [] Try.func12 rfl (by kernel_rfl) (by kernel_rfl)
theorem code_gen_Mod:CodeOf Try.prog 13 2 3 [2] x_gen_Mod :=
  CodeOf.of [0,1,4] [] [] Try.func13 rfl (by kernel_rfl) (by kernel_rfl)
theorem code_gen_Ints:CodeOf Try.prog 14 2 7 [2] x_gen_Ints :=
  CodeOf.of [0,1,4,5,10,14,25] [] [] Try.func14 rfl (by kernel_rfl) (by kernel_rfl)
theorem code_occur_Positions:CodeOf Try.prog 15 2 7 [2] (x_occur_Positions 10) :=
  CodeOf.of [0,1,4,5,6,7,14] [5] [] Try.func15 rfl (by kernel_rfl) (by kernel_rfl)
theorem code_ref07_Positions:CodeOf Try.prog 16 2 8 [2] (x_ref07_Positions 11) :=
  CodeOf.of [0,1,4,5,6,7,8,17] [5] [] Try.func16 rfl (by kernel_rfl) (by kernel_rfl)
theorem code_occur_Count:CodeOf Try.prog 17 2 3 [2] (x_occur_Count 15) :=
  CodeOf.of [0,1,4] [] [] Try.func17 rfl (by kernel_rfl) (by kernel_rfl)
theorem code_occur_Borders:CodeOf Try.prog 18 1 8 [1] x_occur_Borders :=
  CodeOf.of [0,2,3,4,5,12,30,42] [] [] Try.func18 rfl (by kernel_rfl) (by kernel_rfl)
theorem code_ref07_Borders:CodeOf Try.prog 19 1 7 [1] x_ref07_Borders :=
  CodeOf.of [0,2,3,4,5,9,23] [3] [] Try.func19 rfl (by kernel_rfl) (by kernel_rfl)
theorem code_ref07_At:CodeOf Try.prog 23 3 4 [3] x_ref07_At :=
  CodeOf.of [0,1,2,6] [] [] Try.func23 rfl (by kernel_rfl) (by kernel_rfl)
theorem code_gen_At:CodeOf Try.prog 24 2 5 [2] x_gen_At :=
  CodeOf.of [0,1,4,5,12] [] [] Try.func24 rfl (by kernel_rfl) (by kernel_rfl)
end Go.AE
