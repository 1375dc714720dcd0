/-
  The code of the functions of this seat.
-/
import Derived.Test.YthbniojgdkjjiaaDoorCode1
import Derived.Test.YthbniojgdkjjiaaDoorProg

set_option linter.unusedSimpArgs false
set_option linter.unusedVariables false
set_option linter.unnecessarySimpa false
set_option maxRecDepth 100000
open Go Go.Proofs
namespace Go.AE
theorem code_law02_TextSplits:CodeOf Tryd.prog 3 2 11 [2] (x_law02_TextSplits 8 9 10 11 12 13 14 15 16 17 18 19) :=
  CodeOf.of [0,1,4,5,6,7,8,9,10,11,14] [] [] Tryd.func3 rfl (by kernel_rfl) (by kernel_rfl)
theorem code_law02_TextJoins:CodeOf Tryd.prog 4 2 17 [2] (x_law02_TextJoins 8 17 20 21) :=
  CodeOf.of [0,1,4,5,6,7,8,9,10,11,12,13,14,17,22,30,47] [] [] Tryd.func4 rfl (by kernel_rfl) (by kernel_rfl)
theorem code_law02_TextRoundTrip:CodeOf Tryd.prog 5 2 15 [2] (x_law02_TextRoundTrip 8 10 20 9 14) :=
  CodeOf.of [0,1,4,5,6,7,8,9,10,11,12,13,14,15,18] [] [] Tryd.func5 rfl (by kernel_rfl) (by kernel_rfl)
theorem code_law02_TextLimits:CodeOf Tryd.prog 6 2 13 [2] (x_law02_TextLimits 10 12 8) :=
  CodeOf.of [0,1,4,5,6,7,8,9,10,11,18,24,29] [] [] Tryd.func6 rfl (by kernel_rfl) (by kernel_rfl)
theorem code_law02_TextConcatenates:CodeOf Tryd.prog 7 2 11 [2] (x_law02_TextConcatenates 8 18 10 14) :=
  CodeOf.of [0,1,4,5,6,7,8,9,10,18,26] [] [] Tryd.func7 rfl (by kernel_rfl) (by kernel_rfl)
theorem code_law02_awake:CodeOf Tryd.prog 8 0 4 [0] (x_law02_awake 10 20 14 18 16) :=
  CodeOf.of [0,1,2,4] [] [] Tryd.func8 rfl (by kernel_rfl) (by kernel_rfl)
theorem code_gen_Blob:CodeOf Tryd.prog 9 4 9 [4] (x_gen_Blob 23 22 24) :=
  CodeOf.of [0,1,2,3,8,9,10,19,52] [] [] Tryd.func9 rfl (by kernel_rfl) (by kernel_rfl)
theorem code_text_Split:CodeOf Tryd.prog 10 1 7 [1,2] (x_text_Split 12 25) :=
  CodeOf.of [0,2,3,4,5,9,19] [] [] Tryd.func10 rfl (by kernel_rfl) (by kernel_rfl)
theorem code_ref02_Split:CodeOf Tryd.prog 11 1 4 [1,2] (x_ref02_Split 13 15) :=
  CodeOf.of [0,2,3,6] [] [] Tryd.func11 rfl (by kernel_rfl) (by kernel_rfl)
theorem code_text_Check:CodeOf Tryd.prog 12 1 5 [1] (x_text_Check 26 18) :=
  CodeOf.of [0,2,3,12,21] [] [] Tryd.func12 rfl (by kernel_rfl) (by kernel_rfl)
theorem code_ref02_Check:CodeOf Tryd.prog 13 1 3 [1] (x_ref02_Check 15) :=
  CodeOf.of [0,2,11] [] [] Tryd.func13 rfl (by kernel_rfl) (by kernel_rfl)
theorem code_gen_Strings:CodeOf Tryd.prog 14 2 7 [2] x_gen_Strings :=
  CodeOf.of [0,1,4,5,10,14,25] [] [] Tryd.func14 rfl (by kernel_rfl) (by kernel_rfl)
theorem code_ref02_Lines:CodeOf Tryd.prog 15 1 7 [1] x_ref02_Lines :=
  CodeOf.of [0,2,3,4,5,9,22] [3] [] Tryd.func15 rfl (by kernel_rfl) (by kernel_rfl)
theorem code_text_Bare:CodeOf Tryd.prog 16 1 2 [1] (x_text_Bare 27) :=
  CodeOf.of [0,2] [] [] Tryd.func16 rfl (by kernel_rfl) (by kernel_rfl)
theorem code_ref02_Bare:CodeOf Tryd.prog 17 1 3 [1] (x_ref02_Bare 19) :=
  CodeOf.of [0,2,4] [] [] Tryd.func17 rfl (by kernel_rfl) (by kernel_rfl)
theorem code_text_Ended:CodeOf Tryd.prog 18 1 2 [1] (x_text_Ended 28) :=
  CodeOf.of [0,2] [] [] Tryd.func18 rfl (by kernel_rfl) (by kernel_rfl)
theorem code_ref02_Ended:CodeOf Tryd.prog 19 1 2 [1] x_ref02_Ended :=
  CodeOf.of [0,2] [] [] Tryd.func19 rfl (by kernel_rfl) (by kernel_rfl)
theorem code_text_Join:CodeOf Tryd.prog 20 1 13 [1,2] (x_text_Join 29 30) :=
  CodeOf.of [0,2,3,4,5,6,7,8,9,10,11,40,52] [] [] Tryd.func20 rfl (by kernel_rfl) (by kernel_rfl)
theorem code_ref02_Join:CodeOf Tryd.prog 21 1 6 [1,2] (x_ref02_Join 31 32) :=
  CodeOf.of [0,2,3,4,7,17] [] [] Tryd.func21 rfl (by kernel_rfl) (by kernel_rfl)
theorem code_gen_Mod:CodeOf Tryd.prog 22 2 3 [2] x_gen_Mod :=
  CodeOf.of [0,1,4] [] [] Tryd.func22 rfl (by kernel_rfl) (by kernel_rfl)
theorem code_gen_At:CodeOf Tryd.prog 23 2 5 [2] x_gen_At :=
  CodeOf.of [0,1,4,5,12] [] [] Tryd.func23 rfl (by kernel_rfl) (by kernel_rfl)
theorem code_gen_Line:CodeOf Tryd.prog 24 1 2 [1] (x_gen_Line 22) :=
  CodeOf.of [0,2] [] [] Tryd.func24 rfl (by kernel_rfl) (by kernel_rfl)
theorem code_strings_SplitAfter:CodeOf Tryd.prog 25 2 3 [2] (x_strings_SplitAfter 33) :=
  CodeOf.of [0,1,4] [] [] Tryd.func25 rfl (by kernel_rfl) (by kernel_rfl)
theorem code_ref02_List:CodeOf Tryd.prog 31 1 8 [1] (x_ref02_List 19) :=
  CodeOf.of [0,2,3,4,8,18,27,47] [] [] Tryd.func31 rfl (by kernel_rfl) (by kernel_rfl)
theorem code_ref02_All:CodeOf Tryd.prog 32 1 5 [1] x_ref02_All :=
  CodeOf.of [0,2,3,4,8] [3] [] Tryd.func32 rfl (by kernel_rfl) (by kernel_rfl)
end Go.AE
