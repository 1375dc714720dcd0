/-
  The code of the functions of this seat.
-/
import Derived.Test.YthiadehceiaieaaDoorCode1
import Derived.Test.YthiadehceiaieaaDoorProg

set_option linter.unusedSimpArgs false
set_option linter.unusedVariables false
set_option linter.unnecessarySimpa false
set_option maxRecDepth 100000
open Go Go.Proofs
namespace Go.AE
def rfsZSr6N:List (Nat × Nat):=[(40,1),(43,1),(36,0)]
theorem code_law09_ShortestNames:CodeOf Tryd.prog 4 2 14 [2] (x_law09_ShortestNames 6 7 12 13 8 14 10 5 11) :=
  CodeOf.of [0,1,4,5,6,7,8,9,10,11,12,13,29,38] [1000000] [(40,1),(43,1),(36,0),(11,3)] Tryd.func4 rfl (by kernel_rfl) (by kernel_rfl)
theorem code_law09_awake:CodeOf Tryd.prog 5 0 5 [0] (x_law09_awake 14 15 10) :=
  CodeOf.of [0,1,2,3,4] [] rfsZSr6N Tryd.func5 rfl (by kernel_rfl) (by kernel_rfl)
theorem code_gen_Blob:CodeOf Tryd.prog 6 4 9 [4] (x_gen_Blob 16 13 17) :=
  CodeOf.of [0,1,2,3,8,9,10,19,52] [] rfsZSr6N Tryd.func6 rfl (by kernel_rfl) (by kernel_rfl)
theorem code_gen_Near:CodeOf Tryd.prog 7 3 11 [3] (x_gen_Near 12 16 17) :=
  CodeOf.of [0,1,2,6,7,8,9,15,23,24,26] [] rfsZSr6N Tryd.func7 rfl (by kernel_rfl) (by kernel_rfl)
theorem code_shortest_Blobs:CodeOf Tryd.prog 8 2 10 [2,3] (x_shortest_Blobs 18 19 14) :=
  CodeOf.of [0,1,4,5,6,7,8,9,16,24] [] rfsZSr6N Tryd.func8 rfl (by kernel_rfl) (by kernel_rfl)
theorem code_gen_Changes:CodeOf Tryd.prog 10 2 7 [2] x_gen_Changes :=
  CodeOf.of [0,1,4,5,10,14,25] [] rfsZSr6N Tryd.func10 rfl (by kernel_rfl) (by kernel_rfl)
theorem code_ref03_IdsOwn:CodeOf Tryd.prog 11 1 9 [1] (x_ref03_IdsOwn 22 23) :=
  CodeOf.of [0,2,3,4,5,6,7,13,23] [40] [(40,1),(43,1),(36,0),(4000000,0)] Tryd.func11 rfl (by kernel_rfl) (by kernel_rfl)
theorem code_ref02_Lines:CodeOf Tryd.prog 12 1 7 [1] x_ref02_Lines :=
  CodeOf.of [0,2,3,4,5,9,22] [3] rfsZSr6N Tryd.func12 rfl (by kernel_rfl) (by kernel_rfl)
theorem code_gen_Mod:CodeOf Tryd.prog 13 2 3 [2] x_gen_Mod :=
  CodeOf.of [0,1,4] [] rfsZSr6N Tryd.func13 rfl (by kernel_rfl) (by kernel_rfl)
theorem code_shortest_Script:CodeOf Tryd.prog 14 2 5 [2,3] (x_shortest_Script 24 26 25) :=
  CodeOf.of [0,1,4,5,9] [] rfsZSr6N Tryd.func14 rfl (by kernel_rfl) (by kernel_rfl)
theorem code_shortest_Distance:CodeOf Tryd.prog 15 2 6 [2,3] (x_shortest_Distance 24 27 28) :=
  CodeOf.of [0,1,4,5,6,10] [] rfsZSr6N Tryd.func15 rfl (by kernel_rfl) (by kernel_rfl)
theorem code_gen_At:CodeOf Tryd.prog 16 2 5 [2] x_gen_At :=
  CodeOf.of [0,1,4,5,12] [] rfsZSr6N Tryd.func16 rfl (by kernel_rfl) (by kernel_rfl)
theorem code_gen_Line:CodeOf Tryd.prog 17 1 2 [1] (x_gen_Line 13) :=
  CodeOf.of [0,2] [] rfsZSr6N Tryd.func17 rfl (by kernel_rfl) (by kernel_rfl)
theorem code_text_Split:CodeOf Tryd.prog 18 1 7 [1,2] (x_text_Split 29 30) :=
  CodeOf.of [0,2,3,4,5,9,19] [] rfsZSr6N Tryd.func18 rfl (by kernel_rfl) (by kernel_rfl)
theorem code_intern_Ids:CodeOf Tryd.prog 19 1 3 [1] (x_intern_Ids 31) :=
  CodeOf.of [0,2,3] [] rfsZSr6N Tryd.func19 rfl (by kernel_rfl) (by kernel_rfl)
theorem code_ref02_Split:CodeOf Tryd.prog 20 1 4 [1,2] (x_ref02_Split 32 12) :=
  CodeOf.of [0,2,3,6] [] rfsZSr6N Tryd.func20 rfl (by kernel_rfl) (by kernel_rfl)
theorem code_ref03_Names:CodeOf Tryd.prog 22 1 8 [1] (x_ref03_Names 23) :=
  CodeOf.of [0,2,3,4,5,9,18,30] [3] rfsZSr6N Tryd.func22 rfl (by kernel_rfl) (by kernel_rfl)
theorem code_ref03_place:CodeOf Tryd.prog 23 2 6 [2] x_ref03_place :=
  CodeOf.of [0,1,4,5,9,17] [] rfsZSr6N Tryd.func23 rfl (by kernel_rfl) (by kernel_rfl)
theorem code_shortest_limited:CodeOf Tryd.prog 24 2 3 [2] x_shortest_limited :=
  CodeOf.of [0,1,4] [] rfsZSr6N Tryd.func24 rfl (by kernel_rfl) (by kernel_rfl)
theorem code_script_FromPairs:CodeOf Tryd.prog 25 3 13 [3,4] (x_script_FromPairs 34 35) :=
  CodeOf.of [0,1,2,6,7,8,10,18,20,21,22,23,49] [] rfsZSr6N Tryd.func25 rfl (by kernel_rfl) (by kernel_rfl)
theorem code_shortest_walk:CodeOf Tryd.prog 26 2 17 [3] (x_shortest_walk 27 28 36) :=
  CodeOf.of [0,1,3,4,5,6,7,8,9,10,11,15,16,17,45,48,84] [5] rfsZSr6N Tryd.func26 rfl (by kernel_rfl) (by kernel_rfl)
theorem code_shortest_beginning:CodeOf Tryd.prog 27 2 5 [2] x_shortest_beginning :=
  CodeOf.of [0,1,4,5,26] [] rfsZSr6N Tryd.func27 rfl (by kernel_rfl) (by kernel_rfl)
theorem code_shortest_distances:CodeOf Tryd.prog 28 2 16 [2] x_shortest_distances :=
  CodeOf.of [0,1,4,5,6,7,8,9,10,11,22,23,24,44,79,90] [] rfsZSr6N Tryd.func28 rfl (by kernel_rfl) (by kernel_rfl)
theorem code_text_Check:CodeOf Tryd.prog 29 1 5 [1] (x_text_Check 37 38) :=
  CodeOf.of [0,2,3,12,21] [] rfsZSr6N Tryd.func29 rfl (by kernel_rfl) (by kernel_rfl)
theorem code_strings_SplitAfter:CodeOf Tryd.prog 30 2 3 [2] (x_strings_SplitAfter 39) :=
  CodeOf.of [0,1,4] [] rfsZSr6N Tryd.func30 rfl (by kernel_rfl) (by kernel_rfl)
theorem code_intern_number:CodeOf Tryd.prog 31 1 16 [1,2] (x_intern_number 40) :=
  CodeOf.of [0,2,3,4,5,6,7,9,16,17,18,19,23,24,25,26] [] rfsZSr6N Tryd.func31 rfl (by kernel_rfl) (by kernel_rfl)
theorem code_ref02_Check:CodeOf Tryd.prog 32 1 3 [1] (x_ref02_Check 12) :=
  CodeOf.of [0,2,11] [] rfsZSr6N Tryd.func32 rfl (by kernel_rfl) (by kernel_rfl)
theorem code_script_length:CodeOf Tryd.prog 34 1 2 [1] x_script_length :=
  CodeOf.of [0,2] [] rfsZSr6N Tryd.func34 rfl (by kernel_rfl) (by kernel_rfl)
theorem code_script_fromPairs:CodeOf Tryd.prog 35 3 13 [3] (x_script_fromPairs 43) :=
  CodeOf.of [0,1,2,6,7,8,9,11,18,19,20,21,33] [7] rfsZSr6N Tryd.func35 rfl (by kernel_rfl) (by kernel_rfl)
theorem code_shortest_walk_1:CodeOf Tryd.prog 36 4 5 [4] x_shortest_walk_1 :=
  CodeOf.of [0,1,2,3,6] [] rfsZSr6N Tryd.func36 rfl (by kernel_rfl) (by kernel_rfl)
theorem code_text_Ended:CodeOf Tryd.prog 38 1 2 [1] (x_text_Ended 47) :=
  CodeOf.of [0,2] [] rfsZSr6N Tryd.func38 rfl (by kernel_rfl) (by kernel_rfl)
theorem code_intern_table_id:CodeOf Tryd.prog 40 2 6 [2] x_intern_table_id :=
  CodeOf.of [0,1,4,5,6,17] [] rfsZSr6N Tryd.func40 rfl (by kernel_rfl) (by kernel_rfl)
theorem code_slices_Clip_Span_Span:CodeOf Tryd.prog 43 1 2 [1] x_slices_Clip_Span_Span :=
  CodeOf.of [0,2] [] rfsZSr6N Tryd.func43 rfl (by kernel_rfl) (by kernel_rfl)
end Go.AE
