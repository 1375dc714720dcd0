/-
  The code of the functions of this seat.
-/
import Derived.Test.YtgmdpmpmbhahhaaDoorCode1
import Derived.Test.YtgmdpmpmbhahhaaDoorProg

set_option linter.unusedSimpArgs false
set_option linter.unusedVariables false
set_option linter.unnecessarySimpa false
set_option maxRecDepth 100000
open Go Go.Proofs
namespace Go.AE
def rfsZ:List (Nat × Nat):=[(65,1),(90,1),(82,0),(84,0),(41,0),(30,0),(31,1)]
theorem code_law16_WeaveMarks:CodeOf Tryd.prog 5 2 20 [2] (x_law16_WeaveMarks 10 11 18 9) :=
  CodeOf.of [0,1,4,5,6,7,8,9,10,12,13,14,15,29,33,48,69,82,88,98] [] rfsZ Tryd.func5 rfl (by kernel_rfl) (by kernel_rfl)
theorem code_law16_WeaveSame:CodeOf Tryd.prog 6 2 20 [2] (x_law16_WeaveSame 10 19 11 17 9) :=
  CodeOf.of [0,1,4,5,6,7,8,9,10,11,12,13,14,15,27,67,72,89,94,124] [8] rfsZ Tryd.func6 rfl (by kernel_rfl) (by kernel_rfl)
theorem code_law16_WeaveChecks:CodeOf Tryd.prog 8 6 23 [7] (x_law16_WeaveChecks 9 10 19 22 23 24 14 25 12) :=
  CodeOf.of [0,1,2,3,4,5,6,12,13,14,15,17,18,22,39,49,50,63,73,83,93,106,144] [1000001] [(65,1),(90,1),(82,0),(84,0),(41,0),(30,0),(31,1),(12,1)] Tryd.func8 rfl (by kernel_rfl) (by kernel_rfl)
theorem code_law16_awake:CodeOf Tryd.prog 9 0 3 [0] (x_law16_awake 11 13 14) :=
  CodeOf.of [0,1,2] [] rfsZ Tryd.func9 rfl (by kernel_rfl) (by kernel_rfl)
theorem code_law16_pick:CodeOf Tryd.prog 10 2 5 [2,3] (x_law16_pick 19 26) :=
  CodeOf.of [0,1,4,5,6] [] rfsZ Tryd.func10 rfl (by kernel_rfl) (by kernel_rfl)
theorem code_weave_Make:CodeOf Tryd.prog 11 2 28 [22002,3] (x_weave_Make 27 28 29 30 31) :=
  CodeOf.of [0,1,4,5,6,7,9,10,11,12,13,14,15,16,24,29,30,31,32,41,69,70,71,84,85,86,97,104] [7,27,79,1000004] rfsZ Tryd.func11 rfl (by kernel_rfl) (by kernel_rfl)
theorem code_ref16_Make:CodeOf Tryd.prog 12 2 39 [22002,3] (x_ref16_Make 17 32 33 34 35 36 37) :=
  CodeOf.of [0,1,4,5,6,7,8,9,10,11,12,13,14,15,16,17,18,19,20,21,22,23,24,25,26,27,35,43,48,57,83,93,107,132,157,196,208,213,237] [7,39,1000000,1000004] rfsZ Tryd.func12 rfl (by kernel_rfl) (by kernel_rfl)
theorem code_gen_Table:CodeOf Tryd.prog 13 2 5 [4] (x_gen_Table 38) :=
  CodeOf.of [0,1,2,3,4] [] rfsZ Tryd.func13 rfl (by kernel_rfl) (by kernel_rfl)
theorem code_weave_Check:CodeOf Tryd.prog 14 1 17 [2] (x_weave_Check 39 40 41) :=
  CodeOf.of [0,1,2,4,5,7,15,17,18,19,20,27,30,31,32,33,43] [] rfsZ Tryd.func14 rfl (by kernel_rfl) (by kernel_rfl)
theorem code_ref16_Column:CodeOf Tryd.prog 16 2 7 [2] (x_ref16_Column 24) :=
  CodeOf.of [0,1,4,5,6,10,18] [5] rfsZ Tryd.func16 rfl (by kernel_rfl) (by kernel_rfl)
theorem code_ref02_Lines:CodeOf Tryd.prog 17 1 7 [1] x_ref02_Lines :=
  CodeOf.of [0,2,3,4,5,9,22] [3] rfsZ Tryd.func17 rfl (by kernel_rfl) (by kernel_rfl)
theorem code_ref09_Blobs:CodeOf Tryd.prog 18 2 9 [2,3] (x_ref09_Blobs 42 43) :=
  CodeOf.of [0,1,4,5,6,7,8,15,23] [] rfsZ Tryd.func18 rfl (by kernel_rfl) (by kernel_rfl)
theorem code_gen_Mod:CodeOf Tryd.prog 19 2 3 [2] x_gen_Mod :=
  CodeOf.of [0,1,4] [] rfsZ Tryd.func19 rfl (by kernel_rfl) (by kernel_rfl)
theorem code_gen_Line:CodeOf Tryd.prog 20 1 2 [1] (x_gen_Line 19) :=
  CodeOf.of [0,2] [] rfsZ Tryd.func20 rfl (by kernel_rfl) (by kernel_rfl)
theorem code_gen_At:CodeOf Tryd.prog 21 2 5 [2] x_gen_At :=
  CodeOf.of [0,1,4,5,12] [] rfsZ Tryd.func21 rfl (by kernel_rfl) (by kernel_rfl)
theorem code_ref02_Bare:CodeOf Tryd.prog 22 1 3 [1] (x_ref02_Bare 44) :=
  CodeOf.of [0,2,4] [] rfsZ Tryd.func22 rfl (by kernel_rfl) (by kernel_rfl)
theorem code_weave_Visible:CodeOf Tryd.prog 23 2 6 [3] x_weave_Visible :=
  CodeOf.of [0,1,2,4,10,12] [] rfsZ Tryd.func23 rfl (by kernel_rfl) (by kernel_rfl)
theorem code_ref16_Visible:CodeOf Tryd.prog 24 2 6 [3] x_ref16_Visible :=
  CodeOf.of [0,1,2,4,5,11] [] rfsZ Tryd.func24 rfl (by kernel_rfl) (by kernel_rfl)
theorem code_ref16_Check:CodeOf Tryd.prog 25 1 6 [2] (x_ref16_Check 45 46) :=
  CodeOf.of [0,1,2,3,12,19] [] rfsZ Tryd.func25 rfl (by kernel_rfl) (by kernel_rfl)
theorem code_gen_Blobs:CodeOf Tryd.prog 26 3 11 [3] (x_gen_Blobs 47 21 48) :=
  CodeOf.of [0,1,2,6,7,8,9,16,23,33,44] [8] rfsZ Tryd.func26 rfl (by kernel_rfl) (by kernel_rfl)
theorem code_text_Split:CodeOf Tryd.prog 27 1 7 [1,2] (x_text_Split 49 50) :=
  CodeOf.of [0,2,3,4,5,9,19] [] rfsZ Tryd.func27 rfl (by kernel_rfl) (by kernel_rfl)
theorem code_intern_Ids:CodeOf Tryd.prog 28 1 3 [1] (x_intern_Ids 51) :=
  CodeOf.of [0,2,3] [] rfsZ Tryd.func28 rfl (by kernel_rfl) (by kernel_rfl)
theorem code_intern_Names:CodeOf Tryd.prog 29 1 3 [1] (x_intern_Names 51) :=
  CodeOf.of [0,2,4] [] rfsZ Tryd.func29 rfl (by kernel_rfl) (by kernel_rfl)
theorem code_weave_loom_add:CodeOf Tryd.prog 30 3 14 [3] (x_weave_loom_add 52) :=
  CodeOf.of [0,1,2,6,7,8,10,11,22,24,25,26,27,38] [] rfsZ Tryd.func30 rfl (by kernel_rfl) (by kernel_rfl)
theorem code_weave_loom_weave:CodeOf Tryd.prog 31 1 17 [1] (x_weave_loom_weave 53) :=
  CodeOf.of [0,2,3,4,5,6,8,12,13,14,15,25,27,28,29,30,62] [] rfsZ Tryd.func31 rfl (by kernel_rfl) (by kernel_rfl)
theorem code_ref02_Check:CodeOf Tryd.prog 32 1 3 [1] (x_ref02_Check 17) :=
  CodeOf.of [0,2,11] [] rfsZ Tryd.func32 rfl (by kernel_rfl) (by kernel_rfl)
theorem code_ref03_Names:CodeOf Tryd.prog 33 1 8 [1] (x_ref03_Names 54) :=
  CodeOf.of [0,2,3,4,5,9,18,30] [3] rfsZ Tryd.func33 rfl (by kernel_rfl) (by kernel_rfl)
theorem code_ref03_Ids:CodeOf Tryd.prog 34 1 9 [1] (x_ref03_Ids 33 54) :=
  CodeOf.of [0,2,3,4,5,6,7,13,23] [4,6] rfsZ Tryd.func34 rfl (by kernel_rfl) (by kernel_rfl)
theorem code_ref09_Walk:CodeOf Tryd.prog 35 2 10 [2] (x_ref09_Walk 55 56) :=
  CodeOf.of [0,1,4,5,6,7,8,21,24,56] [6] rfsZ Tryd.func35 rfl (by kernel_rfl) (by kernel_rfl)
theorem code_ref08_Matched:CodeOf Tryd.prog 36 2 10 [2] x_ref08_Matched :=
  CodeOf.of [0,1,4,5,6,7,8,12,21,48] [5] rfsZ Tryd.func36 rfl (by kernel_rfl) (by kernel_rfl)
theorem code_ref15_Coalesce:CodeOf Tryd.prog 37 1 10 [1,2] (x_ref15_Coalesce 57) :=
  CodeOf.of [0,2,3,4,5,6,7,10,14,28] [] rfsZ Tryd.func37 rfl (by kernel_rfl) (by kernel_rfl)
theorem code_gen_Rows:CodeOf Tryd.prog 38 2 7 [2] x_gen_Rows :=
  CodeOf.of [0,1,4,5,10,14,25] [] rfsZ Tryd.func38 rfl (by kernel_rfl) (by kernel_rfl)
theorem code_weave_Marked:CodeOf Tryd.prog 39 2 4 [3] x_weave_Marked :=
  CodeOf.of [0,1,2,4] [] rfsZ Tryd.func39 rfl (by kernel_rfl) (by kernel_rfl)
theorem code_weave_Single:CodeOf Tryd.prog 40 1 3 [2] (x_weave_Single 59 58) :=
  CodeOf.of [0,1,2] [] rfsZ Tryd.func40 rfl (by kernel_rfl) (by kernel_rfl)
theorem code_weave_Ends_Add:CodeOf Tryd.prog 41 2 8 [3] (x_weave_Ends_Add 60) :=
  CodeOf.of [0,1,3,4,5,6,11,35] [] rfsZ Tryd.func41 rfl (by kernel_rfl) (by kernel_rfl)
theorem code_ref02_Split:CodeOf Tryd.prog 42 1 4 [1,2] (x_ref02_Split 32 17) :=
  CodeOf.of [0,2,3,6] [] rfsZ Tryd.func42 rfl (by kernel_rfl) (by kernel_rfl)
theorem code_ref09_Lines:CodeOf Tryd.prog 43 2 4 [2] (x_ref09_Lines 34 35) :=
  CodeOf.of [0,1,4,5] [] rfsZ Tryd.func43 rfl (by kernel_rfl) (by kernel_rfl)
theorem code_ref02_Ended:CodeOf Tryd.prog 44 1 2 [1] x_ref02_Ended :=
  CodeOf.of [0,2] [] rfsZ Tryd.func44 rfl (by kernel_rfl) (by kernel_rfl)
theorem code_ref16_Marks:CodeOf Tryd.prog 45 2 6 [2] x_ref16_Marks :=
  CodeOf.of [0,1,4,5,9,36] [] rfsZ Tryd.func45 rfl (by kernel_rfl) (by kernel_rfl)
theorem code_ref16_Texts:CodeOf Tryd.prog 46 2 9 [2] (x_ref16_Texts 61 16 62) :=
  CodeOf.of [0,1,4,5,6,10,19,22,29] [] rfsZ Tryd.func46 rfl (by kernel_rfl) (by kernel_rfl)
theorem code_gen_Blob:CodeOf Tryd.prog 47 4 9 [4] (x_gen_Blob 21 19 20) :=
  CodeOf.of [0,1,2,3,8,9,10,19,52] [] rfsZ Tryd.func47 rfl (by kernel_rfl) (by kernel_rfl)
theorem code_gen_Near:CodeOf Tryd.prog 48 3 11 [3] (x_gen_Near 17 21 20) :=
  CodeOf.of [0,1,2,6,7,8,9,15,23,24,26] [] rfsZ Tryd.func48 rfl (by kernel_rfl) (by kernel_rfl)
theorem code_text_Check:CodeOf Tryd.prog 49 1 5 [1] (x_text_Check 63 60) :=
  CodeOf.of [0,2,3,12,21] [] rfsZ Tryd.func49 rfl (by kernel_rfl) (by kernel_rfl)
theorem code_strings_SplitAfter:CodeOf Tryd.prog 50 2 3 [2] (x_strings_SplitAfter 64) :=
  CodeOf.of [0,1,4] [] rfsZ Tryd.func50 rfl (by kernel_rfl) (by kernel_rfl)
theorem code_intern_number:CodeOf Tryd.prog 51 1 16 [1,2] (x_intern_number 65) :=
  CodeOf.of [0,2,3,4,5,6,7,9,16,17,18,19,23,24,25,26] [] rfsZ Tryd.func51 rfl (by kernel_rfl) (by kernel_rfl)
theorem code_shortest_Script:CodeOf Tryd.prog 52 2 5 [2,3] (x_shortest_Script 66 68 67) :=
  CodeOf.of [0,1,4,5,9] [] rfsZ Tryd.func52 rfl (by kernel_rfl) (by kernel_rfl)
theorem code_lost_Coalesce:CodeOf Tryd.prog 53 1 13 [1,2] (x_lost_Coalesce 69) :=
  CodeOf.of [0,2,3,4,5,6,7,22,23,24,25,26,39] [] rfsZ Tryd.func53 rfl (by kernel_rfl) (by kernel_rfl)
theorem code_ref03_place:CodeOf Tryd.prog 54 2 6 [2] x_ref03_place :=
  CodeOf.of [0,1,4,5,9,17] [] rfsZ Tryd.func54 rfl (by kernel_rfl) (by kernel_rfl)
theorem code_ref09_Table:CodeOf Tryd.prog 55 2 11 [2] x_ref09_Table :=
  CodeOf.of [0,1,4,5,6,7,15,28,55,70,85] [] rfsZ Tryd.func55 rfl (by kernel_rfl) (by kernel_rfl)
theorem code_ref08_Made:CodeOf Tryd.prog 56 3 12 [3] x_ref08_Made :=
  CodeOf.of [0,1,2,6,7,8,9,10,11,15,24,38] [7] rfsZ Tryd.func56 rfl (by kernel_rfl) (by kernel_rfl)
theorem code_ref15_join:CodeOf Tryd.prog 57 3 19 [3,4] (x_ref15_join 71 70 36) :=
  CodeOf.of [0,1,2,6,7,8,9,10,11,12,13,14,15,24,32,43,51,64,81] [11] rfsZ Tryd.func57 rfl (by kernel_rfl) (by kernel_rfl)
theorem code_strings_Contains:CodeOf Tryd.prog 58 2 3 [2] (x_strings_Contains 72) :=
  CodeOf.of [0,1,4] [] rfsZ Tryd.func58 rfl (by kernel_rfl) (by kernel_rfl)
theorem code_text_Bare:CodeOf Tryd.prog 59 1 2 [1] (x_text_Bare 73) :=
  CodeOf.of [0,2] [] rfsZ Tryd.func59 rfl (by kernel_rfl) (by kernel_rfl)
theorem code_text_Ended:CodeOf Tryd.prog 60 1 2 [1] (x_text_Ended 74) :=
  CodeOf.of [0,2] [] rfsZ Tryd.func60 rfl (by kernel_rfl) (by kernel_rfl)
theorem code_ref12_Line:CodeOf Tryd.prog 61 1 5 [1] x_ref12_Line :=
  CodeOf.of [0,2,3,8,14] [] rfsZ Tryd.func61 rfl (by kernel_rfl) (by kernel_rfl)
theorem code_ref02_List:CodeOf Tryd.prog 62 1 8 [1] (x_ref02_List 44) :=
  CodeOf.of [0,2,3,4,8,18,27,47] [] rfsZ Tryd.func62 rfl (by kernel_rfl) (by kernel_rfl)
theorem code_intern_table_id:CodeOf Tryd.prog 65 2 6 [2] x_intern_table_id :=
  CodeOf.of [0,1,4,5,6,17] [] rfsZ Tryd.func65 rfl (by kernel_rfl) (by kernel_rfl)
theorem code_shortest_limited:CodeOf Tryd.prog 66 2 3 [2] x_shortest_limited :=
  CodeOf.of [0,1,4] [] rfsZ Tryd.func66 rfl (by kernel_rfl) (by kernel_rfl)
theorem code_script_FromPairs:CodeOf Tryd.prog 67 3 13 [3,4] (x_script_FromPairs 78 79) :=
  CodeOf.of [0,1,2,6,7,8,10,18,20,21,22,23,49] [] rfsZ Tryd.func67 rfl (by kernel_rfl) (by kernel_rfl)
theorem code_shortest_walk:CodeOf Tryd.prog 68 2 17 [3] (x_shortest_walk 80 81 82) :=
  CodeOf.of [0,1,3,4,5,6,7,8,9,10,11,15,16,17,45,48,84] [5] rfsZ Tryd.func68 rfl (by kernel_rfl) (by kernel_rfl)
theorem code_lost_merge:CodeOf Tryd.prog 69 3 23 [5,6] (x_lost_merge 83 52 84) :=
  CodeOf.of [0,1,2,3,5,6,7,8,9,10,11,12,14,16,25,28,29,30,31,59,60,61,62] [] rfsZ Tryd.func69 rfl (by kernel_rfl) (by kernel_rfl)
theorem code_ref09_Script:CodeOf Tryd.prog 70 2 5 [2,3] (x_ref09_Script 85 35) :=
  CodeOf.of [0,1,4,5,8] [] rfsZ Tryd.func70 rfl (by kernel_rfl) (by kernel_rfl)
theorem code_ref15_lines:CodeOf Tryd.prog 71 1 5 [1] x_ref15_lines :=
  CodeOf.of [0,2,3,4,8] [3] rfsZ Tryd.func71 rfl (by kernel_rfl) (by kernel_rfl)
theorem code_script_length:CodeOf Tryd.prog 78 1 2 [1] x_script_length :=
  CodeOf.of [0,2] [] rfsZ Tryd.func78 rfl (by kernel_rfl) (by kernel_rfl)
theorem code_script_fromPairs:CodeOf Tryd.prog 79 3 13 [3] (x_script_fromPairs 90) :=
  CodeOf.of [0,1,2,6,7,8,9,11,18,19,20,21,33] [7] rfsZ Tryd.func79 rfl (by kernel_rfl) (by kernel_rfl)
theorem code_shortest_beginning:CodeOf Tryd.prog 80 2 5 [2] x_shortest_beginning :=
  CodeOf.of [0,1,4,5,26] [] rfsZ Tryd.func80 rfl (by kernel_rfl) (by kernel_rfl)
theorem code_shortest_distances:CodeOf Tryd.prog 81 2 16 [2] x_shortest_distances :=
  CodeOf.of [0,1,4,5,6,7,8,9,10,11,22,23,24,44,79,90] [] rfsZ Tryd.func81 rfl (by kernel_rfl) (by kernel_rfl)
theorem code_shortest_walk_1:CodeOf Tryd.prog 82 4 5 [4] x_shortest_walk_1 :=
  CodeOf.of [0,1,2,3,6] [] rfsZ Tryd.func82 rfl (by kernel_rfl) (by kernel_rfl)
theorem code_lost_numbers:CodeOf Tryd.prog 83 1 8 [1] x_lost_numbers :=
  CodeOf.of [0,2,3,5,6,7,8,9] [3] rfsZ Tryd.func83 rfl (by kernel_rfl) (by kernel_rfl)
theorem code_lost_merge_1:CodeOf Tryd.prog 84 5 6 [] x_lost_merge_1 :=
  CodeOf.of [0,1,2,3,4,8] [] rfsZ Tryd.func84 rfl (by kernel_rfl) (by kernel_rfl)
theorem code_ref09_long:CodeOf Tryd.prog 85 2 3 [2] x_ref09_long :=
  CodeOf.of [0,1,4] [] rfsZ Tryd.func85 rfl (by kernel_rfl) (by kernel_rfl)
theorem code_slices_Clip_Span_Span:CodeOf Tryd.prog 90 1 2 [1] x_slices_Clip_Span_Span :=
  CodeOf.of [0,2] [] rfsZ Tryd.func90 rfl (by kernel_rfl) (by kernel_rfl)
end Go.AE
