/-
  The code of the functions of this seat.
-/
import Derived.Test.YtlkndcbimdcnpaaDoorCode1
import Derived.Test.YtlkndcbimdcnpaaDoorProg

set_option linter.unusedSimpArgs false
set_option linter.unusedVariables false
set_option linter.unnecessarySimpa false
set_option maxRecDepth 100000
open Go Go.Proofs
namespace Go.AE
def rfsZ:List (Nat × Nat):=[(51,0),(41,0),(40,0),(53,0),(54,0),(61,0),(55,0),(58,0),(64,1),(65,0),(30,0),(100,0),(103,0),(102,0),(101,0),(29,0),(31,0),(44,0),(45,0),(43,0),(27,1),(28,0),(5000000,50)]
theorem code_law24_WalkOrders:CodeOf Tryd.prog 3 2 14 [2] (x_law24_WalkOrders 9 10 11 12 13 14) :=
  CodeOf.of [0,1,4,5,6,7,8,9,10,11,12,13,14,17] [] rfsZ Tryd.func3 rfl (by kernel_rfl) (by kernel_rfl)
theorem code_law24_WalkLevels:CodeOf Tryd.prog 4 2 14 [2] (x_law24_WalkLevels 9 10 15 16 17 12 14) :=
  CodeOf.of [0,1,4,5,6,7,8,9,10,11,12,13,16,32] [] rfsZ Tryd.func4 rfl (by kernel_rfl) (by kernel_rfl)
theorem code_law24_WalkTopological:CodeOf Tryd.prog 5 2 19 [2] (x_law24_WalkTopological 10 11 12 18 9) :=
  CodeOf.of [0,1,4,5,6,7,8,9,10,11,12,13,27,37,73,85,97,111,129] [] rfsZ Tryd.func5 rfl (by kernel_rfl) (by kernel_rfl)
theorem code_law24_WalkLatest:CodeOf Tryd.prog 6 2 19 [2] (x_law24_WalkLatest 10 11 12 18 19 9) :=
  CodeOf.of [0,1,4,5,6,7,8,9,10,11,12,13,27,37,64,68,115,125,138] [] rfsZ Tryd.func6 rfl (by kernel_rfl) (by kernel_rfl)
theorem code_law24_WalkStarts:CodeOf Tryd.prog 7 3 17 [3] (x_law24_WalkStarts 10 11 12 9 20 14) :=
  CodeOf.of [0,1,2,6,7,8,9,10,11,12,13,14,15,16,25,53,58] [13] rfsZ Tryd.func7 rfl (by kernel_rfl) (by kernel_rfl)
theorem code_law24_WalkHeights:CodeOf Tryd.prog 8 1 12 [1] (x_law24_WalkHeights 10 15 9) :=
  CodeOf.of [0,2,3,4,5,6,7,8,24,28,38,60] [] rfsZ Tryd.func8 rfl (by kernel_rfl) (by kernel_rfl)
theorem code_law24_awake:CodeOf Tryd.prog 9 0 6 [0] (x_law24_awake 12 15 14) :=
  CodeOf.of [0,1,2,3,4,5] [] rfsZ Tryd.func9 rfl (by kernel_rfl) (by kernel_rfl)
theorem code_gen_Graph:CodeOf Tryd.prog 10 3 13 [3] (x_gen_Graph 21 20 22 23 24) :=
  CodeOf.of [0,1,2,6,7,8,9,10,19,30,47,69,92] [7] rfsZ Tryd.func10 rfl (by kernel_rfl) (by kernel_rfl)
theorem code_law24_starts:CodeOf Tryd.prog 11 2 6 [2] (x_law24_starts 20) :=
  CodeOf.of [0,1,4,5,6,18] [5] rfsZ Tryd.func11 rfl (by kernel_rfl) (by kernel_rfl)
theorem code_walk_Order:CodeOf Tryd.prog 12 2 31 [2,3] (x_walk_Order 25 26 27 29 30 31 28 50) :=
  CodeOf.of [0,1,4,5,6,8,9,10,11,12,13,14,15,17,21,23,24,25,26,32,42,43,44,45,50,59,72,73,74,75,88] [14] rfsZ Tryd.func12 rfl (by kernel_rfl) (by kernel_rfl)
theorem code_ref24_Order:CodeOf Tryd.prog 13 2 17 [2,3] (x_ref24_Order 17 18 19) :=
  CodeOf.of [0,1,4,5,6,7,8,9,10,11,12,16,21,37,47,71,74] [10] rfsZ Tryd.func13 rfl (by kernel_rfl) (by kernel_rfl)
theorem code_gen_Ints:CodeOf Tryd.prog 14 2 7 [2] x_gen_Ints :=
  CodeOf.of [0,1,4,5,10,14,25] [] rfsZ Tryd.func14 rfl (by kernel_rfl) (by kernel_rfl)
theorem code_walk_Levels:CodeOf Tryd.prog 15 1 15 [1,2] (x_walk_Levels 25 32) :=
  CodeOf.of [0,2,3,4,5,6,7,8,10,14,25,36,37,38,39] [] rfsZ Tryd.func15 rfl (by kernel_rfl) (by kernel_rfl)
theorem code_ref24_Levels:CodeOf Tryd.prog 16 1 12 [1,2] (x_ref24_Levels 17) :=
  CodeOf.of [0,2,3,4,5,6,7,8,12,20,26,36] [] rfsZ Tryd.func16 rfl (by kernel_rfl) (by kernel_rfl)
theorem code_ref23_Check:CodeOf Tryd.prog 17 1 22 [1] (x_ref23_Check 33 18 34) :=
  CodeOf.of [0,2,3,4,5,6,7,8,9,10,13,17,26,30,40,69,73,94,98,114,118,128] [] rfsZ Tryd.func17 rfl (by kernel_rfl) (by kernel_rfl)
theorem code_ref23_Reach:CodeOf Tryd.prog 18 2 12 [2] x_ref23_Reach :=
  CodeOf.of [0,1,4,5,6,7,8,9,16,28,34,50] [] rfsZ Tryd.func18 rfl (by kernel_rfl) (by kernel_rfl)
theorem code_ref24_Ready:CodeOf Tryd.prog 19 4 9 [4] (x_ref24_Ready 35) :=
  CodeOf.of [0,1,2,3,8,9,10,17,36] [] rfsZ Tryd.func19 rfl (by kernel_rfl) (by kernel_rfl)
theorem code_gen_Mod:CodeOf Tryd.prog 20 2 3 [2] x_gen_Mod :=
  CodeOf.of [0,1,4] [] rfsZ Tryd.func20 rfl (by kernel_rfl) (by kernel_rfl)
theorem code_gen_At:CodeOf Tryd.prog 21 2 5 [2] x_gen_At :=
  CodeOf.of [0,1,4,5,12] [] rfsZ Tryd.func21 rfl (by kernel_rfl) (by kernel_rfl)
theorem code_gen_Files:CodeOf Tryd.prog 22 3 9 [3] (x_gen_Files 21 36) :=
  CodeOf.of [0,1,2,6,7,8,9,12,21] [8] rfsZ Tryd.func22 rfl (by kernel_rfl) (by kernel_rfl)
theorem code_gen_change:CodeOf Tryd.prog 23 4 13 [4] (x_gen_change 21 20 37 22) :=
  CodeOf.of [0,1,2,3,8,9,10,11,12,21,30,43,50] [9] rfsZ Tryd.func23 rfl (by kernel_rfl) (by kernel_rfl)
theorem code_gen_Turned:CodeOf Tryd.prog 24 2 11 [2] (x_gen_Turned 21) :=
  CodeOf.of [0,1,4,5,6,7,8,9,13,21,36] [] rfsZ Tryd.func24 rfl (by kernel_rfl) (by kernel_rfl)
theorem code_dag_Check:CodeOf Tryd.prog 25 1 13 [1] (x_dag_Check 38 39 32 42 40 41) :=
  CodeOf.of [0,2,4,5,6,10,14,21,24,25,26,27,34] [] rfsZ Tryd.func25 rfl (by kernel_rfl) (by kernel_rfl)
theorem code_dag_Is:CodeOf Tryd.prog 26 2 3 [2] x_dag_Is :=
  CodeOf.of [0,1,4] [] rfsZ Tryd.func26 rfl (by kernel_rfl) (by kernel_rfl)
theorem code_walk_history_children:CodeOf Tryd.prog 27 2 22 [2] (x_walk_history_children 43) :=
  CodeOf.of [0,1,4,5,6,7,8,10,11,13,18,19,20,27,28,29,30,39,55,56,57,58] [] rfsZ Tryd.func27 rfl (by kernel_rfl) (by kernel_rfl)
theorem code_walk_history_before:CodeOf Tryd.prog 28 3 5 [3] x_walk_history_before :=
  CodeOf.of [0,1,2,6,17] [] rfsZ Tryd.func28 rfl (by kernel_rfl) (by kernel_rfl)
theorem code_container_heap_Push:CodeOf Tryd.prog 29 2 2 [] (x_container_heap_Push 44 50 102 30) :=
  CodeOf.of [0,1] [] rfsZ Tryd.func29 rfl (by kernel_rfl) (by kernel_rfl)
theorem code_walk_queue_Len:CodeOf Tryd.prog 30 1 2 [1] x_walk_queue_Len :=
  CodeOf.of [0,2] [] rfsZ Tryd.func30 rfl (by kernel_rfl) (by kernel_rfl)
theorem code_container_heap_Pop:CodeOf Tryd.prog 31 1 3 [1] (x_container_heap_Pop 45 50 30 103 101) :=
  CodeOf.of [0,2,3] [] rfsZ Tryd.func31 rfl (by kernel_rfl) (by kernel_rfl)
theorem code_dag_Upward:CodeOf Tryd.prog 32 1 29 [1] x_dag_Upward :=
  CodeOf.of [0,2,3,5,7,8,9,10,11,13,17,18,19,20,24,25,26,27,38,39,40,41,46,55,65,66,67,68,81] [8] rfsZ Tryd.func32 rfl (by kernel_rfl) (by kernel_rfl)
theorem code_ref23_Has:CodeOf Tryd.prog 33 2 6 [2] x_ref23_Has :=
  CodeOf.of [0,1,4,5,9,17] [] rfsZ Tryd.func33 rfl (by kernel_rfl) (by kernel_rfl)
theorem code_ref21_Check:CodeOf Tryd.prog 34 1 14 [1] (x_ref21_Check 46 47 48) :=
  CodeOf.of [0,2,3,4,5,6,9,13,22,26,31,57,61,70] [] rfsZ Tryd.func34 rfl (by kernel_rfl) (by kernel_rfl)
theorem code_ref23_Kids:CodeOf Tryd.prog 35 2 7 [2] (x_ref23_Kids 33) :=
  CodeOf.of [0,1,4,5,6,10,19] [5] rfsZ Tryd.func35 rfl (by kernel_rfl) (by kernel_rfl)
theorem code_gen_Blob:CodeOf Tryd.prog 36 4 9 [4] (x_gen_Blob 21 20 49) :=
  CodeOf.of [0,1,2,3,8,9,10,19,52] [] rfsZ Tryd.func36 rfl (by kernel_rfl) (by kernel_rfl)
theorem code_gen_Near:CodeOf Tryd.prog 37 3 11 [3] (x_gen_Near 50 21 49) :=
  CodeOf.of [0,1,2,6,7,8,9,15,23,24,26] [] rfsZ Tryd.func37 rfl (by kernel_rfl) (by kernel_rfl)
theorem code_dag_limited:CodeOf Tryd.prog 38 1 2 [1] (x_dag_limited 40 51) :=
  CodeOf.of [0,2] [] rfsZ Tryd.func38 rfl (by kernel_rfl) (by kernel_rfl)
theorem code_dag_related:CodeOf Tryd.prog 39 1 14 [1] (x_dag_related 52) :=
  CodeOf.of [0,2,4,5,6,7,8,9,10,14,15,16,17,36] [] rfsZ Tryd.func39 rfl (by kernel_rfl) (by kernel_rfl)
theorem code_slices_ContainsFunc_Commit_Commit:CodeOf Tryd.prog 40 2 3 [2] (x_slices_ContainsFunc_Commit_Commit 53) :=
  CodeOf.of [0,1,4] [] rfsZ Tryd.func40 rfl (by kernel_rfl) (by kernel_rfl)
theorem code_dag_Check_1:CodeOf Tryd.prog 41 1 3 [2] x_dag_Check_1 :=
  CodeOf.of [0,1,2] [] rfsZ Tryd.func41 rfl (by kernel_rfl) (by kernel_rfl)
theorem code_tree_Check:CodeOf Tryd.prog 42 1 6 [1] (x_tree_Check 57 54 55 58) :=
  CodeOf.of [0,2,3,7,10,14] [] rfsZ Tryd.func42 rfl (by kernel_rfl) (by kernel_rfl)
theorem code_walk_history_children_1:CodeOf Tryd.prog 43 3 4 [] x_walk_history_children_1 :=
  CodeOf.of [0,1,2,8] [] rfsZ Tryd.func43 rfl (by kernel_rfl) (by kernel_rfl)
theorem code_container_heap_up:CodeOf Tryd.prog 44 2 4 [] (x_container_heap_up 50 100 103) :=
  CodeOf.of [0,1,4,17] [] rfsZ Tryd.func44 rfl (by kernel_rfl) (by kernel_rfl)
theorem code_container_heap_down:CodeOf Tryd.prog 45 3 11 [3] (x_container_heap_down 50 100 103) :=
  CodeOf.of [0,1,2,6,7,8,9,10,21,33,39] [] rfsZ Tryd.func45 rfl (by kernel_rfl) (by kernel_rfl)
theorem code_ref21_CheckPath:CodeOf Tryd.prog 46 1 9 [1] x_ref21_CheckPath :=
  CodeOf.of [0,2,3,4,12,16,28,38,55] [] rfsZ Tryd.func46 rfl (by kernel_rfl) (by kernel_rfl)
theorem code_ref21_Above:CodeOf Tryd.prog 47 2 3 [2] x_ref21_Above :=
  CodeOf.of [0,1,4] [] rfsZ Tryd.func47 rfl (by kernel_rfl) (by kernel_rfl)
theorem code_ref02_Check:CodeOf Tryd.prog 48 1 3 [1] (x_ref02_Check 50) :=
  CodeOf.of [0,2,11] [] rfsZ Tryd.func48 rfl (by kernel_rfl) (by kernel_rfl)
theorem code_gen_Line:CodeOf Tryd.prog 49 1 2 [1] (x_gen_Line 20) :=
  CodeOf.of [0,2] [] rfsZ Tryd.func49 rfl (by kernel_rfl) (by kernel_rfl)
theorem code_ref02_Lines:CodeOf Tryd.prog 50 1 7 [1] x_ref02_Lines :=
  CodeOf.of [0,2,3,4,5,9,22] [3] rfsZ Tryd.func50 rfl (by kernel_rfl) (by kernel_rfl)
theorem code_dag_limited_1:CodeOf Tryd.prog 51 1 3 [2] x_dag_limited_1 :=
  CodeOf.of [0,1,2] [] rfsZ Tryd.func51 rfl (by kernel_rfl) (by kernel_rfl)
theorem code_slices_Contains_int_int:CodeOf Tryd.prog 52 2 3 [2] (x_slices_Contains_int_int 60) :=
  CodeOf.of [0,1,4] [] rfsZ Tryd.func52 rfl (by kernel_rfl) (by kernel_rfl)
theorem code_slices_IndexFunc_Commit_Commit:CodeOf Tryd.prog 53 2 8 [2] x_slices_IndexFunc_Commit_Commit :=
  CodeOf.of [0,1,4,5,7,8,9,16] [] rfsZ Tryd.func53 rfl (by kernel_rfl) (by kernel_rfl)
theorem code_slices_ContainsFunc_File_File:CodeOf Tryd.prog 54 2 3 [2] (x_slices_ContainsFunc_File_File 61) :=
  CodeOf.of [0,1,4] [] rfsZ Tryd.func54 rfl (by kernel_rfl) (by kernel_rfl)
theorem code_tree_Check_1:CodeOf Tryd.prog 55 1 3 [2] (x_tree_Check_1 56) :=
  CodeOf.of [0,1,2] [] rfsZ Tryd.func55 rfl (by kernel_rfl) (by kernel_rfl)
theorem code_tree_ordered:CodeOf Tryd.prog 57 1 10 [1] (x_tree_ordered 64 65) :=
  CodeOf.of [0,2,3,4,5,8,9,10,11,33] [] rfsZ Tryd.func57 rfl (by kernel_rfl) (by kernel_rfl)
theorem code_tree_Check_2:CodeOf Tryd.prog 58 1 3 [2] (x_tree_Check_2 59) :=
  CodeOf.of [0,1,2] [] rfsZ Tryd.func58 rfl (by kernel_rfl) (by kernel_rfl)
theorem code_text_Check:CodeOf Tryd.prog 59 1 5 [1] (x_text_Check 66 67) :=
  CodeOf.of [0,2,3,12,21] [] rfsZ Tryd.func59 rfl (by kernel_rfl) (by kernel_rfl)
theorem code_slices_Index_int_int:CodeOf Tryd.prog 60 2 8 [2] x_slices_Index_int_int :=
  CodeOf.of [0,1,4,5,7,8,9,16] [] rfsZ Tryd.func60 rfl (by kernel_rfl) (by kernel_rfl)
theorem code_slices_IndexFunc_File_File:CodeOf Tryd.prog 61 2 8 [2] x_slices_IndexFunc_File_File :=
  CodeOf.of [0,1,4,5,7,8,9,16] [] rfsZ Tryd.func61 rfl (by kernel_rfl) (by kernel_rfl)
theorem code_tree_blobs:CodeOf Tryd.prog 64 1 8 [1] x_tree_blobs :=
  CodeOf.of [0,2,3,5,7,8,9,10] [] rfsZ Tryd.func64 rfl (by kernel_rfl) (by kernel_rfl)
theorem code_tree_nested:CodeOf Tryd.prog 65 2 9 [2] x_tree_nested :=
  CodeOf.of [0,1,4,5,7,9,10,11,27] [] rfsZ Tryd.func65 rfl (by kernel_rfl) (by kernel_rfl)
theorem code_text_Ended:CodeOf Tryd.prog 67 1 2 [1] (x_text_Ended 72) :=
  CodeOf.of [0,2] [] rfsZ Tryd.func67 rfl (by kernel_rfl) (by kernel_rfl)
theorem code_walk_queue_Less:CodeOf Tryd.prog 100 3 4 [3] x_walk_queue_Less :=
  CodeOf.of [0,1,2,6] [] rfsZ Tryd.func100 rfl (by kernel_rfl) (by kernel_rfl)
theorem code_walk_queue_Pop:CodeOf Tryd.prog 101 1 4 [1] x_walk_queue_Pop :=
  CodeOf.of [0,2,3,4] [] rfsZ Tryd.func101 rfl (by kernel_rfl) (by kernel_rfl)
theorem code_walk_queue_Push:CodeOf Tryd.prog 102 2 2 [] x_walk_queue_Push :=
  CodeOf.of [0,1] [] rfsZ Tryd.func102 rfl (by kernel_rfl) (by kernel_rfl)
theorem code_walk_queue_Swap:CodeOf Tryd.prog 103 3 3 [] x_walk_queue_Swap :=
  CodeOf.of [0,1,2] [] rfsZ Tryd.func103 rfl (by kernel_rfl) (by kernel_rfl)
end Go.AE
