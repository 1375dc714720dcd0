/-
  The code of the functions of this seat.
-/
import Derived.Test.YtchgnhinilehiaaGreatDoorCode1
import Derived.Test.YtchgnhinilehiaaGreatDoorProg

set_option linter.unusedSimpArgs false
set_option linter.unusedVariables false
set_option linter.unnecessarySimpa false
set_option maxRecDepth 100000
open Go Go.Proofs
namespace Go.AE
def rfsZ:List (Nat × Nat):=[(136,1),(150,1),(141,0),(92,0),(74,0),(73,0),(94,0),(95,0),(114,0),(96,0),(99,0),(117,1),(118,0),(83,0),(169,0),(172,0),(171,0),(170,0),(82,0),(84,0),(107,0),(108,0),(106,0),(80,1),(81,0),(36,2),(54,0),(37,0),(142,0),(64,0),(85,0),(45,4),(5000000,136)]
theorem code_law30_LinelogHandsDown:CodeOf Tryz.prog 7 4 34 [4] (x_law30_LinelogHandsDown 20 26 21 27 28 29 30 32 31) :=
  CodeOf.of [0,1,2,3,8,9,10,11,12,13,14,15,16,17,18,19,20,21,22,24,26,27,28,29,42,53,57,73,78,102,127,147,152,203] [] rfsZ Tryz.func7 rfl (by kernel_rfl) (by kernel_rfl)
theorem code_law30_LinelogLists:CodeOf Tryz.prog 8 4 34 [4] (x_law30_LinelogLists 20 26 21 23 33 28 27 30 34) :=
  CodeOf.of [0,1,2,3,8,9,10,11,12,13,14,15,16,17,19,20,21,22,23,24,25,26,28,29,30,31,45,68,79,93,106,133,170,192] [] rfsZ Tryz.func8 rfl (by kernel_rfl) (by kernel_rfl)
theorem code_gen_Mod:CodeOf Tryz.prog 15 2 3 [2] x_gen_Mod :=
  CodeOf.of [0,1,4] [] rfsZ Tryz.func15 rfl (by kernel_rfl) (by kernel_rfl)
theorem code_gen_Graph:CodeOf Tryz.prog 18 3 13 [3] (x_gen_Graph 35 15 40 41 42) :=
  CodeOf.of [0,1,2,6,7,8,9,10,19,30,47,69,92] [7] rfsZ Tryz.func18 rfl (by kernel_rfl) (by kernel_rfl)
theorem code_ref23_Check:CodeOf Tryz.prog 19 1 22 [1] (x_ref23_Check 29 43 44) :=
  CodeOf.of [0,2,3,4,5,6,7,8,9,10,13,17,26,30,40,69,73,94,98,114,118,128] [] rfsZ Tryz.func19 rfl (by kernel_rfl) (by kernel_rfl)
theorem code_law30_pick:CodeOf Tryz.prog 20 4 16 [4,5,6,22007,8] (x_law30_pick 18 15 35 32) :=
  CodeOf.of [0,1,2,3,8,9,10,11,12,13,14,15,16,21,34,59] [] rfsZ Tryz.func20 rfl (by kernel_rfl) (by kernel_rfl)
theorem code_linelog_Tracked:CodeOf Tryz.prog 21 4 10 [5,6] (x_linelog_Tracked 45) :=
  CodeOf.of [0,1,2,3,7,8,9,10,11,21] [] rfsZ Tryz.func21 rfl (by kernel_rfl) (by kernel_rfl)
theorem code_linelog_Log:CodeOf Tryz.prog 23 4 10 [5,6] (x_linelog_Log 45) :=
  CodeOf.of [0,1,2,3,7,8,9,10,11,21] [] rfsZ Tryz.func23 rfl (by kernel_rfl) (by kernel_rfl)
theorem code_gen_Visits:CodeOf Tryz.prog 25 2 7 [2] x_gen_Visits :=
  CodeOf.of [0,1,4,5,10,14,25] [] rfsZ Tryz.func25 rfl (by kernel_rfl) (by kernel_rfl)
theorem code_law30_awake:CodeOf Tryz.prog 26 0 6 [0] (x_law30_awake 23 25) :=
  CodeOf.of [0,1,2,3,4,5] [] rfsZ Tryz.func26 rfl (by kernel_rfl) (by kernel_rfl)
theorem code_ref21_Find:CodeOf Tryz.prog 27 2 7 [2,3] x_ref21_Find :=
  CodeOf.of [0,1,4,5,6,10,19] [] rfsZ Tryz.func27 rfl (by kernel_rfl) (by kernel_rfl)
theorem code_law30_find:CodeOf Tryz.prog 28 2 7 [22002,3] x_law30_find :=
  CodeOf.of [0,1,4,5,6,10,19] [] rfsZ Tryz.func28 rfl (by kernel_rfl) (by kernel_rfl)
theorem code_ref23_Has:CodeOf Tryz.prog 29 2 6 [2] x_ref23_Has :=
  CodeOf.of [0,1,4,5,9,17] [] rfsZ Tryz.func29 rfl (by kernel_rfl) (by kernel_rfl)
theorem code_ref09_Blobs:CodeOf Tryz.prog 30 2 9 [2,3] (x_ref09_Blobs 47 48) :=
  CodeOf.of [0,1,4,5,6,7,8,15,23] [] rfsZ Tryz.func30 rfl (by kernel_rfl) (by kernel_rfl)
theorem code_ref08_Matched:CodeOf Tryz.prog 31 2 10 [2] x_ref08_Matched :=
  CodeOf.of [0,1,4,5,6,7,8,12,21,48] [5] rfsZ Tryz.func31 rfl (by kernel_rfl) (by kernel_rfl)
theorem code_ref02_Lines:CodeOf Tryz.prog 32 1 7 [1] x_ref02_Lines :=
  CodeOf.of [0,2,3,4,5,9,22] [3] rfsZ Tryz.func32 rfl (by kernel_rfl) (by kernel_rfl)
theorem code_ref24_Order:CodeOf Tryz.prog 33 2 17 [2,3] (x_ref24_Order 19 43 49) :=
  CodeOf.of [0,1,4,5,6,7,8,9,10,11,12,16,21,37,47,71,74] [10] rfsZ Tryz.func33 rfl (by kernel_rfl) (by kernel_rfl)
theorem code_law30_overlaps:CodeOf Tryz.prog 34 2 8 [3] x_law30_overlaps :=
  CodeOf.of [0,1,3,4,5,9,43,69] [] rfsZ Tryz.func34 rfl (by kernel_rfl) (by kernel_rfl)
theorem code_gen_At:CodeOf Tryz.prog 35 2 5 [2] x_gen_At :=
  CodeOf.of [0,1,4,5,12] [] rfsZ Tryz.func35 rfl (by kernel_rfl) (by kernel_rfl)
theorem code_gen_Files:CodeOf Tryz.prog 40 3 9 [3] (x_gen_Files 35 57) :=
  CodeOf.of [0,1,2,6,7,8,9,12,21] [8] rfsZ Tryz.func40 rfl (by kernel_rfl) (by kernel_rfl)
theorem code_gen_change:CodeOf Tryz.prog 41 4 13 [4] (x_gen_change 35 15 58 40) :=
  CodeOf.of [0,1,2,3,8,9,10,11,12,21,30,43,50] [9] rfsZ Tryz.func41 rfl (by kernel_rfl) (by kernel_rfl)
theorem code_gen_Turned:CodeOf Tryz.prog 42 2 11 [2] (x_gen_Turned 35) :=
  CodeOf.of [0,1,4,5,6,7,8,9,13,21,36] [] rfsZ Tryz.func42 rfl (by kernel_rfl) (by kernel_rfl)
theorem code_ref23_Reach:CodeOf Tryz.prog 43 2 12 [2] x_ref23_Reach :=
  CodeOf.of [0,1,4,5,6,7,8,9,16,28,34,50] [] rfsZ Tryz.func43 rfl (by kernel_rfl) (by kernel_rfl)
theorem code_ref21_Check:CodeOf Tryz.prog 44 1 14 [1] (x_ref21_Check 59 60 61) :=
  CodeOf.of [0,2,3,4,5,6,9,13,22,26,31,57,61,70] [] rfsZ Tryz.func44 rfl (by kernel_rfl) (by kernel_rfl)
theorem code_linelog_follow:CodeOf Tryz.prog 45 4 21 [5,6] (x_linelog_follow 50 51 52 62 63 64) :=
  CodeOf.of [0,1,2,3,7,8,9,10,11,12,13,14,17,21,26,37,40,80,81,82,83] [] rfsZ Tryz.func45 rfl (by kernel_rfl) (by kernel_rfl)
theorem code_ref02_Split:CodeOf Tryz.prog 47 1 4 [1,2] (x_ref02_Split 61 32) :=
  CodeOf.of [0,2,3,6] [] rfsZ Tryz.func47 rfl (by kernel_rfl) (by kernel_rfl)
theorem code_ref09_Lines:CodeOf Tryz.prog 48 2 4 [2] (x_ref09_Lines 67 68) :=
  CodeOf.of [0,1,4,5] [] rfsZ Tryz.func48 rfl (by kernel_rfl) (by kernel_rfl)
theorem code_ref24_Ready:CodeOf Tryz.prog 49 4 9 [4] (x_ref24_Ready 69) :=
  CodeOf.of [0,1,2,3,8,9,10,17,36] [] rfsZ Tryz.func49 rfl (by kernel_rfl) (by kernel_rfl)
theorem code_dag_Check:CodeOf Tryz.prog 50 1 13 [1] (x_dag_Check 70 71 72 75 73 74) :=
  CodeOf.of [0,2,4,5,6,10,14,21,24,25,26,27,34] [] rfsZ Tryz.func50 rfl (by kernel_rfl) (by kernel_rfl)
theorem code_dag_Is:CodeOf Tryz.prog 51 2 3 [2] x_dag_Is :=
  CodeOf.of [0,1,4] [] rfsZ Tryz.func51 rfl (by kernel_rfl) (by kernel_rfl)
theorem code_tree_Find:CodeOf Tryz.prog 52 2 10 [2,3] x_tree_Find :=
  CodeOf.of [0,1,4,5,7,8,9,10,11,17] [] rfsZ Tryz.func52 rfl (by kernel_rfl) (by kernel_rfl)
theorem code_text_Split:CodeOf Tryz.prog 53 1 7 [1,2] (x_text_Split 76 77) :=
  CodeOf.of [0,2,3,4,5,9,19] [] rfsZ Tryz.func53 rfl (by kernel_rfl) (by kernel_rfl)
theorem code_gen_Blob:CodeOf Tryz.prog 57 4 9 [4] (x_gen_Blob 35 15 79) :=
  CodeOf.of [0,1,2,3,8,9,10,19,52] [] rfsZ Tryz.func57 rfl (by kernel_rfl) (by kernel_rfl)
theorem code_gen_Near:CodeOf Tryz.prog 58 3 11 [3] (x_gen_Near 32 35 79) :=
  CodeOf.of [0,1,2,6,7,8,9,15,23,24,26] [] rfsZ Tryz.func58 rfl (by kernel_rfl) (by kernel_rfl)
theorem code_ref21_CheckPath:CodeOf Tryz.prog 59 1 9 [1] x_ref21_CheckPath :=
  CodeOf.of [0,2,3,4,12,16,28,38,55] [] rfsZ Tryz.func59 rfl (by kernel_rfl) (by kernel_rfl)
theorem code_ref21_Above:CodeOf Tryz.prog 60 2 3 [2] x_ref21_Above :=
  CodeOf.of [0,1,4] [] rfsZ Tryz.func60 rfl (by kernel_rfl) (by kernel_rfl)
theorem code_ref02_Check:CodeOf Tryz.prog 61 1 3 [1] (x_ref02_Check 32) :=
  CodeOf.of [0,2,11] [] rfsZ Tryz.func61 rfl (by kernel_rfl) (by kernel_rfl)
theorem code_linelog_lines:CodeOf Tryz.prog 62 1 3 [1] (x_linelog_lines 53) :=
  CodeOf.of [0,2,3] [] rfsZ Tryz.func62 rfl (by kernel_rfl) (by kernel_rfl)
theorem code_walk_Order:CodeOf Tryz.prog 63 2 31 [2,3] (x_walk_Order 50 51 80 82 83 84 81 136) :=
  CodeOf.of [0,1,4,5,6,8,9,10,11,12,13,14,15,17,21,23,24,25,26,32,42,43,44,45,50,59,72,73,74,75,88] [14] rfsZ Tryz.func63 rfl (by kernel_rfl) (by kernel_rfl)
theorem code_linelog_tracker_visit:CodeOf Tryz.prog 64 2 14 [] (x_linelog_tracker_visit 52 85) :=
  CodeOf.of [0,1,4,5,6,7,9,46,83,84,85,86,93,95] [] rfsZ Tryz.func64 rfl (by kernel_rfl) (by kernel_rfl)
theorem code_ref03_Ids:CodeOf Tryz.prog 67 1 9 [1] (x_ref03_Ids 88 89) :=
  CodeOf.of [0,2,3,4,5,6,7,13,23] [4,6] rfsZ Tryz.func67 rfl (by kernel_rfl) (by kernel_rfl)
theorem code_ref09_Walk:CodeOf Tryz.prog 68 2 10 [2] (x_ref09_Walk 90 91) :=
  CodeOf.of [0,1,4,5,6,7,8,21,24,56] [6] rfsZ Tryz.func68 rfl (by kernel_rfl) (by kernel_rfl)
theorem code_ref23_Kids:CodeOf Tryz.prog 69 2 7 [2] (x_ref23_Kids 29) :=
  CodeOf.of [0,1,4,5,6,10,19] [5] rfsZ Tryz.func69 rfl (by kernel_rfl) (by kernel_rfl)
theorem code_dag_limited:CodeOf Tryz.prog 70 1 2 [1] (x_dag_limited 73 92) :=
  CodeOf.of [0,2] [] rfsZ Tryz.func70 rfl (by kernel_rfl) (by kernel_rfl)
theorem code_dag_related:CodeOf Tryz.prog 71 1 14 [1] (x_dag_related 93) :=
  CodeOf.of [0,2,4,5,6,7,8,9,10,14,15,16,17,36] [] rfsZ Tryz.func71 rfl (by kernel_rfl) (by kernel_rfl)
theorem code_dag_Upward:CodeOf Tryz.prog 72 1 29 [1] x_dag_Upward :=
  CodeOf.of [0,2,3,5,7,8,9,10,11,13,17,18,19,20,24,25,26,27,38,39,40,41,46,55,65,66,67,68,81] [8] rfsZ Tryz.func72 rfl (by kernel_rfl) (by kernel_rfl)
theorem code_slices_ContainsFunc_Commit_Commit:CodeOf Tryz.prog 73 2 3 [2] (x_slices_ContainsFunc_Commit_Commit 94) :=
  CodeOf.of [0,1,4] [] rfsZ Tryz.func73 rfl (by kernel_rfl) (by kernel_rfl)
theorem code_dag_Check_1:CodeOf Tryz.prog 74 1 3 [2] x_dag_Check_1 :=
  CodeOf.of [0,1,2] [] rfsZ Tryz.func74 rfl (by kernel_rfl) (by kernel_rfl)
theorem code_tree_Check:CodeOf Tryz.prog 75 1 6 [1] (x_tree_Check 98 95 96 99) :=
  CodeOf.of [0,2,3,7,10,14] [] rfsZ Tryz.func75 rfl (by kernel_rfl) (by kernel_rfl)
theorem code_text_Check:CodeOf Tryz.prog 76 1 5 [1] (x_text_Check 100 101) :=
  CodeOf.of [0,2,3,12,21] [] rfsZ Tryz.func76 rfl (by kernel_rfl) (by kernel_rfl)
theorem code_gen_Line:CodeOf Tryz.prog 79 1 2 [1] (x_gen_Line 15) :=
  CodeOf.of [0,2] [] rfsZ Tryz.func79 rfl (by kernel_rfl) (by kernel_rfl)
theorem code_walk_history_children:CodeOf Tryz.prog 80 2 22 [2] (x_walk_history_children 106) :=
  CodeOf.of [0,1,4,5,6,7,8,10,11,13,18,19,20,27,28,29,30,39,55,56,57,58] [] rfsZ Tryz.func80 rfl (by kernel_rfl) (by kernel_rfl)
theorem code_walk_history_before:CodeOf Tryz.prog 81 3 5 [3] x_walk_history_before :=
  CodeOf.of [0,1,2,6,17] [] rfsZ Tryz.func81 rfl (by kernel_rfl) (by kernel_rfl)
theorem code_container_heap_Push:CodeOf Tryz.prog 82 2 2 [] (x_container_heap_Push 107 136 171 83) :=
  CodeOf.of [0,1] [] rfsZ Tryz.func82 rfl (by kernel_rfl) (by kernel_rfl)
theorem code_walk_queue_Len:CodeOf Tryz.prog 83 1 2 [1] x_walk_queue_Len :=
  CodeOf.of [0,2] [] rfsZ Tryz.func83 rfl (by kernel_rfl) (by kernel_rfl)
theorem code_container_heap_Pop:CodeOf Tryz.prog 84 1 3 [1] (x_container_heap_Pop 108 136 83 172 170) :=
  CodeOf.of [0,2,3] [] rfsZ Tryz.func84 rfl (by kernel_rfl) (by kernel_rfl)
theorem code_linelog_tracker_hand:CodeOf Tryz.prog 85 4 16 [4] (x_linelog_tracker_hand 52 62 103 104 109 110 111) :=
  CodeOf.of [0,1,2,3,8,9,10,11,12,13,14,16,17,19,38,78] [] rfsZ Tryz.func85 rfl (by kernel_rfl) (by kernel_rfl)
theorem code_ref03_Names:CodeOf Tryz.prog 88 1 8 [1] (x_ref03_Names 89) :=
  CodeOf.of [0,2,3,4,5,9,18,30] [3] rfsZ Tryz.func88 rfl (by kernel_rfl) (by kernel_rfl)
theorem code_ref03_place:CodeOf Tryz.prog 89 2 6 [2] x_ref03_place :=
  CodeOf.of [0,1,4,5,9,17] [] rfsZ Tryz.func89 rfl (by kernel_rfl) (by kernel_rfl)
theorem code_ref09_Table:CodeOf Tryz.prog 90 2 11 [2] x_ref09_Table :=
  CodeOf.of [0,1,4,5,6,7,15,28,55,70,85] [] rfsZ Tryz.func90 rfl (by kernel_rfl) (by kernel_rfl)
theorem code_ref08_Made:CodeOf Tryz.prog 91 3 12 [3] x_ref08_Made :=
  CodeOf.of [0,1,2,6,7,8,9,10,11,15,24,38] [7] rfsZ Tryz.func91 rfl (by kernel_rfl) (by kernel_rfl)
theorem code_dag_limited_1:CodeOf Tryz.prog 92 1 3 [2] x_dag_limited_1 :=
  CodeOf.of [0,1,2] [] rfsZ Tryz.func92 rfl (by kernel_rfl) (by kernel_rfl)
theorem code_slices_Contains_int_int:CodeOf Tryz.prog 93 2 3 [2] (x_slices_Contains_int_int 113) :=
  CodeOf.of [0,1,4] [] rfsZ Tryz.func93 rfl (by kernel_rfl) (by kernel_rfl)
theorem code_slices_IndexFunc_Commit_Commit:CodeOf Tryz.prog 94 2 8 [2] x_slices_IndexFunc_Commit_Commit :=
  CodeOf.of [0,1,4,5,7,8,9,16] [] rfsZ Tryz.func94 rfl (by kernel_rfl) (by kernel_rfl)
theorem code_slices_ContainsFunc_File_File:CodeOf Tryz.prog 95 2 3 [2] (x_slices_ContainsFunc_File_File 114) :=
  CodeOf.of [0,1,4] [] rfsZ Tryz.func95 rfl (by kernel_rfl) (by kernel_rfl)
theorem code_tree_Check_1:CodeOf Tryz.prog 96 1 3 [2] (x_tree_Check_1 97) :=
  CodeOf.of [0,1,2] [] rfsZ Tryz.func96 rfl (by kernel_rfl) (by kernel_rfl)
theorem code_tree_ordered:CodeOf Tryz.prog 98 1 10 [1] (x_tree_ordered 117 118) :=
  CodeOf.of [0,2,3,4,5,8,9,10,11,33] [] rfsZ Tryz.func98 rfl (by kernel_rfl) (by kernel_rfl)
theorem code_tree_Check_2:CodeOf Tryz.prog 99 1 3 [2] (x_tree_Check_2 76) :=
  CodeOf.of [0,1,2] [] rfsZ Tryz.func99 rfl (by kernel_rfl) (by kernel_rfl)
theorem code_text_Ended:CodeOf Tryz.prog 101 1 2 [1] (x_text_Ended 122) :=
  CodeOf.of [0,2] [] rfsZ Tryz.func101 rfl (by kernel_rfl) (by kernel_rfl)
theorem code_intern_Ids:CodeOf Tryz.prog 103 1 3 [1] (x_intern_Ids 124) :=
  CodeOf.of [0,2,3] [] rfsZ Tryz.func103 rfl (by kernel_rfl) (by kernel_rfl)
theorem code_shortest_Script:CodeOf Tryz.prog 104 2 5 [2,3] (x_shortest_Script 125 127 126) :=
  CodeOf.of [0,1,4,5,9] [] rfsZ Tryz.func104 rfl (by kernel_rfl) (by kernel_rfl)
theorem code_script_Pairs:CodeOf Tryz.prog 105 3 7 [3,4] (x_script_Pairs 128 129) :=
  CodeOf.of [0,1,2,6,7,8,14] [] rfsZ Tryz.func105 rfl (by kernel_rfl) (by kernel_rfl)
theorem code_walk_history_children_1:CodeOf Tryz.prog 106 3 4 [] x_walk_history_children_1 :=
  CodeOf.of [0,1,2,8] [] rfsZ Tryz.func106 rfl (by kernel_rfl) (by kernel_rfl)
theorem code_container_heap_up:CodeOf Tryz.prog 107 2 4 [] (x_container_heap_up 136 169 172) :=
  CodeOf.of [0,1,4,17] [] rfsZ Tryz.func107 rfl (by kernel_rfl) (by kernel_rfl)
theorem code_container_heap_down:CodeOf Tryz.prog 108 3 11 [3] (x_container_heap_down 136 169 172) :=
  CodeOf.of [0,1,2,6,7,8,9,10,21,33,39] [] rfsZ Tryz.func108 rfl (by kernel_rfl) (by kernel_rfl)
theorem code_track_Back:CodeOf Tryz.prog 109 4 19 [22005,6,7] (x_track_Back 130 110) :=
  CodeOf.of [0,1,2,3,7,8,9,10,11,12,13,14,16,26,29,30,31,32,36] [] rfsZ Tryz.func109 rfl (by kernel_rfl) (by kernel_rfl)
theorem code_track_Hull:CodeOf Tryz.prog 110 2 8 [22004] x_track_Hull :=
  CodeOf.of [0,1,2,3,4,5,19,26] [] rfsZ Tryz.func110 rfl (by kernel_rfl) (by kernel_rfl)
theorem code_track_Touches:CodeOf Tryz.prog 111 4 17 [5,6] (x_track_Touches 130) :=
  CodeOf.of [0,1,2,3,7,8,9,10,11,12,13,23,25,26,27,28,47] [] rfsZ Tryz.func111 rfl (by kernel_rfl) (by kernel_rfl)
theorem code_slices_Index_int_int:CodeOf Tryz.prog 113 2 8 [2] x_slices_Index_int_int :=
  CodeOf.of [0,1,4,5,7,8,9,16] [] rfsZ Tryz.func113 rfl (by kernel_rfl) (by kernel_rfl)
theorem code_slices_IndexFunc_File_File:CodeOf Tryz.prog 114 2 8 [2] x_slices_IndexFunc_File_File :=
  CodeOf.of [0,1,4,5,7,8,9,16] [] rfsZ Tryz.func114 rfl (by kernel_rfl) (by kernel_rfl)
theorem code_tree_blobs:CodeOf Tryz.prog 117 1 8 [1] x_tree_blobs :=
  CodeOf.of [0,2,3,5,7,8,9,10] [] rfsZ Tryz.func117 rfl (by kernel_rfl) (by kernel_rfl)
theorem code_tree_nested:CodeOf Tryz.prog 118 2 9 [2] x_tree_nested :=
  CodeOf.of [0,1,4,5,7,9,10,11,27] [] rfsZ Tryz.func118 rfl (by kernel_rfl) (by kernel_rfl)
theorem code_intern_number:CodeOf Tryz.prog 124 1 16 [1,2] (x_intern_number 136) :=
  CodeOf.of [0,2,3,4,5,6,7,9,16,17,18,19,23,24,25,26] [] rfsZ Tryz.func124 rfl (by kernel_rfl) (by kernel_rfl)
theorem code_shortest_limited:CodeOf Tryz.prog 125 2 3 [2] x_shortest_limited :=
  CodeOf.of [0,1,4] [] rfsZ Tryz.func125 rfl (by kernel_rfl) (by kernel_rfl)
theorem code_script_FromPairs:CodeOf Tryz.prog 126 3 13 [3,4] (x_script_FromPairs 137 138) :=
  CodeOf.of [0,1,2,6,7,8,10,18,20,21,22,23,49] [] rfsZ Tryz.func126 rfl (by kernel_rfl) (by kernel_rfl)
theorem code_shortest_walk:CodeOf Tryz.prog 127 2 17 [3] (x_shortest_walk 139 140 141) :=
  CodeOf.of [0,1,3,4,5,6,7,8,9,10,11,15,16,17,45,48,84] [5] rfsZ Tryz.func127 rfl (by kernel_rfl) (by kernel_rfl)
theorem code_script_Check:CodeOf Tryz.prog 128 3 17 [3] (x_script_Check 137) :=
  CodeOf.of [0,1,2,6,7,8,9,10,11,19,20,21,22,23,56,72,95] [] rfsZ Tryz.func128 rfl (by kernel_rfl) (by kernel_rfl)
theorem code_script_pairs:CodeOf Tryz.prog 129 2 12 [2] (x_script_pairs 142) :=
  CodeOf.of [0,1,4,5,6,7,8,10,12,13,14,15] [] rfsZ Tryz.func129 rfl (by kernel_rfl) (by kernel_rfl)
theorem code_track_partners:CodeOf Tryz.prog 130 4 22 [5,6] (x_track_partners 105) :=
  CodeOf.of [0,1,2,3,7,8,9,10,11,12,13,15,24,41,49,50,51,57,58,59,60,74] [] rfsZ Tryz.func130 rfl (by kernel_rfl) (by kernel_rfl)
theorem code_intern_table_id:CodeOf Tryz.prog 136 2 6 [2] x_intern_table_id :=
  CodeOf.of [0,1,4,5,6,17] [] rfsZ Tryz.func136 rfl (by kernel_rfl) (by kernel_rfl)
theorem code_script_length:CodeOf Tryz.prog 137 1 2 [1] x_script_length :=
  CodeOf.of [0,2] [] rfsZ Tryz.func137 rfl (by kernel_rfl) (by kernel_rfl)
theorem code_script_fromPairs:CodeOf Tryz.prog 138 3 13 [3] (x_script_fromPairs 150) :=
  CodeOf.of [0,1,2,6,7,8,9,11,18,19,20,21,33] [7] rfsZ Tryz.func138 rfl (by kernel_rfl) (by kernel_rfl)
theorem code_shortest_beginning:CodeOf Tryz.prog 139 2 5 [2] x_shortest_beginning :=
  CodeOf.of [0,1,4,5,26] [] rfsZ Tryz.func139 rfl (by kernel_rfl) (by kernel_rfl)
theorem code_shortest_distances:CodeOf Tryz.prog 140 2 16 [2] x_shortest_distances :=
  CodeOf.of [0,1,4,5,6,7,8,9,10,11,22,23,24,44,79,90] [] rfsZ Tryz.func140 rfl (by kernel_rfl) (by kernel_rfl)
theorem code_shortest_walk_1:CodeOf Tryz.prog 141 4 5 [4] x_shortest_walk_1 :=
  CodeOf.of [0,1,2,3,6] [] rfsZ Tryz.func141 rfl (by kernel_rfl) (by kernel_rfl)
theorem code_script_pairs_1:CodeOf Tryz.prog 142 4 5 [] x_script_pairs_1 :=
  CodeOf.of [0,1,2,3,7] [] rfsZ Tryz.func142 rfl (by kernel_rfl) (by kernel_rfl)
theorem code_slices_Clip_Span_Span:CodeOf Tryz.prog 150 1 2 [1] x_slices_Clip_Span_Span :=
  CodeOf.of [0,2] [] rfsZ Tryz.func150 rfl (by kernel_rfl) (by kernel_rfl)
theorem code_walk_queue_Less:CodeOf Tryz.prog 169 3 4 [3] x_walk_queue_Less :=
  CodeOf.of [0,1,2,6] [] rfsZ Tryz.func169 rfl (by kernel_rfl) (by kernel_rfl)
theorem code_walk_queue_Pop:CodeOf Tryz.prog 170 1 4 [1] x_walk_queue_Pop :=
  CodeOf.of [0,2,3,4] [] rfsZ Tryz.func170 rfl (by kernel_rfl) (by kernel_rfl)
theorem code_walk_queue_Push:CodeOf Tryz.prog 171 2 2 [] x_walk_queue_Push :=
  CodeOf.of [0,1] [] rfsZ Tryz.func171 rfl (by kernel_rfl) (by kernel_rfl)
theorem code_walk_queue_Swap:CodeOf Tryz.prog 172 3 3 [] x_walk_queue_Swap :=
  CodeOf.of [0,1,2] [] rfsZ Tryz.func172 rfl (by kernel_rfl) (by kernel_rfl)
theorem code_strings_SplitAfter:CodeOf Tryz.prog 77 2 3 [2] (x_strings_SplitAfter 102) :=
  CodeOf.of [0,1,4] [] rfsZ Tryz.func77 rfl (by kernel_rfl) (by kernel_rfl)
end Go.AE
