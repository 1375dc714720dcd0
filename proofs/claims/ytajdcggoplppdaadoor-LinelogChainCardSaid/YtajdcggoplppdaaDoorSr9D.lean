/-
  The code of the functions of this seat.
-/
import Derived.Test.YtajdcggoplppdaaDoorCode1
import Derived.Test.YtajdcggoplppdaaDoorProg

set_option linter.unusedSimpArgs false
set_option linter.unusedVariables false
set_option linter.unnecessarySimpa false
set_option maxRecDepth 100000
open Go Go.Proofs
namespace Go.AE
def rfsZ:List (Nat × Nat):=[(107,1),(120,1),(112,0),(65,0),(50,0),(49,0),(67,0),(68,0),(86,0),(69,0),(72,0),(89,1),(90,0),(62,0),(139,0),(142,0),(141,0),(140,0),(61,0),(63,0),(80,0),(81,0),(79,0),(59,1),(60,0),(22,2),(39,0),(23,0),(113,0),(45,0),(64,0),(31,4),(5000000,121)]
theorem code_law31_pick:CodeOf Tryd.prog 6 2 8 [2,3,4] (x_law31_pick 20 14 21) :=
  CodeOf.of [0,1,4,5,6,7,12,24] [] rfsZ Tryd.func6 rfl (by kernel_rfl) (by kernel_rfl)
theorem code_annotate_Blame:CodeOf Tryd.prog 7 3 18 [3,4] (x_annotate_Blame 22 23) :=
  CodeOf.of [0,1,2,6,7,8,9,10,11,12,13,14,15,25,27,28,29,41] [11] rfsZ Tryd.func7 rfl (by kernel_rfl) (by kernel_rfl)
theorem code_annotate_Step:CodeOf Tryd.prog 15 4 14 [22004,5,6] (x_annotate_Step 22 23) :=
  CodeOf.of [0,1,2,3,8,9,10,11,12,13,14,15,24,29] [] rfsZ Tryd.func15 rfl (by kernel_rfl) (by kernel_rfl)
theorem code_gen_Mod:CodeOf Tryd.prog 14 2 3 [2] x_gen_Mod :=
  CodeOf.of [0,1,4] [] rfsZ Tryd.func14 rfl (by kernel_rfl) (by kernel_rfl)
theorem code_gen_Origins:CodeOf Tryd.prog 24 2 7 [2] x_gen_Origins :=
  CodeOf.of [0,1,4,5,10,14,25] [] rfsZ Tryd.func24 rfl (by kernel_rfl) (by kernel_rfl)
theorem code_law31_awake:CodeOf Tryd.prog 8 0 4 [0] (x_law31_awake 7 24) :=
  CodeOf.of [0,1,2,3] [] rfsZ Tryd.func8 rfl (by kernel_rfl) (by kernel_rfl)
theorem code_gen_Graph:CodeOf Tryd.prog 20 3 13 [3] (x_gen_Graph 21 14 32 33 34) :=
  CodeOf.of [0,1,2,6,7,8,9,10,19,30,47,69,92] [7] rfsZ Tryd.func20 rfl (by kernel_rfl) (by kernel_rfl)
theorem code_linelog_Tracked:CodeOf Tryd.prog 19 4 10 [5,6] (x_linelog_Tracked 31) :=
  CodeOf.of [0,1,2,3,7,8,9,10,11,21] [] rfsZ Tryd.func19 rfl (by kernel_rfl) (by kernel_rfl)
theorem code_linelog_Log:CodeOf Tryd.prog 29 4 10 [5,6] (x_linelog_Log 31) :=
  CodeOf.of [0,1,2,3,7,8,9,10,11,21] [] rfsZ Tryd.func29 rfl (by kernel_rfl) (by kernel_rfl)
theorem code_gen_Visits:CodeOf Tryd.prog 30 2 7 [2] x_gen_Visits :=
  CodeOf.of [0,1,4,5,10,14,25] [] rfsZ Tryd.func30 rfl (by kernel_rfl) (by kernel_rfl)
theorem code_law30_awake:CodeOf Tryd.prog 18 0 6 [0] (x_law30_awake 29 30) :=
  CodeOf.of [0,1,2,3,4,5] [] rfsZ Tryd.func18 rfl (by kernel_rfl) (by kernel_rfl)
theorem code_ref21_Find:CodeOf Tryd.prog 9 2 7 [2,3] x_ref21_Find :=
  CodeOf.of [0,1,4,5,6,10,19] [] rfsZ Tryd.func9 rfl (by kernel_rfl) (by kernel_rfl)
theorem code_ref09_Blobs:CodeOf Tryd.prog 12 2 9 [2,3] (x_ref09_Blobs 25 26) :=
  CodeOf.of [0,1,4,5,6,7,8,15,23] [] rfsZ Tryd.func12 rfl (by kernel_rfl) (by kernel_rfl)
theorem code_ref08_Matched:CodeOf Tryd.prog 27 2 10 [2] x_ref08_Matched :=
  CodeOf.of [0,1,4,5,6,7,8,12,21,48] [5] rfsZ Tryd.func27 rfl (by kernel_rfl) (by kernel_rfl)
theorem code_ref02_Lines:CodeOf Tryd.prog 10 1 7 [1] x_ref02_Lines :=
  CodeOf.of [0,2,3,4,5,9,22] [3] rfsZ Tryd.func10 rfl (by kernel_rfl) (by kernel_rfl)
theorem code_gen_At:CodeOf Tryd.prog 21 2 5 [2] x_gen_At :=
  CodeOf.of [0,1,4,5,12] [] rfsZ Tryd.func21 rfl (by kernel_rfl) (by kernel_rfl)
theorem code_annotate_begin:CodeOf Tryd.prog 22 3 13 [3,4,5] (x_annotate_begin 35 36 37 38) :=
  CodeOf.of [0,1,2,6,7,8,9,10,11,12,17,22,34] [] rfsZ Tryd.func22 rfl (by kernel_rfl) (by kernel_rfl)
theorem code_annotate_finder_step:CodeOf Tryd.prog 23 2 12 [22003,4] (x_annotate_finder_step 39) :=
  CodeOf.of [0,1,3,4,5,7,8,12,13,14,15,25] [] rfsZ Tryd.func23 rfl (by kernel_rfl) (by kernel_rfl)
theorem code_gen_Files:CodeOf Tryd.prog 32 3 9 [3] (x_gen_Files 21 16) :=
  CodeOf.of [0,1,2,6,7,8,9,12,21] [8] rfsZ Tryd.func32 rfl (by kernel_rfl) (by kernel_rfl)
theorem code_gen_change:CodeOf Tryd.prog 33 4 13 [4] (x_gen_change 21 14 17 32) :=
  CodeOf.of [0,1,2,3,8,9,10,11,12,21,30,43,50] [9] rfsZ Tryd.func33 rfl (by kernel_rfl) (by kernel_rfl)
theorem code_gen_Turned:CodeOf Tryd.prog 34 2 11 [2] (x_gen_Turned 21) :=
  CodeOf.of [0,1,4,5,6,7,8,9,13,21,36] [] rfsZ Tryd.func34 rfl (by kernel_rfl) (by kernel_rfl)
theorem code_ref23_Reach:CodeOf Tryd.prog 11 2 12 [2] x_ref23_Reach :=
  CodeOf.of [0,1,4,5,6,7,8,9,16,28,34,50] [] rfsZ Tryd.func11 rfl (by kernel_rfl) (by kernel_rfl)
theorem code_linelog_follow:CodeOf Tryd.prog 31 4 21 [5,6] (x_linelog_follow 35 36 37 43 44 45) :=
  CodeOf.of [0,1,2,3,7,8,9,10,11,12,13,14,17,21,26,37,40,80,81,82,83] [] rfsZ Tryd.func31 rfl (by kernel_rfl) (by kernel_rfl)
theorem code_ref02_Split:CodeOf Tryd.prog 25 1 4 [1,2] (x_ref02_Split 40 10) :=
  CodeOf.of [0,2,3,6] [] rfsZ Tryd.func25 rfl (by kernel_rfl) (by kernel_rfl)
theorem code_ref09_Lines:CodeOf Tryd.prog 26 2 4 [2] (x_ref09_Lines 41 42) :=
  CodeOf.of [0,1,4,5] [] rfsZ Tryd.func26 rfl (by kernel_rfl) (by kernel_rfl)
theorem code_dag_Check:CodeOf Tryd.prog 35 1 13 [1] (x_dag_Check 46 47 48 51 49 50) :=
  CodeOf.of [0,2,4,5,6,10,14,21,24,25,26,27,34] [] rfsZ Tryd.func35 rfl (by kernel_rfl) (by kernel_rfl)
theorem code_dag_Is:CodeOf Tryd.prog 36 2 3 [2] x_dag_Is :=
  CodeOf.of [0,1,4] [] rfsZ Tryd.func36 rfl (by kernel_rfl) (by kernel_rfl)
theorem code_tree_Find:CodeOf Tryd.prog 37 2 10 [2,3] x_tree_Find :=
  CodeOf.of [0,1,4,5,7,8,9,10,11,17] [] rfsZ Tryd.func37 rfl (by kernel_rfl) (by kernel_rfl)
theorem code_text_Split:CodeOf Tryd.prog 38 1 7 [1,2] (x_text_Split 52 53) :=
  CodeOf.of [0,2,3,4,5,9,19] [] rfsZ Tryd.func38 rfl (by kernel_rfl) (by kernel_rfl)
theorem code_annotate_finder_sources:CodeOf Tryd.prog 39 2 16 [2] (x_annotate_finder_sources 37 54) :=
  CodeOf.of [0,1,4,5,6,7,9,11,12,13,23,48,49,50,51,70] [9,1000000] rfsZ Tryd.func39 rfl (by kernel_rfl) (by kernel_rfl)
theorem code_ref29_Partner:CodeOf Tryd.prog 13 3 8 [3] (x_ref29_Partner 27) :=
  CodeOf.of [0,1,2,6,7,8,15,24] [] rfsZ Tryd.func13 rfl (by kernel_rfl) (by kernel_rfl)
theorem code_gen_Blob:CodeOf Tryd.prog 16 4 9 [4] (x_gen_Blob 21 14 28) :=
  CodeOf.of [0,1,2,3,8,9,10,19,52] [] rfsZ Tryd.func16 rfl (by kernel_rfl) (by kernel_rfl)
theorem code_gen_Near:CodeOf Tryd.prog 17 3 11 [3] (x_gen_Near 10 21 28) :=
  CodeOf.of [0,1,2,6,7,8,9,15,23,24,26] [] rfsZ Tryd.func17 rfl (by kernel_rfl) (by kernel_rfl)
theorem code_ref02_Check:CodeOf Tryd.prog 40 1 3 [1] (x_ref02_Check 10) :=
  CodeOf.of [0,2,11] [] rfsZ Tryd.func40 rfl (by kernel_rfl) (by kernel_rfl)
theorem code_linelog_lines:CodeOf Tryd.prog 43 1 3 [1] (x_linelog_lines 38) :=
  CodeOf.of [0,2,3] [] rfsZ Tryd.func43 rfl (by kernel_rfl) (by kernel_rfl)
theorem code_walk_Order:CodeOf Tryd.prog 44 2 31 [2,3] (x_walk_Order 35 36 59 61 62 63 60 121) :=
  CodeOf.of [0,1,4,5,6,8,9,10,11,12,13,14,15,17,21,23,24,25,26,32,42,43,44,45,50,59,72,73,74,75,88] [14] rfsZ Tryd.func44 rfl (by kernel_rfl) (by kernel_rfl)
theorem code_linelog_tracker_visit:CodeOf Tryd.prog 45 2 14 [] (x_linelog_tracker_visit 37 64) :=
  CodeOf.of [0,1,4,5,6,7,9,46,83,84,85,86,93,95] [] rfsZ Tryd.func45 rfl (by kernel_rfl) (by kernel_rfl)
theorem code_ref03_Ids:CodeOf Tryd.prog 41 1 9 [1] (x_ref03_Ids 55 56) :=
  CodeOf.of [0,2,3,4,5,6,7,13,23] [4,6] rfsZ Tryd.func41 rfl (by kernel_rfl) (by kernel_rfl)
theorem code_ref09_Walk:CodeOf Tryd.prog 42 2 10 [2] (x_ref09_Walk 57 58) :=
  CodeOf.of [0,1,4,5,6,7,8,21,24,56] [6] rfsZ Tryd.func42 rfl (by kernel_rfl) (by kernel_rfl)
theorem code_dag_limited:CodeOf Tryd.prog 46 1 2 [1] (x_dag_limited 49 65) :=
  CodeOf.of [0,2] [] rfsZ Tryd.func46 rfl (by kernel_rfl) (by kernel_rfl)
theorem code_dag_related:CodeOf Tryd.prog 47 1 14 [1] (x_dag_related 66) :=
  CodeOf.of [0,2,4,5,6,7,8,9,10,14,15,16,17,36] [] rfsZ Tryd.func47 rfl (by kernel_rfl) (by kernel_rfl)
theorem code_dag_Upward:CodeOf Tryd.prog 48 1 29 [1] x_dag_Upward :=
  CodeOf.of [0,2,3,5,7,8,9,10,11,13,17,18,19,20,24,25,26,27,38,39,40,41,46,55,65,66,67,68,81] [8] rfsZ Tryd.func48 rfl (by kernel_rfl) (by kernel_rfl)
theorem code_slices_ContainsFunc_Commit_Commit:CodeOf Tryd.prog 49 2 3 [2] (x_slices_ContainsFunc_Commit_Commit 67) :=
  CodeOf.of [0,1,4] [] rfsZ Tryd.func49 rfl (by kernel_rfl) (by kernel_rfl)
theorem code_dag_Check_1:CodeOf Tryd.prog 50 1 3 [2] x_dag_Check_1 :=
  CodeOf.of [0,1,2] [] rfsZ Tryd.func50 rfl (by kernel_rfl) (by kernel_rfl)
theorem code_tree_Check:CodeOf Tryd.prog 51 1 6 [1] (x_tree_Check 71 68 69 72) :=
  CodeOf.of [0,2,3,7,10,14] [] rfsZ Tryd.func51 rfl (by kernel_rfl) (by kernel_rfl)
theorem code_text_Check:CodeOf Tryd.prog 52 1 5 [1] (x_text_Check 73 74) :=
  CodeOf.of [0,2,3,12,21] [] rfsZ Tryd.func52 rfl (by kernel_rfl) (by kernel_rfl)
theorem code_annotate_partners:CodeOf Tryd.prog 54 2 18 [2] (x_annotate_partners 38 76 77 78) :=
  CodeOf.of [0,1,4,5,7,9,10,12,14,15,17,55,56,57,63,64,65,66] [] rfsZ Tryd.func54 rfl (by kernel_rfl) (by kernel_rfl)
theorem code_gen_Line:CodeOf Tryd.prog 28 1 2 [1] (x_gen_Line 14) :=
  CodeOf.of [0,2] [] rfsZ Tryd.func28 rfl (by kernel_rfl) (by kernel_rfl)
theorem code_walk_history_children:CodeOf Tryd.prog 59 2 22 [2] (x_walk_history_children 79) :=
  CodeOf.of [0,1,4,5,6,7,8,10,11,13,18,19,20,27,28,29,30,39,55,56,57,58] [] rfsZ Tryd.func59 rfl (by kernel_rfl) (by kernel_rfl)
theorem code_walk_history_before:CodeOf Tryd.prog 60 3 5 [3] x_walk_history_before :=
  CodeOf.of [0,1,2,6,17] [] rfsZ Tryd.func60 rfl (by kernel_rfl) (by kernel_rfl)
theorem code_container_heap_Push:CodeOf Tryd.prog 61 2 2 [] (x_container_heap_Push 80 121 141 62) :=
  CodeOf.of [0,1] [] rfsZ Tryd.func61 rfl (by kernel_rfl) (by kernel_rfl)
theorem code_walk_queue_Len:CodeOf Tryd.prog 62 1 2 [1] x_walk_queue_Len :=
  CodeOf.of [0,2] [] rfsZ Tryd.func62 rfl (by kernel_rfl) (by kernel_rfl)
theorem code_container_heap_Pop:CodeOf Tryd.prog 63 1 3 [1] (x_container_heap_Pop 81 121 62 142 140) :=
  CodeOf.of [0,2,3] [] rfsZ Tryd.func63 rfl (by kernel_rfl) (by kernel_rfl)
theorem code_linelog_tracker_hand:CodeOf Tryd.prog 64 4 16 [4] (x_linelog_tracker_hand 37 43 76 77 82 83 84) :=
  CodeOf.of [0,1,2,3,8,9,10,11,12,13,14,16,17,19,38,78] [] rfsZ Tryd.func64 rfl (by kernel_rfl) (by kernel_rfl)
theorem code_ref03_Names:CodeOf Tryd.prog 55 1 8 [1] (x_ref03_Names 56) :=
  CodeOf.of [0,2,3,4,5,9,18,30] [3] rfsZ Tryd.func55 rfl (by kernel_rfl) (by kernel_rfl)
theorem code_ref03_place:CodeOf Tryd.prog 56 2 6 [2] x_ref03_place :=
  CodeOf.of [0,1,4,5,9,17] [] rfsZ Tryd.func56 rfl (by kernel_rfl) (by kernel_rfl)
theorem code_ref09_Table:CodeOf Tryd.prog 57 2 11 [2] x_ref09_Table :=
  CodeOf.of [0,1,4,5,6,7,15,28,55,70,85] [] rfsZ Tryd.func57 rfl (by kernel_rfl) (by kernel_rfl)
theorem code_ref08_Made:CodeOf Tryd.prog 58 3 12 [3] x_ref08_Made :=
  CodeOf.of [0,1,2,6,7,8,9,10,11,15,24,38] [7] rfsZ Tryd.func58 rfl (by kernel_rfl) (by kernel_rfl)
theorem code_dag_limited_1:CodeOf Tryd.prog 65 1 3 [2] x_dag_limited_1 :=
  CodeOf.of [0,1,2] [] rfsZ Tryd.func65 rfl (by kernel_rfl) (by kernel_rfl)
theorem code_slices_Contains_int_int:CodeOf Tryd.prog 66 2 3 [2] (x_slices_Contains_int_int 85) :=
  CodeOf.of [0,1,4] [] rfsZ Tryd.func66 rfl (by kernel_rfl) (by kernel_rfl)
theorem code_slices_IndexFunc_Commit_Commit:CodeOf Tryd.prog 67 2 8 [2] x_slices_IndexFunc_Commit_Commit :=
  CodeOf.of [0,1,4,5,7,8,9,16] [] rfsZ Tryd.func67 rfl (by kernel_rfl) (by kernel_rfl)
theorem code_slices_ContainsFunc_File_File:CodeOf Tryd.prog 68 2 3 [2] (x_slices_ContainsFunc_File_File 86) :=
  CodeOf.of [0,1,4] [] rfsZ Tryd.func68 rfl (by kernel_rfl) (by kernel_rfl)
theorem code_tree_Check_1:CodeOf Tryd.prog 69 1 3 [2] (x_tree_Check_1 70) :=
  CodeOf.of [0,1,2] [] rfsZ Tryd.func69 rfl (by kernel_rfl) (by kernel_rfl)
theorem code_tree_ordered:CodeOf Tryd.prog 71 1 10 [1] (x_tree_ordered 89 90) :=
  CodeOf.of [0,2,3,4,5,8,9,10,11,33] [] rfsZ Tryd.func71 rfl (by kernel_rfl) (by kernel_rfl)
theorem code_tree_Check_2:CodeOf Tryd.prog 72 1 3 [2] (x_tree_Check_2 52) :=
  CodeOf.of [0,1,2] [] rfsZ Tryd.func72 rfl (by kernel_rfl) (by kernel_rfl)
theorem code_text_Ended:CodeOf Tryd.prog 74 1 2 [1] (x_text_Ended 94) :=
  CodeOf.of [0,2] [] rfsZ Tryd.func74 rfl (by kernel_rfl) (by kernel_rfl)
theorem code_intern_Ids:CodeOf Tryd.prog 76 1 3 [1] (x_intern_Ids 96) :=
  CodeOf.of [0,2,3] [] rfsZ Tryd.func76 rfl (by kernel_rfl) (by kernel_rfl)
theorem code_shortest_Script:CodeOf Tryd.prog 77 2 5 [2,3] (x_shortest_Script 97 99 98) :=
  CodeOf.of [0,1,4,5,9] [] rfsZ Tryd.func77 rfl (by kernel_rfl) (by kernel_rfl)
theorem code_script_Pairs:CodeOf Tryd.prog 78 3 7 [3,4] (x_script_Pairs 100 101) :=
  CodeOf.of [0,1,2,6,7,8,14] [] rfsZ Tryd.func78 rfl (by kernel_rfl) (by kernel_rfl)
theorem code_walk_history_children_1:CodeOf Tryd.prog 79 3 4 [] x_walk_history_children_1 :=
  CodeOf.of [0,1,2,8] [] rfsZ Tryd.func79 rfl (by kernel_rfl) (by kernel_rfl)
theorem code_container_heap_up:CodeOf Tryd.prog 80 2 4 [] (x_container_heap_up 121 139 142) :=
  CodeOf.of [0,1,4,17] [] rfsZ Tryd.func80 rfl (by kernel_rfl) (by kernel_rfl)
theorem code_container_heap_down:CodeOf Tryd.prog 81 3 11 [3] (x_container_heap_down 121 139 142) :=
  CodeOf.of [0,1,2,6,7,8,9,10,21,33,39] [] rfsZ Tryd.func81 rfl (by kernel_rfl) (by kernel_rfl)
theorem code_track_Back:CodeOf Tryd.prog 82 4 19 [22005,6,7] (x_track_Back 102 83) :=
  CodeOf.of [0,1,2,3,7,8,9,10,11,12,13,14,16,26,29,30,31,32,36] [] rfsZ Tryd.func82 rfl (by kernel_rfl) (by kernel_rfl)
theorem code_track_Hull:CodeOf Tryd.prog 83 2 8 [22004] x_track_Hull :=
  CodeOf.of [0,1,2,3,4,5,19,26] [] rfsZ Tryd.func83 rfl (by kernel_rfl) (by kernel_rfl)
theorem code_track_Touches:CodeOf Tryd.prog 84 4 17 [5,6] (x_track_Touches 102) :=
  CodeOf.of [0,1,2,3,7,8,9,10,11,12,13,23,25,26,27,28,47] [] rfsZ Tryd.func84 rfl (by kernel_rfl) (by kernel_rfl)
theorem code_slices_Index_int_int:CodeOf Tryd.prog 85 2 8 [2] x_slices_Index_int_int :=
  CodeOf.of [0,1,4,5,7,8,9,16] [] rfsZ Tryd.func85 rfl (by kernel_rfl) (by kernel_rfl)
theorem code_slices_IndexFunc_File_File:CodeOf Tryd.prog 86 2 8 [2] x_slices_IndexFunc_File_File :=
  CodeOf.of [0,1,4,5,7,8,9,16] [] rfsZ Tryd.func86 rfl (by kernel_rfl) (by kernel_rfl)
theorem code_tree_blobs:CodeOf Tryd.prog 89 1 8 [1] x_tree_blobs :=
  CodeOf.of [0,2,3,5,7,8,9,10] [] rfsZ Tryd.func89 rfl (by kernel_rfl) (by kernel_rfl)
theorem code_tree_nested:CodeOf Tryd.prog 90 2 9 [2] x_tree_nested :=
  CodeOf.of [0,1,4,5,7,9,10,11,27] [] rfsZ Tryd.func90 rfl (by kernel_rfl) (by kernel_rfl)
theorem code_intern_number:CodeOf Tryd.prog 96 1 16 [1,2] (x_intern_number 107) :=
  CodeOf.of [0,2,3,4,5,6,7,9,16,17,18,19,23,24,25,26] [] rfsZ Tryd.func96 rfl (by kernel_rfl) (by kernel_rfl)
theorem code_shortest_limited:CodeOf Tryd.prog 97 2 3 [2] x_shortest_limited :=
  CodeOf.of [0,1,4] [] rfsZ Tryd.func97 rfl (by kernel_rfl) (by kernel_rfl)
theorem code_script_FromPairs:CodeOf Tryd.prog 98 3 13 [3,4] (x_script_FromPairs 108 109) :=
  CodeOf.of [0,1,2,6,7,8,10,18,20,21,22,23,49] [] rfsZ Tryd.func98 rfl (by kernel_rfl) (by kernel_rfl)
theorem code_shortest_walk:CodeOf Tryd.prog 99 2 17 [3] (x_shortest_walk 110 111 112) :=
  CodeOf.of [0,1,3,4,5,6,7,8,9,10,11,15,16,17,45,48,84] [5] rfsZ Tryd.func99 rfl (by kernel_rfl) (by kernel_rfl)
theorem code_script_Check:CodeOf Tryd.prog 100 3 17 [3] (x_script_Check 108) :=
  CodeOf.of [0,1,2,6,7,8,9,10,11,19,20,21,22,23,56,72,95] [] rfsZ Tryd.func100 rfl (by kernel_rfl) (by kernel_rfl)
theorem code_script_pairs:CodeOf Tryd.prog 101 2 12 [2] (x_script_pairs 113) :=
  CodeOf.of [0,1,4,5,6,7,8,10,12,13,14,15] [] rfsZ Tryd.func101 rfl (by kernel_rfl) (by kernel_rfl)
theorem code_track_partners:CodeOf Tryd.prog 102 4 22 [5,6] (x_track_partners 78) :=
  CodeOf.of [0,1,2,3,7,8,9,10,11,12,13,15,24,41,49,50,51,57,58,59,60,74] [] rfsZ Tryd.func102 rfl (by kernel_rfl) (by kernel_rfl)
theorem code_intern_table_id:CodeOf Tryd.prog 107 2 6 [2] x_intern_table_id :=
  CodeOf.of [0,1,4,5,6,17] [] rfsZ Tryd.func107 rfl (by kernel_rfl) (by kernel_rfl)
theorem code_script_length:CodeOf Tryd.prog 108 1 2 [1] x_script_length :=
  CodeOf.of [0,2] [] rfsZ Tryd.func108 rfl (by kernel_rfl) (by kernel_rfl)
theorem code_script_fromPairs:CodeOf Tryd.prog 109 3 13 [3] (x_script_fromPairs 120) :=
  CodeOf.of [0,1,2,6,7,8,9,11,18,19,20,21,33] [7] rfsZ Tryd.func109 rfl (by kernel_rfl) (by kernel_rfl)
theorem code_shortest_beginning:CodeOf Tryd.prog 110 2 5 [2] x_shortest_beginning :=
  CodeOf.of [0,1,4,5,26] [] rfsZ Tryd.func110 rfl (by kernel_rfl) (by kernel_rfl)
theorem code_shortest_distances:CodeOf Tryd.prog 111 2 16 [2] x_shortest_distances :=
  CodeOf.of [0,1,4,5,6,7,8,9,10,11,22,23,24,44,79,90] [] rfsZ Tryd.func111 rfl (by kernel_rfl) (by kernel_rfl)
theorem code_shortest_walk_1:CodeOf Tryd.prog 112 4 5 [4] x_shortest_walk_1 :=
  CodeOf.of [0,1,2,3,6] [] rfsZ Tryd.func112 rfl (by kernel_rfl) (by kernel_rfl)
theorem code_script_pairs_1:CodeOf Tryd.prog 113 4 5 [] x_script_pairs_1 :=
  CodeOf.of [0,1,2,3,7] [] rfsZ Tryd.func113 rfl (by kernel_rfl) (by kernel_rfl)
theorem code_slices_Clip_Span_Span:CodeOf Tryd.prog 120 1 2 [1] x_slices_Clip_Span_Span :=
  CodeOf.of [0,2] [] rfsZ Tryd.func120 rfl (by kernel_rfl) (by kernel_rfl)
theorem code_walk_queue_Less:CodeOf Tryd.prog 139 3 4 [3] x_walk_queue_Less :=
  CodeOf.of [0,1,2,6] [] rfsZ Tryd.func139 rfl (by kernel_rfl) (by kernel_rfl)
theorem code_walk_queue_Pop:CodeOf Tryd.prog 140 1 4 [1] x_walk_queue_Pop :=
  CodeOf.of [0,2,3,4] [] rfsZ Tryd.func140 rfl (by kernel_rfl) (by kernel_rfl)
theorem code_walk_queue_Push:CodeOf Tryd.prog 141 2 2 [] x_walk_queue_Push :=
  CodeOf.of [0,1] [] rfsZ Tryd.func141 rfl (by kernel_rfl) (by kernel_rfl)
theorem code_walk_queue_Swap:CodeOf Tryd.prog 142 3 3 [] x_walk_queue_Swap :=
  CodeOf.of [0,1,2] [] rfsZ Tryd.func142 rfl (by kernel_rfl) (by kernel_rfl)
theorem code_strings_SplitAfter:CodeOf Tryd.prog 53 2 3 [2] (x_strings_SplitAfter 75) :=
  CodeOf.of [0,1,4] [] rfsZ Tryd.func53 rfl (by kernel_rfl) (by kernel_rfl)
theorem code_law31_AnnotateOrigins:CodeOf Tryd.prog 3 2 28 [2] (x_law31_AnnotateOrigins 6 7 8 9 10 11 12 13) :=
  CodeOf.of [0,1,4,5,6,7,8,9,10,11,12,13,14,15,16,18,19,20,21,22,40,57,73,81,105,140,149,186] [] rfsZ Tryd.func3 rfl (by kernel_rfl) (by kernel_rfl)
theorem code_law31_AnnotateSteps:CodeOf Tryd.prog 4 3 17 [3] (x_law31_AnnotateSteps 6 7 8 14 15) :=
  CodeOf.of [0,1,2,6,7,8,9,10,11,12,13,14,15,16,37,53,55] [] rfsZ Tryd.func4 rfl (by kernel_rfl) (by kernel_rfl)
theorem code_law30_LinelogChain:CodeOf Tryd.prog 5 4 20 [4] (x_law30_LinelogChain 14 16 17 10 18 19) :=
  CodeOf.of [0,1,2,3,8,9,10,11,12,13,14,15,16,17,25,33,60,107,111,169] [9] rfsZ Tryd.func5 rfl (by kernel_rfl) (by kernel_rfl)
end Go.AE
