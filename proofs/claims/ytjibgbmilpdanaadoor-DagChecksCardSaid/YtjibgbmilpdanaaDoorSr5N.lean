/-
  The code of the functions of this seat.
-/
import Derived.Test.YtjibgbmilpdanaaDoorCode1
import Derived.Test.YtjibgbmilpdanaaDoorProg

set_option linter.unusedSimpArgs false
set_option linter.unusedVariables false
set_option linter.unnecessarySimpa false
set_option maxRecDepth 100000
open Go Go.Proofs
namespace Go.AE
def rfsZ:List (Nat × Nat):=[(44,0),(30,0),(29,0),(45,0),(36,0),(37,0),(46,0),(58,0),(47,0),(50,0),(61,1),(62,0),(40,0),(41,0),(10,1),(25,1)]
theorem code_law23own_DagChecks:CodeOf Tryd.prog 3 6 17 [6] (x_law23own_DagChecks 8 9 11 12 13 14 10) :=
  CodeOf.of [0,1,2,3,4,5,12,13,14,15,18,24,32,33,52,58,70] [62,74,1000000] rfsZ Tryd.func3 rfl (by kernel_rfl) (by kernel_rfl)
theorem code_law23_small:CodeOf Tryd.prog 8 1 6 [1] x_law23_small :=
  CodeOf.of [0,2,3,6,10,28] [] rfsZ Tryd.func8 rfl (by kernel_rfl) (by kernel_rfl)
theorem code_law23_awake:CodeOf Tryd.prog 9 0 5 [0] (x_law23_awake 16 13 22) :=
  CodeOf.of [0,1,2,3,4] [] rfsZ Tryd.func9 rfl (by kernel_rfl) (by kernel_rfl)
theorem code_genown_Graph:CodeOf Tryd.prog 10 3 13 [3] (x_genown_Graph 15 11 23 24 25) :=
  CodeOf.of [0,1,2,6,7,8,9,10,19,30,47,69,92] [7] [(44,0),(30,0),(29,0),(45,0),(36,0),(37,0),(46,0),(58,0),(47,0),(50,0),(61,1),(62,0),(40,0),(41,0),(10,1),(25,1),(4000000,0)] Tryd.func10 rfl (by kernel_rfl) (by kernel_rfl)
theorem code_gen_Mod:CodeOf Tryd.prog 11 2 3 [2] x_gen_Mod :=
  CodeOf.of [0,1,4] [] rfsZ Tryd.func11 rfl (by kernel_rfl) (by kernel_rfl)
theorem code_law23_loose:CodeOf Tryd.prog 12 2 9 [2] (x_law23_loose 11 15) :=
  CodeOf.of [0,1,4,5,6,7,8,13,27] [5] rfsZ Tryd.func12 rfl (by kernel_rfl) (by kernel_rfl)
theorem code_dag_Check:CodeOf Tryd.prog 13 1 13 [1] (x_dag_Check 26 27 28 31 29 30) :=
  CodeOf.of [0,2,4,5,6,10,14,21,24,25,26,27,34] [] rfsZ Tryd.func13 rfl (by kernel_rfl) (by kernel_rfl)
theorem code_ref23_Check:CodeOf Tryd.prog 14 1 22 [1] (x_ref23_Check 32 33 34) :=
  CodeOf.of [0,2,3,4,5,6,7,8,9,10,13,17,26,30,40,69,73,94,98,114,118,128] [] rfsZ Tryd.func14 rfl (by kernel_rfl) (by kernel_rfl)
theorem code_gen_At:CodeOf Tryd.prog 15 2 5 [2] x_gen_At :=
  CodeOf.of [0,1,4,5,12] [] rfsZ Tryd.func15 rfl (by kernel_rfl) (by kernel_rfl)
theorem code_dag_Children:CodeOf Tryd.prog 16 2 9 [4,5] (x_dag_Children 13 35 36 37) :=
  CodeOf.of [0,1,2,3,4,5,6,10,15] [] rfsZ Tryd.func16 rfl (by kernel_rfl) (by kernel_rfl)
theorem code_ref23_Children:CodeOf Tryd.prog 17 2 7 [2,3] (x_ref23_Children 14 39) :=
  CodeOf.of [0,1,4,5,6,10,19] [] rfsZ Tryd.func17 rfl (by kernel_rfl) (by kernel_rfl)
theorem code_dag_Roots:CodeOf Tryd.prog 18 1 6 [2,3] (x_dag_Roots 13 36 40) :=
  CodeOf.of [0,1,2,3,4,8] [] rfsZ Tryd.func18 rfl (by kernel_rfl) (by kernel_rfl)
theorem code_ref23_Roots:CodeOf Tryd.prog 19 1 9 [1,2] (x_ref23_Roots 14) :=
  CodeOf.of [0,2,3,4,5,6,10,15,24] [5] rfsZ Tryd.func19 rfl (by kernel_rfl) (by kernel_rfl)
theorem code_dag_Heads:CodeOf Tryd.prog 20 1 16 [1,2] (x_dag_Heads 13 36 41) :=
  CodeOf.of [0,2,3,4,5,7,9,13,18,19,20,21,25,26,27,28] [] rfsZ Tryd.func20 rfl (by kernel_rfl) (by kernel_rfl)
theorem code_ref23_Heads:CodeOf Tryd.prog 21 1 9 [1,2] (x_ref23_Heads 14 39) :=
  CodeOf.of [0,2,3,4,5,6,10,15,22] [5] rfsZ Tryd.func21 rfl (by kernel_rfl) (by kernel_rfl)
theorem code_gen_Ints:CodeOf Tryd.prog 22 2 7 [2] x_gen_Ints :=
  CodeOf.of [0,1,4,5,10,14,25] [] rfsZ Tryd.func22 rfl (by kernel_rfl) (by kernel_rfl)
theorem code_gen_Files:CodeOf Tryd.prog 23 3 9 [3] (x_gen_Files 15 42) :=
  CodeOf.of [0,1,2,6,7,8,9,12,21] [8] rfsZ Tryd.func23 rfl (by kernel_rfl) (by kernel_rfl)
theorem code_gen_change:CodeOf Tryd.prog 24 4 13 [4] (x_gen_change 15 11 43 23) :=
  CodeOf.of [0,1,2,3,8,9,10,11,12,21,30,43,50] [9] rfsZ Tryd.func24 rfl (by kernel_rfl) (by kernel_rfl)
theorem code_genown_Turned:CodeOf Tryd.prog 25 2 11 [2] (x_genown_Turned 15) :=
  CodeOf.of [0,1,4,5,6,7,8,9,13,21,36] [] rfsZ Tryd.func25 rfl (by kernel_rfl) (by kernel_rfl)
theorem code_dag_limited:CodeOf Tryd.prog 26 1 2 [1] (x_dag_limited 29 44) :=
  CodeOf.of [0,2] [] rfsZ Tryd.func26 rfl (by kernel_rfl) (by kernel_rfl)
theorem code_dag_related:CodeOf Tryd.prog 27 1 14 [1] (x_dag_related 38) :=
  CodeOf.of [0,2,4,5,6,7,8,9,10,14,15,16,17,36] [] rfsZ Tryd.func27 rfl (by kernel_rfl) (by kernel_rfl)
theorem code_dag_Upward:CodeOf Tryd.prog 28 1 29 [1] x_dag_Upward :=
  CodeOf.of [0,2,3,5,7,8,9,10,11,13,17,18,19,20,24,25,26,27,38,39,40,41,46,55,65,66,67,68,81] [8] rfsZ Tryd.func28 rfl (by kernel_rfl) (by kernel_rfl)
theorem code_slices_ContainsFunc_Commit_Commit:CodeOf Tryd.prog 29 2 3 [2] (x_slices_ContainsFunc_Commit_Commit 45) :=
  CodeOf.of [0,1,4] [] rfsZ Tryd.func29 rfl (by kernel_rfl) (by kernel_rfl)
theorem code_dag_Check_1:CodeOf Tryd.prog 30 1 3 [2] x_dag_Check_1 :=
  CodeOf.of [0,1,2] [] rfsZ Tryd.func30 rfl (by kernel_rfl) (by kernel_rfl)
theorem code_tree_Check:CodeOf Tryd.prog 31 1 6 [1] (x_tree_Check 49 46 47 50) :=
  CodeOf.of [0,2,3,7,10,14] [] rfsZ Tryd.func31 rfl (by kernel_rfl) (by kernel_rfl)
theorem code_ref23_Has:CodeOf Tryd.prog 32 2 6 [2] x_ref23_Has :=
  CodeOf.of [0,1,4,5,9,17] [] rfsZ Tryd.func32 rfl (by kernel_rfl) (by kernel_rfl)
theorem code_ref23_Reach:CodeOf Tryd.prog 33 2 12 [2] x_ref23_Reach :=
  CodeOf.of [0,1,4,5,6,7,8,9,16,28,34,50] [] rfsZ Tryd.func33 rfl (by kernel_rfl) (by kernel_rfl)
theorem code_ref21_Check:CodeOf Tryd.prog 34 1 14 [1] (x_ref21_Check 52 53 54) :=
  CodeOf.of [0,2,3,4,5,6,9,13,22,26,31,57,61,70] [] rfsZ Tryd.func34 rfl (by kernel_rfl) (by kernel_rfl)
theorem code_dag_Is:CodeOf Tryd.prog 35 2 3 [2] x_dag_Is :=
  CodeOf.of [0,1,4] [] rfsZ Tryd.func35 rfl (by kernel_rfl) (by kernel_rfl)
theorem code_dag_where:CodeOf Tryd.prog 36 2 9 [2] x_dag_where :=
  CodeOf.of [0,1,4,5,6,8,9,10,14] [5,1000000] rfsZ Tryd.func36 rfl (by kernel_rfl) (by kernel_rfl)
theorem code_dag_Children_1:CodeOf Tryd.prog 37 3 4 [3] (x_dag_Children_1 38) :=
  CodeOf.of [0,1,2,4] [] rfsZ Tryd.func37 rfl (by kernel_rfl) (by kernel_rfl)
theorem code_slices_Contains_int_int:CodeOf Tryd.prog 38 2 3 [2] (x_slices_Contains_int_int 55) :=
  CodeOf.of [0,1,4] [] rfsZ Tryd.func38 rfl (by kernel_rfl) (by kernel_rfl)
theorem code_ref23_Kids:CodeOf Tryd.prog 39 2 7 [2] (x_ref23_Kids 32) :=
  CodeOf.of [0,1,4,5,6,10,19] [5] rfsZ Tryd.func39 rfl (by kernel_rfl) (by kernel_rfl)
theorem code_dag_Roots_1:CodeOf Tryd.prog 40 2 3 [2] x_dag_Roots_1 :=
  CodeOf.of [0,1,3] [] rfsZ Tryd.func40 rfl (by kernel_rfl) (by kernel_rfl)
theorem code_dag_Heads_1:CodeOf Tryd.prog 41 2 3 [2] x_dag_Heads_1 :=
  CodeOf.of [0,1,3] [] rfsZ Tryd.func41 rfl (by kernel_rfl) (by kernel_rfl)
theorem code_gen_Blob:CodeOf Tryd.prog 42 4 9 [4] (x_gen_Blob 15 11 56) :=
  CodeOf.of [0,1,2,3,8,9,10,19,52] [] rfsZ Tryd.func42 rfl (by kernel_rfl) (by kernel_rfl)
theorem code_gen_Near:CodeOf Tryd.prog 43 3 11 [3] (x_gen_Near 57 15 56) :=
  CodeOf.of [0,1,2,6,7,8,9,15,23,24,26] [] rfsZ Tryd.func43 rfl (by kernel_rfl) (by kernel_rfl)
theorem code_dag_limited_1:CodeOf Tryd.prog 44 1 3 [2] x_dag_limited_1 :=
  CodeOf.of [0,1,2] [] rfsZ Tryd.func44 rfl (by kernel_rfl) (by kernel_rfl)
theorem code_slices_IndexFunc_Commit_Commit:CodeOf Tryd.prog 45 2 8 [2] x_slices_IndexFunc_Commit_Commit :=
  CodeOf.of [0,1,4,5,7,8,9,16] [] rfsZ Tryd.func45 rfl (by kernel_rfl) (by kernel_rfl)
theorem code_slices_ContainsFunc_File_File:CodeOf Tryd.prog 46 2 3 [2] (x_slices_ContainsFunc_File_File 58) :=
  CodeOf.of [0,1,4] [] rfsZ Tryd.func46 rfl (by kernel_rfl) (by kernel_rfl)
theorem code_tree_Check_1:CodeOf Tryd.prog 47 1 3 [2] (x_tree_Check_1 48) :=
  CodeOf.of [0,1,2] [] rfsZ Tryd.func47 rfl (by kernel_rfl) (by kernel_rfl)
theorem code_tree_ordered:CodeOf Tryd.prog 49 1 10 [1] (x_tree_ordered 61 62) :=
  CodeOf.of [0,2,3,4,5,8,9,10,11,33] [] rfsZ Tryd.func49 rfl (by kernel_rfl) (by kernel_rfl)
theorem code_tree_Check_2:CodeOf Tryd.prog 50 1 3 [2] (x_tree_Check_2 51) :=
  CodeOf.of [0,1,2] [] rfsZ Tryd.func50 rfl (by kernel_rfl) (by kernel_rfl)
theorem code_text_Check:CodeOf Tryd.prog 51 1 5 [1] (x_text_Check 63 64) :=
  CodeOf.of [0,2,3,12,21] [] rfsZ Tryd.func51 rfl (by kernel_rfl) (by kernel_rfl)
theorem code_ref21_CheckPath:CodeOf Tryd.prog 52 1 9 [1] x_ref21_CheckPath :=
  CodeOf.of [0,2,3,4,12,16,28,38,55] [] rfsZ Tryd.func52 rfl (by kernel_rfl) (by kernel_rfl)
theorem code_ref21_Above:CodeOf Tryd.prog 53 2 3 [2] x_ref21_Above :=
  CodeOf.of [0,1,4] [] rfsZ Tryd.func53 rfl (by kernel_rfl) (by kernel_rfl)
theorem code_ref02_Check:CodeOf Tryd.prog 54 1 3 [1] (x_ref02_Check 57) :=
  CodeOf.of [0,2,11] [] rfsZ Tryd.func54 rfl (by kernel_rfl) (by kernel_rfl)
theorem code_slices_Index_int_int:CodeOf Tryd.prog 55 2 8 [2] x_slices_Index_int_int :=
  CodeOf.of [0,1,4,5,7,8,9,16] [] rfsZ Tryd.func55 rfl (by kernel_rfl) (by kernel_rfl)
theorem code_gen_Line:CodeOf Tryd.prog 56 1 2 [1] (x_gen_Line 11) :=
  CodeOf.of [0,2] [] rfsZ Tryd.func56 rfl (by kernel_rfl) (by kernel_rfl)
theorem code_ref02_Lines:CodeOf Tryd.prog 57 1 7 [1] x_ref02_Lines :=
  CodeOf.of [0,2,3,4,5,9,22] [3] rfsZ Tryd.func57 rfl (by kernel_rfl) (by kernel_rfl)
theorem code_slices_IndexFunc_File_File:CodeOf Tryd.prog 58 2 8 [2] x_slices_IndexFunc_File_File :=
  CodeOf.of [0,1,4,5,7,8,9,16] [] rfsZ Tryd.func58 rfl (by kernel_rfl) (by kernel_rfl)
theorem code_tree_blobs:CodeOf Tryd.prog 61 1 8 [1] x_tree_blobs :=
  CodeOf.of [0,2,3,5,7,8,9,10] [] rfsZ Tryd.func61 rfl (by kernel_rfl) (by kernel_rfl)
theorem code_tree_nested:CodeOf Tryd.prog 62 2 9 [2] x_tree_nested :=
  CodeOf.of [0,1,4,5,7,9,10,11,27] [] rfsZ Tryd.func62 rfl (by kernel_rfl) (by kernel_rfl)
theorem code_text_Ended:CodeOf Tryd.prog 64 1 2 [1] (x_text_Ended 69) :=
  CodeOf.of [0,2] [] rfsZ Tryd.func64 rfl (by kernel_rfl) (by kernel_rfl)
end Go.AE
