/-
  The code of the functions of this seat.
-/
import Derived.Test.YtoalcbdgfahikaaCode1
import Derived.Test.YtoalcbdgfahikaaProg

set_option linter.unusedSimpArgs false
set_option linter.unusedVariables false
set_option linter.unnecessarySimpa false
set_option maxRecDepth 100000
open Go Go.Proofs
namespace Go.AE
def rfsZ:List (Nat × Nat):=[(56,1),(49,0),(54,0)]
theorem code_law09_ShortestMetric:CodeOf Try.prog 3 2 16 [2] (x_law09_ShortestMetric 13 16 15 14 17 18 19) :=
  CodeOf.of [0,1,4,5,6,7,8,9,10,11,12,13,14,15,16,17] [] rfsZ Try.func3 rfl (by kernel_rfl) (by kernel_rfl)
theorem code_law09_ShortestPrefix:CodeOf Try.prog 4 3 17 [3] (x_law09_ShortestPrefix 13 15 14 20 19) :=
  CodeOf.of [0,1,2,6,7,8,9,10,11,12,13,14,15,16,60,64,86] [] rfsZ Try.func4 rfl (by kernel_rfl) (by kernel_rfl)
theorem code_law09_ShortestScripts:CodeOf Try.prog 5 4 24 [4] (x_law09_ShortestScripts 19 13 20 21 17 22 23 24 25) :=
  CodeOf.of [0,1,2,3,8,9,10,11,12,13,14,15,16,17,18,19,20,21,22,23,24,25,26,34] [] rfsZ Try.func5 rfl (by kernel_rfl) (by kernel_rfl)
theorem code_law09_ShortestLeast:CodeOf Try.prog 6 3 23 [3] (x_law09_ShortestLeast 13 20 17 23 26 27 15 19) :=
  CodeOf.of [0,1,2,6,7,8,9,10,11,12,13,14,15,16,17,18,19,20,21,22,63,77,115] [] rfsZ Try.func6 rfl (by kernel_rfl) (by kernel_rfl)
theorem code_law09_ShortestLimits:CodeOf Try.prog 7 1 11 [1] (x_law09_ShortestLimits 20 17 23 19) :=
  CodeOf.of [0,2,3,4,5,6,8,10,11,12,33] [2000005] rfsZ Try.func7 rfl (by kernel_rfl) (by kernel_rfl)
theorem code_law15_LostCoalesces:CodeOf Try.prog 8 3 16 [3] (x_law15_LostCoalesces 28 30 29 31 32) :=
  CodeOf.of [0,1,2,6,7,8,9,10,11,12,13,14,15,18,23,31] [] rfsZ Try.func8 rfl (by kernel_rfl) (by kernel_rfl)
theorem code_law15_LostProjects:CodeOf Try.prog 9 2 4 [2] (x_law15_LostProjects 28 33 34 18 15) :=
  CodeOf.of [0,1,4,7] [] rfsZ Try.func9 rfl (by kernel_rfl) (by kernel_rfl)
theorem code_law15_LostExact:CodeOf Try.prog 10 2 15 [2] (x_law15_LostExact 30 29 33 18 28) :=
  CodeOf.of [0,1,4,5,6,7,8,9,10,11,21,25,36,54,75] [] rfsZ Try.func10 rfl (by kernel_rfl) (by kernel_rfl)
theorem code_law15_LostCopies:CodeOf Try.prog 11 2 15 [2] (x_law15_LostCopies 15 16 14 29 28) :=
  CodeOf.of [0,1,4,5,6,7,8,9,10,11,22,30,69,73,94] [6] rfsZ Try.func11 rfl (by kernel_rfl) (by kernel_rfl)
theorem code_law15_LostLimits:CodeOf Try.prog 12 2 11 [2] (x_law15_LostLimits 14 29 28) :=
  CodeOf.of [0,1,4,5,6,7,8,10,12,13,18] [7,36] rfsZ Try.func12 rfl (by kernel_rfl) (by kernel_rfl)
theorem code_law09_pair:CodeOf Try.prog 13 2 4 [2,3] (x_law09_pair 15 16 14) :=
  CodeOf.of [0,1,4,5] [] rfsZ Try.func13 rfl (by kernel_rfl) (by kernel_rfl)
theorem code_gen_Ids:CodeOf Try.prog 14 4 8 [4] (x_gen_Ids 16 15) :=
  CodeOf.of [0,1,2,3,8,9,10,14] [9] rfsZ Try.func14 rfl (by kernel_rfl) (by kernel_rfl)
theorem code_gen_Mod:CodeOf Try.prog 15 2 3 [2] x_gen_Mod :=
  CodeOf.of [0,1,4] [] rfsZ Try.func15 rfl (by kernel_rfl) (by kernel_rfl)
theorem code_gen_At:CodeOf Try.prog 16 2 5 [2] x_gen_At :=
  CodeOf.of [0,1,4,5,12] [] rfsZ Try.func16 rfl (by kernel_rfl) (by kernel_rfl)
theorem code_shortest_Distance:CodeOf Try.prog 17 2 6 [2,3] (x_shortest_Distance 35 36 37) :=
  CodeOf.of [0,1,4,5,6,10] [] rfsZ Try.func17 rfl (by kernel_rfl) (by kernel_rfl)
theorem code_gen_Ints:CodeOf Try.prog 18 2 7 [2] x_gen_Ints :=
  CodeOf.of [0,1,4,5,10,14,25] [] rfsZ Try.func18 rfl (by kernel_rfl) (by kernel_rfl)
theorem code_law09_awake:CodeOf Try.prog 19 0 5 [0] (x_law09_awake 20 17 25) :=
  CodeOf.of [0,1,2,3,4] [] rfsZ Try.func19 rfl (by kernel_rfl) (by kernel_rfl)
theorem code_shortest_Script:CodeOf Try.prog 20 2 5 [2,3] (x_shortest_Script 35 39 38) :=
  CodeOf.of [0,1,4,5,9] [] rfsZ Try.func20 rfl (by kernel_rfl) (by kernel_rfl)
theorem code_ref09_Script:CodeOf Try.prog 21 2 5 [2,3] (x_ref09_Script 40 41) :=
  CodeOf.of [0,1,4,5,8] [] rfsZ Try.func21 rfl (by kernel_rfl) (by kernel_rfl)
theorem code_ref09_Distance:CodeOf Try.prog 22 2 5 [2,3] (x_ref09_Distance 40 42) :=
  CodeOf.of [0,1,4,5,8] [] rfsZ Try.func22 rfl (by kernel_rfl) (by kernel_rfl)
theorem code_shortest_Common:CodeOf Try.prog 23 2 7 [2,3] (x_shortest_Common 17) :=
  CodeOf.of [0,1,4,5,6,7,15] [] rfsZ Try.func23 rfl (by kernel_rfl) (by kernel_rfl)
theorem code_ref09_Common:CodeOf Try.prog 24 2 7 [2,3] (x_ref09_Common 22) :=
  CodeOf.of [0,1,4,5,6,7,15] [] rfsZ Try.func24 rfl (by kernel_rfl) (by kernel_rfl)
theorem code_gen_Changes:CodeOf Try.prog 25 2 7 [2] x_gen_Changes :=
  CodeOf.of [0,1,4,5,10,14,25] [] rfsZ Try.func25 rfl (by kernel_rfl) (by kernel_rfl)
theorem code_ref08_Fits:CodeOf Try.prog 26 3 10 [3] (x_ref08_Fits 43) :=
  CodeOf.of [0,1,2,6,7,8,9,20,24,43] [] rfsZ Try.func26 rfl (by kernel_rfl) (by kernel_rfl)
theorem code_ref08_Size:CodeOf Try.prog 27 1 9 [1,2] (x_ref08_Size 44) :=
  CodeOf.of [0,2,3,4,5,6,10,18,31] [] rfsZ Try.func27 rfl (by kernel_rfl) (by kernel_rfl)
theorem code_law15_awake:CodeOf Try.prog 28 0 3 [0] (x_law15_awake 29 32 33 18) :=
  CodeOf.of [0,1,2] [] rfsZ Try.func28 rfl (by kernel_rfl) (by kernel_rfl)
theorem code_lost_Coalesce:CodeOf Try.prog 29 1 13 [1,2] (x_lost_Coalesce 45) :=
  CodeOf.of [0,2,3,4,5,6,7,22,23,24,25,26,39] [] rfsZ Try.func29 rfl (by kernel_rfl) (by kernel_rfl)
theorem code_law15_lists:CodeOf Try.prog 30 2 6 [2] (x_law15_lists 15 16 14) :=
  CodeOf.of [0,1,4,5,6,10] [5] rfsZ Try.func30 rfl (by kernel_rfl) (by kernel_rfl)
theorem code_ref15_Coalesce:CodeOf Try.prog 31 1 10 [1,2] (x_ref15_Coalesce 46) :=
  CodeOf.of [0,2,3,4,5,6,7,10,14,28] [] rfsZ Try.func31 rfl (by kernel_rfl) (by kernel_rfl)
theorem code_law15_same:CodeOf Try.prog 32 2 7 [2] x_law15_same :=
  CodeOf.of [0,1,4,5,10,14,25] [] rfsZ Try.func32 rfl (by kernel_rfl) (by kernel_rfl)
theorem code_lost_Project:CodeOf Try.prog 33 2 11 [2] x_lost_Project :=
  CodeOf.of [0,1,4,5,7,13,14,15,16,17,25] [5] rfsZ Try.func33 rfl (by kernel_rfl) (by kernel_rfl)
theorem code_ref15_Project:CodeOf Try.prog 34 2 7 [2] x_ref15_Project :=
  CodeOf.of [0,1,4,5,6,10,30] [5] rfsZ Try.func34 rfl (by kernel_rfl) (by kernel_rfl)
theorem code_shortest_limited:CodeOf Try.prog 35 2 3 [2] x_shortest_limited :=
  CodeOf.of [0,1,4] [] rfsZ Try.func35 rfl (by kernel_rfl) (by kernel_rfl)
theorem code_shortest_beginning:CodeOf Try.prog 36 2 5 [2] x_shortest_beginning :=
  CodeOf.of [0,1,4,5,26] [] rfsZ Try.func36 rfl (by kernel_rfl) (by kernel_rfl)
theorem code_shortest_distances:CodeOf Try.prog 37 2 16 [2] x_shortest_distances :=
  CodeOf.of [0,1,4,5,6,7,8,9,10,11,22,23,24,44,79,90] [] rfsZ Try.func37 rfl (by kernel_rfl) (by kernel_rfl)
theorem code_script_FromPairs:CodeOf Try.prog 38 3 13 [3,4] (x_script_FromPairs 47 48) :=
  CodeOf.of [0,1,2,6,7,8,10,18,20,21,22,23,49] [] rfsZ Try.func38 rfl (by kernel_rfl) (by kernel_rfl)
theorem code_shortest_walk:CodeOf Try.prog 39 2 17 [3] (x_shortest_walk 36 37 49) :=
  CodeOf.of [0,1,3,4,5,6,7,8,9,10,11,15,16,17,45,48,84] [5] rfsZ Try.func39 rfl (by kernel_rfl) (by kernel_rfl)
theorem code_ref09_long:CodeOf Try.prog 40 2 3 [2] x_ref09_long :=
  CodeOf.of [0,1,4] [] rfsZ Try.func40 rfl (by kernel_rfl) (by kernel_rfl)
theorem code_ref09_Walk:CodeOf Try.prog 41 2 10 [2] (x_ref09_Walk 42 50) :=
  CodeOf.of [0,1,4,5,6,7,8,21,24,56] [6] rfsZ Try.func41 rfl (by kernel_rfl) (by kernel_rfl)
theorem code_ref09_Table:CodeOf Try.prog 42 2 11 [2] x_ref09_Table :=
  CodeOf.of [0,1,4,5,6,7,15,28,55,70,85] [] rfsZ Try.func42 rfl (by kernel_rfl) (by kernel_rfl)
theorem code_ref08_Pairs:CodeOf Try.prog 43 3 7 [3,4] (x_ref08_Pairs 51 52) :=
  CodeOf.of [0,1,2,6,7,8,14] [] rfsZ Try.func43 rfl (by kernel_rfl) (by kernel_rfl)
theorem code_ref08_in:CodeOf Try.prog 44 1 2 [1] x_ref08_in :=
  CodeOf.of [0,2] [] rfsZ Try.func44 rfl (by kernel_rfl) (by kernel_rfl)
theorem code_lost_merge:CodeOf Try.prog 45 3 23 [5,6] (x_lost_merge 53 20 54) :=
  CodeOf.of [0,1,2,3,5,6,7,8,9,10,11,12,14,16,25,28,29,30,31,59,60,61,62] [] rfsZ Try.func45 rfl (by kernel_rfl) (by kernel_rfl)
theorem code_ref15_join:CodeOf Try.prog 46 3 19 [3,4] (x_ref15_join 55 21 52) :=
  CodeOf.of [0,1,2,6,7,8,9,10,11,12,13,14,15,24,32,43,51,64,81] [11] rfsZ Try.func46 rfl (by kernel_rfl) (by kernel_rfl)
theorem code_script_length:CodeOf Try.prog 47 1 2 [1] x_script_length :=
  CodeOf.of [0,2] [] rfsZ Try.func47 rfl (by kernel_rfl) (by kernel_rfl)
theorem code_script_fromPairs:CodeOf Try.prog 48 3 13 [3] (x_script_fromPairs 56) :=
  CodeOf.of [0,1,2,6,7,8,9,11,18,19,20,21,33] [7] rfsZ Try.func48 rfl (by kernel_rfl) (by kernel_rfl)
theorem code_shortest_walk_1:CodeOf Try.prog 49 4 5 [4] x_shortest_walk_1 :=
  CodeOf.of [0,1,2,3,6] [] rfsZ Try.func49 rfl (by kernel_rfl) (by kernel_rfl)
theorem code_ref08_Made:CodeOf Try.prog 50 3 12 [3] x_ref08_Made :=
  CodeOf.of [0,1,2,6,7,8,9,10,11,15,24,38] [7] rfsZ Try.func50 rfl (by kernel_rfl) (by kernel_rfl)
theorem code_ref08_Check:CodeOf Try.prog 51 3 12 [3] (x_ref08_Check 44) :=
  CodeOf.of [0,1,2,6,7,8,9,10,18,22,85,107] [] rfsZ Try.func51 rfl (by kernel_rfl) (by kernel_rfl)
theorem code_ref08_Matched:CodeOf Try.prog 52 2 10 [2] x_ref08_Matched :=
  CodeOf.of [0,1,4,5,6,7,8,12,21,48] [5] rfsZ Try.func52 rfl (by kernel_rfl) (by kernel_rfl)
theorem code_lost_numbers:CodeOf Try.prog 53 1 8 [1] x_lost_numbers :=
  CodeOf.of [0,2,3,5,6,7,8,9] [3] rfsZ Try.func53 rfl (by kernel_rfl) (by kernel_rfl)
theorem code_lost_merge_1:CodeOf Try.prog 54 5 6 [] x_lost_merge_1 :=
  CodeOf.of [0,1,2,3,4,8] [] rfsZ Try.func54 rfl (by kernel_rfl) (by kernel_rfl)
theorem code_ref15_lines:CodeOf Try.prog 55 1 5 [1] x_ref15_lines :=
  CodeOf.of [0,2,3,4,8] [3] rfsZ Try.func55 rfl (by kernel_rfl) (by kernel_rfl)
theorem code_slices_Clip_Span_Span:CodeOf Try.prog 56 1 2 [1] x_slices_Clip_Span_Span :=
  CodeOf.of [0,2] [] rfsZ Try.func56 rfl (by kernel_rfl) (by kernel_rfl)
end Go.AE
