/-
  The code of the functions of this seat.
-/
import Derived.Test.YtgmdpmpmbhahhaaCode1
import Derived.Test.YtgmdpmpmbhahhaaProg

set_option linter.unusedSimpArgs false
set_option linter.unusedVariables false
set_option linter.unnecessarySimpa false
set_option maxRecDepth 100000
open Go Go.Proofs
namespace Go.AE
def rfsZ:List (Nat × Nat):=[(46,0),(31,0),(47,0),(32,0)]
theorem code_law17_InterestRuns:CodeOf Try.prog 3 4 14 [4] (x_law17_InterestRuns 8 9 10 11 12 13 14) :=
  CodeOf.of [0,1,2,3,8,9,10,11,12,13,14,15,16,17] [] rfsZ Try.func3 rfl (by kernel_rfl) (by kernel_rfl)
theorem code_law17_InterestDense:CodeOf Try.prog 4 3 24 [3] (x_law17_InterestDense 8 11 9 13 15 14) :=
  CodeOf.of [0,1,2,6,7,8,9,10,11,12,13,14,15,16,17,18,19,65,69,101,116,122,136,161] [] rfsZ Try.func4 rfl (by kernel_rfl) (by kernel_rfl)
theorem code_law17_InterestHunks:CodeOf Try.prog 5 5 15 [5] (x_law17_InterestHunks 8 16 17 18 13 14) :=
  CodeOf.of [0,1,2,3,4,10,11,12,13,14,15,16,17,18,19] [] rfsZ Try.func5 rfl (by kernel_rfl) (by kernel_rfl)
theorem code_law17_InterestRefuses:CodeOf Try.prog 6 3 12 [4] (x_law17_InterestRefuses 14 19 9 11 16) :=
  CodeOf.of [0,1,2,3,6,7,9,11,12,13,17,22] [] rfsZ Try.func6 rfl (by kernel_rfl) (by kernel_rfl)
theorem code_law17_InterestCovers:CodeOf Try.prog 7 5 22 [5] (x_law17_InterestCovers 8 18 16 20 14) :=
  CodeOf.of [0,1,2,3,4,10,11,12,13,14,15,16,17,18,19,34,42,92,104,114,132,159] [] rfsZ Try.func7 rfl (by kernel_rfl) (by kernel_rfl)
theorem code_law17_pick:CodeOf Try.prog 8 3 13 [22003] (x_law17_pick 18 21 22 23 24) :=
  CodeOf.of [0,1,2,6,7,8,10,11,12,17,38,62,80] [] rfsZ Try.func8 rfl (by kernel_rfl) (by kernel_rfl)
theorem code_interest_Runs:CodeOf Try.prog 9 1 6 [2,3] (x_interest_Runs 25 26) :=
  CodeOf.of [0,1,2,3,4,8] [] rfsZ Try.func9 rfl (by kernel_rfl) (by kernel_rfl)
theorem code_ref17_Runs:CodeOf Try.prog 10 1 9 [2,3] (x_ref17_Runs 19 27 28) :=
  CodeOf.of [0,1,2,3,4,5,6,10,16] [5] rfsZ Try.func10 rfl (by kernel_rfl) (by kernel_rfl)
theorem code_interest_Interesting:CodeOf Try.prog 11 2 7 [3,4] (x_interest_Interesting 25 29) :=
  CodeOf.of [0,1,2,4,5,6,10] [] rfsZ Try.func11 rfl (by kernel_rfl) (by kernel_rfl)
theorem code_ref17_Interesting:CodeOf Try.prog 12 2 12 [3,4] (x_ref17_Interesting 10 30) :=
  CodeOf.of [0,1,2,4,5,6,7,8,9,16,21,33] [8] rfsZ Try.func12 rfl (by kernel_rfl) (by kernel_rfl)
theorem code_gen_Spans:CodeOf Try.prog 13 2 7 [2] x_gen_Spans :=
  CodeOf.of [0,1,4,5,10,14,25] [] rfsZ Try.func13 rfl (by kernel_rfl) (by kernel_rfl)
theorem code_law17_awake:CodeOf Try.prog 14 0 6 [0] (x_law17_awake 9 11 13) :=
  CodeOf.of [0,1,2,3,4,5] [] rfsZ Try.func14 rfl (by kernel_rfl) (by kernel_rfl)
theorem code_ref16_Visible:CodeOf Try.prog 15 2 6 [3] x_ref16_Visible :=
  CodeOf.of [0,1,2,4,5,11] [] rfsZ Try.func15 rfl (by kernel_rfl) (by kernel_rfl)
theorem code_interest_Hunks:CodeOf Try.prog 16 3 19 [4,5] (x_interest_Hunks 25 29 31 32) :=
  CodeOf.of [0,1,2,3,6,7,8,9,10,12,13,14,18,25,33,34,35,36,55] [1000000] rfsZ Try.func16 rfl (by kernel_rfl) (by kernel_rfl)
theorem code_ref17_Hunks:CodeOf Try.prog 17 3 15 [4,5] (x_ref17_Hunks 12 28) :=
  CodeOf.of [0,1,2,3,6,7,8,9,10,11,12,20,27,35,41] [1000000] rfsZ Try.func17 rfl (by kernel_rfl) (by kernel_rfl)
theorem code_gen_Mod:CodeOf Try.prog 18 2 3 [2] x_gen_Mod :=
  CodeOf.of [0,1,4] [] rfsZ Try.func18 rfl (by kernel_rfl) (by kernel_rfl)
theorem code_ref16_Check:CodeOf Try.prog 19 1 6 [2] (x_ref16_Check 33 34) :=
  CodeOf.of [0,1,2,3,12,19] [] rfsZ Try.func19 rfl (by kernel_rfl) (by kernel_rfl)
theorem code_law17_all:CodeOf Try.prog 20 2 9 [3] x_law17_all :=
  CodeOf.of [0,1,2,4,5,6,7,19,44] [] rfsZ Try.func20 rfl (by kernel_rfl) (by kernel_rfl)
theorem code_gen_Blobs:CodeOf Try.prog 21 3 11 [3] (x_gen_Blobs 35 23 36) :=
  CodeOf.of [0,1,2,6,7,8,9,16,23,33,44] [8] rfsZ Try.func21 rfl (by kernel_rfl) (by kernel_rfl)
theorem code_ref16_Make:CodeOf Try.prog 22 2 39 [22002,3] (x_ref16_Make 37 38 39 40 41 42 43) :=
  CodeOf.of [0,1,4,5,6,7,8,9,10,11,12,13,14,15,16,17,18,19,20,21,22,23,24,25,26,27,35,43,48,57,83,93,107,132,157,196,208,213,237] [7,39,1000000,1000004] rfsZ Try.func22 rfl (by kernel_rfl) (by kernel_rfl)
theorem code_gen_At:CodeOf Try.prog 23 2 5 [2] x_gen_At :=
  CodeOf.of [0,1,4,5,12] [] rfsZ Try.func23 rfl (by kernel_rfl) (by kernel_rfl)
theorem code_gen_Line:CodeOf Try.prog 24 1 2 [1] (x_gen_Line 18) :=
  CodeOf.of [0,2] [] rfsZ Try.func24 rfl (by kernel_rfl) (by kernel_rfl)
theorem code_weave_Check:CodeOf Try.prog 25 1 17 [2] (x_weave_Check 44 45 46) :=
  CodeOf.of [0,1,2,4,5,7,15,17,18,19,20,27,30,31,32,33,43] [] rfsZ Try.func25 rfl (by kernel_rfl) (by kernel_rfl)
theorem code_interest_runs:CodeOf Try.prog 26 1 3 [2] (x_interest_runs 31 47) :=
  CodeOf.of [0,1,2] [] rfsZ Try.func26 rfl (by kernel_rfl) (by kernel_rfl)
theorem code_ref17_Blank:CodeOf Try.prog 27 1 3 [2] x_ref17_Blank :=
  CodeOf.of [0,1,2] [] rfsZ Try.func27 rfl (by kernel_rfl) (by kernel_rfl)
theorem code_ref17_spans:CodeOf Try.prog 28 1 7 [1] x_ref17_spans :=
  CodeOf.of [0,2,3,4,8,26,36] [] rfsZ Try.func28 rfl (by kernel_rfl) (by kernel_rfl)
theorem code_interest_interesting:CodeOf Try.prog 29 2 11 [3] (x_interest_interesting 26 49) :=
  CodeOf.of [0,1,2,4,5,7,9,10,11,12,27] [5] rfsZ Try.func29 rfl (by kernel_rfl) (by kernel_rfl)
theorem code_ref17_Dense:CodeOf Try.prog 30 2 11 [4] x_ref17_Dense :=
  CodeOf.of [0,1,2,3,4,5,6,7,13,27,35] [] rfsZ Try.func30 rfl (by kernel_rfl) (by kernel_rfl)
theorem code_interest_spans:CodeOf Try.prog 31 2 10 [2] x_interest_spans :=
  CodeOf.of [0,1,4,5,6,7,8,9,18,23] [1000000] rfsZ Try.func31 rfl (by kernel_rfl) (by kernel_rfl)
theorem code_interest_Hunks_1:CodeOf Try.prog 32 2 3 [2] x_interest_Hunks_1 :=
  CodeOf.of [0,1,3] [] rfsZ Try.func32 rfl (by kernel_rfl) (by kernel_rfl)
theorem code_ref16_Marks:CodeOf Try.prog 33 2 6 [2] x_ref16_Marks :=
  CodeOf.of [0,1,4,5,9,36] [] rfsZ Try.func33 rfl (by kernel_rfl) (by kernel_rfl)
theorem code_ref16_Texts:CodeOf Try.prog 34 2 9 [2] (x_ref16_Texts 50 52 51) :=
  CodeOf.of [0,1,4,5,6,10,19,22,29] [] rfsZ Try.func34 rfl (by kernel_rfl) (by kernel_rfl)
theorem code_gen_Blob:CodeOf Try.prog 35 4 9 [4] (x_gen_Blob 23 18 24) :=
  CodeOf.of [0,1,2,3,8,9,10,19,52] [] rfsZ Try.func35 rfl (by kernel_rfl) (by kernel_rfl)
theorem code_gen_Near:CodeOf Try.prog 36 3 11 [3] (x_gen_Near 37 23 24) :=
  CodeOf.of [0,1,2,6,7,8,9,15,23,24,26] [] rfsZ Try.func36 rfl (by kernel_rfl) (by kernel_rfl)
theorem code_ref02_Lines:CodeOf Try.prog 37 1 7 [1] x_ref02_Lines :=
  CodeOf.of [0,2,3,4,5,9,22] [3] rfsZ Try.func37 rfl (by kernel_rfl) (by kernel_rfl)
theorem code_ref02_Check:CodeOf Try.prog 38 1 3 [1] (x_ref02_Check 37) :=
  CodeOf.of [0,2,11] [] rfsZ Try.func38 rfl (by kernel_rfl) (by kernel_rfl)
theorem code_ref03_Names:CodeOf Try.prog 39 1 8 [1] (x_ref03_Names 53) :=
  CodeOf.of [0,2,3,4,5,9,18,30] [3] rfsZ Try.func39 rfl (by kernel_rfl) (by kernel_rfl)
theorem code_ref03_Ids:CodeOf Try.prog 40 1 9 [1] (x_ref03_Ids 39 53) :=
  CodeOf.of [0,2,3,4,5,6,7,13,23] [4,6] rfsZ Try.func40 rfl (by kernel_rfl) (by kernel_rfl)
theorem code_ref09_Walk:CodeOf Try.prog 41 2 10 [2] (x_ref09_Walk 54 55) :=
  CodeOf.of [0,1,4,5,6,7,8,21,24,56] [6] rfsZ Try.func41 rfl (by kernel_rfl) (by kernel_rfl)
theorem code_ref08_Matched:CodeOf Try.prog 42 2 10 [2] x_ref08_Matched :=
  CodeOf.of [0,1,4,5,6,7,8,12,21,48] [5] rfsZ Try.func42 rfl (by kernel_rfl) (by kernel_rfl)
theorem code_ref15_Coalesce:CodeOf Try.prog 43 1 10 [1,2] (x_ref15_Coalesce 56) :=
  CodeOf.of [0,2,3,4,5,6,7,10,14,28] [] rfsZ Try.func43 rfl (by kernel_rfl) (by kernel_rfl)
theorem code_weave_Marked:CodeOf Try.prog 44 2 4 [3] x_weave_Marked :=
  CodeOf.of [0,1,2,4] [] rfsZ Try.func44 rfl (by kernel_rfl) (by kernel_rfl)
theorem code_weave_Single:CodeOf Try.prog 45 1 3 [2] (x_weave_Single 58 57) :=
  CodeOf.of [0,1,2] [] rfsZ Try.func45 rfl (by kernel_rfl) (by kernel_rfl)
theorem code_weave_Ends_Add:CodeOf Try.prog 46 2 8 [3] (x_weave_Ends_Add 59) :=
  CodeOf.of [0,1,3,4,5,6,11,35] [] rfsZ Try.func46 rfl (by kernel_rfl) (by kernel_rfl)
theorem code_interest_runs_1:CodeOf Try.prog 47 2 3 [2] (x_interest_runs_1 48) :=
  CodeOf.of [0,1,3] [] rfsZ Try.func47 rfl (by kernel_rfl) (by kernel_rfl)
theorem code_interest_blank:CodeOf Try.prog 48 1 3 [2] x_interest_blank :=
  CodeOf.of [0,1,2] [] rfsZ Try.func48 rfl (by kernel_rfl) (by kernel_rfl)
theorem code_interest_dense:CodeOf Try.prog 49 2 9 [2] x_interest_dense :=
  CodeOf.of [0,1,4,5,7,8,9,10,11] [] rfsZ Try.func49 rfl (by kernel_rfl) (by kernel_rfl)
theorem code_ref12_Line:CodeOf Try.prog 50 1 5 [1] x_ref12_Line :=
  CodeOf.of [0,2,3,8,14] [] rfsZ Try.func50 rfl (by kernel_rfl) (by kernel_rfl)
theorem code_ref02_List:CodeOf Try.prog 51 1 8 [1] (x_ref02_List 60) :=
  CodeOf.of [0,2,3,4,8,18,27,47] [] rfsZ Try.func51 rfl (by kernel_rfl) (by kernel_rfl)
theorem code_ref16_Column:CodeOf Try.prog 52 2 7 [2] (x_ref16_Column 15) :=
  CodeOf.of [0,1,4,5,6,10,18] [5] rfsZ Try.func52 rfl (by kernel_rfl) (by kernel_rfl)
theorem code_ref03_place:CodeOf Try.prog 53 2 6 [2] x_ref03_place :=
  CodeOf.of [0,1,4,5,9,17] [] rfsZ Try.func53 rfl (by kernel_rfl) (by kernel_rfl)
theorem code_ref09_Table:CodeOf Try.prog 54 2 11 [2] x_ref09_Table :=
  CodeOf.of [0,1,4,5,6,7,15,28,55,70,85] [] rfsZ Try.func54 rfl (by kernel_rfl) (by kernel_rfl)
theorem code_ref08_Made:CodeOf Try.prog 55 3 12 [3] x_ref08_Made :=
  CodeOf.of [0,1,2,6,7,8,9,10,11,15,24,38] [7] rfsZ Try.func55 rfl (by kernel_rfl) (by kernel_rfl)
theorem code_ref15_join:CodeOf Try.prog 56 3 19 [3,4] (x_ref15_join 62 61 42) :=
  CodeOf.of [0,1,2,6,7,8,9,10,11,12,13,14,15,24,32,43,51,64,81] [11] rfsZ Try.func56 rfl (by kernel_rfl) (by kernel_rfl)
theorem code_strings_Contains:CodeOf Try.prog 57 2 3 [2] (x_strings_Contains 63) :=
  CodeOf.of [0,1,4] [] rfsZ Try.func57 rfl (by kernel_rfl) (by kernel_rfl)
theorem code_text_Bare:CodeOf Try.prog 58 1 2 [1] (x_text_Bare 64) :=
  CodeOf.of [0,2] [] rfsZ Try.func58 rfl (by kernel_rfl) (by kernel_rfl)
theorem code_text_Ended:CodeOf Try.prog 59 1 2 [1] (x_text_Ended 65) :=
  CodeOf.of [0,2] [] rfsZ Try.func59 rfl (by kernel_rfl) (by kernel_rfl)
theorem code_ref02_Ended:CodeOf Try.prog 60 1 2 [1] x_ref02_Ended :=
  CodeOf.of [0,2] [] rfsZ Try.func60 rfl (by kernel_rfl) (by kernel_rfl)
theorem code_ref09_Script:CodeOf Try.prog 61 2 5 [2,3] (x_ref09_Script 66 41) :=
  CodeOf.of [0,1,4,5,8] [] rfsZ Try.func61 rfl (by kernel_rfl) (by kernel_rfl)
theorem code_ref15_lines:CodeOf Try.prog 62 1 5 [1] x_ref15_lines :=
  CodeOf.of [0,2,3,4,8] [3] rfsZ Try.func62 rfl (by kernel_rfl) (by kernel_rfl)
theorem code_ref09_long:CodeOf Try.prog 66 2 3 [2] x_ref09_long :=
  CodeOf.of [0,1,4] [] rfsZ Try.func66 rfl (by kernel_rfl) (by kernel_rfl)
end Go.AE
