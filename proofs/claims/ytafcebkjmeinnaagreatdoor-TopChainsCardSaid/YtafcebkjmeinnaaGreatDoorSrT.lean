/-
  The code of the functions of this seat.
-/
import Derived.Test.YtafcebkjmeinnaaGreatDoorCode1
import Derived.Test.YtafcebkjmeinnaaGreatDoorProg

set_option linter.unusedSimpArgs false
set_option linter.unusedVariables false
set_option linter.unnecessarySimpa false
set_option maxRecDepth 100000
open Go Go.Proofs
namespace Go.AE
def rfsZ:List (Nat × Nat):=[(53,0),(76,0),(49,0),(94,0),(88,0),(106,0),(171,0),(105,0),(109,1),(179,0),(141,0),(99,0),(98,0),(185,0),(191,0),(176,0),(158,0),(175,0),(114,0),(152,1),(116,1),(90,1),(68,0),(118,1000000),(117,1000000),(67,0),(66,2),(129,0),(128,0),(160,0),(130,0),(71,0),(122,0),(156,0),(102,0),(85,0),(86,1),(89,1)]
theorem code_top_TopReverses:CodeOf Tryz.prog 3 7 36 [7] (x_top_TopReverses 7 8 9 11 10 12 13 14 15 16) :=
  CodeOf.of [0,1,2,3,4,5,6,14,15,16,17,18,19,20,21,22,23,24,25,26,27,28,29,30,31,32,33,34,42,67,85,97,112,114,127,152] [] rfsZ Tryz.func3 rfl (by kernel_rfl) (by kernel_rfl)
theorem code_top_TopChains:CodeOf Tryz.prog 4 3 17 [3] (x_top_TopChains 11 17 10 16 15 7) :=
  CodeOf.of [0,1,2,6,7,8,9,10,11,12,13,14,15,16,33,90,108] [] rfsZ Tryz.func4 rfl (by kernel_rfl) (by kernel_rfl)
theorem code_top_wake:CodeOf Tryz.prog 7 0 5 [0] (x_top_wake 14 15) :=
  CodeOf.of [0,1,2,3,4] [] rfsZ Tryz.func7 rfl (by kernel_rfl) (by kernel_rfl)
theorem code_gen_Blob:CodeOf Tryz.prog 8 4 9 [4] (x_gen_Blob 25 11 26) :=
  CodeOf.of [0,1,2,3,8,9,10,19,52] [] rfsZ Tryz.func8 rfl (by kernel_rfl) (by kernel_rfl)
theorem code_gen_Near:CodeOf Tryz.prog 9 3 11 [3] (x_gen_Near 27 25 26) :=
  CodeOf.of [0,1,2,6,7,8,9,15,23,24,26] [] rfsZ Tryz.func9 rfl (by kernel_rfl) (by kernel_rfl)
theorem code_unified_Make:CodeOf Tryz.prog 10 6 26 [32006,7] (x_unified_Make 28 29 30 31 32 33 34 35) :=
  CodeOf.of [0,1,2,3,4,5,12,13,14,15,16,17,18,20,21,23,31,39,48,65,88,94,95,96,97,113] [] rfsZ Tryz.func10 rfl (by kernel_rfl) (by kernel_rfl)
theorem code_gen_Mod:CodeOf Tryz.prog 11 2 3 [2] x_gen_Mod :=
  CodeOf.of [0,1,4] [] rfsZ Tryz.func11 rfl (by kernel_rfl) (by kernel_rfl)
theorem code_unified_Format:CodeOf Tryz.prog 12 1 6 [2,3] (x_unified_Format 36 37) :=
  CodeOf.of [0,1,2,3,4,8] [] rfsZ Tryz.func12 rfl (by kernel_rfl) (by kernel_rfl)
theorem code_gen_Spoiled:CodeOf Tryz.prog 13 4 10 [4] (x_gen_Spoiled 11) :=
  CodeOf.of [0,1,2,3,8,9,16,17,31,44] [] rfsZ Tryz.func13 rfl (by kernel_rfl) (by kernel_rfl)
theorem code_strict_Parse:CodeOf Tryz.prog 14 1 12 [32001,2] (x_strict_Parse 38 39 12) :=
  CodeOf.of [0,2,3,4,5,6,7,8,11,19,27,40] [] rfsZ Tryz.func14 rfl (by kernel_rfl) (by kernel_rfl)
theorem code_patch_Apply:CodeOf Tryz.prog 15 2 20 [3,4] (x_patch_Apply 40 41 42 43) :=
  CodeOf.of [0,1,2,4,5,6,7,8,9,11,12,13,14,22,25,26,27,28,41,67] [8] rfsZ Tryz.func15 rfl (by kernel_rfl) (by kernel_rfl)
theorem code_patch_Reverse:CodeOf Tryz.prog 16 1 18 [32002,3] (x_patch_Reverse 36 44) :=
  CodeOf.of [0,1,2,3,4,5,7,8,10,14,23,24,25,26,35,36,37,38] [] rfsZ Tryz.func16 rfl (by kernel_rfl) (by kernel_rfl)
theorem code_gen_Blobs:CodeOf Tryz.prog 17 3 11 [3] (x_gen_Blobs 8 25 9) :=
  CodeOf.of [0,1,2,6,7,8,9,16,23,33,44] [8] rfsZ Tryz.func17 rfl (by kernel_rfl) (by kernel_rfl)
theorem code_gen_At:CodeOf Tryz.prog 25 2 5 [2] x_gen_At :=
  CodeOf.of [0,1,4,5,12] [] rfsZ Tryz.func25 rfl (by kernel_rfl) (by kernel_rfl)
theorem code_gen_Line:CodeOf Tryz.prog 26 1 2 [1] (x_gen_Line 11) :=
  CodeOf.of [0,2] [] rfsZ Tryz.func26 rfl (by kernel_rfl) (by kernel_rfl)
theorem code_ref02_Lines:CodeOf Tryz.prog 27 1 7 [1] x_ref02_Lines :=
  CodeOf.of [0,2,3,4,5,9,22] [3] rfsZ Tryz.func27 rfl (by kernel_rfl) (by kernel_rfl)
theorem code_unified_named:CodeOf Tryz.prog 28 1 2 [1] x_unified_named :=
  CodeOf.of [0,2] [] rfsZ Tryz.func28 rfl (by kernel_rfl) (by kernel_rfl)
theorem code_text_Split:CodeOf Tryz.prog 29 1 7 [1,2] (x_text_Split 60 61) :=
  CodeOf.of [0,2,3,4,5,9,19] [] rfsZ Tryz.func29 rfl (by kernel_rfl) (by kernel_rfl)
theorem code_intern_Ids:CodeOf Tryz.prog 30 1 3 [1] (x_intern_Ids 62) :=
  CodeOf.of [0,2,3] [] rfsZ Tryz.func30 rfl (by kernel_rfl) (by kernel_rfl)
theorem code_shortest_Script:CodeOf Tryz.prog 31 2 5 [2,3] (x_shortest_Script 63 65 64) :=
  CodeOf.of [0,1,4,5,9] [] rfsZ Tryz.func31 rfl (by kernel_rfl) (by kernel_rfl)
theorem code_slide_Down:CodeOf Tryz.prog 32 3 10 [3,4] (x_slide_Down 66 67 68) :=
  CodeOf.of [0,1,2,6,7,8,9,10,19,25] [] rfsZ Tryz.func32 rfl (by kernel_rfl) (by kernel_rfl)
theorem code_hunk_Group:CodeOf Tryz.prog 33 4 18 [4,5] (x_hunk_Group 69 70) :=
  CodeOf.of [0,1,2,3,8,9,10,11,12,13,14,20,26,28,29,30,31,56] [11] rfsZ Tryz.func33 rfl (by kernel_rfl) (by kernel_rfl)
theorem code_unified_build:CodeOf Tryz.prog 34 4 13 [32005] (x_unified_build 71) :=
  CodeOf.of [0,1,2,3,4,8,9,10,12,28,29,30,31] [] rfsZ Tryz.func34 rfl (by kernel_rfl) (by kernel_rfl)
theorem code_unified_size:CodeOf Tryz.prog 35 1 15 [2] (x_unified_size 37 72 73) :=
  CodeOf.of [0,1,2,3,5,7,16,17,18,19,28,29,30,31,43] [] rfsZ Tryz.func35 rfl (by kernel_rfl) (by kernel_rfl)
theorem code_unified_Check:CodeOf Tryz.prog 36 1 6 [2] (x_unified_Check 28 74 35) :=
  CodeOf.of [0,1,2,3,14,19] [] rfsZ Tryz.func36 rfl (by kernel_rfl) (by kernel_rfl)
theorem code_unified_written:CodeOf Tryz.prog 37 1 15 [2] (x_unified_written 75 72 73 49 76 53) :=
  CodeOf.of [0,1,2,3,5,7,20,21,22,23,30,31,32,33,45] [] [(53,0),(76,0),(49,0),(94,0),(88,0),(106,0),(171,0),(105,0),(109,1),(179,0),(141,0),(99,0),(98,0),(185,0),(191,0),(176,0),(158,0),(175,0),(114,0),(152,1),(116,1),(90,1),(68,0),(118,1000000),(117,1000000),(67,0),(66,2),(129,0),(128,0),(160,0),(130,0),(71,0),(122,0),(156,0),(102,0),(85,0),(86,1),(89,1),(7000000,106),(7000001,5)] Tryz.func37 rfl (by kernel_rfl) (by kernel_rfl)
theorem code_strict_Lines:CodeOf Tryz.prog 38 1 6 [1,2] (x_strict_Lines 77 78) :=
  CodeOf.of [0,2,3,4,6,13] [] rfsZ Tryz.func38 rfl (by kernel_rfl) (by kernel_rfl)
theorem code_strict_parse:CodeOf Tryz.prog 39 1 16 [32001,2] (x_strict_parse 79 80) :=
  CodeOf.of [0,2,3,4,5,6,8,9,12,43,46,47,48,49,53,66] [1000000] rfsZ Tryz.func39 rfl (by kernel_rfl) (by kernel_rfl)
theorem code_patch_prepare:CodeOf Tryz.prog 40 2 7 [3,4] (x_patch_prepare 36 29) :=
  CodeOf.of [0,1,2,4,5,6,10] [] rfsZ Tryz.func40 rfl (by kernel_rfl) (by kernel_rfl)
theorem code_patch_sides:CodeOf Tryz.prog 41 1 11 [2,3] x_patch_sides :=
  CodeOf.of [0,1,2,3,5,7,8,9,10,15,23] [2,3] rfsZ Tryz.func41 rfl (by kernel_rfl) (by kernel_rfl)
theorem code_patch_found:CodeOf Tryz.prog 42 3 4 [3] (x_patch_found 81) :=
  CodeOf.of [0,1,2,6] [] rfsZ Tryz.func42 rfl (by kernel_rfl) (by kernel_rfl)
theorem code_text_Join:CodeOf Tryz.prog 43 1 13 [1,2] (x_text_Join 82 83) :=
  CodeOf.of [0,2,3,4,5,6,7,8,9,10,11,40,52] [] rfsZ Tryz.func43 rfl (by kernel_rfl) (by kernel_rfl)
theorem code_patch_swapped:CodeOf Tryz.prog 44 1 5 [1] x_patch_swapped :=
  CodeOf.of [0,2,3,4,6] [] rfsZ Tryz.func44 rfl (by kernel_rfl) (by kernel_rfl)
theorem code___strings_Builder__WriteString:CodeOf Tryz.prog 49 2 4 [2,3] (x___strings_Builder__WriteString 94) :=
  CodeOf.of [0,1,4,5] [] [(53,0),(76,0),(49,0),(94,0),(88,0),(106,0),(171,0),(105,0),(109,1),(179,0),(141,0),(99,0),(98,0),(185,0),(191,0),(176,0),(158,0),(175,0),(114,0),(152,1),(116,1),(90,1),(68,0),(118,1000000),(117,1000000),(67,0),(66,2),(129,0),(128,0),(160,0),(130,0),(71,0),(122,0),(156,0),(102,0),(85,0),(86,1),(89,1),(7000000,106),(7000001,5)] Tryz.func49 rfl (by kernel_rfl) (by kernel_rfl)
theorem code_text_Check:CodeOf Tryz.prog 60 1 5 [1] (x_text_Check 107 73) :=
  CodeOf.of [0,2,3,12,21] [] rfsZ Tryz.func60 rfl (by kernel_rfl) (by kernel_rfl)
theorem code_strings_SplitAfter:CodeOf Tryz.prog 61 2 3 [2] (x_strings_SplitAfter 108) :=
  CodeOf.of [0,1,4] [] rfsZ Tryz.func61 rfl (by kernel_rfl) (by kernel_rfl)
theorem code_intern_number:CodeOf Tryz.prog 62 1 16 [1,2] (x_intern_number 109) :=
  CodeOf.of [0,2,3,4,5,6,7,9,16,17,18,19,23,24,25,26] [] rfsZ Tryz.func62 rfl (by kernel_rfl) (by kernel_rfl)
theorem code_shortest_limited:CodeOf Tryz.prog 63 2 3 [2] x_shortest_limited :=
  CodeOf.of [0,1,4] [] rfsZ Tryz.func63 rfl (by kernel_rfl) (by kernel_rfl)
theorem code_script_FromPairs:CodeOf Tryz.prog 64 3 13 [3,4] (x_script_FromPairs 110 111) :=
  CodeOf.of [0,1,2,6,7,8,10,18,20,21,22,23,49] [] rfsZ Tryz.func64 rfl (by kernel_rfl) (by kernel_rfl)
theorem code_shortest_walk:CodeOf Tryz.prog 65 2 17 [3] (x_shortest_walk 112 113 114) :=
  CodeOf.of [0,1,3,4,5,6,7,8,9,10,11,15,16,17,45,48,84] [5] rfsZ Tryz.func65 rfl (by kernel_rfl) (by kernel_rfl)
theorem code_slide_start:CodeOf Tryz.prog 66 3 6 [3,4] (x_slide_start 115 116) :=
  CodeOf.of [0,1,2,6,7,12] [] rfsZ Tryz.func66 rfl (by kernel_rfl) (by kernel_rfl)
theorem code_slide_often:CodeOf Tryz.prog 67 2 5 [2] x_slide_often :=
  CodeOf.of [0,1,4,5,8] [] rfsZ Tryz.func67 rfl (by kernel_rfl) (by kernel_rfl)
theorem code_slide_mover_down:CodeOf Tryz.prog 68 2 11 [2] (x_slide_mover_down 117 118) :=
  CodeOf.of [0,1,4,5,6,7,8,9,19,36,65] [] rfsZ Tryz.func68 rfl (by kernel_rfl) (by kernel_rfl)
theorem code_script_Check:CodeOf Tryz.prog 69 3 17 [3] (x_script_Check 110) :=
  CodeOf.of [0,1,2,6,7,8,9,10,11,19,20,21,22,23,56,72,95] [] rfsZ Tryz.func69 rfl (by kernel_rfl) (by kernel_rfl)
theorem code_hunk_closed:CodeOf Tryz.prog 70 5 10 [62005] x_hunk_closed :=
  CodeOf.of [0,1,2,3,4,10,11,12,13,14] [] rfsZ Tryz.func70 rfl (by kernel_rfl) (by kernel_rfl)
theorem code_unified_lines:CodeOf Tryz.prog 71 3 9 [3] x_unified_lines :=
  CodeOf.of [0,1,2,6,8,9,10,11,12] [0] rfsZ Tryz.func71 rfl (by kernel_rfl) (by kernel_rfl)
theorem code_unified_header:CodeOf Tryz.prog 72 1 5 [2] (x_unified_header 119 97) :=
  CodeOf.of [0,1,2,3,4] [] rfsZ Tryz.func72 rfl (by kernel_rfl) (by kernel_rfl)
theorem code_text_Ended:CodeOf Tryz.prog 73 1 2 [1] (x_text_Ended 120) :=
  CodeOf.of [0,2] [] rfsZ Tryz.func73 rfl (by kernel_rfl) (by kernel_rfl)
theorem code_unified_wellFormed:CodeOf Tryz.prog 74 1 10 [1] (x_unified_wellFormed 121 122) :=
  CodeOf.of [0,2,3,4,6,7,8,9,10,20] [] rfsZ Tryz.func74 rfl (by kernel_rfl) (by kernel_rfl)
theorem code_scan_Quote:CodeOf Tryz.prog 75 1 13 [1] (x_scan_Quote 123 124 76 49 53) :=
  CodeOf.of [0,2,3,4,5,6,10,11,12,22,26,27,28] [] [(53,0),(76,0),(49,0),(94,0),(88,0),(106,0),(171,0),(105,0),(109,1),(179,0),(141,0),(99,0),(98,0),(185,0),(191,0),(176,0),(158,0),(175,0),(114,0),(152,1),(116,1),(90,1),(68,0),(118,1000000),(117,1000000),(67,0),(66,2),(129,0),(128,0),(160,0),(130,0),(71,0),(122,0),(156,0),(102,0),(85,0),(86,1),(89,1),(7000000,106),(7000001,5)] Tryz.func75 rfl (by kernel_rfl) (by kernel_rfl)
theorem code___strings_Builder__WriteByte:CodeOf Tryz.prog 76 2 3 [2] (x___strings_Builder__WriteByte 94) :=
  CodeOf.of [0,1,4] [] [(53,0),(76,0),(49,0),(94,0),(88,0),(106,0),(171,0),(105,0),(109,1),(179,0),(141,0),(99,0),(98,0),(185,0),(191,0),(176,0),(158,0),(175,0),(114,0),(152,1),(116,1),(90,1),(68,0),(118,1000000),(117,1000000),(67,0),(66,2),(129,0),(128,0),(160,0),(130,0),(71,0),(122,0),(156,0),(102,0),(85,0),(86,1),(89,1),(7000000,106),(7000001,5)] Tryz.func76 rfl (by kernel_rfl) (by kernel_rfl)
theorem code_strings_CutSuffix:CodeOf Tryz.prog 77 2 4 [2,3] (x_strings_CutSuffix 125) :=
  CodeOf.of [0,1,4,5] [] rfsZ Tryz.func77 rfl (by kernel_rfl) (by kernel_rfl)
theorem code_strings_Split:CodeOf Tryz.prog 78 2 3 [2] (x_strings_Split 108) :=
  CodeOf.of [0,1,4] [] rfsZ Tryz.func78 rfl (by kernel_rfl) (by kernel_rfl)
theorem code_strict_name:CodeOf Tryz.prog 79 2 9 [2,3] (x_strict_name 126 127) :=
  CodeOf.of [0,1,4,5,6,7,8,9,17] [] rfsZ Tryz.func79 rfl (by kernel_rfl) (by kernel_rfl)
theorem code_strict_choose:CodeOf Tryz.prog 80 1 8 [1] (x_strict_choose 128 129 130) :=
  CodeOf.of [0,2,4,10,11,12,13,19] [] rfsZ Tryz.func80 rfl (by kernel_rfl) (by kernel_rfl)
theorem code_slices_Equal_string_string:CodeOf Tryz.prog 81 2 9 [2] x_slices_Equal_string_string :=
  CodeOf.of [0,1,4,5,10,12,13,14,24] [] rfsZ Tryz.func81 rfl (by kernel_rfl) (by kernel_rfl)
theorem code_scan_Format:CodeOf Tryz.prog 95 1 3 [1] (x_scan_Format 136) :=
  CodeOf.of [0,2,8] [] rfsZ Tryz.func95 rfl (by kernel_rfl) (by kernel_rfl)
theorem code_scan_FormatRange:CodeOf Tryz.prog 97 2 7 [2] (x_scan_FormatRange 95) :=
  CodeOf.of [0,1,4,20,21,22,27] [] rfsZ Tryz.func97 rfl (by kernel_rfl) (by kernel_rfl)
theorem code_intern_table_id:CodeOf Tryz.prog 109 2 6 [2] x_intern_table_id :=
  CodeOf.of [0,1,4,5,6,17] [] rfsZ Tryz.func109 rfl (by kernel_rfl) (by kernel_rfl)
theorem code_script_length:CodeOf Tryz.prog 110 1 2 [1] x_script_length :=
  CodeOf.of [0,2] [] rfsZ Tryz.func110 rfl (by kernel_rfl) (by kernel_rfl)
theorem code_script_fromPairs:CodeOf Tryz.prog 111 3 13 [3] (x_script_fromPairs 152) :=
  CodeOf.of [0,1,2,6,7,8,9,11,18,19,20,21,33] [7] rfsZ Tryz.func111 rfl (by kernel_rfl) (by kernel_rfl)
theorem code_shortest_beginning:CodeOf Tryz.prog 112 2 5 [2] x_shortest_beginning :=
  CodeOf.of [0,1,4,5,26] [] rfsZ Tryz.func112 rfl (by kernel_rfl) (by kernel_rfl)
theorem code_shortest_distances:CodeOf Tryz.prog 113 2 16 [2] x_shortest_distances :=
  CodeOf.of [0,1,4,5,6,7,8,9,10,11,22,23,24,44,79,90] [] rfsZ Tryz.func113 rfl (by kernel_rfl) (by kernel_rfl)
theorem code_shortest_walk_1:CodeOf Tryz.prog 114 4 5 [4] x_shortest_walk_1 :=
  CodeOf.of [0,1,2,3,6] [] rfsZ Tryz.func114 rfl (by kernel_rfl) (by kernel_rfl)
theorem code_script_Fits:CodeOf Tryz.prog 115 3 11 [3] (x_script_Fits 69 153) :=
  CodeOf.of [0,1,2,6,8,15,19,20,21,22,35] [] rfsZ Tryz.func115 rfl (by kernel_rfl) (by kernel_rfl)
theorem code_slices_Clone_Change_Change:CodeOf Tryz.prog 116 1 3 [1] x_slices_Clone_Change_Change :=
  CodeOf.of [0,2,4] [] [(53,0),(76,0),(49,0),(94,0),(88,0),(106,0),(171,0),(105,0),(109,1),(179,0),(141,0),(99,0),(98,0),(185,0),(191,0),(176,0),(158,0),(175,0),(114,0),(152,1),(116,1),(90,1),(68,0),(118,1000000),(117,1000000),(67,0),(66,2),(129,0),(128,0),(160,0),(130,0),(71,0),(122,0),(156,0),(102,0),(85,0),(86,1),(89,1),(4000000,0)] Tryz.func116 rfl (by kernel_rfl) (by kernel_rfl)
theorem code_slide_mover_region:CodeOf Tryz.prog 117 2 9 [2,3,4,5] x_slide_mover_region :=
  CodeOf.of [0,1,4,5,6,7,8,16,28] [] rfsZ Tryz.func117 rfl (by kernel_rfl) (by kernel_rfl)
theorem code_slide_mover_end:CodeOf Tryz.prog 118 2 3 [2] x_slide_mover_end :=
  CodeOf.of [0,1,4] [] rfsZ Tryz.func118 rfl (by kernel_rfl) (by kernel_rfl)
theorem code_unified_sizes:CodeOf Tryz.prog 119 1 13 [2,3] x_unified_sizes :=
  CodeOf.of [0,1,2,3,4,5,7,9,10,11,12,17,22] [] rfsZ Tryz.func119 rfl (by kernel_rfl) (by kernel_rfl)
theorem code_strings_HasSuffix:CodeOf Tryz.prog 120 2 3 [2] (x_strings_HasSuffix 154) :=
  CodeOf.of [0,1,4] [] rfsZ Tryz.func120 rfl (by kernel_rfl) (by kernel_rfl)
theorem code_unified_proper:CodeOf Tryz.prog 121 1 10 [2] (x_unified_proper 155) :=
  CodeOf.of [0,1,2,3,5,7,8,9,10,31] [] rfsZ Tryz.func121 rfl (by kernel_rfl) (by kernel_rfl)
theorem code_unified_placed:CodeOf Tryz.prog 122 3 14 [4] (x_unified_placed 119 156) :=
  CodeOf.of [0,1,2,3,6,8,9,10,54,56,57,58,59,83] [] rfsZ Tryz.func122 rfl (by kernel_rfl) (by kernel_rfl)
theorem code_scan_plain:CodeOf Tryz.prog 123 1 2 [1] x_scan_plain :=
  CodeOf.of [0,2] [] rfsZ Tryz.func123 rfl (by kernel_rfl) (by kernel_rfl)
theorem code_scan_escaped:CodeOf Tryz.prog 124 1 6 [1] x_scan_escaped :=
  CodeOf.of [0,2,3,13,16,19] [] rfsZ Tryz.func124 rfl (by kernel_rfl) (by kernel_rfl)
theorem code_internal_stringslite_CutSuffix:CodeOf Tryz.prog 125 2 5 [2,3] (x_internal_stringslite_CutSuffix 154) :=
  CodeOf.of [0,1,4,5,9] [] rfsZ Tryz.func125 rfl (by kernel_rfl) (by kernel_rfl)
theorem code_strings_CutPrefix:CodeOf Tryz.prog 126 2 4 [2,3] (x_strings_CutPrefix 157) :=
  CodeOf.of [0,1,4,5] [] rfsZ Tryz.func126 rfl (by kernel_rfl) (by kernel_rfl)
theorem code_scan_Unquote:CodeOf Tryz.prog 127 2 10 [2,3,4] (x_scan_Unquote 158) :=
  CodeOf.of [0,1,4,5,6,7,8,9,17,28] [] rfsZ Tryz.func127 rfl (by kernel_rfl) (by kernel_rfl)
theorem code_strict_parser_header:CodeOf Tryz.prog 128 2 9 [2] (x_strict_parser_header 159) :=
  CodeOf.of [0,1,4,5,6,7,8,16,31] [] rfsZ Tryz.func128 rfl (by kernel_rfl) (by kernel_rfl)
theorem code_strict_parser_content:CodeOf Tryz.prog 129 2 5 [2] (x_strict_parser_content 160) :=
  CodeOf.of [0,1,4,5,9] [] rfsZ Tryz.func129 rfl (by kernel_rfl) (by kernel_rfl)
theorem code_strict_parser_unended:CodeOf Tryz.prog 130 2 6 [2] (x_strict_parser_unended 142 160) :=
  CodeOf.of [0,1,4,5,6,22] [] rfsZ Tryz.func130 rfl (by kernel_rfl) (by kernel_rfl)
theorem code_strings_HasPrefix:CodeOf Tryz.prog 138 2 3 [2] (x_strings_HasPrefix 167) :=
  CodeOf.of [0,1,4] [] rfsZ Tryz.func138 rfl (by kernel_rfl) (by kernel_rfl)
theorem code_scan_Number:CodeOf Tryz.prog 140 2 10 [2,3,4] (x_scan_Number 168) :=
  CodeOf.of [0,1,4,5,6,7,8,16,20,45] [] rfsZ Tryz.func140 rfl (by kernel_rfl) (by kernel_rfl)
theorem code_strings_TrimSuffix:CodeOf Tryz.prog 142 2 3 [2] (x_strings_TrimSuffix 170) :=
  CodeOf.of [0,1,4] [] rfsZ Tryz.func142 rfl (by kernel_rfl) (by kernel_rfl)
theorem code_strings_Contains:CodeOf Tryz.prog 144 2 3 [2] (x_strings_Contains 150) :=
  CodeOf.of [0,1,4] [] rfsZ Tryz.func144 rfl (by kernel_rfl) (by kernel_rfl)
theorem code_text_Bare:CodeOf Tryz.prog 145 1 2 [1] (x_text_Bare 142) :=
  CodeOf.of [0,2] [] rfsZ Tryz.func145 rfl (by kernel_rfl) (by kernel_rfl)
theorem code_slices_Clip_Span_Span:CodeOf Tryz.prog 152 1 2 [1] x_slices_Clip_Span_Span :=
  CodeOf.of [0,2] [] rfsZ Tryz.func152 rfl (by kernel_rfl) (by kernel_rfl)
theorem code_script_pairs:CodeOf Tryz.prog 153 2 12 [2] (x_script_pairs 175) :=
  CodeOf.of [0,1,4,5,6,7,8,10,12,13,14,15] [] rfsZ Tryz.func153 rfl (by kernel_rfl) (by kernel_rfl)
theorem code_internal_stringslite_HasSuffix:CodeOf Tryz.prog 154 2 3 [2] x_internal_stringslite_HasSuffix :=
  CodeOf.of [0,1,4] [] rfsZ Tryz.func154 rfl (by kernel_rfl) (by kernel_rfl)
theorem code_unified_single:CodeOf Tryz.prog 155 1 2 [1] (x_unified_single 145 144) :=
  CodeOf.of [0,2] [] rfsZ Tryz.func155 rfl (by kernel_rfl) (by kernel_rfl)
theorem code_unified_side_line:CodeOf Tryz.prog 156 2 4 [2] (x_unified_side_line 73) :=
  CodeOf.of [0,1,4,5] [] rfsZ Tryz.func156 rfl (by kernel_rfl) (by kernel_rfl)
theorem code_internal_stringslite_CutPrefix:CodeOf Tryz.prog 157 2 5 [2,3] (x_internal_stringslite_CutPrefix 167) :=
  CodeOf.of [0,1,4,5,9] [] rfsZ Tryz.func157 rfl (by kernel_rfl) (by kernel_rfl)
theorem code_scan_reader_word:CodeOf Tryz.prog 158 1 9 [1,2] (x_scan_reader_word 123 75 176) :=
  CodeOf.of [0,2,3,4,5,6,26,40,62] [] rfsZ Tryz.func158 rfl (by kernel_rfl) (by kernel_rfl)
theorem code_strict_span:CodeOf Tryz.prog 159 3 10 [3,4,5] (x_strict_span 138 169) :=
  CodeOf.of [0,1,2,6,7,8,9,11,12,18] [] rfsZ Tryz.func159 rfl (by kernel_rfl) (by kernel_rfl)
theorem code_strict_parser_last:CodeOf Tryz.prog 160 1 3 [1] x_strict_parser_last :=
  CodeOf.of [0,2,9] [] rfsZ Tryz.func160 rfl (by kernel_rfl) (by kernel_rfl)
theorem code_internal_stringslite_HasPrefix:CodeOf Tryz.prog 167 2 3 [2] x_internal_stringslite_HasPrefix :=
  CodeOf.of [0,1,4] [] rfsZ Tryz.func167 rfl (by kernel_rfl) (by kernel_rfl)
theorem code_scan_digit:CodeOf Tryz.prog 168 2 3 [2] x_scan_digit :=
  CodeOf.of [0,1,4] [] rfsZ Tryz.func168 rfl (by kernel_rfl) (by kernel_rfl)
theorem code_scan_Range:CodeOf Tryz.prog 169 2 15 [2,3,4,5] (x_scan_Range 140 97) :=
  CodeOf.of [0,1,4,5,6,7,8,9,10,11,20,30,40,42,52] [] rfsZ Tryz.func169 rfl (by kernel_rfl) (by kernel_rfl)
theorem code_internal_stringslite_TrimSuffix:CodeOf Tryz.prog 170 2 4 [2] (x_internal_stringslite_TrimSuffix 154) :=
  CodeOf.of [0,1,4,7] [] rfsZ Tryz.func170 rfl (by kernel_rfl) (by kernel_rfl)
theorem code_script_pairs_1:CodeOf Tryz.prog 175 4 5 [] x_script_pairs_1 :=
  CodeOf.of [0,1,2,3,7] [] rfsZ Tryz.func175 rfl (by kernel_rfl) (by kernel_rfl)
theorem code_scan_reader_quoted:CodeOf Tryz.prog 176 1 10 [1,2] (x_scan_reader_quoted 185) :=
  CodeOf.of [0,2,3,4,5,6,16,34,38,45] [4] rfsZ Tryz.func176 rfl (by kernel_rfl) (by kernel_rfl)
theorem code_scan_reader_escape:CodeOf Tryz.prog 185 1 9 [1,2] (x_scan_reader_escape 191) :=
  CodeOf.of [0,2,3,4,14,24,25,36,45] [] rfsZ Tryz.func185 rfl (by kernel_rfl) (by kernel_rfl)
theorem code_scan_reader_octal:CodeOf Tryz.prog 191 1 7 [1,2] x_scan_reader_octal :=
  CodeOf.of [0,2,3,4,5,6,40] [] rfsZ Tryz.func191 rfl (by kernel_rfl) (by kernel_rfl)
end Go.AE
