/-
  The code of the functions of this seat.
-/
import Derived.Test.YtafcebkjmeinnaaGreatDoorCode1
import Derived.Test.YtafcebkjmeinnaaGreatDoorProg

set_option linter.unusedSimpArgs false
set_option linter.unusedVariables false
set_option linter.unnecessarySimpa false
set_option maxRecDepth 100000
open Go Go.Proofs
namespace Go.AE
def rfsZ:List (Nat × Nat):=[(53,0),(76,0),(49,0),(94,0),(88,0),(106,0),(171,0),(105,0),(109,1),(179,0),(141,0),(99,0),(98,0),(185,0),(191,0),(176,0),(158,0),(175,0),(114,0),(152,1),(116,1),(90,1),(68,0),(118,1000000),(117,1000000),(67,0),(66,2),(129,0),(128,0),(160,0),(130,0),(71,0),(122,0),(156,0),(102,0),(85,0),(86,1),(89,1)]
theorem code_top_TopReads:CodeOf Tryz.prog 6 6 24 [6] (x_top_TopReads 18 11 17 24 20 13 21) :=
  CodeOf.of [0,1,2,3,4,5,12,13,14,15,16,17,18,19,20,21,22,23,26,52,68,80,89,104] [] rfsZ Tryz.func6 rfl (by kernel_rfl) (by kernel_rfl)
theorem code_gen_Blob:CodeOf Tryz.prog 8 4 9 [4] (x_gen_Blob 25 11 26) :=
  CodeOf.of [0,1,2,3,8,9,10,19,52] [] rfsZ Tryz.func8 rfl (by kernel_rfl) (by kernel_rfl)
theorem code_gen_Near:CodeOf Tryz.prog 9 3 11 [3] (x_gen_Near 27 25 26) :=
  CodeOf.of [0,1,2,6,7,8,9,15,23,24,26] [] rfsZ Tryz.func9 rfl (by kernel_rfl) (by kernel_rfl)
theorem code_gen_Mod:CodeOf Tryz.prog 11 2 3 [2] x_gen_Mod :=
  CodeOf.of [0,1,4] [] rfsZ Tryz.func11 rfl (by kernel_rfl) (by kernel_rfl)
theorem code_gen_Spoiled:CodeOf Tryz.prog 13 4 10 [4] (x_gen_Spoiled 11) :=
  CodeOf.of [0,1,2,3,8,9,16,17,31,44] [] rfsZ Tryz.func13 rfl (by kernel_rfl) (by kernel_rfl)
theorem code_gen_Blobs:CodeOf Tryz.prog 17 3 11 [3] (x_gen_Blobs 8 25 9) :=
  CodeOf.of [0,1,2,6,7,8,9,16,23,33,44] [8] rfsZ Tryz.func17 rfl (by kernel_rfl) (by kernel_rfl)
theorem code_top_arise:CodeOf Tryz.prog 18 0 7 [0] (x_top_arise 19 22 23) :=
  CodeOf.of [0,1,2,3,4,5,6] [] rfsZ Tryz.func18 rfl (by kernel_rfl) (by kernel_rfl)
theorem code_combined_Full:CodeOf Tryz.prog 19 3 11 [42003,4] (x_combined_Full 45 46 47) :=
  CodeOf.of [0,1,2,6,7,8,9,10,13,22,28] [] rfsZ Tryz.func19 rfl (by kernel_rfl) (by kernel_rfl)
theorem code_combined_Format:CodeOf Tryz.prog 20 1 17 [2,3] (x_combined_Format 48 50 51 52 49 53) :=
  CodeOf.of [0,1,2,3,4,5,7,9,13,19,20,21,22,31,32,33,34] [] [(53,0),(76,0),(49,0),(94,0),(88,0),(106,0),(171,0),(105,0),(109,1),(179,0),(141,0),(99,0),(98,0),(185,0),(191,0),(176,0),(158,0),(175,0),(114,0),(152,1),(116,1),(90,1),(68,0),(118,1000000),(117,1000000),(67,0),(66,2),(129,0),(128,0),(160,0),(130,0),(71,0),(122,0),(156,0),(102,0),(85,0),(86,1),(89,1),(7000000,106),(7000001,5)] Tryz.func20 rfl (by kernel_rfl) (by kernel_rfl)
theorem code_recombine_Parse:CodeOf Tryz.prog 21 1 12 [42001,2] (x_recombine_Parse 38 54 20) :=
  CodeOf.of [0,2,3,4,5,6,7,8,11,19,27,40] [] rfsZ Tryz.func21 rfl (by kernel_rfl) (by kernel_rfl)
theorem code_project_Table:CodeOf Tryz.prog 22 1 9 [22002,3] (x_project_Table 48 55 56) :=
  CodeOf.of [0,1,2,3,4,5,9,15,21] [] rfsZ Tryz.func22 rfl (by kernel_rfl) (by kernel_rfl)
theorem code_project_Column:CodeOf Tryz.prog 23 2 8 [3,4] (x_project_Column 57 58) :=
  CodeOf.of [0,1,2,4,5,6,10,19] [] rfsZ Tryz.func23 rfl (by kernel_rfl) (by kernel_rfl)
theorem code_combined_Make:CodeOf Tryz.prog 24 5 13 [42005,6] (x_combined_Make 45 46 59 47) :=
  CodeOf.of [0,1,2,3,4,10,11,12,13,14,17,26,37] [] rfsZ Tryz.func24 rfl (by kernel_rfl) (by kernel_rfl)
theorem code_gen_At:CodeOf Tryz.prog 25 2 5 [2] x_gen_At :=
  CodeOf.of [0,1,4,5,12] [] rfsZ Tryz.func25 rfl (by kernel_rfl) (by kernel_rfl)
theorem code_gen_Line:CodeOf Tryz.prog 26 1 2 [1] (x_gen_Line 11) :=
  CodeOf.of [0,2] [] rfsZ Tryz.func26 rfl (by kernel_rfl) (by kernel_rfl)
theorem code_ref02_Lines:CodeOf Tryz.prog 27 1 7 [1] x_ref02_Lines :=
  CodeOf.of [0,2,3,4,5,9,22] [3] rfsZ Tryz.func27 rfl (by kernel_rfl) (by kernel_rfl)
theorem code_text_Split:CodeOf Tryz.prog 29 1 7 [1,2] (x_text_Split 60 61) :=
  CodeOf.of [0,2,3,4,5,9,19] [] rfsZ Tryz.func29 rfl (by kernel_rfl) (by kernel_rfl)
theorem code_intern_Ids:CodeOf Tryz.prog 30 1 3 [1] (x_intern_Ids 62) :=
  CodeOf.of [0,2,3] [] rfsZ Tryz.func30 rfl (by kernel_rfl) (by kernel_rfl)
theorem code_shortest_Script:CodeOf Tryz.prog 31 2 5 [2,3] (x_shortest_Script 63 65 64) :=
  CodeOf.of [0,1,4,5,9] [] rfsZ Tryz.func31 rfl (by kernel_rfl) (by kernel_rfl)
theorem code_strict_Lines:CodeOf Tryz.prog 38 1 6 [1,2] (x_strict_Lines 77 78) :=
  CodeOf.of [0,2,3,4,6,13] [] rfsZ Tryz.func38 rfl (by kernel_rfl) (by kernel_rfl)
theorem code_text_Join:CodeOf Tryz.prog 43 1 13 [1,2] (x_text_Join 82 83) :=
  CodeOf.of [0,2,3,4,5,6,7,8,9,10,11,40,52] [] rfsZ Tryz.func43 rfl (by kernel_rfl) (by kernel_rfl)
theorem code_combined_named:CodeOf Tryz.prog 45 1 2 [1] x_combined_named :=
  CodeOf.of [0,2] [] rfsZ Tryz.func45 rfl (by kernel_rfl) (by kernel_rfl)
theorem code_weave_Make:CodeOf Tryz.prog 46 2 28 [22002,3] (x_weave_Make 29 30 84 85 86) :=
  CodeOf.of [0,1,4,5,6,7,9,10,11,12,13,14,15,16,24,29,30,31,32,41,69,70,71,84,85,86,97,104] [7,27,79,1000004] rfsZ Tryz.func46 rfl (by kernel_rfl) (by kernel_rfl)
theorem code_combined_Cut:CodeOf Tryz.prog 47 4 22 [42005,6] (x_combined_Cut 45 57 87 56 48 90 88) :=
  CodeOf.of [0,1,2,3,5,8,9,10,11,12,13,14,16,17,20,25,33,45,46,47,48,79] [1000000] rfsZ Tryz.func47 rfl (by kernel_rfl) (by kernel_rfl)
theorem code_combined_Check:CodeOf Tryz.prog 48 1 8 [2] (x_combined_Check 45 91 92 93) :=
  CodeOf.of [0,1,2,3,8,17,21,25] [] rfsZ Tryz.func48 rfl (by kernel_rfl) (by kernel_rfl)
theorem code___strings_Builder__WriteString:CodeOf Tryz.prog 49 2 4 [2,3] (x___strings_Builder__WriteString 94) :=
  CodeOf.of [0,1,4,5] [] [(53,0),(76,0),(49,0),(94,0),(88,0),(106,0),(171,0),(105,0),(109,1),(179,0),(141,0),(99,0),(98,0),(185,0),(191,0),(176,0),(158,0),(175,0),(114,0),(152,1),(116,1),(90,1),(68,0),(118,1000000),(117,1000000),(67,0),(66,2),(129,0),(128,0),(160,0),(130,0),(71,0),(122,0),(156,0),(102,0),(85,0),(86,1),(89,1),(7000000,106),(7000001,5)] Tryz.func49 rfl (by kernel_rfl) (by kernel_rfl)
theorem code_combined_title:CodeOf Tryz.prog 50 1 5 [2] (x_combined_title 75 95) :=
  CodeOf.of [0,1,2,3,5] [] rfsZ Tryz.func50 rfl (by kernel_rfl) (by kernel_rfl)
theorem code_combined_header:CodeOf Tryz.prog 51 2 11 [3] (x_combined_header 96 97 89 49 53) :=
  CodeOf.of [0,1,2,4,5,6,7,8,18,19,20] [] [(53,0),(76,0),(49,0),(94,0),(88,0),(106,0),(171,0),(105,0),(109,1),(179,0),(141,0),(99,0),(98,0),(185,0),(191,0),(176,0),(158,0),(175,0),(114,0),(152,1),(116,1),(90,1),(68,0),(118,1000000),(117,1000000),(67,0),(66,2),(129,0),(128,0),(160,0),(130,0),(71,0),(122,0),(156,0),(102,0),(85,0),(86,1),(89,1),(7000000,106),(7000001,5)] Tryz.func51 rfl (by kernel_rfl) (by kernel_rfl)
theorem code_combined_row:CodeOf Tryz.prog 52 2 13 [3] (x_combined_row 73) :=
  CodeOf.of [0,1,2,4,5,6,7,9,17,18,19,26,42] [6] rfsZ Tryz.func52 rfl (by kernel_rfl) (by kernel_rfl)
theorem code_recombine_parse:CodeOf Tryz.prog 54 1 11 [42001,2] (x_recombine_parse 98 99) :=
  CodeOf.of [0,2,3,4,6,22,25,26,27,28,34] [1000000] rfsZ Tryz.func54 rfl (by kernel_rfl) (by kernel_rfl)
theorem code_slices_Max_int_int:CodeOf Tryz.prog 55 1 6 [1] x_slices_Max_int_int :=
  CodeOf.of [0,2,3,4,7,15] [] rfsZ Tryz.func55 rfl (by kernel_rfl) (by kernel_rfl)
theorem code_slices_Clone_Row_Row:CodeOf Tryz.prog 56 1 3 [1] x_slices_Clone_Row_Row :=
  CodeOf.of [0,2,4] [] rfsZ Tryz.func56 rfl (by kernel_rfl) (by kernel_rfl)
theorem code_weave_Check:CodeOf Tryz.prog 57 1 17 [2] (x_weave_Check 100 101 102) :=
  CodeOf.of [0,1,2,4,5,7,15,17,18,19,20,27,30,31,32,33,43] [] rfsZ Tryz.func57 rfl (by kernel_rfl) (by kernel_rfl)
theorem code_project_column:CodeOf Tryz.prog 58 2 12 [3,4] (x_project_column 103 43) :=
  CodeOf.of [0,1,2,4,5,6,8,10,11,12,13,18] [6] rfsZ Tryz.func58 rfl (by kernel_rfl) (by kernel_rfl)
theorem code_interest_Hunks:CodeOf Tryz.prog 59 3 19 [4,5] (x_interest_Hunks 57 104 105 106) :=
  CodeOf.of [0,1,2,3,6,7,8,9,10,12,13,14,18,25,33,34,35,36,55] [1000000] rfsZ Tryz.func59 rfl (by kernel_rfl) (by kernel_rfl)
theorem code_text_Check:CodeOf Tryz.prog 60 1 5 [1] (x_text_Check 107 73) :=
  CodeOf.of [0,2,3,12,21] [] rfsZ Tryz.func60 rfl (by kernel_rfl) (by kernel_rfl)
theorem code_strings_SplitAfter:CodeOf Tryz.prog 61 2 3 [2] (x_strings_SplitAfter 108) :=
  CodeOf.of [0,1,4] [] rfsZ Tryz.func61 rfl (by kernel_rfl) (by kernel_rfl)
theorem code_intern_number:CodeOf Tryz.prog 62 1 16 [1,2] (x_intern_number 109) :=
  CodeOf.of [0,2,3,4,5,6,7,9,16,17,18,19,23,24,25,26] [] rfsZ Tryz.func62 rfl (by kernel_rfl) (by kernel_rfl)
theorem code_shortest_limited:CodeOf Tryz.prog 63 2 3 [2] x_shortest_limited :=
  CodeOf.of [0,1,4] [] rfsZ Tryz.func63 rfl (by kernel_rfl) (by kernel_rfl)
theorem code_script_FromPairs:CodeOf Tryz.prog 64 3 13 [3,4] (x_script_FromPairs 110 111) :=
  CodeOf.of [0,1,2,6,7,8,10,18,20,21,22,23,49] [] rfsZ Tryz.func64 rfl (by kernel_rfl) (by kernel_rfl)
theorem code_shortest_walk:CodeOf Tryz.prog 65 2 17 [3] (x_shortest_walk 112 113 114) :=
  CodeOf.of [0,1,3,4,5,6,7,8,9,10,11,15,16,17,45,48,84] [5] rfsZ Tryz.func65 rfl (by kernel_rfl) (by kernel_rfl)
theorem code_text_Ended:CodeOf Tryz.prog 73 1 2 [1] (x_text_Ended 120) :=
  CodeOf.of [0,2] [] rfsZ Tryz.func73 rfl (by kernel_rfl) (by kernel_rfl)
theorem code_scan_Quote:CodeOf Tryz.prog 75 1 13 [1] (x_scan_Quote 123 124 76 49 53) :=
  CodeOf.of [0,2,3,4,5,6,10,11,12,22,26,27,28] [] [(53,0),(76,0),(49,0),(94,0),(88,0),(106,0),(171,0),(105,0),(109,1),(179,0),(141,0),(99,0),(98,0),(185,0),(191,0),(176,0),(158,0),(175,0),(114,0),(152,1),(116,1),(90,1),(68,0),(118,1000000),(117,1000000),(67,0),(66,2),(129,0),(128,0),(160,0),(130,0),(71,0),(122,0),(156,0),(102,0),(85,0),(86,1),(89,1),(7000000,106),(7000001,5)] Tryz.func75 rfl (by kernel_rfl) (by kernel_rfl)
theorem code___strings_Builder__WriteByte:CodeOf Tryz.prog 76 2 3 [2] (x___strings_Builder__WriteByte 94) :=
  CodeOf.of [0,1,4] [] [(53,0),(76,0),(49,0),(94,0),(88,0),(106,0),(171,0),(105,0),(109,1),(179,0),(141,0),(99,0),(98,0),(185,0),(191,0),(176,0),(158,0),(175,0),(114,0),(152,1),(116,1),(90,1),(68,0),(118,1000000),(117,1000000),(67,0),(66,2),(129,0),(128,0),(160,0),(130,0),(71,0),(122,0),(156,0),(102,0),(85,0),(86,1),(89,1),(7000000,106),(7000001,5)] Tryz.func76 rfl (by kernel_rfl) (by kernel_rfl)
theorem code_strings_CutSuffix:CodeOf Tryz.prog 77 2 4 [2,3] (x_strings_CutSuffix 125) :=
  CodeOf.of [0,1,4,5] [] rfsZ Tryz.func77 rfl (by kernel_rfl) (by kernel_rfl)
theorem code_strings_Split:CodeOf Tryz.prog 78 2 3 [2] (x_strings_Split 108) :=
  CodeOf.of [0,1,4] [] rfsZ Tryz.func78 rfl (by kernel_rfl) (by kernel_rfl)
theorem code_intern_Names:CodeOf Tryz.prog 84 1 3 [1] (x_intern_Names 62) :=
  CodeOf.of [0,2,4] [] rfsZ Tryz.func84 rfl (by kernel_rfl) (by kernel_rfl)
theorem code_weave_loom_add:CodeOf Tryz.prog 85 3 14 [3] (x_weave_loom_add 31) :=
  CodeOf.of [0,1,2,6,7,8,10,11,22,24,25,26,27,38] [] rfsZ Tryz.func85 rfl (by kernel_rfl) (by kernel_rfl)
theorem code_weave_loom_weave:CodeOf Tryz.prog 86 1 17 [1] (x_weave_loom_weave 133) :=
  CodeOf.of [0,2,3,4,5,6,8,12,13,14,15,25,27,28,29,30,62] [] rfsZ Tryz.func86 rfl (by kernel_rfl) (by kernel_rfl)
theorem code_combined_ordered:CodeOf Tryz.prog 87 2 10 [2] x_combined_ordered :=
  CodeOf.of [0,1,4,5,7,8,9,10,11,30] [] rfsZ Tryz.func87 rfl (by kernel_rfl) (by kernel_rfl)
theorem code_combined_Cut_1:CodeOf Tryz.prog 88 4 10 [] (x_combined_Cut_1 89) :=
  CodeOf.of [0,1,2,3,5,6,14,15,16,17] [] rfsZ Tryz.func88 rfl (by kernel_rfl) (by kernel_rfl)
theorem code_combined_counts:CodeOf Tryz.prog 89 2 15 [2] (x_combined_counts 103) :=
  CodeOf.of [0,1,4,5,7,8,12,13,14,15,18,19,20,24,34] [] rfsZ Tryz.func89 rfl (by kernel_rfl) (by kernel_rfl)
theorem code_slices_Clone_int_int:CodeOf Tryz.prog 90 1 3 [1] x_slices_Clone_int_int :=
  CodeOf.of [0,2,4] [] rfsZ Tryz.func90 rfl (by kernel_rfl) (by kernel_rfl)
theorem code_combined_marked:CodeOf Tryz.prog 91 1 14 [2] (x_combined_marked 100) :=
  CodeOf.of [0,1,2,4,6,8,9,10,11,15,16,17,18,25] [] rfsZ Tryz.func91 rfl (by kernel_rfl) (by kernel_rfl)
theorem code_combined_wellFormed:CodeOf Tryz.prog 92 1 18 [2] (x_combined_wellFormed 134 101 55 102) :=
  CodeOf.of [0,1,2,3,4,6,7,9,15,16,17,18,30,32,33,34,35,45] [] rfsZ Tryz.func92 rfl (by kernel_rfl) (by kernel_rfl)
theorem code_combined_size:CodeOf Tryz.prog 93 1 15 [2] (x_combined_size 50 51 73) :=
  CodeOf.of [0,1,2,3,5,7,12,13,14,15,26,27,28,29,43] [] rfsZ Tryz.func93 rfl (by kernel_rfl) (by kernel_rfl)
theorem code_scan_Format:CodeOf Tryz.prog 95 1 3 [1] (x_scan_Format 136) :=
  CodeOf.of [0,2,8] [] rfsZ Tryz.func95 rfl (by kernel_rfl) (by kernel_rfl)
theorem code_scan_FormatRange:CodeOf Tryz.prog 97 2 7 [2] (x_scan_FormatRange 95) :=
  CodeOf.of [0,1,4,20,21,22,27] [] rfsZ Tryz.func97 rfl (by kernel_rfl) (by kernel_rfl)
theorem code_recombine_parser_title:CodeOf Tryz.prog 98 3 17 [3] (x_recombine_parser_title 126 127 140) :=
  CodeOf.of [0,1,2,6,7,8,9,10,11,12,13,14,15,16,17,24,31] [] rfsZ Tryz.func98 rfl (by kernel_rfl) (by kernel_rfl)
theorem code_recombine_parser_line:CodeOf Tryz.prog 99 2 11 [2] (x_recombine_parser_line 138 142 143 141) :=
  CodeOf.of [0,1,4,5,6,7,8,10,20,35,41] [] rfsZ Tryz.func99 rfl (by kernel_rfl) (by kernel_rfl)
theorem code_weave_Marked:CodeOf Tryz.prog 100 2 4 [3] x_weave_Marked :=
  CodeOf.of [0,1,2,4] [] rfsZ Tryz.func100 rfl (by kernel_rfl) (by kernel_rfl)
theorem code_weave_Single:CodeOf Tryz.prog 101 1 3 [2] (x_weave_Single 145 144) :=
  CodeOf.of [0,1,2] [] rfsZ Tryz.func101 rfl (by kernel_rfl) (by kernel_rfl)
theorem code_weave_Ends_Add:CodeOf Tryz.prog 102 2 8 [3] (x_weave_Ends_Add 73) :=
  CodeOf.of [0,1,3,4,5,6,11,35] [] rfsZ Tryz.func102 rfl (by kernel_rfl) (by kernel_rfl)
theorem code_weave_Visible:CodeOf Tryz.prog 103 2 6 [3] x_weave_Visible :=
  CodeOf.of [0,1,2,4,10,12] [] rfsZ Tryz.func103 rfl (by kernel_rfl) (by kernel_rfl)
theorem code_interest_interesting:CodeOf Tryz.prog 104 2 11 [3] (x_interest_interesting 146 147) :=
  CodeOf.of [0,1,2,4,5,7,9,10,11,12,27] [5] rfsZ Tryz.func104 rfl (by kernel_rfl) (by kernel_rfl)
theorem code_interest_spans:CodeOf Tryz.prog 105 2 10 [2] x_interest_spans :=
  CodeOf.of [0,1,4,5,6,7,8,9,18,23] [1000000] rfsZ Tryz.func105 rfl (by kernel_rfl) (by kernel_rfl)
theorem code_interest_Hunks_1:CodeOf Tryz.prog 106 2 3 [2] x_interest_Hunks_1 :=
  CodeOf.of [0,1,3] [] rfsZ Tryz.func106 rfl (by kernel_rfl) (by kernel_rfl)
theorem code_intern_table_id:CodeOf Tryz.prog 109 2 6 [2] x_intern_table_id :=
  CodeOf.of [0,1,4,5,6,17] [] rfsZ Tryz.func109 rfl (by kernel_rfl) (by kernel_rfl)
theorem code_script_length:CodeOf Tryz.prog 110 1 2 [1] x_script_length :=
  CodeOf.of [0,2] [] rfsZ Tryz.func110 rfl (by kernel_rfl) (by kernel_rfl)
theorem code_script_fromPairs:CodeOf Tryz.prog 111 3 13 [3] (x_script_fromPairs 152) :=
  CodeOf.of [0,1,2,6,7,8,9,11,18,19,20,21,33] [7] rfsZ Tryz.func111 rfl (by kernel_rfl) (by kernel_rfl)
theorem code_shortest_beginning:CodeOf Tryz.prog 112 2 5 [2] x_shortest_beginning :=
  CodeOf.of [0,1,4,5,26] [] rfsZ Tryz.func112 rfl (by kernel_rfl) (by kernel_rfl)
theorem code_shortest_distances:CodeOf Tryz.prog 113 2 16 [2] x_shortest_distances :=
  CodeOf.of [0,1,4,5,6,7,8,9,10,11,22,23,24,44,79,90] [] rfsZ Tryz.func113 rfl (by kernel_rfl) (by kernel_rfl)
theorem code_shortest_walk_1:CodeOf Tryz.prog 114 4 5 [4] x_shortest_walk_1 :=
  CodeOf.of [0,1,2,3,6] [] rfsZ Tryz.func114 rfl (by kernel_rfl) (by kernel_rfl)
theorem code_strings_HasSuffix:CodeOf Tryz.prog 120 2 3 [2] (x_strings_HasSuffix 154) :=
  CodeOf.of [0,1,4] [] rfsZ Tryz.func120 rfl (by kernel_rfl) (by kernel_rfl)
theorem code_scan_plain:CodeOf Tryz.prog 123 1 2 [1] x_scan_plain :=
  CodeOf.of [0,2] [] rfsZ Tryz.func123 rfl (by kernel_rfl) (by kernel_rfl)
theorem code_scan_escaped:CodeOf Tryz.prog 124 1 6 [1] x_scan_escaped :=
  CodeOf.of [0,2,3,13,16,19] [] rfsZ Tryz.func124 rfl (by kernel_rfl) (by kernel_rfl)
theorem code_internal_stringslite_CutSuffix:CodeOf Tryz.prog 125 2 5 [2,3] (x_internal_stringslite_CutSuffix 154) :=
  CodeOf.of [0,1,4,5,9] [] rfsZ Tryz.func125 rfl (by kernel_rfl) (by kernel_rfl)
theorem code_strings_CutPrefix:CodeOf Tryz.prog 126 2 4 [2,3] (x_strings_CutPrefix 157) :=
  CodeOf.of [0,1,4,5] [] rfsZ Tryz.func126 rfl (by kernel_rfl) (by kernel_rfl)
theorem code_scan_Unquote:CodeOf Tryz.prog 127 2 10 [2,3,4] (x_scan_Unquote 158) :=
  CodeOf.of [0,1,4,5,6,7,8,9,17,28] [] rfsZ Tryz.func127 rfl (by kernel_rfl) (by kernel_rfl)
theorem code_lost_Coalesce:CodeOf Tryz.prog 133 1 13 [1,2] (x_lost_Coalesce 163) :=
  CodeOf.of [0,2,3,4,5,6,7,22,23,24,25,26,39] [] rfsZ Tryz.func133 rfl (by kernel_rfl) (by kernel_rfl)
theorem code_combined_follows:CodeOf Tryz.prog 134 3 15 [4,5] (x_combined_follows 89) :=
  CodeOf.of [0,1,2,3,6,7,8,9,10,22,28,29,30,31,44] [] rfsZ Tryz.func134 rfl (by kernel_rfl) (by kernel_rfl)
theorem code_strings_HasPrefix:CodeOf Tryz.prog 138 2 3 [2] (x_strings_HasPrefix 167) :=
  CodeOf.of [0,1,4] [] rfsZ Tryz.func138 rfl (by kernel_rfl) (by kernel_rfl)
theorem code_scan_Number:CodeOf Tryz.prog 140 2 10 [2,3,4] (x_scan_Number 168) :=
  CodeOf.of [0,1,4,5,6,7,8,16,20,45] [] rfsZ Tryz.func140 rfl (by kernel_rfl) (by kernel_rfl)
theorem code_recombine_parser_header:CodeOf Tryz.prog 141 2 23 [2] (x_recombine_parser_header 96 126 77 78 169) :=
  CodeOf.of [0,1,4,5,6,7,8,9,10,11,12,13,14,16,17,33,42,45,46,47,48,58,83] [1000000] rfsZ Tryz.func141 rfl (by kernel_rfl) (by kernel_rfl)
theorem code_strings_TrimSuffix:CodeOf Tryz.prog 142 2 3 [2] (x_strings_TrimSuffix 170) :=
  CodeOf.of [0,1,4] [] rfsZ Tryz.func142 rfl (by kernel_rfl) (by kernel_rfl)
theorem code_recombine_Row:CodeOf Tryz.prog 143 2 16 [32002,3] x_recombine_Row :=
  CodeOf.of [0,1,4,5,6,7,8,20,22,23,24,28,30,36,42,50] [] rfsZ Tryz.func143 rfl (by kernel_rfl) (by kernel_rfl)
theorem code_strings_Contains:CodeOf Tryz.prog 144 2 3 [2] (x_strings_Contains 150) :=
  CodeOf.of [0,1,4] [] rfsZ Tryz.func144 rfl (by kernel_rfl) (by kernel_rfl)
theorem code_text_Bare:CodeOf Tryz.prog 145 1 2 [1] (x_text_Bare 142) :=
  CodeOf.of [0,2] [] rfsZ Tryz.func145 rfl (by kernel_rfl) (by kernel_rfl)
theorem code_interest_runs:CodeOf Tryz.prog 146 1 3 [2] (x_interest_runs 105 171) :=
  CodeOf.of [0,1,2] [] rfsZ Tryz.func146 rfl (by kernel_rfl) (by kernel_rfl)
theorem code_interest_dense:CodeOf Tryz.prog 147 2 9 [2] x_interest_dense :=
  CodeOf.of [0,1,4,5,7,8,9,10,11] [] rfsZ Tryz.func147 rfl (by kernel_rfl) (by kernel_rfl)
theorem code_slices_Clip_Span_Span:CodeOf Tryz.prog 152 1 2 [1] x_slices_Clip_Span_Span :=
  CodeOf.of [0,2] [] rfsZ Tryz.func152 rfl (by kernel_rfl) (by kernel_rfl)
theorem code_internal_stringslite_HasSuffix:CodeOf Tryz.prog 154 2 3 [2] x_internal_stringslite_HasSuffix :=
  CodeOf.of [0,1,4] [] rfsZ Tryz.func154 rfl (by kernel_rfl) (by kernel_rfl)
theorem code_internal_stringslite_CutPrefix:CodeOf Tryz.prog 157 2 5 [2,3] (x_internal_stringslite_CutPrefix 167) :=
  CodeOf.of [0,1,4,5,9] [] rfsZ Tryz.func157 rfl (by kernel_rfl) (by kernel_rfl)
theorem code_scan_reader_word:CodeOf Tryz.prog 158 1 9 [1,2] (x_scan_reader_word 123 75 176) :=
  CodeOf.of [0,2,3,4,5,6,26,40,62] [] rfsZ Tryz.func158 rfl (by kernel_rfl) (by kernel_rfl)
theorem code_lost_merge:CodeOf Tryz.prog 163 3 23 [5,6] (x_lost_merge 178 31 179) :=
  CodeOf.of [0,1,2,3,5,6,7,8,9,10,11,12,14,16,25,28,29,30,31,59,60,61,62] [] rfsZ Tryz.func163 rfl (by kernel_rfl) (by kernel_rfl)
theorem code_internal_stringslite_HasPrefix:CodeOf Tryz.prog 167 2 3 [2] x_internal_stringslite_HasPrefix :=
  CodeOf.of [0,1,4] [] rfsZ Tryz.func167 rfl (by kernel_rfl) (by kernel_rfl)
theorem code_scan_digit:CodeOf Tryz.prog 168 2 3 [2] x_scan_digit :=
  CodeOf.of [0,1,4] [] rfsZ Tryz.func168 rfl (by kernel_rfl) (by kernel_rfl)
theorem code_scan_Range:CodeOf Tryz.prog 169 2 15 [2,3,4,5] (x_scan_Range 140 97) :=
  CodeOf.of [0,1,4,5,6,7,8,9,10,11,20,30,40,42,52] [] rfsZ Tryz.func169 rfl (by kernel_rfl) (by kernel_rfl)
theorem code_internal_stringslite_TrimSuffix:CodeOf Tryz.prog 170 2 4 [2] (x_internal_stringslite_TrimSuffix 154) :=
  CodeOf.of [0,1,4,7] [] rfsZ Tryz.func170 rfl (by kernel_rfl) (by kernel_rfl)
theorem code_interest_runs_1:CodeOf Tryz.prog 171 2 3 [2] (x_interest_runs_1 172) :=
  CodeOf.of [0,1,3] [] rfsZ Tryz.func171 rfl (by kernel_rfl) (by kernel_rfl)
theorem code_interest_blank:CodeOf Tryz.prog 172 1 3 [2] x_interest_blank :=
  CodeOf.of [0,1,2] [] rfsZ Tryz.func172 rfl (by kernel_rfl) (by kernel_rfl)
theorem code_scan_reader_quoted:CodeOf Tryz.prog 176 1 10 [1,2] (x_scan_reader_quoted 185) :=
  CodeOf.of [0,2,3,4,5,6,16,34,38,45] [4] rfsZ Tryz.func176 rfl (by kernel_rfl) (by kernel_rfl)
theorem code_lost_numbers:CodeOf Tryz.prog 178 1 8 [1] x_lost_numbers :=
  CodeOf.of [0,2,3,5,6,7,8,9] [3] rfsZ Tryz.func178 rfl (by kernel_rfl) (by kernel_rfl)
theorem code_lost_merge_1:CodeOf Tryz.prog 179 5 6 [] x_lost_merge_1 :=
  CodeOf.of [0,1,2,3,4,8] [] rfsZ Tryz.func179 rfl (by kernel_rfl) (by kernel_rfl)
theorem code_scan_reader_escape:CodeOf Tryz.prog 185 1 9 [1,2] (x_scan_reader_escape 191) :=
  CodeOf.of [0,2,3,4,14,24,25,36,45] [] rfsZ Tryz.func185 rfl (by kernel_rfl) (by kernel_rfl)
theorem code_scan_reader_octal:CodeOf Tryz.prog 191 1 7 [1,2] x_scan_reader_octal :=
  CodeOf.of [0,2,3,4,5,6,40] [] rfsZ Tryz.func191 rfl (by kernel_rfl) (by kernel_rfl)
end Go.AE
