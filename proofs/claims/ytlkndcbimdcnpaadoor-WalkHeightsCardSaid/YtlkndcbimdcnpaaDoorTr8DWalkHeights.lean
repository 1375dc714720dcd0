/-
  The contracts of the functions of this seat,one behind the other.
-/
import Derived.Test.YtlkndcbimdcnpaaDoorSr8D
import Derived.Test.YtlkndcbimdcnpaaDoorCona1
import Derived.Test.YtlkndcbimdcnpaaDoorCona2
import Derived.Test.YtlkndcbimdcnpaaDoorCond1
import Derived.Test.YtlkndcbimdcnpaaDoorSh8D
import Derived.Test.YtlkndcbimdcnpaaDoorSpc8D

set_option linter.unusedSimpArgs false
set_option linter.unusedVariables false
set_option linter.unnecessarySimpa false
set_option maxRecDepth 100000
open Go Go.Proofs
namespace Go.AE.Seat
def G0:Gam:=⟨[],[]⟩
theorem ok0:GamOk Tryd.prog G0:=GamOk.nil _
theorem has_gen_At:Has Tryd.prog 21 S_gen_At:=ct_gen_At code_gen_At ok0
def G1:Gam:=⟨(21,S_gen_At)::G0.fs,G0.rs⟩
theorem ok1:GamOk Tryd.prog G1:=GamOk.consH has_gen_At ok0
theorem has_gen_Mod:Has Tryd.prog 20 S_gen_Mod:=ct_gen_Mod code_gen_Mod ok1
def G2:Gam:=⟨(20,S_gen_Mod)::G1.fs,G1.rs⟩
theorem ok2:GamOk Tryd.prog G2:=GamOk.consH has_gen_Mod ok1
theorem has_gen_Line:Has Tryd.prog 49 S_gen_Line:=ct_gen_Line code_gen_Line ok2 rfl
def G3:Gam:=⟨(49,S_gen_Line)::G2.fs,G2.rs⟩
theorem ok3:GamOk Tryd.prog G3:=GamOk.consH has_gen_Line ok2
theorem has_gen_Blob:Has Tryd.prog 36 S_gen_Blob:=ct_gen_Blob code_gen_Blob ok3 rfl rfl rfl
def G4:Gam:=⟨(36,S_gen_Blob)::G3.fs,G3.rs⟩
theorem ok4:GamOk Tryd.prog G4:=GamOk.consH has_gen_Blob ok3
theorem has_gen_Files:Has Tryd.prog 22 S_gen_Files:=ct_gen_Files code_gen_Files ok4 rfl rfl
def G5:Gam:=⟨(22,S_gen_Files)::G4.fs,G4.rs⟩
theorem ok5:GamOk Tryd.prog G5:=GamOk.consH has_gen_Files ok4
theorem has_ref02_Lines:Has Tryd.prog 50 S_ref02_Lines:=ct_ref02_Lines code_ref02_Lines ok5
def G6:Gam:=⟨(50,S_ref02_Lines)::G5.fs,G5.rs⟩
theorem ok6:GamOk Tryd.prog G6:=GamOk.consH has_ref02_Lines ok5
theorem has_gen_Near:Has Tryd.prog 37 S_gen_Near:=ct_gen_Near code_gen_Near ok6 rfl rfl rfl
def G7:Gam:=⟨(37,S_gen_Near)::G6.fs,G6.rs⟩
theorem ok7:GamOk Tryd.prog G7:=GamOk.consH has_gen_Near ok6
theorem has_gen_change:Has Tryd.prog 23 S_gen_change:=ct_gen_change code_gen_change ok7 rfl rfl rfl rfl
def G8:Gam:=⟨(23,S_gen_change)::G7.fs,G7.rs⟩
theorem ok8:GamOk Tryd.prog G8:=GamOk.consH has_gen_change ok7
theorem has_gen_Turned:Has Tryd.prog 24 S_gen_Turned:=ct_gen_Turned code_gen_Turned ok8 rfl
def G9:Gam:=⟨(24,S_gen_Turned)::G8.fs,G8.rs⟩
theorem ok9:GamOk Tryd.prog G9:=GamOk.consH has_gen_Turned ok8
theorem has_gen_Graph:Has Tryd.prog 10 S_gen_Graph:=ct_gen_Graph code_gen_Graph ok9 rfl rfl rfl rfl rfl
def G10:Gam:=⟨(10,S_gen_Graph)::G9.fs,G9.rs⟩
theorem ok10:GamOk Tryd.prog G10:=GamOk.consH has_gen_Graph ok9
def G11:Gam:=⟨G10.fs,(51,R_dag_limited_1)::G10.rs⟩
theorem ok11:GamOk Tryd.prog G11:=GamOk.consR (ct_dag_limited_1 code_dag_limited_1 ok10) ok10
def G12:Gam:=⟨G11.fs,(41,R_dag_Check_1)::G11.rs⟩
theorem ok12:GamOk Tryd.prog G12:=GamOk.consR (ct_dag_Check_1 code_dag_Check_1 ok11) ok11
def G13:Gam:=⟨G12.fs,(53,R_slices_IndexFunc_Commit_Commit 51 41)::G12.rs⟩
theorem ok13:GamOk Tryd.prog G13:=GamOk.consR (ct_slices_IndexFunc_Commit_Commit code_slices_IndexFunc_Commit_Commit ok12 rfl rfl) ok12
def G14:Gam:=⟨G13.fs,(40,R_slices_ContainsFunc_Commit_Commit 51 41)::G13.rs⟩
theorem ok14:GamOk Tryd.prog G14:=GamOk.consR (ct_slices_ContainsFunc_Commit_Commit code_slices_ContainsFunc_Commit_Commit ok13 rfl rfl rfl) ok13
theorem has_dag_limited:Has Tryd.prog 38 S_dag_limited:=ct_dag_limited code_dag_limited ok14 rfl rfl
def G15:Gam:=⟨(38,S_dag_limited)::G14.fs,G14.rs⟩
theorem ok15:GamOk Tryd.prog G15:=GamOk.consH has_dag_limited ok14
theorem has_slices_Index_int_int:Has Tryd.prog 60 S_slices_Index_int_int:=ct_slices_Index_int_int code_slices_Index_int_int ok15
def G16:Gam:=⟨(60,S_slices_Index_int_int)::G15.fs,G15.rs⟩
theorem ok16:GamOk Tryd.prog G16:=GamOk.consH has_slices_Index_int_int ok15
theorem has_slices_Contains_int_int:Has Tryd.prog 52 S_slices_Contains_int_int:=ct_slices_Contains_int_int code_slices_Contains_int_int ok16 rfl
def G17:Gam:=⟨(52,S_slices_Contains_int_int)::G16.fs,G16.rs⟩
theorem ok17:GamOk Tryd.prog G17:=GamOk.consH has_slices_Contains_int_int ok16
theorem has_dag_related:Has Tryd.prog 39 S_dag_related:=ct_dag_related code_dag_related ok17 rfl
def G18:Gam:=⟨(39,S_dag_related)::G17.fs,G17.rs⟩
theorem ok18:GamOk Tryd.prog G18:=GamOk.consH has_dag_related ok17
theorem has_dag_Upward:Has Tryd.prog 32 S_dag_Upward:=ct_dag_Upward code_dag_Upward ok18
def G19:Gam:=⟨(32,S_dag_Upward)::G18.fs,G18.rs⟩
theorem ok19:GamOk Tryd.prog G19:=GamOk.consH has_dag_Upward ok18
def G20:Gam:=⟨G19.fs,(64,R_tree_blobs)::G19.rs⟩
theorem ok20:GamOk Tryd.prog G20:=GamOk.consR (ct_tree_blobs code_tree_blobs ok19) ok19
def G21:Gam:=⟨G20.fs,(65,R_tree_nested)::G20.rs⟩
theorem ok21:GamOk Tryd.prog G21:=GamOk.consR (ct_tree_nested code_tree_nested ok20) ok20
theorem has_tree_ordered:Has Tryd.prog 57 S_tree_ordered:=ct_tree_ordered code_tree_ordered ok21 rfl rfl
def G22:Gam:=⟨(57,S_tree_ordered)::G21.fs,G21.rs⟩
theorem ok22:GamOk Tryd.prog G22:=GamOk.consH has_tree_ordered ok21
def G23:Gam:=⟨(56,S_tree_CheckPath)::G22.fs,G22.rs⟩
theorem ok23:GamOk Tryd.prog G23:=GamOk.consH has_tree_CheckPath ok22
def G24:Gam:=⟨G23.fs,(55,R_tree_Check_1)::G23.rs⟩
theorem ok24:GamOk Tryd.prog G24:=GamOk.consR (ct_tree_Check_1 code_tree_Check_1 ok23 rfl) ok23
def G25:Gam:=⟨(66,S_strings_Count)::G24.fs,G24.rs⟩
theorem ok25:GamOk Tryd.prog G25:=GamOk.consH has_strings_Count ok24
def G26:Gam:=⟨(72,S_strings_HasSuffix)::G25.fs,G25.rs⟩
theorem ok26:GamOk Tryd.prog G26:=GamOk.consH has_strings_HasSuffix ok25
theorem has_text_Ended:Has Tryd.prog 67 S_text_Ended:=ct_text_Ended code_text_Ended ok26 rfl
def G27:Gam:=⟨(67,S_text_Ended)::G26.fs,G26.rs⟩
theorem ok27:GamOk Tryd.prog G27:=GamOk.consH has_text_Ended ok26
theorem has_text_Check:Has Tryd.prog 59 S_text_Check:=ct_text_Check code_text_Check ok27 rfl rfl
def G28:Gam:=⟨(59,S_text_Check)::G27.fs,G27.rs⟩
theorem ok28:GamOk Tryd.prog G28:=GamOk.consH has_text_Check ok27
def G29:Gam:=⟨G28.fs,(58,R_tree_Check_2)::G28.rs⟩
theorem ok29:GamOk Tryd.prog G29:=GamOk.consR (ct_tree_Check_2 code_tree_Check_2 ok28 rfl) ok28
def G30:Gam:=⟨G29.fs,(61,R_slices_IndexFunc_File_File 55 58)::G29.rs⟩
theorem ok30:GamOk Tryd.prog G30:=GamOk.consR (ct_slices_IndexFunc_File_File code_slices_IndexFunc_File_File ok29 rfl rfl) ok29
def G31:Gam:=⟨G30.fs,(54,R_slices_ContainsFunc_File_File 55 58)::G30.rs⟩
theorem ok31:GamOk Tryd.prog G31:=GamOk.consR (ct_slices_ContainsFunc_File_File code_slices_ContainsFunc_File_File ok30 rfl rfl rfl) ok30
theorem has_tree_Check:Has Tryd.prog 42 S_tree_Check:=ct_tree_Check code_tree_Check ok31 rfl rfl rfl rfl
def G32:Gam:=⟨(42,S_tree_Check)::G31.fs,G31.rs⟩
theorem ok32:GamOk Tryd.prog G32:=GamOk.consH has_tree_Check ok31
theorem has_dag_Check:Has Tryd.prog 25 S_dag_Check:=ct_dag_Check code_dag_Check ok32 rfl rfl rfl rfl rfl rfl
def G33:Gam:=⟨(25,S_dag_Check)::G32.fs,G32.rs⟩
theorem ok33:GamOk Tryd.prog G33:=GamOk.consH has_dag_Check ok32
theorem has_walk_Levels:Has Tryd.prog 15 S_walk_Levels:=ct_walk_Levels code_walk_Levels ok33 rfl rfl
def G34:Gam:=⟨(15,S_walk_Levels)::G33.fs,G33.rs⟩
theorem ok34:GamOk Tryd.prog G34:=GamOk.consH has_walk_Levels ok33
theorem has_dag_Is:Has Tryd.prog 26 S_dag_Is:=ct_dag_Is code_dag_Is ok34
def G35:Gam:=⟨(26,S_dag_Is)::G34.fs,G34.rs⟩
theorem ok35:GamOk Tryd.prog G35:=GamOk.consH has_dag_Is ok34
def G36:Gam:=⟨G35.fs,(43,R_walk_history_children_1)::G35.rs⟩
theorem ok36:GamOk Tryd.prog G36:=GamOk.consR (ct_walk_history_children_1 code_walk_history_children_1 ok35) ok35
def G37:Gam:=⟨G36.fs,(27,R_walk_history_children)::G36.rs⟩
theorem ok37:GamOk Tryd.prog G37:=GamOk.consR (ct_walk_history_children code_walk_history_children ok36 rfl) ok36
def G38:Gam:=⟨G37.fs,(28,R_walk_history_before)::G37.rs⟩
theorem ok38:GamOk Tryd.prog G38:=GamOk.consR (ct_walk_history_before code_walk_history_before ok37) ok37
def G39:Gam:=⟨G38.fs,(100,R_walk_queue_Less 28)::G38.rs⟩
theorem ok39:GamOk Tryd.prog G39:=GamOk.consR (ct_walk_queue_Less code_walk_queue_Less ok38 rfl) ok38
def G40:Gam:=⟨G39.fs,(103,R_walk_queue_Swap 28)::G39.rs⟩
theorem ok40:GamOk Tryd.prog G40:=GamOk.consR (ct_walk_queue_Swap code_walk_queue_Swap ok39 rfl) ok39
def G41:Gam:=⟨G40.fs,(44,R_container_heap_up 50 28)::G40.rs⟩
theorem ok41:GamOk Tryd.prog G41:=GamOk.consR (ct_container_heap_up code_container_heap_up ok40 rfl rfl rfl) ok40
def G42:Gam:=⟨G41.fs,(102,R_walk_queue_Push 28)::G41.rs⟩
theorem ok42:GamOk Tryd.prog G42:=GamOk.consR (ct_walk_queue_Push code_walk_queue_Push ok41 rfl) ok41
def G43:Gam:=⟨G42.fs,(30,R_walk_queue_Len 28)::G42.rs⟩
theorem ok43:GamOk Tryd.prog G43:=GamOk.consR (ct_walk_queue_Len code_walk_queue_Len ok42 rfl) ok42
def G44:Gam:=⟨G43.fs,(29,R_container_heap_Push 50 28)::G43.rs⟩
theorem ok44:GamOk Tryd.prog G44:=GamOk.consR (ct_container_heap_Push code_container_heap_Push ok43 rfl rfl rfl rfl) ok43
def G45:Gam:=⟨G44.fs,(45,R_container_heap_down 50 28)::G44.rs⟩
theorem ok45:GamOk Tryd.prog G45:=GamOk.consR (ct_container_heap_down code_container_heap_down ok44 rfl rfl rfl) ok44
def G46:Gam:=⟨G45.fs,(101,R_walk_queue_Pop 28)::G45.rs⟩
theorem ok46:GamOk Tryd.prog G46:=GamOk.consR (ct_walk_queue_Pop code_walk_queue_Pop ok45 rfl) ok45
def G47:Gam:=⟨G46.fs,(31,R_container_heap_Pop 50 28)::G46.rs⟩
theorem ok47:GamOk Tryd.prog G47:=GamOk.consR (ct_container_heap_Pop code_container_heap_Pop ok46 rfl rfl rfl rfl rfl) ok46
theorem has_walk_Order:Has Tryd.prog 12 S_walk_Order:=ct_walk_Order code_walk_Order ok47 rfl rfl rfl rfl rfl rfl rfl
def G48:Gam:=⟨(12,S_walk_Order)::G47.fs,G47.rs⟩
theorem ok48:GamOk Tryd.prog G48:=GamOk.consH has_walk_Order ok47
theorem has_gen_Ints:Has Tryd.prog 14 S_gen_Ints:=ct_gen_Ints code_gen_Ints ok48
def G49:Gam:=⟨(14,S_gen_Ints)::G48.fs,G48.rs⟩
theorem ok49:GamOk Tryd.prog G49:=GamOk.consH has_gen_Ints ok48
theorem has_law24_awake:Has Tryd.prog 9 S_law24_awake:=ct_law24_awake code_law24_awake ok49 rfl rfl rfl
def G50:Gam:=⟨(9,S_law24_awake)::G49.fs,G49.rs⟩
theorem ok50:GamOk Tryd.prog G50:=GamOk.consH has_law24_awake ok49
theorem has_law24_WalkHeights:Has Tryd.prog 8 S_law24_WalkHeights:=ct_law24_WalkHeights code_law24_WalkHeights ok50 rfl rfl rfl
def G51:Gam:=⟨(8,S_law24_WalkHeights)::G50.fs,G50.rs⟩
theorem ok51:GamOk Tryd.prog G51:=GamOk.consH has_law24_WalkHeights ok50
end Go.AE.Seat
