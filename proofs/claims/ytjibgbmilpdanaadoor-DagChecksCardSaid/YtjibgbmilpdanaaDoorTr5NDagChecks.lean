/-
  The contracts of the functions of this seat,one behind the other.
-/
import Derived.Test.YtjibgbmilpdanaaDoorSr5N
import Derived.Test.YtjibgbmilpdanaaDoorCona1
import Derived.Test.YtjibgbmilpdanaaDoorCona2
import Derived.Test.YtjibgbmilpdanaaDoorCond1
import Derived.Test.YtjibgbmilpdanaaDoorSh5N
import Derived.Test.YtjibgbmilpdanaaDoorSpc5N

set_option linter.unusedSimpArgs false
set_option linter.unusedVariables false
set_option linter.unnecessarySimpa false
set_option maxRecDepth 100000
open Go Go.Proofs
namespace Go.AE.Seat
def G0:Gam:=⟨[],[]⟩
theorem ok0:GamOk Tryd.prog G0:=GamOk.nil _
theorem has_law23_small:Has Tryd.prog 8 S_law23_small:=ct_law23_small code_law23_small ok0
def G1:Gam:=⟨(8,S_law23_small)::G0.fs,G0.rs⟩
theorem ok1:GamOk Tryd.prog G1:=GamOk.consH has_law23_small ok0
def G2:Gam:=⟨G1.fs,(44,R_dag_limited_1)::G1.rs⟩
theorem ok2:GamOk Tryd.prog G2:=GamOk.consR (ct_dag_limited_1 code_dag_limited_1 ok1) ok1
def G3:Gam:=⟨G2.fs,(30,R_dag_Check_1)::G2.rs⟩
theorem ok3:GamOk Tryd.prog G3:=GamOk.consR (ct_dag_Check_1 code_dag_Check_1 ok2) ok2
def G4:Gam:=⟨G3.fs,(45,R_slices_IndexFunc_Commit_Commit 44 30)::G3.rs⟩
theorem ok4:GamOk Tryd.prog G4:=GamOk.consR (ct_slices_IndexFunc_Commit_Commit code_slices_IndexFunc_Commit_Commit ok3 rfl rfl) ok3
def G5:Gam:=⟨G4.fs,(29,R_slices_ContainsFunc_Commit_Commit 44 30)::G4.rs⟩
theorem ok5:GamOk Tryd.prog G5:=GamOk.consR (ct_slices_ContainsFunc_Commit_Commit code_slices_ContainsFunc_Commit_Commit ok4 rfl rfl rfl) ok4
theorem has_dag_limited:Has Tryd.prog 26 S_dag_limited:=ct_dag_limited code_dag_limited ok5 rfl rfl
def G6:Gam:=⟨(26,S_dag_limited)::G5.fs,G5.rs⟩
theorem ok6:GamOk Tryd.prog G6:=GamOk.consH has_dag_limited ok5
theorem has_slices_Index_int_int:Has Tryd.prog 55 S_slices_Index_int_int:=ct_slices_Index_int_int code_slices_Index_int_int ok6
def G7:Gam:=⟨(55,S_slices_Index_int_int)::G6.fs,G6.rs⟩
theorem ok7:GamOk Tryd.prog G7:=GamOk.consH has_slices_Index_int_int ok6
theorem has_slices_Contains_int_int:Has Tryd.prog 38 S_slices_Contains_int_int:=ct_slices_Contains_int_int code_slices_Contains_int_int ok7 rfl
def G8:Gam:=⟨(38,S_slices_Contains_int_int)::G7.fs,G7.rs⟩
theorem ok8:GamOk Tryd.prog G8:=GamOk.consH has_slices_Contains_int_int ok7
theorem has_dag_related:Has Tryd.prog 27 S_dag_related:=ct_dag_related code_dag_related ok8 rfl
def G9:Gam:=⟨(27,S_dag_related)::G8.fs,G8.rs⟩
theorem ok9:GamOk Tryd.prog G9:=GamOk.consH has_dag_related ok8
theorem has_dag_Upward:Has Tryd.prog 28 S_dag_Upward:=ct_dag_Upward code_dag_Upward ok9
def G10:Gam:=⟨(28,S_dag_Upward)::G9.fs,G9.rs⟩
theorem ok10:GamOk Tryd.prog G10:=GamOk.consH has_dag_Upward ok9
def G11:Gam:=⟨G10.fs,(61,R_tree_blobs)::G10.rs⟩
theorem ok11:GamOk Tryd.prog G11:=GamOk.consR (ct_tree_blobs code_tree_blobs ok10) ok10
def G12:Gam:=⟨G11.fs,(62,R_tree_nested)::G11.rs⟩
theorem ok12:GamOk Tryd.prog G12:=GamOk.consR (ct_tree_nested code_tree_nested ok11) ok11
theorem has_tree_ordered:Has Tryd.prog 49 S_tree_ordered:=ct_tree_ordered code_tree_ordered ok12 rfl rfl
def G13:Gam:=⟨(49,S_tree_ordered)::G12.fs,G12.rs⟩
theorem ok13:GamOk Tryd.prog G13:=GamOk.consH has_tree_ordered ok12
def G14:Gam:=⟨(48,S_tree_CheckPath)::G13.fs,G13.rs⟩
theorem ok14:GamOk Tryd.prog G14:=GamOk.consH has_tree_CheckPath ok13
def G15:Gam:=⟨G14.fs,(47,R_tree_Check_1)::G14.rs⟩
theorem ok15:GamOk Tryd.prog G15:=GamOk.consR (ct_tree_Check_1 code_tree_Check_1 ok14 rfl) ok14
def G16:Gam:=⟨(63,S_strings_Count)::G15.fs,G15.rs⟩
theorem ok16:GamOk Tryd.prog G16:=GamOk.consH has_strings_Count ok15
def G17:Gam:=⟨(69,S_strings_HasSuffix)::G16.fs,G16.rs⟩
theorem ok17:GamOk Tryd.prog G17:=GamOk.consH has_strings_HasSuffix ok16
theorem has_text_Ended:Has Tryd.prog 64 S_text_Ended:=ct_text_Ended code_text_Ended ok17 rfl
def G18:Gam:=⟨(64,S_text_Ended)::G17.fs,G17.rs⟩
theorem ok18:GamOk Tryd.prog G18:=GamOk.consH has_text_Ended ok17
theorem has_text_Check:Has Tryd.prog 51 S_text_Check:=ct_text_Check code_text_Check ok18 rfl rfl
def G19:Gam:=⟨(51,S_text_Check)::G18.fs,G18.rs⟩
theorem ok19:GamOk Tryd.prog G19:=GamOk.consH has_text_Check ok18
def G20:Gam:=⟨G19.fs,(50,R_tree_Check_2)::G19.rs⟩
theorem ok20:GamOk Tryd.prog G20:=GamOk.consR (ct_tree_Check_2 code_tree_Check_2 ok19 rfl) ok19
def G21:Gam:=⟨G20.fs,(58,R_slices_IndexFunc_File_File 47 50)::G20.rs⟩
theorem ok21:GamOk Tryd.prog G21:=GamOk.consR (ct_slices_IndexFunc_File_File code_slices_IndexFunc_File_File ok20 rfl rfl) ok20
def G22:Gam:=⟨G21.fs,(46,R_slices_ContainsFunc_File_File 47 50)::G21.rs⟩
theorem ok22:GamOk Tryd.prog G22:=GamOk.consR (ct_slices_ContainsFunc_File_File code_slices_ContainsFunc_File_File ok21 rfl rfl rfl) ok21
theorem has_tree_Check:Has Tryd.prog 31 S_tree_Check:=ct_tree_Check code_tree_Check ok22 rfl rfl rfl rfl
def G23:Gam:=⟨(31,S_tree_Check)::G22.fs,G22.rs⟩
theorem ok23:GamOk Tryd.prog G23:=GamOk.consH has_tree_Check ok22
theorem has_dag_Check:Has Tryd.prog 13 S_dag_Check:=ct_dag_Check code_dag_Check ok23 rfl rfl rfl rfl rfl rfl
def G24:Gam:=⟨(13,S_dag_Check)::G23.fs,G23.rs⟩
theorem ok24:GamOk Tryd.prog G24:=GamOk.consH has_dag_Check ok23
theorem has_dag_Is:Has Tryd.prog 35 S_dag_Is:=ct_dag_Is code_dag_Is ok24
def G25:Gam:=⟨(35,S_dag_Is)::G24.fs,G24.rs⟩
theorem ok25:GamOk Tryd.prog G25:=GamOk.consH has_dag_Is ok24
def G26:Gam:=⟨G25.fs,(37,R_dag_Children_1)::G25.rs⟩
theorem ok26:GamOk Tryd.prog G26:=GamOk.consR (ct_dag_Children_1 code_dag_Children_1 ok25 rfl) ok25
def G27:Gam:=⟨G26.fs,(40,R_dag_Roots_1)::G26.rs⟩
theorem ok27:GamOk Tryd.prog G27:=GamOk.consR (ct_dag_Roots_1 code_dag_Roots_1 ok26) ok26
def G28:Gam:=⟨G27.fs,(41,R_dag_Heads_1)::G27.rs⟩
theorem ok28:GamOk Tryd.prog G28:=GamOk.consR (ct_dag_Heads_1 code_dag_Heads_1 ok27) ok27
def G29:Gam:=⟨G28.fs,(36,R_dag_where 37 40 41)::G28.rs⟩
theorem ok29:GamOk Tryd.prog G29:=GamOk.consR (ct_dag_where code_dag_where ok28 rfl rfl rfl) ok28
theorem has_dag_Children:Has Tryd.prog 16 S_dag_Children:=ct_dag_Children code_dag_Children ok29 rfl rfl rfl rfl
def G30:Gam:=⟨(16,S_dag_Children)::G29.fs,G29.rs⟩
theorem ok30:GamOk Tryd.prog G30:=GamOk.consH has_dag_Children ok29
theorem has_gen_Ints:Has Tryd.prog 22 S_gen_Ints:=ct_gen_Ints code_gen_Ints ok30
def G31:Gam:=⟨(22,S_gen_Ints)::G30.fs,G30.rs⟩
theorem ok31:GamOk Tryd.prog G31:=GamOk.consH has_gen_Ints ok30
theorem has_law23_awake:Has Tryd.prog 9 S_law23_awake:=ct_law23_awake code_law23_awake ok31 rfl rfl rfl
def G32:Gam:=⟨(9,S_law23_awake)::G31.fs,G31.rs⟩
theorem ok32:GamOk Tryd.prog G32:=GamOk.consH has_law23_awake ok31
theorem has_gen_Mod:Has Tryd.prog 11 S_gen_Mod:=ct_gen_Mod code_gen_Mod ok32
def G33:Gam:=⟨(11,S_gen_Mod)::G32.fs,G32.rs⟩
theorem ok33:GamOk Tryd.prog G33:=GamOk.consH has_gen_Mod ok32
theorem has_gen_At:Has Tryd.prog 15 S_gen_At:=ct_gen_At code_gen_At ok33
def G34:Gam:=⟨(15,S_gen_At)::G33.fs,G33.rs⟩
theorem ok34:GamOk Tryd.prog G34:=GamOk.consH has_gen_At ok33
theorem has_law23_loose:Has Tryd.prog 12 S_law23_loose:=ct_law23_loose code_law23_loose ok34 rfl rfl
def G35:Gam:=⟨(12,S_law23_loose)::G34.fs,G34.rs⟩
theorem ok35:GamOk Tryd.prog G35:=GamOk.consH has_law23_loose ok34
theorem has_ref23_Has:Has Tryd.prog 32 S_ref23_Has:=ct_ref23_Has code_ref23_Has ok35
def G36:Gam:=⟨(32,S_ref23_Has)::G35.fs,G35.rs⟩
theorem ok36:GamOk Tryd.prog G36:=GamOk.consH has_ref23_Has ok35
theorem has_ref23_Reach:Has Tryd.prog 33 S_ref23_Reach:=ct_ref23_Reach code_ref23_Reach ok36
def G37:Gam:=⟨(33,S_ref23_Reach)::G36.fs,G36.rs⟩
theorem ok37:GamOk Tryd.prog G37:=GamOk.consH has_ref23_Reach ok36
theorem has_ref21_CheckPath:Has Tryd.prog 52 S_ref21_CheckPath:=ct_ref21_CheckPath code_ref21_CheckPath ok37
def G38:Gam:=⟨(52,S_ref21_CheckPath)::G37.fs,G37.rs⟩
theorem ok38:GamOk Tryd.prog G38:=GamOk.consH has_ref21_CheckPath ok37
theorem has_ref21_Above:Has Tryd.prog 53 S_ref21_Above:=ct_ref21_Above code_ref21_Above ok38
def G39:Gam:=⟨(53,S_ref21_Above)::G38.fs,G38.rs⟩
theorem ok39:GamOk Tryd.prog G39:=GamOk.consH has_ref21_Above ok38
theorem has_ref02_Lines:Has Tryd.prog 57 S_ref02_Lines:=ct_ref02_Lines code_ref02_Lines ok39
def G40:Gam:=⟨(57,S_ref02_Lines)::G39.fs,G39.rs⟩
theorem ok40:GamOk Tryd.prog G40:=GamOk.consH has_ref02_Lines ok39
theorem has_ref02_Check:Has Tryd.prog 54 S_ref02_Check:=ct_ref02_Check code_ref02_Check ok40 rfl
def G41:Gam:=⟨(54,S_ref02_Check)::G40.fs,G40.rs⟩
theorem ok41:GamOk Tryd.prog G41:=GamOk.consH has_ref02_Check ok40
theorem has_ref21_Check:Has Tryd.prog 34 S_ref21_Check:=ct_ref21_Check code_ref21_Check ok41 rfl rfl rfl
def G42:Gam:=⟨(34,S_ref21_Check)::G41.fs,G41.rs⟩
theorem ok42:GamOk Tryd.prog G42:=GamOk.consH has_ref21_Check ok41
theorem has_ref23_Check:Has Tryd.prog 14 S_ref23_Check:=ct_ref23_Check code_ref23_Check ok42 rfl rfl rfl
def G43:Gam:=⟨(14,S_ref23_Check)::G42.fs,G42.rs⟩
theorem ok43:GamOk Tryd.prog G43:=GamOk.consH has_ref23_Check ok42
theorem has_gen_Line:Has Tryd.prog 56 S_gen_Line:=ct_gen_Line code_gen_Line ok43 rfl
def G44:Gam:=⟨(56,S_gen_Line)::G43.fs,G43.rs⟩
theorem ok44:GamOk Tryd.prog G44:=GamOk.consH has_gen_Line ok43
theorem has_gen_Blob:Has Tryd.prog 42 S_gen_Blob:=ct_gen_Blob code_gen_Blob ok44 rfl rfl rfl
def G45:Gam:=⟨(42,S_gen_Blob)::G44.fs,G44.rs⟩
theorem ok45:GamOk Tryd.prog G45:=GamOk.consH has_gen_Blob ok44
theorem has_gen_Files:Has Tryd.prog 23 S_gen_Files:=ct_gen_Files code_gen_Files ok45 rfl rfl
def G46:Gam:=⟨(23,S_gen_Files)::G45.fs,G45.rs⟩
theorem ok46:GamOk Tryd.prog G46:=GamOk.consH has_gen_Files ok45
theorem has_gen_Near:Has Tryd.prog 43 S_gen_Near:=ct_gen_Near code_gen_Near ok46 rfl rfl rfl
def G47:Gam:=⟨(43,S_gen_Near)::G46.fs,G46.rs⟩
theorem ok47:GamOk Tryd.prog G47:=GamOk.consH has_gen_Near ok46
theorem has_gen_change:Has Tryd.prog 24 S_gen_change:=ct_gen_change code_gen_change ok47 rfl rfl rfl rfl
def G48:Gam:=⟨(24,S_gen_change)::G47.fs,G47.rs⟩
theorem ok48:GamOk Tryd.prog G48:=GamOk.consH has_gen_change ok47
def G49:Gam:=⟨G48.fs,(25,R_genown_Turned)::G48.rs⟩
theorem ok49:GamOk Tryd.prog G49:=GamOk.consR (ct_genown_Turned code_genown_Turned ok48 rfl) ok48
def G50:Gam:=⟨G49.fs,(10,R_genown_Graph)::G49.rs⟩
theorem ok50:GamOk Tryd.prog G50:=GamOk.consR (ct_genown_Graph code_genown_Graph ok49 rfl rfl rfl rfl rfl) ok49
theorem has_law23own_DagChecks:Has Tryd.prog 3 S_law23own_DagChecks:=ct_law23own_DagChecks code_law23own_DagChecks ok50 rfl rfl rfl rfl rfl rfl rfl
def G51:Gam:=⟨(3,S_law23own_DagChecks)::G50.fs,G50.rs⟩
theorem ok51:GamOk Tryd.prog G51:=GamOk.consH has_law23own_DagChecks ok50
end Go.AE.Seat
