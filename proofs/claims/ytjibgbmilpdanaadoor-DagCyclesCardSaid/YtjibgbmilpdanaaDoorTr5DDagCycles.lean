/-
  The contracts of the functions of this seat,one behind the other.
-/
import Derived.Test.YtjibgbmilpdanaaDoorSr5D
import Derived.Test.YtjibgbmilpdanaaDoorCona1
import Derived.Test.YtjibgbmilpdanaaDoorCona2
import Derived.Test.YtjibgbmilpdanaaDoorCone1
import Derived.Test.YtjibgbmilpdanaaDoorConc1
import Derived.Test.YtjibgbmilpdanaaDoorSh5D
import Derived.Test.YtjibgbmilpdanaaDoorSpc5D

set_option linter.unusedSimpArgs false
set_option linter.unusedVariables false
set_option linter.unnecessarySimpa false
set_option maxRecDepth 100000
open Go Go.Proofs
namespace Go.AE.Seat
def G0:Gam:=⟨[],[]⟩
theorem ok0:GamOk Tryd.prog G0:=GamOk.nil _
theorem has_gen_Mod:Has Tryd.prog 11 (S_gen_Mod):=ct_gen_Mod code_gen_Mod ok0
def G1:Gam:=⟨(11,S_gen_Mod)::G0.fs,G0.rs⟩
theorem ok1:GamOk Tryd.prog G1:=GamOk.consH has_gen_Mod ok0
theorem has_gen_At:Has Tryd.prog 15 (S_gen_At):=ct_gen_At code_gen_At ok1
def G2:Gam:=⟨(15,S_gen_At)::G1.fs,G1.rs⟩
theorem ok2:GamOk Tryd.prog G2:=GamOk.consH has_gen_At ok1
def G3:Gam:=⟨G2.fs,(44,R_dag_limited_1)::G2.rs⟩
theorem ok3:GamOk Tryd.prog G3:=GamOk.consR (ct_dag_limited_1 code_dag_limited_1 ok2) ok2
def G4:Gam:=⟨G3.fs,(30,R_dag_Check_1)::G3.rs⟩
theorem ok4:GamOk Tryd.prog G4:=GamOk.consR (ct_dag_Check_1 code_dag_Check_1 ok3) ok3
def G5:Gam:=⟨G4.fs,(45,R_slices_IndexFunc_Commit_Commit 44 30)::G4.rs⟩
theorem ok5:GamOk Tryd.prog G5:=GamOk.consR (ct_slices_IndexFunc_Commit_Commit code_slices_IndexFunc_Commit_Commit ok4 rfl rfl) ok4
def G6:Gam:=⟨G5.fs,(29,R_slices_ContainsFunc_Commit_Commit 44 30)::G5.rs⟩
theorem ok6:GamOk Tryd.prog G6:=GamOk.consR (ct_slices_ContainsFunc_Commit_Commit code_slices_ContainsFunc_Commit_Commit ok5 rfl rfl rfl) ok5
theorem has_dag_limited:Has Tryd.prog 26 (S_dag_limited):=ct_dag_limited code_dag_limited ok6 rfl rfl
def G7:Gam:=⟨(26,S_dag_limited)::G6.fs,G6.rs⟩
theorem ok7:GamOk Tryd.prog G7:=GamOk.consH has_dag_limited ok6
theorem has_slices_Index_int_int:Has Tryd.prog 55 (S_slices_Index_int_int):=ct_slices_Index_int_int code_slices_Index_int_int ok7
def G8:Gam:=⟨(55,S_slices_Index_int_int)::G7.fs,G7.rs⟩
theorem ok8:GamOk Tryd.prog G8:=GamOk.consH has_slices_Index_int_int ok7
theorem has_slices_Contains_int_int:Has Tryd.prog 38 (S_slices_Contains_int_int):=ct_slices_Contains_int_int code_slices_Contains_int_int ok8 rfl
def G9:Gam:=⟨(38,S_slices_Contains_int_int)::G8.fs,G8.rs⟩
theorem ok9:GamOk Tryd.prog G9:=GamOk.consH has_slices_Contains_int_int ok8
theorem has_dag_related:Has Tryd.prog 27 (S_dag_related):=ct_dag_related code_dag_related ok9 rfl
def G10:Gam:=⟨(27,S_dag_related)::G9.fs,G9.rs⟩
theorem ok10:GamOk Tryd.prog G10:=GamOk.consH has_dag_related ok9
theorem has_dag_Upward:Has Tryd.prog 28 (S_dag_Upward):=ct_dag_Upward code_dag_Upward ok10
def G11:Gam:=⟨(28,S_dag_Upward)::G10.fs,G10.rs⟩
theorem ok11:GamOk Tryd.prog G11:=GamOk.consH has_dag_Upward ok10
def G12:Gam:=⟨G11.fs,(61,R_tree_blobs)::G11.rs⟩
theorem ok12:GamOk Tryd.prog G12:=GamOk.consR (ct_tree_blobs code_tree_blobs ok11) ok11
def G13:Gam:=⟨G12.fs,(62,R_tree_nested)::G12.rs⟩
theorem ok13:GamOk Tryd.prog G13:=GamOk.consR (ct_tree_nested code_tree_nested ok12) ok12
theorem has_tree_ordered:Has Tryd.prog 49 (S_tree_ordered):=ct_tree_ordered code_tree_ordered ok13 rfl rfl
def G14:Gam:=⟨(49,S_tree_ordered)::G13.fs,G13.rs⟩
theorem ok14:GamOk Tryd.prog G14:=GamOk.consH has_tree_ordered ok13
def G15:Gam:=⟨(48,S_tree_CheckPath)::G14.fs,G14.rs⟩
theorem ok15:GamOk Tryd.prog G15:=GamOk.consH has_tree_CheckPath ok14
def G16:Gam:=⟨G15.fs,(47,R_tree_Check_1)::G15.rs⟩
theorem ok16:GamOk Tryd.prog G16:=GamOk.consR (ct_tree_Check_1 code_tree_Check_1 ok15 rfl) ok15
def G17:Gam:=⟨(63,S_strings_Count)::G16.fs,G16.rs⟩
theorem ok17:GamOk Tryd.prog G17:=GamOk.consH has_strings_Count ok16
def G18:Gam:=⟨(69,S_strings_HasSuffix)::G17.fs,G17.rs⟩
theorem ok18:GamOk Tryd.prog G18:=GamOk.consH has_strings_HasSuffix ok17
theorem has_text_Ended:Has Tryd.prog 64 (S_text_Ended):=ct_text_Ended code_text_Ended ok18 rfl
def G19:Gam:=⟨(64,S_text_Ended)::G18.fs,G18.rs⟩
theorem ok19:GamOk Tryd.prog G19:=GamOk.consH has_text_Ended ok18
theorem has_text_Check:Has Tryd.prog 51 (S_text_Check):=ct_text_Check code_text_Check ok19 rfl rfl
def G20:Gam:=⟨(51,S_text_Check)::G19.fs,G19.rs⟩
theorem ok20:GamOk Tryd.prog G20:=GamOk.consH has_text_Check ok19
def G21:Gam:=⟨G20.fs,(50,R_tree_Check_2)::G20.rs⟩
theorem ok21:GamOk Tryd.prog G21:=GamOk.consR (ct_tree_Check_2 code_tree_Check_2 ok20 rfl) ok20
def G22:Gam:=⟨G21.fs,(58,R_slices_IndexFunc_File_File 47 50)::G21.rs⟩
theorem ok22:GamOk Tryd.prog G22:=GamOk.consR (ct_slices_IndexFunc_File_File code_slices_IndexFunc_File_File ok21 rfl rfl) ok21
def G23:Gam:=⟨G22.fs,(46,R_slices_ContainsFunc_File_File 47 50)::G22.rs⟩
theorem ok23:GamOk Tryd.prog G23:=GamOk.consR (ct_slices_ContainsFunc_File_File code_slices_ContainsFunc_File_File ok22 rfl rfl rfl) ok22
theorem has_tree_Check:Has Tryd.prog 31 (S_tree_Check):=ct_tree_Check code_tree_Check ok23 rfl rfl rfl rfl
def G24:Gam:=⟨(31,S_tree_Check)::G23.fs,G23.rs⟩
theorem ok24:GamOk Tryd.prog G24:=GamOk.consH has_tree_Check ok23
theorem has_dag_Check:Has Tryd.prog 13 (S_dag_Check):=ct_dag_Check code_dag_Check ok24 rfl rfl rfl rfl rfl rfl
def G25:Gam:=⟨(13,S_dag_Check)::G24.fs,G24.rs⟩
theorem ok25:GamOk Tryd.prog G25:=GamOk.consH has_dag_Check ok24
theorem has_dag_Is:Has Tryd.prog 35 (S_dag_Is):=ct_dag_Is code_dag_Is ok25
def G26:Gam:=⟨(35,S_dag_Is)::G25.fs,G25.rs⟩
theorem ok26:GamOk Tryd.prog G26:=GamOk.consH has_dag_Is ok25
def G27:Gam:=⟨G26.fs,(37,R_dag_Children_1)::G26.rs⟩
theorem ok27:GamOk Tryd.prog G27:=GamOk.consR (ct_dag_Children_1 code_dag_Children_1 ok26 rfl) ok26
def G28:Gam:=⟨G27.fs,(40,R_dag_Roots_1)::G27.rs⟩
theorem ok28:GamOk Tryd.prog G28:=GamOk.consR (ct_dag_Roots_1 code_dag_Roots_1 ok27) ok27
def G29:Gam:=⟨G28.fs,(41,R_dag_Heads_1)::G28.rs⟩
theorem ok29:GamOk Tryd.prog G29:=GamOk.consR (ct_dag_Heads_1 code_dag_Heads_1 ok28) ok28
def G30:Gam:=⟨G29.fs,(36,R_dag_where 37 40 41)::G29.rs⟩
theorem ok30:GamOk Tryd.prog G30:=GamOk.consR (ct_dag_where code_dag_where ok29 rfl rfl rfl) ok29
theorem has_dag_Children:Has Tryd.prog 16 (S_dag_Children):=ct_dag_Children code_dag_Children ok30 rfl rfl rfl rfl
def G31:Gam:=⟨(16,S_dag_Children)::G30.fs,G30.rs⟩
theorem ok31:GamOk Tryd.prog G31:=GamOk.consH has_dag_Children ok30
theorem has_gen_Ints:Has Tryd.prog 22 (S_gen_Ints):=ct_gen_Ints code_gen_Ints ok31
def G32:Gam:=⟨(22,S_gen_Ints)::G31.fs,G31.rs⟩
theorem ok32:GamOk Tryd.prog G32:=GamOk.consH has_gen_Ints ok31
theorem has_law23_awake:Has Tryd.prog 9 (S_law23_awake):=ct_law23_awake code_law23_awake ok32 rfl rfl rfl
def G33:Gam:=⟨(9,S_law23_awake)::G32.fs,G32.rs⟩
theorem ok33:GamOk Tryd.prog G33:=GamOk.consH has_law23_awake ok32
theorem has_law23_DagCycles:Has Tryd.prog 4 (S_law23_DagCycles):=ct_law23_DagCycles code_law23_DagCycles ok33 rfl rfl rfl rfl
def G34:Gam:=⟨(4,S_law23_DagCycles)::G33.fs,G33.rs⟩
theorem ok34:GamOk Tryd.prog G34:=GamOk.consH has_law23_DagCycles ok33
end Go.AE.Seat
