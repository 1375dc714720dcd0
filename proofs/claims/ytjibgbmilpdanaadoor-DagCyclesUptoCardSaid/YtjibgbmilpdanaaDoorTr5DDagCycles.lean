/-
  The contracts of the functions of this seat, one behind the other.
-/
import Derived.Test.YtjibgbmilpdanaaDoorSr5D
import Derived.Test.YtjibgbmilpdanaaDoorCon1

set_option linter.unusedSimpArgs false
set_option linter.unusedVariables false
set_option linter.unnecessarySimpa false

set_option maxRecDepth 100000
open Go Go.Proofs
namespace Go.AE.Seat
def G0 : Gam := ⟨[], []⟩
theorem ok0 : GamOk Tryd.prog G0 := GamOk.nil _
theorem has_gen_Mod : Has Tryd.prog 11 S_gen_Mod := ct_gen_Mod code_gen_Mod ok0
def G1 : Gam := ⟨(11, S_gen_Mod) :: G0.fs, G0.rs⟩
theorem ok1 : GamOk Tryd.prog G1 := GamOk.consH has_gen_Mod ok0
theorem has_gen_At : Has Tryd.prog 15 S_gen_At := ct_gen_At code_gen_At ok1
def G2 : Gam := ⟨(15, S_gen_At) :: G1.fs, G1.rs⟩
theorem ok2 : GamOk Tryd.prog G2 := GamOk.consH has_gen_At ok1
def G3 : Gam := ⟨G2.fs, (44, R_dag_limited_1) :: G2.rs⟩
theorem ok3 : GamOk Tryd.prog G3 := GamOk.consR (ct_dag_limited_1 code_dag_limited_1 ok2) ok2
def G4 : Gam := ⟨G3.fs, (30, R_dag_Check_1) :: G3.rs⟩
theorem ok4 : GamOk Tryd.prog G4 := GamOk.consR (ct_dag_Check_1 code_dag_Check_1 ok3) ok3
def G5 : Gam := ⟨G4.fs, (45, R_slices_IndexFunc_Commit_Commit 44 30) :: G4.rs⟩
theorem ok5 : GamOk Tryd.prog G5 := GamOk.consR (ct_slices_IndexFunc_Commit_Commit code_slices_IndexFunc_Commit_Commit ok4 rfl rfl) ok4
def G6 : Gam := ⟨G5.fs, (29, R_slices_ContainsFunc_Commit_Commit 44 30) :: G5.rs⟩
theorem ok6 : GamOk Tryd.prog G6 := GamOk.consR (ct_slices_ContainsFunc_Commit_Commit code_slices_ContainsFunc_Commit_Commit ok5 rfl rfl rfl) ok5
theorem has_dag_limited : Has Tryd.prog 26 S_dag_limited := ct_dag_limited code_dag_limited ok6 rfl rfl
def G7 : Gam := ⟨(26, S_dag_limited) :: G6.fs, G6.rs⟩
theorem ok7 : GamOk Tryd.prog G7 := GamOk.consH has_dag_limited ok6
theorem has_slices_Index_int_int : Has Tryd.prog 55 S_slices_Index_int_int := ct_slices_Index_int_int code_slices_Index_int_int ok7
def G8 : Gam := ⟨(55, S_slices_Index_int_int) :: G7.fs, G7.rs⟩
theorem ok8 : GamOk Tryd.prog G8 := GamOk.consH has_slices_Index_int_int ok7
theorem has_slices_Contains_int_int : Has Tryd.prog 38 S_slices_Contains_int_int := ct_slices_Contains_int_int code_slices_Contains_int_int ok8 rfl
def G9 : Gam := ⟨(38, S_slices_Contains_int_int) :: G8.fs, G8.rs⟩
theorem ok9 : GamOk Tryd.prog G9 := GamOk.consH has_slices_Contains_int_int ok8
theorem has_dag_related : Has Tryd.prog 27 S_dag_related := ct_dag_related code_dag_related ok9 rfl
def G10 : Gam := ⟨(27, S_dag_related) :: G9.fs, G9.rs⟩
theorem ok10 : GamOk Tryd.prog G10 := GamOk.consH has_dag_related ok9
theorem has_dag_Upward : Has Tryd.prog 28 S_dag_Upward := ct_dag_Upward code_dag_Upward ok10
def G11 : Gam := ⟨(28, S_dag_Upward) :: G10.fs, G10.rs⟩
theorem ok11 : GamOk Tryd.prog G11 := GamOk.consH has_dag_Upward ok10
def G12 : Gam := ⟨G11.fs, (61, R_tree_blobs) :: G11.rs⟩
theorem ok12 : GamOk Tryd.prog G12 := GamOk.consR (ct_tree_blobs code_tree_blobs ok11) ok11
theorem has_tree_ordered : Has Tryd.prog 49 S_tree_ordered := ct_tree_ordered code_tree_ordered ok12 rfl rfl
def G13 : Gam := ⟨(49, S_tree_ordered) :: G12.fs, G12.rs⟩
theorem ok13 : GamOk Tryd.prog G13 := GamOk.consH has_tree_ordered ok12
def G14 : Gam := ⟨G13.fs, (58, R_slices_IndexFunc_File_File) :: G13.rs⟩
theorem ok14 : GamOk Tryd.prog G14 := GamOk.consR (ct_slices_IndexFunc_File_File code_slices_IndexFunc_File_File ok13) ok13
def G15 : Gam := ⟨G14.fs, (46, R_slices_ContainsFunc_File_File) :: G14.rs⟩
theorem ok15 : GamOk Tryd.prog G15 := GamOk.consR (ct_slices_ContainsFunc_File_File code_slices_ContainsFunc_File_File ok14 rfl) ok14
theorem has_tree_Check : Has Tryd.prog 31 S_tree_Check := ct_tree_Check code_tree_Check ok15 rfl rfl rfl rfl
def G16 : Gam := ⟨(31, S_tree_Check) :: G15.fs, G15.rs⟩
theorem ok16 : GamOk Tryd.prog G16 := GamOk.consH has_tree_Check ok15
theorem has_dag_Check : Has Tryd.prog 13 S_dag_Check := ct_dag_Check code_dag_Check ok16 rfl rfl rfl rfl rfl rfl
def G17 : Gam := ⟨(13, S_dag_Check) :: G16.fs, G16.rs⟩
theorem ok17 : GamOk Tryd.prog G17 := GamOk.consH has_dag_Check ok16
theorem has_dag_Is : Has Tryd.prog 35 S_dag_Is := ct_dag_Is code_dag_Is ok17
def G18 : Gam := ⟨(35, S_dag_Is) :: G17.fs, G17.rs⟩
theorem ok18 : GamOk Tryd.prog G18 := GamOk.consH has_dag_Is ok17
def G19 : Gam := ⟨G18.fs, (37, R_dag_Children_1) :: G18.rs⟩
theorem ok19 : GamOk Tryd.prog G19 := GamOk.consR (ct_dag_Children_1 code_dag_Children_1 ok18 rfl) ok18
def G20 : Gam := ⟨G19.fs, (36, R_dag_where 37) :: G19.rs⟩
theorem ok20 : GamOk Tryd.prog G20 := GamOk.consR (ct_dag_where code_dag_where ok19 rfl) ok19
theorem has_dag_Children : Has Tryd.prog 16 S_dag_Children := ct_dag_Children code_dag_Children ok20 rfl rfl rfl rfl
def G21 : Gam := ⟨(16, S_dag_Children) :: G20.fs, G20.rs⟩
theorem ok21 : GamOk Tryd.prog G21 := GamOk.consH has_dag_Children ok20
theorem has_gen_Ints : Has Tryd.prog 22 S_gen_Ints := ct_gen_Ints code_gen_Ints ok21
def G22 : Gam := ⟨(22, S_gen_Ints) :: G21.fs, G21.rs⟩
theorem ok22 : GamOk Tryd.prog G22 := GamOk.consH has_gen_Ints ok21
theorem has_law23_awake : Has Tryd.prog 9 S_law23_awake := ct_law23_awake code_law23_awake ok22 rfl rfl rfl
def G23 : Gam := ⟨(9, S_law23_awake) :: G22.fs, G22.rs⟩
theorem ok23 : GamOk Tryd.prog G23 := GamOk.consH has_law23_awake ok22
theorem has_law23_DagCycles : Has Tryd.prog 4 S_law23_DagCycles := ct_law23_DagCycles code_law23_DagCycles ok23 rfl rfl rfl rfl
def G24 : Gam := ⟨(4, S_law23_DagCycles) :: G23.fs, G23.rs⟩
theorem ok24 : GamOk Tryd.prog G24 := GamOk.consH has_law23_DagCycles ok23

end Go.AE.Seat
