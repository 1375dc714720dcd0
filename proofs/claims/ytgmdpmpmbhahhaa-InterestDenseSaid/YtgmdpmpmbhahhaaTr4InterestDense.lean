/-
  The contracts of the functions of this seat,one behind the other.
-/
import Derived.Test.YtgmdpmpmbhahhaaSr4
import Derived.Test.YtgmdpmpmbhahhaaCona1
import Derived.Test.YtgmdpmpmbhahhaaConb1
import Derived.Test.YtgmdpmpmbhahhaaConf1
import Derived.Test.YtgmdpmpmbhahhaaConc1
import Derived.Test.YtgmdpmpmbhahhaaSh4

set_option linter.unusedSimpArgs false
set_option linter.unusedVariables false
set_option linter.unnecessarySimpa false
set_option maxRecDepth 100000
open Go Go.Proofs
namespace Go.AE.Seat
def G0:Gam:=⟨[],[]⟩
theorem ok0:GamOk Try.prog G0:=GamOk.nil _
theorem has_gen_Mod:Has Try.prog 18 (S_gen_Mod):=ct_gen_Mod code_gen_Mod ok0
def G1:Gam:=⟨(18,S_gen_Mod)::G0.fs,G0.rs⟩
theorem ok1:GamOk Try.prog G1:=GamOk.consH has_gen_Mod ok0
theorem has_gen_At:Has Try.prog 23 (S_gen_At):=ct_gen_At code_gen_At ok1
def G2:Gam:=⟨(23,S_gen_At)::G1.fs,G1.rs⟩
theorem ok2:GamOk Try.prog G2:=GamOk.consH has_gen_At ok1
theorem has_gen_Line:Has Try.prog 24 (S_gen_Line):=ct_gen_Line code_gen_Line ok2 rfl
def G3:Gam:=⟨(24,S_gen_Line)::G2.fs,G2.rs⟩
theorem ok3:GamOk Try.prog G3:=GamOk.consH has_gen_Line ok2
theorem has_gen_Blob:Has Try.prog 35 (S_gen_Blob):=ct_gen_Blob code_gen_Blob ok3 rfl rfl rfl
def G4:Gam:=⟨(35,S_gen_Blob)::G3.fs,G3.rs⟩
theorem ok4:GamOk Try.prog G4:=GamOk.consH has_gen_Blob ok3
theorem has_ref02_Lines:Has Try.prog 37 (S_ref02_Lines):=ct_ref02_Lines code_ref02_Lines ok4
def G5:Gam:=⟨(37,S_ref02_Lines)::G4.fs,G4.rs⟩
theorem ok5:GamOk Try.prog G5:=GamOk.consH has_ref02_Lines ok4
theorem has_gen_Near:Has Try.prog 36 (S_gen_Near):=ct_gen_Near code_gen_Near ok5 rfl rfl rfl
def G6:Gam:=⟨(36,S_gen_Near)::G5.fs,G5.rs⟩
theorem ok6:GamOk Try.prog G6:=GamOk.consH has_gen_Near ok5
theorem has_gen_Blobs:Has Try.prog 21 (S_gen_Blobs):=ct_gen_Blobs code_gen_Blobs ok6 rfl rfl rfl
def G7:Gam:=⟨(21,S_gen_Blobs)::G6.fs,G6.rs⟩
theorem ok7:GamOk Try.prog G7:=GamOk.consH has_gen_Blobs ok6
theorem has_ref02_Check:Has Try.prog 38 (S_ref02_Check):=ct_ref02_Check code_ref02_Check ok7 rfl
def G8:Gam:=⟨(38,S_ref02_Check)::G7.fs,G7.rs⟩
theorem ok8:GamOk Try.prog G8:=GamOk.consH has_ref02_Check ok7
theorem has_ref03_place:Has Try.prog 53 (S_ref03_place):=ct_ref03_place code_ref03_place ok8
def G9:Gam:=⟨(53,S_ref03_place)::G8.fs,G8.rs⟩
theorem ok9:GamOk Try.prog G9:=GamOk.consH has_ref03_place ok8
theorem has_ref03_Names:Has Try.prog 39 (S_ref03_Names):=ct_ref03_Names code_ref03_Names ok9 rfl
def G10:Gam:=⟨(39,S_ref03_Names)::G9.fs,G9.rs⟩
theorem ok10:GamOk Try.prog G10:=GamOk.consH has_ref03_Names ok9
theorem has_ref03_Ids:Has Try.prog 40 (S_ref03_Ids):=ct_ref03_Ids code_ref03_Ids ok10 rfl rfl
def G11:Gam:=⟨(40,S_ref03_Ids)::G10.fs,G10.rs⟩
theorem ok11:GamOk Try.prog G11:=GamOk.consH has_ref03_Ids ok10
theorem has_ref09_Table:Has Try.prog 54 (S_ref09_Table):=ct_ref09_Table code_ref09_Table ok11
def G12:Gam:=⟨(54,S_ref09_Table)::G11.fs,G11.rs⟩
theorem ok12:GamOk Try.prog G12:=GamOk.consH has_ref09_Table ok11
theorem has_ref08_Made:Has Try.prog 55 (S_ref08_Made):=ct_ref08_Made code_ref08_Made ok12
def G13:Gam:=⟨(55,S_ref08_Made)::G12.fs,G12.rs⟩
theorem ok13:GamOk Try.prog G13:=GamOk.consH has_ref08_Made ok12
theorem has_ref09_Walk:Has Try.prog 41 (S_ref09_Walk):=ct_ref09_Walk code_ref09_Walk ok13 rfl rfl
def G14:Gam:=⟨(41,S_ref09_Walk)::G13.fs,G13.rs⟩
theorem ok14:GamOk Try.prog G14:=GamOk.consH has_ref09_Walk ok13
theorem has_ref08_Matched:Has Try.prog 42 (S_ref08_Matched):=ct_ref08_Matched code_ref08_Matched ok14
def G15:Gam:=⟨(42,S_ref08_Matched)::G14.fs,G14.rs⟩
theorem ok15:GamOk Try.prog G15:=GamOk.consH has_ref08_Matched ok14
theorem has_ref15_lines:Has Try.prog 62 (S_ref15_lines):=ct_ref15_lines code_ref15_lines ok15
def G16:Gam:=⟨(62,S_ref15_lines)::G15.fs,G15.rs⟩
theorem ok16:GamOk Try.prog G16:=GamOk.consH has_ref15_lines ok15
theorem has_ref09_long:Has Try.prog 66 (S_ref09_long):=ct_ref09_long code_ref09_long ok16
def G17:Gam:=⟨(66,S_ref09_long)::G16.fs,G16.rs⟩
theorem ok17:GamOk Try.prog G17:=GamOk.consH has_ref09_long ok16
theorem has_ref09_Script:Has Try.prog 61 (S_ref09_Script):=ct_ref09_Script code_ref09_Script ok17 rfl rfl
def G18:Gam:=⟨(61,S_ref09_Script)::G17.fs,G17.rs⟩
theorem ok18:GamOk Try.prog G18:=GamOk.consH has_ref09_Script ok17
theorem has_ref15_join:Has Try.prog 56 (S_ref15_join):=ct_ref15_join code_ref15_join ok18 rfl rfl rfl
def G19:Gam:=⟨(56,S_ref15_join)::G18.fs,G18.rs⟩
theorem ok19:GamOk Try.prog G19:=GamOk.consH has_ref15_join ok18
theorem has_ref15_Coalesce:Has Try.prog 43 (S_ref15_Coalesce):=ct_ref15_Coalesce code_ref15_Coalesce ok19 rfl
def G20:Gam:=⟨(43,S_ref15_Coalesce)::G19.fs,G19.rs⟩
theorem ok20:GamOk Try.prog G20:=GamOk.consH has_ref15_Coalesce ok19
theorem has_ref16_Make:Has Try.prog 22 (S_ref16_Make):=ct_ref16_Make code_ref16_Make ok20 rfl rfl rfl rfl rfl rfl rfl
def G21:Gam:=⟨(22,S_ref16_Make)::G20.fs,G20.rs⟩
theorem ok21:GamOk Try.prog G21:=GamOk.consH has_ref16_Make ok20
theorem has_law17_pick:Has Try.prog 8 (S_law17_pick):=ct_law17_pick code_law17_pick ok21 rfl rfl rfl rfl rfl
def G22:Gam:=⟨(8,S_law17_pick)::G21.fs,G21.rs⟩
theorem ok22:GamOk Try.prog G22:=GamOk.consH has_law17_pick ok21
theorem has_weave_Marked:Has Try.prog 44 (S_weave_Marked):=ct_weave_Marked code_weave_Marked ok22
def G23:Gam:=⟨(44,S_weave_Marked)::G22.fs,G22.rs⟩
theorem ok23:GamOk Try.prog G23:=GamOk.consH has_weave_Marked ok22
def G24:Gam:=⟨(64,S_strings_TrimSuffix)::G23.fs,G23.rs⟩
theorem ok24:GamOk Try.prog G24:=GamOk.consH has_strings_TrimSuffix ok23
theorem has_text_Bare:Has Try.prog 58 (S_text_Bare):=ct_text_Bare code_text_Bare ok24 rfl
def G25:Gam:=⟨(58,S_text_Bare)::G24.fs,G24.rs⟩
theorem ok25:GamOk Try.prog G25:=GamOk.consH has_text_Bare ok24
def G26:Gam:=⟨(63,S_strings_Index)::G25.fs,G25.rs⟩
theorem ok26:GamOk Try.prog G26:=GamOk.consH has_strings_Index ok25
theorem has_strings_Contains:Has Try.prog 57 (S_strings_Contains):=ct_strings_Contains code_strings_Contains ok26 rfl
def G27:Gam:=⟨(57,S_strings_Contains)::G26.fs,G26.rs⟩
theorem ok27:GamOk Try.prog G27:=GamOk.consH has_strings_Contains ok26
theorem has_weave_Single:Has Try.prog 45 (S_weave_Single):=ct_weave_Single code_weave_Single ok27 rfl rfl
def G28:Gam:=⟨(45,S_weave_Single)::G27.fs,G27.rs⟩
theorem ok28:GamOk Try.prog G28:=GamOk.consH has_weave_Single ok27
def G29:Gam:=⟨(65,S_strings_HasSuffix)::G28.fs,G28.rs⟩
theorem ok29:GamOk Try.prog G29:=GamOk.consH has_strings_HasSuffix ok28
theorem has_text_Ended:Has Try.prog 59 (S_text_Ended):=ct_text_Ended code_text_Ended ok29 rfl
def G30:Gam:=⟨(59,S_text_Ended)::G29.fs,G29.rs⟩
theorem ok30:GamOk Try.prog G30:=GamOk.consH has_text_Ended ok29
def G31:Gam:=⟨G30.fs,(46,R_weave_Ends_Add)::G30.rs⟩
theorem ok31:GamOk Try.prog G31:=GamOk.consR (ct_weave_Ends_Add code_weave_Ends_Add ok30 rfl) ok30
theorem has_weave_Check:Has Try.prog 25 (S_weave_Check):=ct_weave_Check code_weave_Check ok31 rfl rfl rfl
def G32:Gam:=⟨(25,S_weave_Check)::G31.fs,G31.rs⟩
theorem ok32:GamOk Try.prog G32:=GamOk.consH has_weave_Check ok31
theorem has_interest_blank:Has Try.prog 48 (S_interest_blank):=ct_interest_blank code_interest_blank ok32
def G33:Gam:=⟨(48,S_interest_blank)::G32.fs,G32.rs⟩
theorem ok33:GamOk Try.prog G33:=GamOk.consH has_interest_blank ok32
def G34:Gam:=⟨G33.fs,(47,R_interest_runs_1)::G33.rs⟩
theorem ok34:GamOk Try.prog G34:=GamOk.consR (ct_interest_runs_1 code_interest_runs_1 ok33 rfl) ok33
def G35:Gam:=⟨G34.fs,(32,R_interest_Hunks_1)::G34.rs⟩
theorem ok35:GamOk Try.prog G35:=GamOk.consR (ct_interest_Hunks_1 code_interest_Hunks_1) ok34
def G36:Gam:=⟨G35.fs,(31,R_interest_spans 47 32)::G35.rs⟩
theorem ok36:GamOk Try.prog G36:=GamOk.consR (ct_interest_spans code_interest_spans ok35 rfl rfl) ok35
theorem has_interest_runs:Has Try.prog 26 (S_interest_runs):=ct_interest_runs code_interest_runs ok36 rfl rfl
def G37:Gam:=⟨(26,S_interest_runs)::G36.fs,G36.rs⟩
theorem ok37:GamOk Try.prog G37:=GamOk.consH has_interest_runs ok36
theorem has_interest_dense:Has Try.prog 49 (S_interest_dense):=ct_interest_dense code_interest_dense ok37
def G38:Gam:=⟨(49,S_interest_dense)::G37.fs,G37.rs⟩
theorem ok38:GamOk Try.prog G38:=GamOk.consH has_interest_dense ok37
theorem has_interest_interesting:Has Try.prog 29 (S_interest_interesting):=ct_interest_interesting code_interest_interesting ok38 rfl rfl
def G39:Gam:=⟨(29,S_interest_interesting)::G38.fs,G38.rs⟩
theorem ok39:GamOk Try.prog G39:=GamOk.consH has_interest_interesting ok38
theorem has_interest_Interesting:Has Try.prog 11 (S_interest_Interesting):=ct_interest_Interesting code_interest_Interesting ok39 rfl rfl
def G40:Gam:=⟨(11,S_interest_Interesting)::G39.fs,G39.rs⟩
theorem ok40:GamOk Try.prog G40:=GamOk.consH has_interest_Interesting ok39
theorem has_interest_Runs:Has Try.prog 9 (S_interest_Runs):=ct_interest_Runs code_interest_Runs ok40 rfl rfl
def G41:Gam:=⟨(9,S_interest_Runs)::G40.fs,G40.rs⟩
theorem ok41:GamOk Try.prog G41:=GamOk.consH has_interest_Runs ok40
theorem has_gen_Spans:Has Try.prog 13 (S_gen_Spans):=ct_gen_Spans code_gen_Spans ok41
def G42:Gam:=⟨(13,S_gen_Spans)::G41.fs,G41.rs⟩
theorem ok42:GamOk Try.prog G42:=GamOk.consH has_gen_Spans ok41
theorem has_ref16_Visible:Has Try.prog 15 (S_ref16_Visible):=ct_ref16_Visible code_ref16_Visible ok42
def G43:Gam:=⟨(15,S_ref16_Visible)::G42.fs,G42.rs⟩
theorem ok43:GamOk Try.prog G43:=GamOk.consH has_ref16_Visible ok42
theorem has_law17_awake:Has Try.prog 14 (S_law17_awake):=ct_law17_awake code_law17_awake ok43 rfl rfl rfl
def G44:Gam:=⟨(14,S_law17_awake)::G43.fs,G43.rs⟩
theorem ok44:GamOk Try.prog G44:=GamOk.consH has_law17_awake ok43
theorem has_law17_InterestDense:Has Try.prog 4 (S_law17_InterestDense):=ct_law17_InterestDense code_law17_InterestDense ok44 rfl rfl rfl rfl rfl rfl
def G45:Gam:=⟨(4,S_law17_InterestDense)::G44.fs,G44.rs⟩
theorem ok45:GamOk Try.prog G45:=GamOk.consH has_law17_InterestDense ok44
end Go.AE.Seat
