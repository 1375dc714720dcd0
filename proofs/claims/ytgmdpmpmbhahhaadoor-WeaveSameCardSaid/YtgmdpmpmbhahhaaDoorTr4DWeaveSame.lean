/-
  The contracts of the functions of this seat,one behind the other.
-/
import Derived.Test.YtgmdpmpmbhahhaaDoorSr4D
import Derived.Test.YtgmdpmpmbhahhaaDoorCona1
import Derived.Test.YtgmdpmpmbhahhaaDoorCona2
import Derived.Test.YtgmdpmpmbhahhaaDoorSh4D

set_option linter.unusedSimpArgs false
set_option linter.unusedVariables false
set_option linter.unnecessarySimpa false
set_option maxRecDepth 100000
open Go Go.Proofs
namespace Go.AE.Seat
def G0:Gam:=⟨[],[]⟩
theorem ok0:GamOk Tryd.prog G0:=GamOk.nil _
theorem has_gen_Mod:Has Tryd.prog 19 (S_gen_Mod):=ct_gen_Mod code_gen_Mod ok0
def G1:Gam:=⟨(19,S_gen_Mod)::G0.fs,G0.rs⟩
theorem ok1:GamOk Tryd.prog G1:=GamOk.consH has_gen_Mod ok0
theorem has_gen_At:Has Tryd.prog 21 (S_gen_At):=ct_gen_At code_gen_At ok1
def G2:Gam:=⟨(21,S_gen_At)::G1.fs,G1.rs⟩
theorem ok2:GamOk Tryd.prog G2:=GamOk.consH has_gen_At ok1
theorem has_gen_Line:Has Tryd.prog 20 (S_gen_Line):=ct_gen_Line code_gen_Line ok2 rfl
def G3:Gam:=⟨(20,S_gen_Line)::G2.fs,G2.rs⟩
theorem ok3:GamOk Tryd.prog G3:=GamOk.consH has_gen_Line ok2
theorem has_gen_Blob:Has Tryd.prog 47 (S_gen_Blob):=ct_gen_Blob code_gen_Blob ok3 rfl rfl rfl
def G4:Gam:=⟨(47,S_gen_Blob)::G3.fs,G3.rs⟩
theorem ok4:GamOk Tryd.prog G4:=GamOk.consH has_gen_Blob ok3
theorem has_ref02_Lines:Has Tryd.prog 17 (S_ref02_Lines):=ct_ref02_Lines code_ref02_Lines ok4
def G5:Gam:=⟨(17,S_ref02_Lines)::G4.fs,G4.rs⟩
theorem ok5:GamOk Tryd.prog G5:=GamOk.consH has_ref02_Lines ok4
theorem has_gen_Near:Has Tryd.prog 48 (S_gen_Near):=ct_gen_Near code_gen_Near ok5 rfl rfl rfl
def G6:Gam:=⟨(48,S_gen_Near)::G5.fs,G5.rs⟩
theorem ok6:GamOk Tryd.prog G6:=GamOk.consH has_gen_Near ok5
theorem has_gen_Blobs:Has Tryd.prog 26 (S_gen_Blobs):=ct_gen_Blobs code_gen_Blobs ok6 rfl rfl rfl
def G7:Gam:=⟨(26,S_gen_Blobs)::G6.fs,G6.rs⟩
theorem ok7:GamOk Tryd.prog G7:=GamOk.consH has_gen_Blobs ok6
theorem has_law16_pick:Has Tryd.prog 10 (S_law16_pick):=ct_law16_pick code_law16_pick ok7 rfl rfl
def G8:Gam:=⟨(10,S_law16_pick)::G7.fs,G7.rs⟩
theorem ok8:GamOk Tryd.prog G8:=GamOk.consH has_law16_pick ok7
def G9:Gam:=⟨(63,S_strings_Count)::G8.fs,G8.rs⟩
theorem ok9:GamOk Tryd.prog G9:=GamOk.consH has_strings_Count ok8
def G10:Gam:=⟨(74,S_strings_HasSuffix)::G9.fs,G9.rs⟩
theorem ok10:GamOk Tryd.prog G10:=GamOk.consH has_strings_HasSuffix ok9
theorem has_text_Ended:Has Tryd.prog 60 (S_text_Ended):=ct_text_Ended code_text_Ended ok10 rfl
def G11:Gam:=⟨(60,S_text_Ended)::G10.fs,G10.rs⟩
theorem ok11:GamOk Tryd.prog G11:=GamOk.consH has_text_Ended ok10
theorem has_text_Check:Has Tryd.prog 49 (S_text_Check):=ct_text_Check code_text_Check ok11 rfl rfl
def G12:Gam:=⟨(49,S_text_Check)::G11.fs,G11.rs⟩
theorem ok12:GamOk Tryd.prog G12:=GamOk.consH has_text_Check ok11
def G13:Gam:=⟨(64,S_strings_genSplit)::G12.fs,G12.rs⟩
theorem ok13:GamOk Tryd.prog G13:=GamOk.consH has_strings_genSplit ok12
theorem has_strings_SplitAfter:Has Tryd.prog 50 (S_strings_SplitAfter):=ct_strings_SplitAfter code_strings_SplitAfter ok13 rfl
def G14:Gam:=⟨(50,S_strings_SplitAfter)::G13.fs,G13.rs⟩
theorem ok14:GamOk Tryd.prog G14:=GamOk.consH has_strings_SplitAfter ok13
theorem has_text_Split:Has Tryd.prog 27 (S_text_Split):=ct_text_Split code_text_Split ok14 rfl rfl
def G15:Gam:=⟨(27,S_text_Split)::G14.fs,G14.rs⟩
theorem ok15:GamOk Tryd.prog G15:=GamOk.consH has_text_Split ok14
def G16:Gam:=⟨G15.fs,(65,R_intern_table_id)::G15.rs⟩
theorem ok16:GamOk Tryd.prog G16:=GamOk.consR (ct_intern_table_id code_intern_table_id) ok15
theorem has_intern_number:Has Tryd.prog 51 (S_intern_number):=ct_intern_number code_intern_number ok16 rfl
def G17:Gam:=⟨(51,S_intern_number)::G16.fs,G16.rs⟩
theorem ok17:GamOk Tryd.prog G17:=GamOk.consH has_intern_number ok16
theorem has_intern_Ids:Has Tryd.prog 28 (S_intern_Ids):=ct_intern_Ids code_intern_Ids ok17 rfl
def G18:Gam:=⟨(28,S_intern_Ids)::G17.fs,G17.rs⟩
theorem ok18:GamOk Tryd.prog G18:=GamOk.consH has_intern_Ids ok17
theorem has_intern_Names:Has Tryd.prog 29 (S_intern_Names):=ct_intern_Names code_intern_Names ok18 rfl
def G19:Gam:=⟨(29,S_intern_Names)::G18.fs,G18.rs⟩
theorem ok19:GamOk Tryd.prog G19:=GamOk.consH has_intern_Names ok18
theorem has_shortest_limited:Has Tryd.prog 66 (S_shortest_limited):=ct_shortest_limited code_shortest_limited ok19
def G20:Gam:=⟨(66,S_shortest_limited)::G19.fs,G19.rs⟩
theorem ok20:GamOk Tryd.prog G20:=GamOk.consH has_shortest_limited ok19
theorem has_shortest_beginning:Has Tryd.prog 80 (S_shortest_beginning):=ct_shortest_beginning code_shortest_beginning ok20
def G21:Gam:=⟨(80,S_shortest_beginning)::G20.fs,G20.rs⟩
theorem ok21:GamOk Tryd.prog G21:=GamOk.consH has_shortest_beginning ok20
theorem has_shortest_distances:Has Tryd.prog 81 (S_shortest_distances):=ct_shortest_distances code_shortest_distances ok21
def G22:Gam:=⟨(81,S_shortest_distances)::G21.fs,G21.rs⟩
theorem ok22:GamOk Tryd.prog G22:=GamOk.consH has_shortest_distances ok21
def G23:Gam:=⟨G22.fs,(82,R_shortest_walk_1)::G22.rs⟩
theorem ok23:GamOk Tryd.prog G23:=GamOk.consR (ct_shortest_walk_1 code_shortest_walk_1) ok22
theorem has_shortest_walk:Has Tryd.prog 68 (S_shortest_walk):=ct_shortest_walk code_shortest_walk ok23 rfl rfl rfl
def G24:Gam:=⟨(68,S_shortest_walk)::G23.fs,G23.rs⟩
theorem ok24:GamOk Tryd.prog G24:=GamOk.consH has_shortest_walk ok23
theorem has_script_length:Has Tryd.prog 78 (S_script_length):=ct_script_length code_script_length ok24
def G25:Gam:=⟨(78,S_script_length)::G24.fs,G24.rs⟩
theorem ok25:GamOk Tryd.prog G25:=GamOk.consH has_script_length ok24
def G26:Gam:=⟨G25.fs,(90,R_slices_Clip_Span_Span)::G25.rs⟩
theorem ok26:GamOk Tryd.prog G26:=GamOk.consR (ct_slices_Clip_Span_Span code_slices_Clip_Span_Span) ok25
theorem has_script_fromPairs:Has Tryd.prog 79 (S_script_fromPairs):=ct_script_fromPairs code_script_fromPairs ok26 rfl
def G27:Gam:=⟨(79,S_script_fromPairs)::G26.fs,G26.rs⟩
theorem ok27:GamOk Tryd.prog G27:=GamOk.consH has_script_fromPairs ok26
theorem has_script_FromPairs:Has Tryd.prog 67 (S_script_FromPairs):=ct_script_FromPairs code_script_FromPairs ok27 rfl rfl
def G28:Gam:=⟨(67,S_script_FromPairs)::G27.fs,G27.rs⟩
theorem ok28:GamOk Tryd.prog G28:=GamOk.consH has_script_FromPairs ok27
theorem has_shortest_Script:Has Tryd.prog 52 (S_shortest_Script):=ct_shortest_Script code_shortest_Script ok28 rfl rfl rfl
def G29:Gam:=⟨(52,S_shortest_Script)::G28.fs,G28.rs⟩
theorem ok29:GamOk Tryd.prog G29:=GamOk.consH has_shortest_Script ok28
def G30:Gam:=⟨G29.fs,(30,R_weave_loom_add)::G29.rs⟩
theorem ok30:GamOk Tryd.prog G30:=GamOk.consR (ct_weave_loom_add code_weave_loom_add ok29 rfl) ok29
theorem has_lost_numbers:Has Tryd.prog 83 (S_lost_numbers):=ct_lost_numbers code_lost_numbers ok30
def G31:Gam:=⟨(83,S_lost_numbers)::G30.fs,G30.rs⟩
theorem ok31:GamOk Tryd.prog G31:=GamOk.consH has_lost_numbers ok30
def G32:Gam:=⟨G31.fs,(84,R_lost_merge_1)::G31.rs⟩
theorem ok32:GamOk Tryd.prog G32:=GamOk.consR (ct_lost_merge_1 code_lost_merge_1) ok31
theorem has_lost_merge:Has Tryd.prog 69 (S_lost_merge):=ct_lost_merge code_lost_merge ok32 rfl rfl rfl
def G33:Gam:=⟨(69,S_lost_merge)::G32.fs,G32.rs⟩
theorem ok33:GamOk Tryd.prog G33:=GamOk.consH has_lost_merge ok32
theorem has_lost_Coalesce:Has Tryd.prog 53 (S_lost_Coalesce):=ct_lost_Coalesce code_lost_Coalesce ok33 rfl
def G34:Gam:=⟨(53,S_lost_Coalesce)::G33.fs,G33.rs⟩
theorem ok34:GamOk Tryd.prog G34:=GamOk.consH has_lost_Coalesce ok33
def G35:Gam:=⟨G34.fs,(31,R_weave_loom_weave)::G34.rs⟩
theorem ok35:GamOk Tryd.prog G35:=GamOk.consR (ct_weave_loom_weave code_weave_loom_weave ok34 rfl) ok34
theorem has_weave_Make:Has Tryd.prog 11 (S_weave_Make):=ct_weave_Make code_weave_Make ok35 rfl rfl rfl rfl rfl
def G36:Gam:=⟨(11,S_weave_Make)::G35.fs,G35.rs⟩
theorem ok36:GamOk Tryd.prog G36:=GamOk.consH has_weave_Make ok35
theorem has_gen_Rows:Has Tryd.prog 38 (S_gen_Rows):=ct_gen_Rows code_gen_Rows ok36
def G37:Gam:=⟨(38,S_gen_Rows)::G36.fs,G36.rs⟩
theorem ok37:GamOk Tryd.prog G37:=GamOk.consH has_gen_Rows ok36
theorem has_gen_Table:Has Tryd.prog 13 (S_gen_Table):=ct_gen_Table code_gen_Table ok37 rfl
def G38:Gam:=⟨(13,S_gen_Table)::G37.fs,G37.rs⟩
theorem ok38:GamOk Tryd.prog G38:=GamOk.consH has_gen_Table ok37
theorem has_weave_Marked:Has Tryd.prog 39 (S_weave_Marked):=ct_weave_Marked code_weave_Marked ok38
def G39:Gam:=⟨(39,S_weave_Marked)::G38.fs,G38.rs⟩
theorem ok39:GamOk Tryd.prog G39:=GamOk.consH has_weave_Marked ok38
def G40:Gam:=⟨(73,S_strings_TrimSuffix)::G39.fs,G39.rs⟩
theorem ok40:GamOk Tryd.prog G40:=GamOk.consH has_strings_TrimSuffix ok39
theorem has_text_Bare:Has Tryd.prog 59 (S_text_Bare):=ct_text_Bare code_text_Bare ok40 rfl
def G41:Gam:=⟨(59,S_text_Bare)::G40.fs,G40.rs⟩
theorem ok41:GamOk Tryd.prog G41:=GamOk.consH has_text_Bare ok40
def G42:Gam:=⟨(72,S_strings_Index)::G41.fs,G41.rs⟩
theorem ok42:GamOk Tryd.prog G42:=GamOk.consH has_strings_Index ok41
theorem has_strings_Contains:Has Tryd.prog 58 (S_strings_Contains):=ct_strings_Contains code_strings_Contains ok42 rfl
def G43:Gam:=⟨(58,S_strings_Contains)::G42.fs,G42.rs⟩
theorem ok43:GamOk Tryd.prog G43:=GamOk.consH has_strings_Contains ok42
theorem has_weave_Single:Has Tryd.prog 40 (S_weave_Single):=ct_weave_Single code_weave_Single ok43 rfl rfl
def G44:Gam:=⟨(40,S_weave_Single)::G43.fs,G43.rs⟩
theorem ok44:GamOk Tryd.prog G44:=GamOk.consH has_weave_Single ok43
def G45:Gam:=⟨G44.fs,(41,R_weave_Ends_Add)::G44.rs⟩
theorem ok45:GamOk Tryd.prog G45:=GamOk.consR (ct_weave_Ends_Add code_weave_Ends_Add ok44 rfl) ok44
theorem has_weave_Check:Has Tryd.prog 14 (S_weave_Check):=ct_weave_Check code_weave_Check ok45 rfl rfl rfl
def G46:Gam:=⟨(14,S_weave_Check)::G45.fs,G45.rs⟩
theorem ok46:GamOk Tryd.prog G46:=GamOk.consH has_weave_Check ok45
theorem has_law16_awake:Has Tryd.prog 9 (S_law16_awake):=ct_law16_awake code_law16_awake ok46 rfl rfl rfl
def G47:Gam:=⟨(9,S_law16_awake)::G46.fs,G46.rs⟩
theorem ok47:GamOk Tryd.prog G47:=GamOk.consH has_law16_awake ok46
theorem has_law16_WeaveSame:Has Tryd.prog 6 (S_law16_WeaveSame):=ct_law16_WeaveSame code_law16_WeaveSame ok47 rfl rfl rfl rfl rfl
def G48:Gam:=⟨(6,S_law16_WeaveSame)::G47.fs,G47.rs⟩
theorem ok48:GamOk Tryd.prog G48:=GamOk.consH has_law16_WeaveSame ok47
end Go.AE.Seat
