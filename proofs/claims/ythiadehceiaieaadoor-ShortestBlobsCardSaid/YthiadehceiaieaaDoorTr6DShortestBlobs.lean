/-
  The contracts of the functions of this seat,one behind the other.
-/
import Derived.Test.YthiadehceiaieaaDoorSr6D
import Derived.Test.YthiadehceiaieaaDoorCona1
import Derived.Test.YthiadehceiaieaaDoorSh6D

set_option linter.unusedSimpArgs false
set_option linter.unusedVariables false
set_option linter.unnecessarySimpa false
set_option maxRecDepth 100000
open Go Go.Proofs
namespace Go.AE.Seat
def G0:Gam:=⟨[],[]⟩
theorem ok0:GamOk Tryd.prog G0:=GamOk.nil _
theorem has_shortest_limited:Has Tryd.prog 24 (S_shortest_limited):=ct_shortest_limited code_shortest_limited ok0
def G1:Gam:=⟨(24,S_shortest_limited)::G0.fs,G0.rs⟩
theorem ok1:GamOk Tryd.prog G1:=GamOk.consH has_shortest_limited ok0
theorem has_shortest_beginning:Has Tryd.prog 27 (S_shortest_beginning):=ct_shortest_beginning code_shortest_beginning ok1
def G2:Gam:=⟨(27,S_shortest_beginning)::G1.fs,G1.rs⟩
theorem ok2:GamOk Tryd.prog G2:=GamOk.consH has_shortest_beginning ok1
theorem has_shortest_distances:Has Tryd.prog 28 (S_shortest_distances):=ct_shortest_distances code_shortest_distances ok2
def G3:Gam:=⟨(28,S_shortest_distances)::G2.fs,G2.rs⟩
theorem ok3:GamOk Tryd.prog G3:=GamOk.consH has_shortest_distances ok2
def G4:Gam:=⟨G3.fs,(36,R_shortest_walk_1)::G3.rs⟩
theorem ok4:GamOk Tryd.prog G4:=GamOk.consR (ct_shortest_walk_1 code_shortest_walk_1) ok3
theorem has_shortest_walk:Has Tryd.prog 26 (S_shortest_walk):=ct_shortest_walk code_shortest_walk ok4 rfl rfl rfl
def G5:Gam:=⟨(26,S_shortest_walk)::G4.fs,G4.rs⟩
theorem ok5:GamOk Tryd.prog G5:=GamOk.consH has_shortest_walk ok4
theorem has_script_length:Has Tryd.prog 34 (S_script_length):=ct_script_length code_script_length ok5
def G6:Gam:=⟨(34,S_script_length)::G5.fs,G5.rs⟩
theorem ok6:GamOk Tryd.prog G6:=GamOk.consH has_script_length ok5
def G7:Gam:=⟨G6.fs,(43,R_slices_Clip_Span_Span)::G6.rs⟩
theorem ok7:GamOk Tryd.prog G7:=GamOk.consR (ct_slices_Clip_Span_Span code_slices_Clip_Span_Span) ok6
theorem has_script_fromPairs:Has Tryd.prog 35 (S_script_fromPairs):=ct_script_fromPairs code_script_fromPairs ok7 rfl
def G8:Gam:=⟨(35,S_script_fromPairs)::G7.fs,G7.rs⟩
theorem ok8:GamOk Tryd.prog G8:=GamOk.consH has_script_fromPairs ok7
theorem has_script_FromPairs:Has Tryd.prog 25 (S_script_FromPairs):=ct_script_FromPairs code_script_FromPairs ok8 rfl rfl
def G9:Gam:=⟨(25,S_script_FromPairs)::G8.fs,G8.rs⟩
theorem ok9:GamOk Tryd.prog G9:=GamOk.consH has_script_FromPairs ok8
theorem has_shortest_Script:Has Tryd.prog 14 (S_shortest_Script):=ct_shortest_Script code_shortest_Script ok9 rfl rfl rfl
def G10:Gam:=⟨(14,S_shortest_Script)::G9.fs,G9.rs⟩
theorem ok10:GamOk Tryd.prog G10:=GamOk.consH has_shortest_Script ok9
theorem has_shortest_Distance:Has Tryd.prog 15 (S_shortest_Distance):=ct_shortest_Distance code_shortest_Distance ok10 rfl rfl rfl
def G11:Gam:=⟨(15,S_shortest_Distance)::G10.fs,G10.rs⟩
theorem ok11:GamOk Tryd.prog G11:=GamOk.consH has_shortest_Distance ok10
theorem has_gen_Changes:Has Tryd.prog 10 (S_gen_Changes):=ct_gen_Changes code_gen_Changes ok11
def G12:Gam:=⟨(10,S_gen_Changes)::G11.fs,G11.rs⟩
theorem ok12:GamOk Tryd.prog G12:=GamOk.consH has_gen_Changes ok11
theorem has_law09_awake:Has Tryd.prog 5 (S_law09_awake):=ct_law09_awake code_law09_awake ok12 rfl rfl rfl
def G13:Gam:=⟨(5,S_law09_awake)::G12.fs,G12.rs⟩
theorem ok13:GamOk Tryd.prog G13:=GamOk.consH has_law09_awake ok12
theorem has_gen_At:Has Tryd.prog 16 (S_gen_At):=ct_gen_At code_gen_At ok13
def G14:Gam:=⟨(16,S_gen_At)::G13.fs,G13.rs⟩
theorem ok14:GamOk Tryd.prog G14:=GamOk.consH has_gen_At ok13
theorem has_gen_Mod:Has Tryd.prog 13 (S_gen_Mod):=ct_gen_Mod code_gen_Mod ok14
def G15:Gam:=⟨(13,S_gen_Mod)::G14.fs,G14.rs⟩
theorem ok15:GamOk Tryd.prog G15:=GamOk.consH has_gen_Mod ok14
theorem has_gen_Line:Has Tryd.prog 17 (S_gen_Line):=ct_gen_Line code_gen_Line ok15 rfl
def G16:Gam:=⟨(17,S_gen_Line)::G15.fs,G15.rs⟩
theorem ok16:GamOk Tryd.prog G16:=GamOk.consH has_gen_Line ok15
theorem has_gen_Blob:Has Tryd.prog 6 (S_gen_Blob):=ct_gen_Blob code_gen_Blob ok16 rfl rfl rfl
def G17:Gam:=⟨(6,S_gen_Blob)::G16.fs,G16.rs⟩
theorem ok17:GamOk Tryd.prog G17:=GamOk.consH has_gen_Blob ok16
theorem has_ref02_Lines:Has Tryd.prog 12 (S_ref02_Lines):=ct_ref02_Lines code_ref02_Lines ok17
def G18:Gam:=⟨(12,S_ref02_Lines)::G17.fs,G17.rs⟩
theorem ok18:GamOk Tryd.prog G18:=GamOk.consH has_ref02_Lines ok17
theorem has_gen_Near:Has Tryd.prog 7 (S_gen_Near):=ct_gen_Near code_gen_Near ok18 rfl rfl rfl
def G19:Gam:=⟨(7,S_gen_Near)::G18.fs,G18.rs⟩
theorem ok19:GamOk Tryd.prog G19:=GamOk.consH has_gen_Near ok18
def G20:Gam:=⟨(37,S_strings_Count)::G19.fs,G19.rs⟩
theorem ok20:GamOk Tryd.prog G20:=GamOk.consH has_strings_Count ok19
def G21:Gam:=⟨(47,S_strings_HasSuffix)::G20.fs,G20.rs⟩
theorem ok21:GamOk Tryd.prog G21:=GamOk.consH has_strings_HasSuffix ok20
theorem has_text_Ended:Has Tryd.prog 38 (S_text_Ended):=ct_text_Ended code_text_Ended ok21 rfl
def G22:Gam:=⟨(38,S_text_Ended)::G21.fs,G21.rs⟩
theorem ok22:GamOk Tryd.prog G22:=GamOk.consH has_text_Ended ok21
theorem has_text_Check:Has Tryd.prog 29 (S_text_Check):=ct_text_Check code_text_Check ok22 rfl rfl
def G23:Gam:=⟨(29,S_text_Check)::G22.fs,G22.rs⟩
theorem ok23:GamOk Tryd.prog G23:=GamOk.consH has_text_Check ok22
def G24:Gam:=⟨(39,S_strings_genSplit)::G23.fs,G23.rs⟩
theorem ok24:GamOk Tryd.prog G24:=GamOk.consH has_strings_genSplit ok23
theorem has_strings_SplitAfter:Has Tryd.prog 30 (S_strings_SplitAfter):=ct_strings_SplitAfter code_strings_SplitAfter ok24 rfl
def G25:Gam:=⟨(30,S_strings_SplitAfter)::G24.fs,G24.rs⟩
theorem ok25:GamOk Tryd.prog G25:=GamOk.consH has_strings_SplitAfter ok24
theorem has_text_Split:Has Tryd.prog 18 (S_text_Split):=ct_text_Split code_text_Split ok25 rfl rfl
def G26:Gam:=⟨(18,S_text_Split)::G25.fs,G25.rs⟩
theorem ok26:GamOk Tryd.prog G26:=GamOk.consH has_text_Split ok25
def G27:Gam:=⟨G26.fs,(40,R_intern_table_id)::G26.rs⟩
theorem ok27:GamOk Tryd.prog G27:=GamOk.consR (ct_intern_table_id code_intern_table_id) ok26
theorem has_intern_number:Has Tryd.prog 31 (S_intern_number):=ct_intern_number code_intern_number ok27 rfl
def G28:Gam:=⟨(31,S_intern_number)::G27.fs,G27.rs⟩
theorem ok28:GamOk Tryd.prog G28:=GamOk.consH has_intern_number ok27
theorem has_intern_Ids:Has Tryd.prog 19 (S_intern_Ids):=ct_intern_Ids code_intern_Ids ok28 rfl
def G29:Gam:=⟨(19,S_intern_Ids)::G28.fs,G28.rs⟩
theorem ok29:GamOk Tryd.prog G29:=GamOk.consH has_intern_Ids ok28
theorem has_shortest_Blobs:Has Tryd.prog 8 (S_shortest_Blobs):=ct_shortest_Blobs code_shortest_Blobs ok29 rfl rfl rfl
def G30:Gam:=⟨(8,S_shortest_Blobs)::G29.fs,G29.rs⟩
theorem ok30:GamOk Tryd.prog G30:=GamOk.consH has_shortest_Blobs ok29
theorem has_ref02_Check:Has Tryd.prog 32 (S_ref02_Check):=ct_ref02_Check code_ref02_Check ok30 rfl
def G31:Gam:=⟨(32,S_ref02_Check)::G30.fs,G30.rs⟩
theorem ok31:GamOk Tryd.prog G31:=GamOk.consH has_ref02_Check ok30
theorem has_ref02_Split:Has Tryd.prog 20 (S_ref02_Split):=ct_ref02_Split code_ref02_Split ok31 rfl rfl
def G32:Gam:=⟨(20,S_ref02_Split)::G31.fs,G31.rs⟩
theorem ok32:GamOk Tryd.prog G32:=GamOk.consH has_ref02_Split ok31
theorem has_ref03_place:Has Tryd.prog 23 (S_ref03_place):=ct_ref03_place code_ref03_place ok32
def G33:Gam:=⟨(23,S_ref03_place)::G32.fs,G32.rs⟩
theorem ok33:GamOk Tryd.prog G33:=GamOk.consH has_ref03_place ok32
theorem has_ref03_Names:Has Tryd.prog 22 (S_ref03_Names):=ct_ref03_Names code_ref03_Names ok33 rfl
def G34:Gam:=⟨(22,S_ref03_Names)::G33.fs,G33.rs⟩
theorem ok34:GamOk Tryd.prog G34:=GamOk.consH has_ref03_Names ok33
theorem has_ref03_Ids:Has Tryd.prog 11 (S_ref03_Ids):=ct_ref03_Ids code_ref03_Ids ok34 rfl rfl
def G35:Gam:=⟨(11,S_ref03_Ids)::G34.fs,G34.rs⟩
theorem ok35:GamOk Tryd.prog G35:=GamOk.consH has_ref03_Ids ok34
theorem has_ref09_Table:Has Tryd.prog 41 (S_ref09_Table):=ct_ref09_Table code_ref09_Table ok35
def G36:Gam:=⟨(41,S_ref09_Table)::G35.fs,G35.rs⟩
theorem ok36:GamOk Tryd.prog G36:=GamOk.consH has_ref09_Table ok35
theorem has_ref08_Made:Has Tryd.prog 42 (S_ref08_Made):=ct_ref08_Made code_ref08_Made ok36
def G37:Gam:=⟨(42,S_ref08_Made)::G36.fs,G36.rs⟩
theorem ok37:GamOk Tryd.prog G37:=GamOk.consH has_ref08_Made ok36
theorem has_ref09_Walk:Has Tryd.prog 33 (S_ref09_Walk):=ct_ref09_Walk code_ref09_Walk ok37 rfl rfl
def G38:Gam:=⟨(33,S_ref09_Walk)::G37.fs,G37.rs⟩
theorem ok38:GamOk Tryd.prog G38:=GamOk.consH has_ref09_Walk ok37
theorem has_ref09_Lines:Has Tryd.prog 21 (S_ref09_Lines):=ct_ref09_Lines code_ref09_Lines ok38 rfl rfl
def G39:Gam:=⟨(21,S_ref09_Lines)::G38.fs,G38.rs⟩
theorem ok39:GamOk Tryd.prog G39:=GamOk.consH has_ref09_Lines ok38
theorem has_ref09_Blobs:Has Tryd.prog 9 (S_ref09_Blobs):=ct_ref09_Blobs code_ref09_Blobs ok39 rfl rfl
def G40:Gam:=⟨(9,S_ref09_Blobs)::G39.fs,G39.rs⟩
theorem ok40:GamOk Tryd.prog G40:=GamOk.consH has_ref09_Blobs ok39
theorem has_law09_ShortestBlobs:Has Tryd.prog 3 (S_law09_ShortestBlobs):=ct_law09_ShortestBlobs code_law09_ShortestBlobs ok40 rfl rfl rfl rfl rfl rfl
def G41:Gam:=⟨(3,S_law09_ShortestBlobs)::G40.fs,G40.rs⟩
theorem ok41:GamOk Tryd.prog G41:=GamOk.consH has_law09_ShortestBlobs ok40
end Go.AE.Seat
