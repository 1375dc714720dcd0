/-
  The contracts of the functions of this seat,one behind the other.
-/
import Derived.Test.YthiadehceiaieaaDoorSr6N
import Derived.Test.YthiadehceiaieaaDoorCona1
import Derived.Test.YthiadehceiaieaaDoorConb1
import Derived.Test.YthiadehceiaieaaDoorSh6D

set_option linter.unusedSimpArgs false
set_option linter.unusedVariables false
set_option linter.unnecessarySimpa false
set_option maxRecDepth 100000
open Go Go.Proofs
namespace Go.AE.Seat
def G0:Gam:=⟨[],[]⟩
theorem ok0:GamOk Tryd.prog G0:=GamOk.nil _
theorem has_gen_At:Has Tryd.prog 16 (S_gen_At):=ct_gen_At code_gen_At ok0
def G1:Gam:=⟨(16,S_gen_At)::G0.fs,G0.rs⟩
theorem ok1:GamOk Tryd.prog G1:=GamOk.consH has_gen_At ok0
theorem has_gen_Mod:Has Tryd.prog 13 (S_gen_Mod):=ct_gen_Mod code_gen_Mod ok1
def G2:Gam:=⟨(13,S_gen_Mod)::G1.fs,G1.rs⟩
theorem ok2:GamOk Tryd.prog G2:=GamOk.consH has_gen_Mod ok1
theorem has_gen_Line:Has Tryd.prog 17 (S_gen_Line):=ct_gen_Line code_gen_Line ok2 rfl
def G3:Gam:=⟨(17,S_gen_Line)::G2.fs,G2.rs⟩
theorem ok3:GamOk Tryd.prog G3:=GamOk.consH has_gen_Line ok2
theorem has_gen_Blob:Has Tryd.prog 6 (S_gen_Blob):=ct_gen_Blob code_gen_Blob ok3 rfl rfl rfl
def G4:Gam:=⟨(6,S_gen_Blob)::G3.fs,G3.rs⟩
theorem ok4:GamOk Tryd.prog G4:=GamOk.consH has_gen_Blob ok3
theorem has_ref02_Lines:Has Tryd.prog 12 (S_ref02_Lines):=ct_ref02_Lines code_ref02_Lines ok4
def G5:Gam:=⟨(12,S_ref02_Lines)::G4.fs,G4.rs⟩
theorem ok5:GamOk Tryd.prog G5:=GamOk.consH has_ref02_Lines ok4
theorem has_gen_Near:Has Tryd.prog 7 (S_gen_Near):=ct_gen_Near code_gen_Near ok5 rfl rfl rfl
def G6:Gam:=⟨(7,S_gen_Near)::G5.fs,G5.rs⟩
theorem ok6:GamOk Tryd.prog G6:=GamOk.consH has_gen_Near ok5
def G7:Gam:=⟨(37,S_strings_Count)::G6.fs,G6.rs⟩
theorem ok7:GamOk Tryd.prog G7:=GamOk.consH has_strings_Count ok6
def G8:Gam:=⟨(47,S_strings_HasSuffix)::G7.fs,G7.rs⟩
theorem ok8:GamOk Tryd.prog G8:=GamOk.consH has_strings_HasSuffix ok7
theorem has_text_Ended:Has Tryd.prog 38 (S_text_Ended):=ct_text_Ended code_text_Ended ok8 rfl
def G9:Gam:=⟨(38,S_text_Ended)::G8.fs,G8.rs⟩
theorem ok9:GamOk Tryd.prog G9:=GamOk.consH has_text_Ended ok8
theorem has_text_Check:Has Tryd.prog 29 (S_text_Check):=ct_text_Check code_text_Check ok9 rfl rfl
def G10:Gam:=⟨(29,S_text_Check)::G9.fs,G9.rs⟩
theorem ok10:GamOk Tryd.prog G10:=GamOk.consH has_text_Check ok9
def G11:Gam:=⟨(39,S_strings_genSplit)::G10.fs,G10.rs⟩
theorem ok11:GamOk Tryd.prog G11:=GamOk.consH has_strings_genSplit ok10
theorem has_strings_SplitAfter:Has Tryd.prog 30 (S_strings_SplitAfter):=ct_strings_SplitAfter code_strings_SplitAfter ok11 rfl
def G12:Gam:=⟨(30,S_strings_SplitAfter)::G11.fs,G11.rs⟩
theorem ok12:GamOk Tryd.prog G12:=GamOk.consH has_strings_SplitAfter ok11
theorem has_text_Split:Has Tryd.prog 18 (S_text_Split):=ct_text_Split code_text_Split ok12 rfl rfl
def G13:Gam:=⟨(18,S_text_Split)::G12.fs,G12.rs⟩
theorem ok13:GamOk Tryd.prog G13:=GamOk.consH has_text_Split ok12
def G14:Gam:=⟨G13.fs,(40,R_intern_table_id)::G13.rs⟩
theorem ok14:GamOk Tryd.prog G14:=GamOk.consR (ct_intern_table_id code_intern_table_id) ok13
theorem has_intern_number:Has Tryd.prog 31 (S_intern_number):=ct_intern_number code_intern_number ok14 rfl
def G15:Gam:=⟨(31,S_intern_number)::G14.fs,G14.rs⟩
theorem ok15:GamOk Tryd.prog G15:=GamOk.consH has_intern_number ok14
theorem has_intern_Ids:Has Tryd.prog 19 (S_intern_Ids):=ct_intern_Ids code_intern_Ids ok15 rfl
def G16:Gam:=⟨(19,S_intern_Ids)::G15.fs,G15.rs⟩
theorem ok16:GamOk Tryd.prog G16:=GamOk.consH has_intern_Ids ok15
theorem has_shortest_limited:Has Tryd.prog 24 (S_shortest_limited):=ct_shortest_limited code_shortest_limited ok16
def G17:Gam:=⟨(24,S_shortest_limited)::G16.fs,G16.rs⟩
theorem ok17:GamOk Tryd.prog G17:=GamOk.consH has_shortest_limited ok16
theorem has_shortest_beginning:Has Tryd.prog 27 (S_shortest_beginning):=ct_shortest_beginning code_shortest_beginning ok17
def G18:Gam:=⟨(27,S_shortest_beginning)::G17.fs,G17.rs⟩
theorem ok18:GamOk Tryd.prog G18:=GamOk.consH has_shortest_beginning ok17
theorem has_shortest_distances:Has Tryd.prog 28 (S_shortest_distances):=ct_shortest_distances code_shortest_distances ok18
def G19:Gam:=⟨(28,S_shortest_distances)::G18.fs,G18.rs⟩
theorem ok19:GamOk Tryd.prog G19:=GamOk.consH has_shortest_distances ok18
def G20:Gam:=⟨G19.fs,(36,R_shortest_walk_1)::G19.rs⟩
theorem ok20:GamOk Tryd.prog G20:=GamOk.consR (ct_shortest_walk_1 code_shortest_walk_1) ok19
theorem has_shortest_walk:Has Tryd.prog 26 (S_shortest_walk):=ct_shortest_walk code_shortest_walk ok20 rfl rfl rfl
def G21:Gam:=⟨(26,S_shortest_walk)::G20.fs,G20.rs⟩
theorem ok21:GamOk Tryd.prog G21:=GamOk.consH has_shortest_walk ok20
theorem has_script_length:Has Tryd.prog 34 (S_script_length):=ct_script_length code_script_length ok21
def G22:Gam:=⟨(34,S_script_length)::G21.fs,G21.rs⟩
theorem ok22:GamOk Tryd.prog G22:=GamOk.consH has_script_length ok21
def G23:Gam:=⟨G22.fs,(43,R_slices_Clip_Span_Span)::G22.rs⟩
theorem ok23:GamOk Tryd.prog G23:=GamOk.consR (ct_slices_Clip_Span_Span code_slices_Clip_Span_Span) ok22
theorem has_script_fromPairs:Has Tryd.prog 35 (S_script_fromPairs):=ct_script_fromPairs code_script_fromPairs ok23 rfl
def G24:Gam:=⟨(35,S_script_fromPairs)::G23.fs,G23.rs⟩
theorem ok24:GamOk Tryd.prog G24:=GamOk.consH has_script_fromPairs ok23
theorem has_script_FromPairs:Has Tryd.prog 25 (S_script_FromPairs):=ct_script_FromPairs code_script_FromPairs ok24 rfl rfl
def G25:Gam:=⟨(25,S_script_FromPairs)::G24.fs,G24.rs⟩
theorem ok25:GamOk Tryd.prog G25:=GamOk.consH has_script_FromPairs ok24
theorem has_shortest_Script:Has Tryd.prog 14 (S_shortest_Script):=ct_shortest_Script code_shortest_Script ok25 rfl rfl rfl
def G26:Gam:=⟨(14,S_shortest_Script)::G25.fs,G25.rs⟩
theorem ok26:GamOk Tryd.prog G26:=GamOk.consH has_shortest_Script ok25
theorem has_shortest_Blobs:Has Tryd.prog 8 (S_shortest_Blobs):=ct_shortest_Blobs code_shortest_Blobs ok26 rfl rfl rfl
def G27:Gam:=⟨(8,S_shortest_Blobs)::G26.fs,G26.rs⟩
theorem ok27:GamOk Tryd.prog G27:=GamOk.consH has_shortest_Blobs ok26
theorem has_gen_Changes:Has Tryd.prog 10 (S_gen_Changes):=ct_gen_Changes code_gen_Changes ok27
def G28:Gam:=⟨(10,S_gen_Changes)::G27.fs,G27.rs⟩
theorem ok28:GamOk Tryd.prog G28:=GamOk.consH has_gen_Changes ok27
theorem has_shortest_Distance:Has Tryd.prog 15 (S_shortest_Distance):=ct_shortest_Distance code_shortest_Distance ok28 rfl rfl rfl
def G29:Gam:=⟨(15,S_shortest_Distance)::G28.fs,G28.rs⟩
theorem ok29:GamOk Tryd.prog G29:=GamOk.consH has_shortest_Distance ok28
theorem has_law09_awake:Has Tryd.prog 5 (S_law09_awake):=ct_law09_awake code_law09_awake ok29 rfl rfl rfl
def G30:Gam:=⟨(5,S_law09_awake)::G29.fs,G29.rs⟩
theorem ok30:GamOk Tryd.prog G30:=GamOk.consH has_law09_awake ok29
theorem has_ref03_place:Has Tryd.prog 23 (S_ref03_place):=ct_ref03_place code_ref03_place ok30
def G31:Gam:=⟨(23,S_ref03_place)::G30.fs,G30.rs⟩
theorem ok31:GamOk Tryd.prog G31:=GamOk.consH has_ref03_place ok30
theorem has_ref03_Names:Has Tryd.prog 22 (S_ref03_Names):=ct_ref03_Names code_ref03_Names ok31 rfl
def G32:Gam:=⟨(22,S_ref03_Names)::G31.fs,G31.rs⟩
theorem ok32:GamOk Tryd.prog G32:=GamOk.consH has_ref03_Names ok31
def G33:Gam:=⟨G32.fs,(11,R_ref03_IdsOwn)::G32.rs⟩
theorem ok33:GamOk Tryd.prog G33:=GamOk.consR (ct_ref03_IdsOwn code_ref03_IdsOwn ok32 rfl rfl) ok32
theorem has_law09_ShortestNames:Has Tryd.prog 4 (S_law09_ShortestNames):=ct_law09_ShortestNames code_law09_ShortestNames ok33 rfl rfl rfl rfl rfl rfl rfl rfl rfl
def G34:Gam:=⟨(4,S_law09_ShortestNames)::G33.fs,G33.rs⟩
theorem ok34:GamOk Tryd.prog G34:=GamOk.consH has_law09_ShortestNames ok33
end Go.AE.Seat
