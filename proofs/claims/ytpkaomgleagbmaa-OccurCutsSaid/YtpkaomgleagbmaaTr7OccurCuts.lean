/-
  The contracts of the functions of this seat,one behind the other.
-/
import Derived.Test.YtpkaomgleagbmaaSr7
import Derived.Test.YtpkaomgleagbmaaCona1
import Derived.Test.YtpkaomgleagbmaaSh7

set_option linter.unusedSimpArgs false
set_option linter.unusedVariables false
set_option linter.unnecessarySimpa false
set_option maxRecDepth 100000
open Go Go.Proofs
namespace Go.AE.Seat
def G0:Gam:=⟨[],[]⟩
theorem ok0:GamOk Try.prog G0:=GamOk.nil _
theorem has_gen_At:Has Try.prog 17 (S_gen_At):=ct_gen_At code_gen_At ok0
def G1:Gam:=⟨(17,S_gen_At)::G0.fs,G0.rs⟩
theorem ok1:GamOk Try.prog G1:=GamOk.consH has_gen_At ok0
theorem has_gen_Mod:Has Try.prog 10 (S_gen_Mod):=ct_gen_Mod code_gen_Mod ok1
def G2:Gam:=⟨(10,S_gen_Mod)::G1.fs,G1.rs⟩
theorem ok2:GamOk Try.prog G2:=GamOk.consH has_gen_Mod ok1
theorem has_law07_word:Has Try.prog 8 (S_law07_word):=ct_law07_word code_law07_word ok2 rfl rfl
def G3:Gam:=⟨(8,S_law07_word)::G2.fs,G2.rs⟩
theorem ok3:GamOk Try.prog G3:=GamOk.consH has_law07_word ok2
def G4:Gam:=⟨(21,S_strings_Index)::G3.fs,G3.rs⟩
theorem ok4:GamOk Try.prog G4:=GamOk.consH has_strings_Index ok3
theorem has_occur_Next:Has Try.prog 18 (S_occur_Next):=ct_occur_Next code_occur_Next ok4 rfl
def G5:Gam:=⟨(18,S_occur_Next)::G4.fs,G4.rs⟩
theorem ok5:GamOk Try.prog G5:=GamOk.consH has_occur_Next ok4
theorem has_occur_Positions:Has Try.prog 9 (S_occur_Positions):=ct_occur_Positions code_occur_Positions ok5 rfl
def G6:Gam:=⟨(9,S_occur_Positions)::G5.fs,G5.rs⟩
theorem ok6:GamOk Try.prog G6:=GamOk.consH has_occur_Positions ok5
theorem has_gen_Ints:Has Try.prog 12 (S_gen_Ints):=ct_gen_Ints code_gen_Ints ok6
def G7:Gam:=⟨(12,S_gen_Ints)::G6.fs,G6.rs⟩
theorem ok7:GamOk Try.prog G7:=GamOk.consH has_gen_Ints ok6
theorem has_occur_Borders:Has Try.prog 13 (S_occur_Borders):=ct_occur_Borders code_occur_Borders ok7
def G8:Gam:=⟨(13,S_occur_Borders)::G7.fs,G7.rs⟩
theorem ok8:GamOk Try.prog G8:=GamOk.consH has_occur_Borders ok7
theorem has_occur_Count:Has Try.prog 11 (S_occur_Count):=ct_occur_Count code_occur_Count ok8 rfl
def G9:Gam:=⟨(11,S_occur_Count)::G8.fs,G8.rs⟩
theorem ok9:GamOk Try.prog G9:=GamOk.consH has_occur_Count ok8
theorem has_law07_awake:Has Try.prog 5 (S_law07_awake):=ct_law07_awake code_law07_awake ok9 rfl rfl rfl rfl
def G10:Gam:=⟨(5,S_law07_awake)::G9.fs,G9.rs⟩
theorem ok10:GamOk Try.prog G10:=GamOk.consH has_law07_awake ok9
theorem has_occur_Replace:Has Try.prog 6 S_occur_Replace:=ct_occur_Replace ok10 rfl
def G11:Gam:=⟨(6,S_occur_Replace)::G10.fs,G10.rs⟩
theorem ok11:GamOk Try.prog G11:=GamOk.consH has_occur_Replace ok10
theorem has_law07_OccurCuts:Has Try.prog 4 (S_law07_OccurCuts):=ct_law07_OccurCuts code_law07_OccurCuts ok11 rfl rfl rfl rfl rfl rfl
def G12:Gam:=⟨(4,S_law07_OccurCuts)::G11.fs,G11.rs⟩
theorem ok12:GamOk Try.prog G12:=GamOk.consH has_law07_OccurCuts ok11
end Go.AE.Seat
