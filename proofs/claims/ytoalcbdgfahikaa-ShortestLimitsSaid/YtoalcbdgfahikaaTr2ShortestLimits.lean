/-
  The contracts of the functions of this seat,one behind the other.
-/
import Derived.Test.YtoalcbdgfahikaaSr2
import Derived.Test.YtoalcbdgfahikaaCona1
import Derived.Test.YtoalcbdgfahikaaConb1

set_option linter.unusedSimpArgs false
set_option linter.unusedVariables false
set_option linter.unnecessarySimpa false
set_option maxRecDepth 100000
open Go Go.Proofs
namespace Go.AE.Seat
def G0:Gam:=⟨[],[]⟩
theorem ok0:GamOk Try.prog G0:=GamOk.nil _
theorem has_shortest_limited:Has Try.prog 35 S_shortest_limited:=ct_shortest_limited code_shortest_limited ok0
def G1:Gam:=⟨(35,S_shortest_limited)::G0.fs,G0.rs⟩
theorem ok1:GamOk Try.prog G1:=GamOk.consH has_shortest_limited ok0
theorem has_shortest_beginning:Has Try.prog 36 S_shortest_beginning:=ct_shortest_beginning code_shortest_beginning ok1
def G2:Gam:=⟨(36,S_shortest_beginning)::G1.fs,G1.rs⟩
theorem ok2:GamOk Try.prog G2:=GamOk.consH has_shortest_beginning ok1
theorem has_shortest_distances:Has Try.prog 37 S_shortest_distances:=ct_shortest_distances code_shortest_distances ok2
def G3:Gam:=⟨(37,S_shortest_distances)::G2.fs,G2.rs⟩
theorem ok3:GamOk Try.prog G3:=GamOk.consH has_shortest_distances ok2
def G4:Gam:=⟨G3.fs,(49,R_shortest_walk_1)::G3.rs⟩
theorem ok4:GamOk Try.prog G4:=GamOk.consR (ct_shortest_walk_1 code_shortest_walk_1) ok3
theorem has_shortest_walk:Has Try.prog 39 S_shortest_walk:=ct_shortest_walk code_shortest_walk ok4 rfl rfl rfl
def G5:Gam:=⟨(39,S_shortest_walk)::G4.fs,G4.rs⟩
theorem ok5:GamOk Try.prog G5:=GamOk.consH has_shortest_walk ok4
theorem has_script_length:Has Try.prog 47 S_script_length:=ct_script_length code_script_length ok5
def G6:Gam:=⟨(47,S_script_length)::G5.fs,G5.rs⟩
theorem ok6:GamOk Try.prog G6:=GamOk.consH has_script_length ok5
def G7:Gam:=⟨G6.fs,(56,R_slices_Clip_Span_Span)::G6.rs⟩
theorem ok7:GamOk Try.prog G7:=GamOk.consR (ct_slices_Clip_Span_Span code_slices_Clip_Span_Span) ok6
theorem has_script_fromPairs:Has Try.prog 48 S_script_fromPairs:=ct_script_fromPairs code_script_fromPairs ok7 rfl
def G8:Gam:=⟨(48,S_script_fromPairs)::G7.fs,G7.rs⟩
theorem ok8:GamOk Try.prog G8:=GamOk.consH has_script_fromPairs ok7
theorem has_script_FromPairs:Has Try.prog 38 S_script_FromPairs:=ct_script_FromPairs code_script_FromPairs ok8 rfl rfl
def G9:Gam:=⟨(38,S_script_FromPairs)::G8.fs,G8.rs⟩
theorem ok9:GamOk Try.prog G9:=GamOk.consH has_script_FromPairs ok8
theorem has_shortest_Script:Has Try.prog 20 S_shortest_Script:=ct_shortest_Script code_shortest_Script ok9 rfl rfl rfl
def G10:Gam:=⟨(20,S_shortest_Script)::G9.fs,G9.rs⟩
theorem ok10:GamOk Try.prog G10:=GamOk.consH has_shortest_Script ok9
theorem has_shortest_Distance:Has Try.prog 17 S_shortest_Distance:=ct_shortest_Distance code_shortest_Distance ok10 rfl rfl rfl
def G11:Gam:=⟨(17,S_shortest_Distance)::G10.fs,G10.rs⟩
theorem ok11:GamOk Try.prog G11:=GamOk.consH has_shortest_Distance ok10
theorem has_shortest_Common:Has Try.prog 23 S_shortest_Common:=ct_shortest_Common code_shortest_Common ok11 rfl
def G12:Gam:=⟨(23,S_shortest_Common)::G11.fs,G11.rs⟩
theorem ok12:GamOk Try.prog G12:=GamOk.consH has_shortest_Common ok11
theorem has_gen_Changes:Has Try.prog 25 S_gen_Changes:=ct_gen_Changes code_gen_Changes ok12
def G13:Gam:=⟨(25,S_gen_Changes)::G12.fs,G12.rs⟩
theorem ok13:GamOk Try.prog G13:=GamOk.consH has_gen_Changes ok12
theorem has_law09_awake:Has Try.prog 19 S_law09_awake:=ct_law09_awake code_law09_awake ok13 rfl rfl rfl
def G14:Gam:=⟨(19,S_law09_awake)::G13.fs,G13.rs⟩
theorem ok14:GamOk Try.prog G14:=GamOk.consH has_law09_awake ok13
theorem has_law09_ShortestLimits:Has Try.prog 7 S_law09_ShortestLimits:=ct_law09_ShortestLimits code_law09_ShortestLimits ok14 rfl rfl rfl rfl
def G15:Gam:=⟨(7,S_law09_ShortestLimits)::G14.fs,G14.rs⟩
theorem ok15:GamOk Try.prog G15:=GamOk.consH has_law09_ShortestLimits ok14
end Go.AE.Seat
