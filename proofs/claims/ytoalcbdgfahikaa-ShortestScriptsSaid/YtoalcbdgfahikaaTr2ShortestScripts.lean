/-
  The contracts of the functions of this seat,one behind the other.
-/
import Derived.Test.YtoalcbdgfahikaaSr2
import Derived.Test.YtoalcbdgfahikaaCona1
import Derived.Test.YtoalcbdgfahikaaConi1
import Derived.Test.YtoalcbdgfahikaaCond1
import Derived.Test.YtoalcbdgfahikaaConf1

set_option linter.unusedSimpArgs false
set_option linter.unusedVariables false
set_option linter.unnecessarySimpa false
set_option maxRecDepth 100000
open Go Go.Proofs
namespace Go.AE.Seat
def G0:Gam:=⟨[],[]⟩
theorem ok0:GamOk Try.prog G0:=GamOk.nil _
theorem has_shortest_limited:Has Try.prog 35 S_shortest_limited:=ct_shortest_limited code_shortest_limited ok0
def G1:Gam:=⟨(35,S_shortest_limited)::G0.fs,G0.rs⟩
theorem ok1:GamOk Try.prog G1:=GamOk.consH has_shortest_limited ok0
theorem has_shortest_beginning:Has Try.prog 36 S_shortest_beginning:=ct_shortest_beginning code_shortest_beginning ok1
def G2:Gam:=⟨(36,S_shortest_beginning)::G1.fs,G1.rs⟩
theorem ok2:GamOk Try.prog G2:=GamOk.consH has_shortest_beginning ok1
theorem has_shortest_distances:Has Try.prog 37 S_shortest_distances:=ct_shortest_distances code_shortest_distances ok2
def G3:Gam:=⟨(37,S_shortest_distances)::G2.fs,G2.rs⟩
theorem ok3:GamOk Try.prog G3:=GamOk.consH has_shortest_distances ok2
def G4:Gam:=⟨G3.fs,(49,R_shortest_walk_1)::G3.rs⟩
theorem ok4:GamOk Try.prog G4:=GamOk.consR (ct_shortest_walk_1 code_shortest_walk_1) ok3
theorem has_shortest_walk:Has Try.prog 39 S_shortest_walk:=ct_shortest_walk code_shortest_walk ok4 rfl rfl rfl
def G5:Gam:=⟨(39,S_shortest_walk)::G4.fs,G4.rs⟩
theorem ok5:GamOk Try.prog G5:=GamOk.consH has_shortest_walk ok4
theorem has_script_length:Has Try.prog 47 S_script_length:=ct_script_length code_script_length ok5
def G6:Gam:=⟨(47,S_script_length)::G5.fs,G5.rs⟩
theorem ok6:GamOk Try.prog G6:=GamOk.consH has_script_length ok5
def G7:Gam:=⟨G6.fs,(56,R_slices_Clip_Span_Span)::G6.rs⟩
theorem ok7:GamOk Try.prog G7:=GamOk.consR (ct_slices_Clip_Span_Span code_slices_Clip_Span_Span) ok6
theorem has_script_fromPairs:Has Try.prog 48 S_script_fromPairs:=ct_script_fromPairs code_script_fromPairs ok7 rfl
def G8:Gam:=⟨(48,S_script_fromPairs)::G7.fs,G7.rs⟩
theorem ok8:GamOk Try.prog G8:=GamOk.consH has_script_fromPairs ok7
theorem has_script_FromPairs:Has Try.prog 38 S_script_FromPairs:=ct_script_FromPairs code_script_FromPairs ok8 rfl rfl
def G9:Gam:=⟨(38,S_script_FromPairs)::G8.fs,G8.rs⟩
theorem ok9:GamOk Try.prog G9:=GamOk.consH has_script_FromPairs ok8
theorem has_shortest_Script:Has Try.prog 20 S_shortest_Script:=ct_shortest_Script code_shortest_Script ok9 rfl rfl rfl
def G10:Gam:=⟨(20,S_shortest_Script)::G9.fs,G9.rs⟩
theorem ok10:GamOk Try.prog G10:=GamOk.consH has_shortest_Script ok9
theorem has_shortest_Distance:Has Try.prog 17 S_shortest_Distance:=ct_shortest_Distance code_shortest_Distance ok10 rfl rfl rfl
def G11:Gam:=⟨(17,S_shortest_Distance)::G10.fs,G10.rs⟩
theorem ok11:GamOk Try.prog G11:=GamOk.consH has_shortest_Distance ok10
theorem has_gen_Changes:Has Try.prog 25 S_gen_Changes:=ct_gen_Changes code_gen_Changes ok11
def G12:Gam:=⟨(25,S_gen_Changes)::G11.fs,G11.rs⟩
theorem ok12:GamOk Try.prog G12:=GamOk.consH has_gen_Changes ok11
theorem has_law09_awake:Has Try.prog 19 S_law09_awake:=ct_law09_awake code_law09_awake ok12 rfl rfl rfl
def G13:Gam:=⟨(19,S_law09_awake)::G12.fs,G12.rs⟩
theorem ok13:GamOk Try.prog G13:=GamOk.consH has_law09_awake ok12
theorem has_gen_Mod:Has Try.prog 15 S_gen_Mod:=ct_gen_Mod code_gen_Mod ok13
def G14:Gam:=⟨(15,S_gen_Mod)::G13.fs,G13.rs⟩
theorem ok14:GamOk Try.prog G14:=GamOk.consH has_gen_Mod ok13
theorem has_gen_At:Has Try.prog 16 S_gen_At:=ct_gen_At code_gen_At ok14
def G15:Gam:=⟨(16,S_gen_At)::G14.fs,G14.rs⟩
theorem ok15:GamOk Try.prog G15:=GamOk.consH has_gen_At ok14
theorem has_gen_Ids:Has Try.prog 14 S_gen_Ids:=ct_gen_Ids code_gen_Ids ok15 rfl rfl
def G16:Gam:=⟨(14,S_gen_Ids)::G15.fs,G15.rs⟩
theorem ok16:GamOk Try.prog G16:=GamOk.consH has_gen_Ids ok15
theorem has_law09_pair:Has Try.prog 13 S_law09_pair:=ct_law09_pair code_law09_pair ok16 rfl rfl rfl
def G17:Gam:=⟨(13,S_law09_pair)::G16.fs,G16.rs⟩
theorem ok17:GamOk Try.prog G17:=GamOk.consH has_law09_pair ok16
theorem has_ref09_long:Has Try.prog 40 S_ref09_long:=ct_ref09_long code_ref09_long ok17
def G18:Gam:=⟨(40,S_ref09_long)::G17.fs,G17.rs⟩
theorem ok18:GamOk Try.prog G18:=GamOk.consH has_ref09_long ok17
theorem has_ref09_Table:Has Try.prog 42 S_ref09_Table:=ct_ref09_Table code_ref09_Table ok18
def G19:Gam:=⟨(42,S_ref09_Table)::G18.fs,G18.rs⟩
theorem ok19:GamOk Try.prog G19:=GamOk.consH has_ref09_Table ok18
theorem has_ref08_Made:Has Try.prog 50 S_ref08_Made:=ct_ref08_Made code_ref08_Made ok19
def G20:Gam:=⟨(50,S_ref08_Made)::G19.fs,G19.rs⟩
theorem ok20:GamOk Try.prog G20:=GamOk.consH has_ref08_Made ok19
theorem has_ref09_Walk:Has Try.prog 41 S_ref09_Walk:=ct_ref09_Walk code_ref09_Walk ok20 rfl rfl
def G21:Gam:=⟨(41,S_ref09_Walk)::G20.fs,G20.rs⟩
theorem ok21:GamOk Try.prog G21:=GamOk.consH has_ref09_Walk ok20
theorem has_ref09_Script:Has Try.prog 21 S_ref09_Script:=ct_ref09_Script code_ref09_Script ok21 rfl rfl
def G22:Gam:=⟨(21,S_ref09_Script)::G21.fs,G21.rs⟩
theorem ok22:GamOk Try.prog G22:=GamOk.consH has_ref09_Script ok21
theorem has_ref09_Distance:Has Try.prog 22 S_ref09_Distance:=ct_ref09_Distance code_ref09_Distance ok22 rfl rfl
def G23:Gam:=⟨(22,S_ref09_Distance)::G22.fs,G22.rs⟩
theorem ok23:GamOk Try.prog G23:=GamOk.consH has_ref09_Distance ok22
theorem has_shortest_Common:Has Try.prog 23 S_shortest_Common:=ct_shortest_Common code_shortest_Common ok23 rfl
def G24:Gam:=⟨(23,S_shortest_Common)::G23.fs,G23.rs⟩
theorem ok24:GamOk Try.prog G24:=GamOk.consH has_shortest_Common ok23
theorem has_ref09_Common:Has Try.prog 24 S_ref09_Common:=ct_ref09_Common code_ref09_Common ok24 rfl
def G25:Gam:=⟨(24,S_ref09_Common)::G24.fs,G24.rs⟩
theorem ok25:GamOk Try.prog G25:=GamOk.consH has_ref09_Common ok24
theorem has_law09_ShortestScripts:Has Try.prog 5 S_law09_ShortestScripts:=ct_law09_ShortestScripts code_law09_ShortestScripts ok25 rfl rfl rfl rfl rfl rfl rfl rfl rfl
def G26:Gam:=⟨(5,S_law09_ShortestScripts)::G25.fs,G25.rs⟩
theorem ok26:GamOk Try.prog G26:=GamOk.consH has_law09_ShortestScripts ok25
end Go.AE.Seat
