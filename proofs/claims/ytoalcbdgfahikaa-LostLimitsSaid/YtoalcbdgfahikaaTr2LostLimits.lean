/-
  The contracts of the functions of this seat,one behind the other.
-/
import Derived.Test.YtoalcbdgfahikaaSr2
import Derived.Test.YtoalcbdgfahikaaCona1
import Derived.Test.YtoalcbdgfahikaaCong1

set_option linter.unusedSimpArgs false
set_option linter.unusedVariables false
set_option linter.unnecessarySimpa false
set_option maxRecDepth 100000
open Go Go.Proofs
namespace Go.AE.Seat
def G0:Gam:=⟨[],[]⟩
theorem ok0:GamOk Try.prog G0:=GamOk.nil _
theorem has_gen_At:Has Try.prog 16 (S_gen_At):=ct_gen_At code_gen_At ok0
def G1:Gam:=⟨(16,S_gen_At)::G0.fs,G0.rs⟩
theorem ok1:GamOk Try.prog G1:=GamOk.consH has_gen_At ok0
theorem has_gen_Mod:Has Try.prog 15 (S_gen_Mod):=ct_gen_Mod code_gen_Mod ok1
def G2:Gam:=⟨(15,S_gen_Mod)::G1.fs,G1.rs⟩
theorem ok2:GamOk Try.prog G2:=GamOk.consH has_gen_Mod ok1
theorem has_gen_Ids:Has Try.prog 14 (S_gen_Ids):=ct_gen_Ids code_gen_Ids ok2 rfl rfl
def G3:Gam:=⟨(14,S_gen_Ids)::G2.fs,G2.rs⟩
theorem ok3:GamOk Try.prog G3:=GamOk.consH has_gen_Ids ok2
theorem has_lost_numbers:Has Try.prog 53 (S_lost_numbers):=ct_lost_numbers code_lost_numbers ok3
def G4:Gam:=⟨(53,S_lost_numbers)::G3.fs,G3.rs⟩
theorem ok4:GamOk Try.prog G4:=GamOk.consH has_lost_numbers ok3
theorem has_shortest_limited:Has Try.prog 35 (S_shortest_limited):=ct_shortest_limited code_shortest_limited ok4
def G5:Gam:=⟨(35,S_shortest_limited)::G4.fs,G4.rs⟩
theorem ok5:GamOk Try.prog G5:=GamOk.consH has_shortest_limited ok4
theorem has_shortest_beginning:Has Try.prog 36 (S_shortest_beginning):=ct_shortest_beginning code_shortest_beginning ok5
def G6:Gam:=⟨(36,S_shortest_beginning)::G5.fs,G5.rs⟩
theorem ok6:GamOk Try.prog G6:=GamOk.consH has_shortest_beginning ok5
theorem has_shortest_distances:Has Try.prog 37 (S_shortest_distances):=ct_shortest_distances code_shortest_distances ok6
def G7:Gam:=⟨(37,S_shortest_distances)::G6.fs,G6.rs⟩
theorem ok7:GamOk Try.prog G7:=GamOk.consH has_shortest_distances ok6
def G8:Gam:=⟨G7.fs,(49,R_shortest_walk_1)::G7.rs⟩
theorem ok8:GamOk Try.prog G8:=GamOk.consR (ct_shortest_walk_1 code_shortest_walk_1) ok7
theorem has_shortest_walk:Has Try.prog 39 (S_shortest_walk):=ct_shortest_walk code_shortest_walk ok8 rfl rfl rfl
def G9:Gam:=⟨(39,S_shortest_walk)::G8.fs,G8.rs⟩
theorem ok9:GamOk Try.prog G9:=GamOk.consH has_shortest_walk ok8
theorem has_script_length:Has Try.prog 47 (S_script_length):=ct_script_length code_script_length ok9
def G10:Gam:=⟨(47,S_script_length)::G9.fs,G9.rs⟩
theorem ok10:GamOk Try.prog G10:=GamOk.consH has_script_length ok9
def G11:Gam:=⟨G10.fs,(56,R_slices_Clip_Span_Span)::G10.rs⟩
theorem ok11:GamOk Try.prog G11:=GamOk.consR (ct_slices_Clip_Span_Span code_slices_Clip_Span_Span) ok10
theorem has_script_fromPairs:Has Try.prog 48 (S_script_fromPairs):=ct_script_fromPairs code_script_fromPairs ok11 rfl
def G12:Gam:=⟨(48,S_script_fromPairs)::G11.fs,G11.rs⟩
theorem ok12:GamOk Try.prog G12:=GamOk.consH has_script_fromPairs ok11
theorem has_script_FromPairs:Has Try.prog 38 (S_script_FromPairs):=ct_script_FromPairs code_script_FromPairs ok12 rfl rfl
def G13:Gam:=⟨(38,S_script_FromPairs)::G12.fs,G12.rs⟩
theorem ok13:GamOk Try.prog G13:=GamOk.consH has_script_FromPairs ok12
theorem has_shortest_Script:Has Try.prog 20 (S_shortest_Script):=ct_shortest_Script code_shortest_Script ok13 rfl rfl rfl
def G14:Gam:=⟨(20,S_shortest_Script)::G13.fs,G13.rs⟩
theorem ok14:GamOk Try.prog G14:=GamOk.consH has_shortest_Script ok13
def G15:Gam:=⟨G14.fs,(54,R_lost_merge_1)::G14.rs⟩
theorem ok15:GamOk Try.prog G15:=GamOk.consR (ct_lost_merge_1 code_lost_merge_1) ok14
theorem has_lost_merge:Has Try.prog 45 (S_lost_merge):=ct_lost_merge code_lost_merge ok15 rfl rfl rfl
def G16:Gam:=⟨(45,S_lost_merge)::G15.fs,G15.rs⟩
theorem ok16:GamOk Try.prog G16:=GamOk.consH has_lost_merge ok15
theorem has_lost_Coalesce:Has Try.prog 29 (S_lost_Coalesce):=ct_lost_Coalesce code_lost_Coalesce ok16 rfl
def G17:Gam:=⟨(29,S_lost_Coalesce)::G16.fs,G16.rs⟩
theorem ok17:GamOk Try.prog G17:=GamOk.consH has_lost_Coalesce ok16
theorem has_law15_same:Has Try.prog 32 (S_law15_same):=ct_law15_same code_law15_same ok17
def G18:Gam:=⟨(32,S_law15_same)::G17.fs,G17.rs⟩
theorem ok18:GamOk Try.prog G18:=GamOk.consH has_law15_same ok17
theorem has_lost_Project:Has Try.prog 33 (S_lost_Project):=ct_lost_Project code_lost_Project ok18
def G19:Gam:=⟨(33,S_lost_Project)::G18.fs,G18.rs⟩
theorem ok19:GamOk Try.prog G19:=GamOk.consH has_lost_Project ok18
theorem has_gen_Ints:Has Try.prog 18 (S_gen_Ints):=ct_gen_Ints code_gen_Ints ok19
def G20:Gam:=⟨(18,S_gen_Ints)::G19.fs,G19.rs⟩
theorem ok20:GamOk Try.prog G20:=GamOk.consH has_gen_Ints ok19
theorem has_law15_awake:Has Try.prog 28 (S_law15_awake):=ct_law15_awake code_law15_awake ok20 rfl rfl rfl rfl
def G21:Gam:=⟨(28,S_law15_awake)::G20.fs,G20.rs⟩
theorem ok21:GamOk Try.prog G21:=GamOk.consH has_law15_awake ok20
theorem has_law15_LostLimits:Has Try.prog 12 (S_law15_LostLimits):=ct_law15_LostLimits code_law15_LostLimits ok21 rfl rfl rfl
def G22:Gam:=⟨(12,S_law15_LostLimits)::G21.fs,G21.rs⟩
theorem ok22:GamOk Try.prog G22:=GamOk.consH has_law15_LostLimits ok21
end Go.AE.Seat
