/-
  The contracts of the functions of this seat,one behind the other.
-/
import Derived.Test.YtoalcbdgfahikaaSr2
import Derived.Test.YtoalcbdgfahikaaCona1
import Derived.Test.YtoalcbdgfahikaaCone1
import Derived.Test.YtoalcbdgfahikaaCond1

set_option linter.unusedSimpArgs false
set_option linter.unusedVariables false
set_option linter.unnecessarySimpa false
set_option maxRecDepth 100000
open Go Go.Proofs
namespace Go.AE.Seat
def G0:Gam:=⟨[],[]⟩
theorem ok0:GamOk Try.prog G0:=GamOk.nil _
theorem has_gen_Mod:Has Try.prog 15 S_gen_Mod:=ct_gen_Mod code_gen_Mod ok0
def G1:Gam:=⟨(15,S_gen_Mod)::G0.fs,G0.rs⟩
theorem ok1:GamOk Try.prog G1:=GamOk.consH has_gen_Mod ok0
theorem has_gen_At:Has Try.prog 16 S_gen_At:=ct_gen_At code_gen_At ok1
def G2:Gam:=⟨(16,S_gen_At)::G1.fs,G1.rs⟩
theorem ok2:GamOk Try.prog G2:=GamOk.consH has_gen_At ok1
theorem has_gen_Ids:Has Try.prog 14 S_gen_Ids:=ct_gen_Ids code_gen_Ids ok2 rfl rfl
def G3:Gam:=⟨(14,S_gen_Ids)::G2.fs,G2.rs⟩
theorem ok3:GamOk Try.prog G3:=GamOk.consH has_gen_Ids ok2
theorem has_law09_pair:Has Try.prog 13 S_law09_pair:=ct_law09_pair code_law09_pair ok3 rfl rfl rfl
def G4:Gam:=⟨(13,S_law09_pair)::G3.fs,G3.rs⟩
theorem ok4:GamOk Try.prog G4:=GamOk.consH has_law09_pair ok3
theorem has_shortest_limited:Has Try.prog 35 S_shortest_limited:=ct_shortest_limited code_shortest_limited ok4
def G5:Gam:=⟨(35,S_shortest_limited)::G4.fs,G4.rs⟩
theorem ok5:GamOk Try.prog G5:=GamOk.consH has_shortest_limited ok4
theorem has_shortest_beginning:Has Try.prog 36 S_shortest_beginning:=ct_shortest_beginning code_shortest_beginning ok5
def G6:Gam:=⟨(36,S_shortest_beginning)::G5.fs,G5.rs⟩
theorem ok6:GamOk Try.prog G6:=GamOk.consH has_shortest_beginning ok5
theorem has_shortest_distances:Has Try.prog 37 S_shortest_distances:=ct_shortest_distances code_shortest_distances ok6
def G7:Gam:=⟨(37,S_shortest_distances)::G6.fs,G6.rs⟩
theorem ok7:GamOk Try.prog G7:=GamOk.consH has_shortest_distances ok6
def G8:Gam:=⟨G7.fs,(49,R_shortest_walk_1)::G7.rs⟩
theorem ok8:GamOk Try.prog G8:=GamOk.consR (ct_shortest_walk_1 code_shortest_walk_1) ok7
theorem has_shortest_walk:Has Try.prog 39 S_shortest_walk:=ct_shortest_walk code_shortest_walk ok8 rfl rfl rfl
def G9:Gam:=⟨(39,S_shortest_walk)::G8.fs,G8.rs⟩
theorem ok9:GamOk Try.prog G9:=GamOk.consH has_shortest_walk ok8
theorem has_script_length:Has Try.prog 47 S_script_length:=ct_script_length code_script_length ok9
def G10:Gam:=⟨(47,S_script_length)::G9.fs,G9.rs⟩
theorem ok10:GamOk Try.prog G10:=GamOk.consH has_script_length ok9
def G11:Gam:=⟨G10.fs,(56,R_slices_Clip_Span_Span)::G10.rs⟩
theorem ok11:GamOk Try.prog G11:=GamOk.consR (ct_slices_Clip_Span_Span code_slices_Clip_Span_Span) ok10
theorem has_script_fromPairs:Has Try.prog 48 S_script_fromPairs:=ct_script_fromPairs code_script_fromPairs ok11 rfl
def G12:Gam:=⟨(48,S_script_fromPairs)::G11.fs,G11.rs⟩
theorem ok12:GamOk Try.prog G12:=GamOk.consH has_script_fromPairs ok11
theorem has_script_FromPairs:Has Try.prog 38 S_script_FromPairs:=ct_script_FromPairs code_script_FromPairs ok12 rfl rfl
def G13:Gam:=⟨(38,S_script_FromPairs)::G12.fs,G12.rs⟩
theorem ok13:GamOk Try.prog G13:=GamOk.consH has_script_FromPairs ok12
theorem has_shortest_Script:Has Try.prog 20 S_shortest_Script:=ct_shortest_Script code_shortest_Script ok13 rfl rfl rfl
def G14:Gam:=⟨(20,S_shortest_Script)::G13.fs,G13.rs⟩
theorem ok14:GamOk Try.prog G14:=GamOk.consH has_shortest_Script ok13
theorem has_shortest_Distance:Has Try.prog 17 S_shortest_Distance:=ct_shortest_Distance code_shortest_Distance ok14 rfl rfl rfl
def G15:Gam:=⟨(17,S_shortest_Distance)::G14.fs,G14.rs⟩
theorem ok15:GamOk Try.prog G15:=GamOk.consH has_shortest_Distance ok14
theorem has_shortest_Common:Has Try.prog 23 S_shortest_Common:=ct_shortest_Common code_shortest_Common ok15 rfl
def G16:Gam:=⟨(23,S_shortest_Common)::G15.fs,G15.rs⟩
theorem ok16:GamOk Try.prog G16:=GamOk.consH has_shortest_Common ok15
theorem has_ref08_in:Has Try.prog 44 S_ref08_in:=ct_ref08_in code_ref08_in ok16
def G17:Gam:=⟨(44,S_ref08_in)::G16.fs,G16.rs⟩
theorem ok17:GamOk Try.prog G17:=GamOk.consH has_ref08_in ok16
theorem has_ref08_Check:Has Try.prog 51 S_ref08_Check:=ct_ref08_Check code_ref08_Check ok17 rfl
def G18:Gam:=⟨(51,S_ref08_Check)::G17.fs,G17.rs⟩
theorem ok18:GamOk Try.prog G18:=GamOk.consH has_ref08_Check ok17
theorem has_ref08_Matched:Has Try.prog 52 S_ref08_Matched:=ct_ref08_Matched code_ref08_Matched ok18
def G19:Gam:=⟨(52,S_ref08_Matched)::G18.fs,G18.rs⟩
theorem ok19:GamOk Try.prog G19:=GamOk.consH has_ref08_Matched ok18
theorem has_ref08_Pairs:Has Try.prog 43 S_ref08_Pairs:=ct_ref08_Pairs code_ref08_Pairs ok19 rfl rfl
def G20:Gam:=⟨(43,S_ref08_Pairs)::G19.fs,G19.rs⟩
theorem ok20:GamOk Try.prog G20:=GamOk.consH has_ref08_Pairs ok19
theorem has_ref08_Fits:Has Try.prog 26 S_ref08_Fits:=ct_ref08_Fits code_ref08_Fits ok20 rfl
def G21:Gam:=⟨(26,S_ref08_Fits)::G20.fs,G20.rs⟩
theorem ok21:GamOk Try.prog G21:=GamOk.consH has_ref08_Fits ok20
theorem has_ref08_Size:Has Try.prog 27 S_ref08_Size:=ct_ref08_Size code_ref08_Size ok21 rfl
def G22:Gam:=⟨(27,S_ref08_Size)::G21.fs,G21.rs⟩
theorem ok22:GamOk Try.prog G22:=GamOk.consH has_ref08_Size ok21
theorem has_gen_Changes:Has Try.prog 25 S_gen_Changes:=ct_gen_Changes code_gen_Changes ok22
def G23:Gam:=⟨(25,S_gen_Changes)::G22.fs,G22.rs⟩
theorem ok23:GamOk Try.prog G23:=GamOk.consH has_gen_Changes ok22
theorem has_law09_awake:Has Try.prog 19 S_law09_awake:=ct_law09_awake code_law09_awake ok23 rfl rfl rfl
def G24:Gam:=⟨(19,S_law09_awake)::G23.fs,G23.rs⟩
theorem ok24:GamOk Try.prog G24:=GamOk.consH has_law09_awake ok23
theorem has_law09_ShortestLeast:Has Try.prog 6 S_law09_ShortestLeast:=ct_law09_ShortestLeast code_law09_ShortestLeast ok24 rfl rfl rfl rfl rfl rfl rfl rfl
def G25:Gam:=⟨(6,S_law09_ShortestLeast)::G24.fs,G24.rs⟩
theorem ok25:GamOk Try.prog G25:=GamOk.consH has_law09_ShortestLeast ok24
end Go.AE.Seat
