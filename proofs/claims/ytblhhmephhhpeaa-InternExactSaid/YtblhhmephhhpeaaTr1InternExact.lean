/-
  The contracts of the functions of this seat,one behind the other.
-/
import Derived.Test.YtblhhmephhhpeaaSr1
import Derived.Test.YtblhhmephhhpeaaCona1
import Derived.Test.YtblhhmephhhpeaaConb1

set_option linter.unusedSimpArgs false
set_option linter.unusedVariables false
set_option linter.unnecessarySimpa false
set_option maxRecDepth 100000
open Go Go.Proofs
namespace Go.AE.Seat
def G0:Gam:=⟨[],[]⟩
theorem ok0:GamOk Try.prog G0:=GamOk.nil _
theorem has_law03_small:Has Try.prog 7 S_law03_small:=ct_law03_small code_law03_small ok0
def G1:Gam:=⟨(7,S_law03_small)::G0.fs,G0.rs⟩
theorem ok1:GamOk Try.prog G1:=GamOk.consH has_law03_small ok0
def G2:Gam:=⟨G1.fs,(23,R_intern_table_id)::G1.rs⟩
theorem ok2:GamOk Try.prog G2:=GamOk.consR (ct_intern_table_id code_intern_table_id) ok1
theorem has_intern_number:Has Try.prog 21 S_intern_number:=ct_intern_number code_intern_number ok2 rfl
def G3:Gam:=⟨(21,S_intern_number)::G2.fs,G2.rs⟩
theorem ok3:GamOk Try.prog G3:=GamOk.consH has_intern_number ok2
theorem has_intern_Ids:Has Try.prog 13 S_intern_Ids:=ct_intern_Ids code_intern_Ids ok3 rfl
def G4:Gam:=⟨(13,S_intern_Ids)::G3.fs,G3.rs⟩
theorem ok4:GamOk Try.prog G4:=GamOk.consH has_intern_Ids ok3
theorem has_gen_Ints:Has Try.prog 20 S_gen_Ints:=ct_gen_Ints code_gen_Ints ok4
def G5:Gam:=⟨(20,S_gen_Ints)::G4.fs,G4.rs⟩
theorem ok5:GamOk Try.prog G5:=GamOk.consH has_gen_Ints ok4
theorem has_gen_Lists:Has Try.prog 12 S_gen_Lists:=ct_gen_Lists code_gen_Lists ok5 rfl
def G6:Gam:=⟨(12,S_gen_Lists)::G5.fs,G5.rs⟩
theorem ok6:GamOk Try.prog G6:=GamOk.consH has_gen_Lists ok5
theorem has_intern_Names:Has Try.prog 16 S_intern_Names:=ct_intern_Names code_intern_Names ok6 rfl
def G7:Gam:=⟨(16,S_intern_Names)::G6.fs,G6.rs⟩
theorem ok7:GamOk Try.prog G7:=GamOk.consH has_intern_Names ok6
theorem has_gen_Strings:Has Try.prog 15 S_gen_Strings:=ct_gen_Strings code_gen_Strings ok7
def G8:Gam:=⟨(15,S_gen_Strings)::G7.fs,G7.rs⟩
theorem ok8:GamOk Try.prog G8:=GamOk.consH has_gen_Strings ok7
theorem has_law03_awake:Has Try.prog 8 S_law03_awake:=ct_law03_awake code_law03_awake ok8 rfl rfl rfl rfl
def G9:Gam:=⟨(8,S_law03_awake)::G8.fs,G8.rs⟩
theorem ok9:GamOk Try.prog G9:=GamOk.consH has_law03_awake ok8
theorem has_intern_Spell:Has Try.prog 18 S_intern_Spell:=ct_intern_Spell code_intern_Spell ok9
def G10:Gam:=⟨(18,S_intern_Spell)::G9.fs,G9.rs⟩
theorem ok10:GamOk Try.prog G10:=GamOk.consH has_intern_Spell ok9
theorem has_gen_Mod:Has Try.prog 9 S_gen_Mod:=ct_gen_Mod code_gen_Mod ok10
def G11:Gam:=⟨(9,S_gen_Mod)::G10.fs,G10.rs⟩
theorem ok11:GamOk Try.prog G11:=GamOk.consH has_gen_Mod ok10
theorem has_law03_InternExact:Has Try.prog 6 S_law03_InternExact:=ct_law03_InternExact code_law03_InternExact ok11 rfl rfl rfl rfl rfl rfl rfl
def G12:Gam:=⟨(6,S_law03_InternExact)::G11.fs,G11.rs⟩
theorem ok12:GamOk Try.prog G12:=GamOk.consH has_law03_InternExact ok11
end Go.AE.Seat
