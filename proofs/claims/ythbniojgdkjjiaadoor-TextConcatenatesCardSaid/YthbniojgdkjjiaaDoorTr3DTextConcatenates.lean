/-
  The contracts of the functions of this seat,one behind the other.
-/
import Derived.Test.YthbniojgdkjjiaaDoorSr3D
import Derived.Test.YthbniojgdkjjiaaDoorCona1
import Derived.Test.YthbniojgdkjjiaaDoorShD0

set_option linter.unusedSimpArgs false
set_option linter.unusedVariables false
set_option linter.unnecessarySimpa false
set_option maxRecDepth 100000
open Go Go.Proofs
namespace Go.AE.Seat
def G0:Gam:=⟨[],[]⟩
theorem ok0:GamOk Tryd.prog G0:=GamOk.nil _
def G1:Gam:=⟨(26,S_strings_Count)::G0.fs,G0.rs⟩
theorem ok1:GamOk Tryd.prog G1:=GamOk.consH has_strings_Count ok0
def G2:Gam:=⟨(28,S_strings_HasSuffix)::G1.fs,G1.rs⟩
theorem ok2:GamOk Tryd.prog G2:=GamOk.consH has_strings_HasSuffix ok1
theorem has_text_Ended:Has Tryd.prog 18 S_text_Ended:=ct_text_Ended code_text_Ended ok2 rfl
def G3:Gam:=⟨(18,S_text_Ended)::G2.fs,G2.rs⟩
theorem ok3:GamOk Tryd.prog G3:=GamOk.consH has_text_Ended ok2
theorem has_text_Check:Has Tryd.prog 12 S_text_Check:=ct_text_Check code_text_Check ok3 rfl rfl
def G4:Gam:=⟨(12,S_text_Check)::G3.fs,G3.rs⟩
theorem ok4:GamOk Tryd.prog G4:=GamOk.consH has_text_Check ok3
def G5:Gam:=⟨(33,S_strings_genSplit)::G4.fs,G4.rs⟩
theorem ok5:GamOk Tryd.prog G5:=GamOk.consH has_strings_genSplit ok4
theorem has_strings_SplitAfter:Has Tryd.prog 25 S_strings_SplitAfter:=ct_strings_SplitAfter code_strings_SplitAfter ok5 rfl
def G6:Gam:=⟨(25,S_strings_SplitAfter)::G5.fs,G5.rs⟩
theorem ok6:GamOk Tryd.prog G6:=GamOk.consH has_strings_SplitAfter ok5
theorem has_text_Split:Has Tryd.prog 10 S_text_Split:=ct_text_Split code_text_Split ok6 rfl rfl
def G7:Gam:=⟨(10,S_text_Split)::G6.fs,G6.rs⟩
theorem ok7:GamOk Tryd.prog G7:=GamOk.consH has_text_Split ok6
def G8:Gam:=⟨(29,S_strings_IndexByte)::G7.fs,G7.rs⟩
theorem ok8:GamOk Tryd.prog G8:=GamOk.consH has_strings_IndexByte ok7
def G9:Gam:=⟨(30,S_strings_Join)::G8.fs,G8.rs⟩
theorem ok9:GamOk Tryd.prog G9:=GamOk.consH has_strings_Join ok8
theorem has_text_Join:Has Tryd.prog 20 S_text_Join:=ct_text_Join code_text_Join ok9 rfl rfl
def G10:Gam:=⟨(20,S_text_Join)::G9.fs,G9.rs⟩
theorem ok10:GamOk Tryd.prog G10:=GamOk.consH has_text_Join ok9
theorem has_gen_Strings:Has Tryd.prog 14 S_gen_Strings:=ct_gen_Strings code_gen_Strings ok10
def G11:Gam:=⟨(14,S_gen_Strings)::G10.fs,G10.rs⟩
theorem ok11:GamOk Tryd.prog G11:=GamOk.consH has_gen_Strings ok10
def G12:Gam:=⟨(27,S_strings_TrimSuffix)::G11.fs,G11.rs⟩
theorem ok12:GamOk Tryd.prog G12:=GamOk.consH has_strings_TrimSuffix ok11
theorem has_text_Bare:Has Tryd.prog 16 S_text_Bare:=ct_text_Bare code_text_Bare ok12 rfl
def G13:Gam:=⟨(16,S_text_Bare)::G12.fs,G12.rs⟩
theorem ok13:GamOk Tryd.prog G13:=GamOk.consH has_text_Bare ok12
theorem has_law02_awake:Has Tryd.prog 8 S_law02_awake:=ct_law02_awake code_law02_awake ok13 rfl rfl rfl rfl rfl
def G14:Gam:=⟨(8,S_law02_awake)::G13.fs,G13.rs⟩
theorem ok14:GamOk Tryd.prog G14:=GamOk.consH has_law02_awake ok13
theorem has_law02_TextConcatenates:Has Tryd.prog 7 S_law02_TextConcatenates:=ct_law02_TextConcatenates code_law02_TextConcatenates ok14 rfl rfl rfl rfl
def G15:Gam:=⟨(7,S_law02_TextConcatenates)::G14.fs,G14.rs⟩
theorem ok15:GamOk Tryd.prog G15:=GamOk.consH has_law02_TextConcatenates ok14
end Go.AE.Seat
