/-
  The contracts of the functions of this seat,one behind the other.
-/
import Derived.Test.YtgmdpmpmbhahhaaSr4
import Derived.Test.YtgmdpmpmbhahhaaCona1
import Derived.Test.YtgmdpmpmbhahhaaSh4

set_option linter.unusedSimpArgs false
set_option linter.unusedVariables false
set_option linter.unnecessarySimpa false
set_option maxRecDepth 100000
open Go Go.Proofs
namespace Go.AE.Seat
def G0:Gam:=⟨[],[]⟩
theorem ok0:GamOk Try.prog G0:=GamOk.nil _
theorem has_weave_Marked:Has Try.prog 44 S_weave_Marked:=ct_weave_Marked code_weave_Marked ok0
def G1:Gam:=⟨(44,S_weave_Marked)::G0.fs,G0.rs⟩
theorem ok1:GamOk Try.prog G1:=GamOk.consH has_weave_Marked ok0
def G2:Gam:=⟨(64,S_strings_TrimSuffix)::G1.fs,G1.rs⟩
theorem ok2:GamOk Try.prog G2:=GamOk.consH has_strings_TrimSuffix ok1
theorem has_text_Bare:Has Try.prog 58 S_text_Bare:=ct_text_Bare code_text_Bare ok2 rfl
def G3:Gam:=⟨(58,S_text_Bare)::G2.fs,G2.rs⟩
theorem ok3:GamOk Try.prog G3:=GamOk.consH has_text_Bare ok2
def G4:Gam:=⟨(63,S_strings_Index)::G3.fs,G3.rs⟩
theorem ok4:GamOk Try.prog G4:=GamOk.consH has_strings_Index ok3
theorem has_strings_Contains:Has Try.prog 57 S_strings_Contains:=ct_strings_Contains code_strings_Contains ok4 rfl
def G5:Gam:=⟨(57,S_strings_Contains)::G4.fs,G4.rs⟩
theorem ok5:GamOk Try.prog G5:=GamOk.consH has_strings_Contains ok4
theorem has_weave_Single:Has Try.prog 45 S_weave_Single:=ct_weave_Single code_weave_Single ok5 rfl rfl
def G6:Gam:=⟨(45,S_weave_Single)::G5.fs,G5.rs⟩
theorem ok6:GamOk Try.prog G6:=GamOk.consH has_weave_Single ok5
def G7:Gam:=⟨(65,S_strings_HasSuffix)::G6.fs,G6.rs⟩
theorem ok7:GamOk Try.prog G7:=GamOk.consH has_strings_HasSuffix ok6
theorem has_text_Ended:Has Try.prog 59 S_text_Ended:=ct_text_Ended code_text_Ended ok7 rfl
def G8:Gam:=⟨(59,S_text_Ended)::G7.fs,G7.rs⟩
theorem ok8:GamOk Try.prog G8:=GamOk.consH has_text_Ended ok7
def G9:Gam:=⟨G8.fs,(46,R_weave_Ends_Add)::G8.rs⟩
theorem ok9:GamOk Try.prog G9:=GamOk.consR (ct_weave_Ends_Add code_weave_Ends_Add ok8 rfl) ok8
theorem has_weave_Check:Has Try.prog 25 S_weave_Check:=ct_weave_Check code_weave_Check ok9 rfl rfl rfl
def G10:Gam:=⟨(25,S_weave_Check)::G9.fs,G9.rs⟩
theorem ok10:GamOk Try.prog G10:=GamOk.consH has_weave_Check ok9
theorem has_interest_blank:Has Try.prog 48 S_interest_blank:=ct_interest_blank code_interest_blank ok10
def G11:Gam:=⟨(48,S_interest_blank)::G10.fs,G10.rs⟩
theorem ok11:GamOk Try.prog G11:=GamOk.consH has_interest_blank ok10
def G12:Gam:=⟨G11.fs,(47,R_interest_runs_1)::G11.rs⟩
theorem ok12:GamOk Try.prog G12:=GamOk.consR (ct_interest_runs_1 code_interest_runs_1 ok11 rfl) ok11
def G13:Gam:=⟨G12.fs,(32,R_interest_Hunks_1)::G12.rs⟩
theorem ok13:GamOk Try.prog G13:=GamOk.consR (ct_interest_Hunks_1 code_interest_Hunks_1) ok12
def G14:Gam:=⟨G13.fs,(31,R_interest_spans 47 32)::G13.rs⟩
theorem ok14:GamOk Try.prog G14:=GamOk.consR (ct_interest_spans code_interest_spans ok13 rfl rfl) ok13
theorem has_interest_runs:Has Try.prog 26 S_interest_runs:=ct_interest_runs code_interest_runs ok14 rfl rfl
def G15:Gam:=⟨(26,S_interest_runs)::G14.fs,G14.rs⟩
theorem ok15:GamOk Try.prog G15:=GamOk.consH has_interest_runs ok14
theorem has_interest_Runs:Has Try.prog 9 S_interest_Runs:=ct_interest_Runs code_interest_Runs ok15 rfl rfl
def G16:Gam:=⟨(9,S_interest_Runs)::G15.fs,G15.rs⟩
theorem ok16:GamOk Try.prog G16:=GamOk.consH has_interest_Runs ok15
theorem has_interest_dense:Has Try.prog 49 S_interest_dense:=ct_interest_dense code_interest_dense ok16
def G17:Gam:=⟨(49,S_interest_dense)::G16.fs,G16.rs⟩
theorem ok17:GamOk Try.prog G17:=GamOk.consH has_interest_dense ok16
theorem has_interest_interesting:Has Try.prog 29 S_interest_interesting:=ct_interest_interesting code_interest_interesting ok17 rfl rfl
def G18:Gam:=⟨(29,S_interest_interesting)::G17.fs,G17.rs⟩
theorem ok18:GamOk Try.prog G18:=GamOk.consH has_interest_interesting ok17
theorem has_interest_Interesting:Has Try.prog 11 S_interest_Interesting:=ct_interest_Interesting code_interest_Interesting ok18 rfl rfl
def G19:Gam:=⟨(11,S_interest_Interesting)::G18.fs,G18.rs⟩
theorem ok19:GamOk Try.prog G19:=GamOk.consH has_interest_Interesting ok18
theorem has_gen_Spans:Has Try.prog 13 S_gen_Spans:=ct_gen_Spans code_gen_Spans ok19
def G20:Gam:=⟨(13,S_gen_Spans)::G19.fs,G19.rs⟩
theorem ok20:GamOk Try.prog G20:=GamOk.consH has_gen_Spans ok19
theorem has_law17_awake:Has Try.prog 14 S_law17_awake:=ct_law17_awake code_law17_awake ok20 rfl rfl rfl
def G21:Gam:=⟨(14,S_law17_awake)::G20.fs,G20.rs⟩
theorem ok21:GamOk Try.prog G21:=GamOk.consH has_law17_awake ok20
theorem has_ref16_Marks:Has Try.prog 33 S_ref16_Marks:=ct_ref16_Marks code_ref16_Marks ok21
def G22:Gam:=⟨(33,S_ref16_Marks)::G21.fs,G21.rs⟩
theorem ok22:GamOk Try.prog G22:=GamOk.consH has_ref16_Marks ok21
theorem has_ref12_Line:Has Try.prog 50 S_ref12_Line:=ct_ref12_Line code_ref12_Line ok22
def G23:Gam:=⟨(50,S_ref12_Line)::G22.fs,G22.rs⟩
theorem ok23:GamOk Try.prog G23:=GamOk.consH has_ref12_Line ok22
theorem has_ref16_Visible:Has Try.prog 15 S_ref16_Visible:=ct_ref16_Visible code_ref16_Visible ok23
def G24:Gam:=⟨(15,S_ref16_Visible)::G23.fs,G23.rs⟩
theorem ok24:GamOk Try.prog G24:=GamOk.consH has_ref16_Visible ok23
theorem has_ref16_Column:Has Try.prog 52 S_ref16_Column:=ct_ref16_Column code_ref16_Column ok24 rfl
def G25:Gam:=⟨(52,S_ref16_Column)::G24.fs,G24.rs⟩
theorem ok25:GamOk Try.prog G25:=GamOk.consH has_ref16_Column ok24
theorem has_ref02_Ended:Has Try.prog 60 S_ref02_Ended:=ct_ref02_Ended code_ref02_Ended ok25
def G26:Gam:=⟨(60,S_ref02_Ended)::G25.fs,G25.rs⟩
theorem ok26:GamOk Try.prog G26:=GamOk.consH has_ref02_Ended ok25
theorem has_ref02_List:Has Try.prog 51 S_ref02_List:=ct_ref02_List code_ref02_List ok26 rfl
def G27:Gam:=⟨(51,S_ref02_List)::G26.fs,G26.rs⟩
theorem ok27:GamOk Try.prog G27:=GamOk.consH has_ref02_List ok26
theorem has_ref16_Texts:Has Try.prog 34 S_ref16_Texts:=ct_ref16_Texts code_ref16_Texts ok27 rfl rfl rfl
def G28:Gam:=⟨(34,S_ref16_Texts)::G27.fs,G27.rs⟩
theorem ok28:GamOk Try.prog G28:=GamOk.consH has_ref16_Texts ok27
theorem has_ref16_Check:Has Try.prog 19 S_ref16_Check:=ct_ref16_Check code_ref16_Check ok28 rfl rfl
def G29:Gam:=⟨(19,S_ref16_Check)::G28.fs,G28.rs⟩
theorem ok29:GamOk Try.prog G29:=GamOk.consH has_ref16_Check ok28
theorem has_interest_Hunks:Has Try.prog 16 S_interest_Hunks:=ct_interest_Hunks code_interest_Hunks ok29 rfl rfl rfl rfl
def G30:Gam:=⟨(16,S_interest_Hunks)::G29.fs,G29.rs⟩
theorem ok30:GamOk Try.prog G30:=GamOk.consH has_interest_Hunks ok29
theorem has_law17_InterestRefuses:Has Try.prog 6 S_law17_InterestRefuses:=ct_law17_InterestRefuses code_law17_InterestRefuses ok30 rfl rfl rfl rfl rfl
def G31:Gam:=⟨(6,S_law17_InterestRefuses)::G30.fs,G30.rs⟩
theorem ok31:GamOk Try.prog G31:=GamOk.consH has_law17_InterestRefuses ok30
end Go.AE.Seat
