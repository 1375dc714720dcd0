/-
  The law InterestDense: for every input that its statement speaks of, the call answers true and leaves its arguments as they were.
-/
import Derived.Test.YtgmdpmpmbhahhaaTr4InterestDense
import Derived.Test.YtgmdpmpmbhahhaaAe3
import Derived.HandedShaped
import Derived.JoinedOf
import Derived.OpenShut
import Derived.ProofKit
import Derived.Test.YtgmdpmpmbhahhaaRows
import Derived.WalkKit

set_option linter.unusedSimpArgs false
set_option linter.unusedVariables false
set_option linter.unnecessarySimpa false
set_option maxRecDepth 100000
namespace Go.Proofs.Ytgmdpmpmbhahhaa.interestDense
open Go.ChangeShapes Go.WideShapes Go.ChangeAt Go.RowKit Go.AE

theorem own : ownKnob Try.prog.godebug = none := by kernel_rfl

theorem sumAll {H : Type} (l : List (DataW H)) : Rows.uptoBulkAll l = (l.map Rows.uptoBulk).sum := by
  induction l with
  | nil => simp [Rows.uptoBulkAll]
  | cons x r ih => simp [Rows.uptoBulkAll, ih]

theorem bulky {H : Type} : Bulky (Rows.uptoBulk (H := H)) where
  one d := by
    cases d with
    | lit l => cases l <;> simp [Rows.uptoBulk]
    | nil => simp [Rows.uptoBulk]
    | ptr d => simp [Rows.uptoBulk]
    | slice e s => simp [Rows.uptoBulk]
    | agg p => simp [Rows.uptoBulk]
    | iface t d => simp [Rows.uptoBulk]
    | map es => simp [Rows.uptoBulk]
    | held h => simp [Rows.uptoBulk]
  str s := by simp [Rows.uptoBulk]
  slice e s := by simp only [Rows.uptoBulk, sumAll]; omega
  agg p := by simp only [Rows.uptoBulk, sumAll]; omega

theorem contract (H : Type) (enc : TypeId × Value → H) (W : World) (base : Nat) (args : Array Value) (ds gs : List (DataW H)) (before : List MemPlace) (hsh : W.ShapedOpen Try.prog)
    (hval : ∀ (j : Nat) t v, Try.f4.params[j]? = some t → args[j]? = some v → Value.okWide Try.prog W .any base t v)
    (hW : DataW.Whole enc Try.prog Try.f4.params.toList Rows.interestDenseSpec.vars false W args.toList ds gs before) :
    Calls Try.prog 4 args W fun e W' => ∃ v, e = .returned v ∧ Rows.interestDenseSpec.post enc Try.prog Try.f4 false true false false W args v W' := by
  have hW' := hW
  obtain ⟨p, q, hA, hV, rfl, hfz, hnd⟩ := hW
  obtain ⟨rfl, rfl⟩ := trodVars_none hV
  rw [Try.params4] at hA hval
  obtain ⟨v0, vs0, d0, ds0, p0, q0, hargs0, rfl, rfl, h0, r0⟩ := trodAll_cons hA
  obtain ⟨v1, vs1, d1, ds1, p1, q1, hargs1, rfl, rfl, h1, r1⟩ := trodAll_cons r0
  obtain ⟨v2, vs2, d2, ds2, p2, q2, hargs2, rfl, rfl, h2, r2⟩ := trodAll_cons r1
  obtain ⟨rfl, rfl, rfl⟩ := trodAll_nil r2
  obtain rfl : args = #[v0, v1, v2] := by cases args; simp_all
  obtain ⟨a0, w0, _, e0⟩ := Arg.readV (α := List Int) Rows.uptoBulk bulky (by kernel_rfl) (by kernel_rfl) (hval 0 _ v0 rfl rfl) (fun _ => rfl) h0
  obtain ⟨a1, w1, _, e1⟩ := Arg.readV (α := Int) Rows.uptoBulk bulky (by kernel_rfl) (by kernel_rfl) (hval 1 _ v1 rfl rfl) (fun _ => rfl) h1
  obtain ⟨a2, w2, _, e2⟩ := Arg.readV (α := Bool) Rows.uptoBulk bulky (by kernel_rfl) (by kernel_rfl) (hval 2 _ v2 rfl rfl) (fun _ => rfl) h2
  have hpre := Go.AE.law17_InterestDense_pre a0 a1 a2 w0 w1 w2
  have hc := Go.AE.Seat.has_law17_InterestDense.ok [Rep.to a0, Rep.to a1, Rep.to a2] (by simpa only [S_law17_InterestDense, spec3, Rep.of_to] using hpre)
  simp only [S_law17_InterestDense, spec3, Rep.of_to] at hc
  exact lawCalls (by kernel_rfl) (by rw [Try.params4]; exact params_ok (by kernel_rfl)) rfl rfl (by kernel_rfl) rfl hW' (Wok.of hsh (by kernel_rfl)) hc rfl (fun k hk => by
    match k, hk with
    | 0, _ => exact e0
    | 1, _ => exact e1
    | 2, _ => exact e2)

theorem lifted (os : Os) (started : os.Started) (H : Type) (enc : TypeId × Value → H) :
    ReturnsInHanded {} Try.checked os 4 .any (Rows.interestDenseSpec.pre6 enc Try.prog Try.f4 Rows.interestDenseRow.domain false) (Rows.interestDenseSpec.post enc Try.prog Try.f4 false true false false) := by
  refine returnsInHanded_of_change_shaped (C := Try.checked) own started (by kernel_rfl) Try.func4
    (ChangeSpec.witness6 (enc := enc) (C := Try.checked) false ⟨#[], #[.slice none 0 0, .int .i64 0, .bool true], []⟩ 8 (by kernel_rfl) (by kernel_rfl) (by kernel_rfl) (by kernel_rfl)) ?_
  intro W base args ds gs before hval hW _ _ hsh _
  exact contract H enc W base args ds gs before hsh hval hW

theorem proved : Rows.InterestDenseSaid :=
  OpenClaim.holds_of_wide 4 Try.f4 rfl rfl rfl rfl rfl rfl rfl ⟨rfl, rfl, rfl, rfl, rfl⟩ rfl rfl rfl rfl rfl (by kernel_rfl) Try.func4 (by kernel_rfl)
    (of_decide_eq_true (by kernel_rfl)) (by unfold Func.isWrapper; first | (rw [if_pos (by decide +kernel)]; kernel_rfl) | (rw [if_neg (by decide +kernel)]; exact ⟨rfl, rfl⟩))
    (fun os started H enc _ => lifted os started H enc)
end Go.Proofs.Ytgmdpmpmbhahhaa.interestDense
