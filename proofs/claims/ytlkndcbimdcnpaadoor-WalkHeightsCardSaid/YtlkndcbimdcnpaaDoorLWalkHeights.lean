/-
  The law WalkHeights: for every input that its statement speaks of, the call answers true and leaves its arguments as they were.
-/
import Derived.Test.YtlkndcbimdcnpaaDoorShD8
import Derived.Test.YtlkndcbimdcnpaaDoorTr8DWalkHeights
import Derived.Test.YtlkndcbimdcnpaaDoorAe3
import Derived.Deep.DeepHandedRow
import Derived.JoinedCond
import Derived.OpenShut
import Derived.ProofKit
import Derived.SevenTiedAt
import Derived.Test.YtlkndcbimdcnpaaDoorCards
import Derived.Test.YtlkndcbimdcnpaaDoorTie
import Derived.WalkKit

set_option linter.unusedSimpArgs false
set_option linter.unusedVariables false
set_option linter.unnecessarySimpa false
set_option maxRecDepth 100000
namespace Go.Proofs.YtlkndcbimdcnpaaDoor.walkHeights
open Go.ChangeShapes Go.WideShapes Go.ChangeAt Go.RowKit Go.AE

theorem own : ownKnob Tryd.prog.godebug = none := by kernel_rfl

theorem sumAll {H : Type} (l : List (DataW H)) : Rows.uptoBulkAll l = (l.map Rows.uptoBulk).sum := by
  induction l with
  | nil => simp [Rows.uptoBulkAll]
  | cons x r ih => simp [Rows.uptoBulkAll, ih]

theorem bulky {H : Type} : Bulky (Rows.uptoBulk (H := H)) where
  one d := by
    cases d with
    | lit l => cases l <;> simp [Rows.uptoBulk]
    | nil => simp [Rows.uptoBulk]
    | ptr d => simp [Rows.uptoBulk]
    | slice e s => simp [Rows.uptoBulk]
    | agg p => simp [Rows.uptoBulk]
    | iface t d => simp [Rows.uptoBulk]
    | map es => simp [Rows.uptoBulk]
    | held h => simp [Rows.uptoBulk]
  str s := by simp [Rows.uptoBulk]
  slice e s := by simp only [Rows.uptoBulk, sumAll]; omega
  agg p := by simp only [Rows.uptoBulk, sumAll]; omega

theorem contract (H : Type) (enc : TypeId × Value → H) (W : World) (base : Nat) (args : Array Value) (ds gs : List (DataW H)) (before : List MemPlace) (hsh : W.ShapedOpen Tryd.prog)
    (hval : ∀ (j : Nat) t v, Tryd.f8.params[j]? = some t → args[j]? = some v → Value.okWide Tryd.prog W .any base t v)
    (hW : DataW.Whole enc Tryd.prog Tryd.f8.params.toList Rows.walkHeightsSpec.vars false W args.toList ds gs before) :
    Calls Tryd.prog 8 args W fun e W' => ∃ v, e = .returned v ∧ Rows.walkHeightsSpec.post enc Tryd.prog Tryd.f8 false true false false W args v W' := by
  have hW' := hW
  obtain ⟨p, q, hA, hV, rfl, hfz, hnd⟩ := hW
  obtain ⟨rfl, rfl⟩ := trodVars_none hV
  rw [Tryd.params8] at hA hval
  obtain ⟨v0, vs0, d0, ds0, p0, q0, hargs0, rfl, rfl, h0, r0⟩ := trodAll_cons hA
  obtain ⟨rfl, rfl, rfl⟩ := trodAll_nil r0
  obtain rfl : args = #[v0] := by cases args; simp_all
  obtain ⟨a0, w0, _, e0⟩ := Arg.readV (α := List Int) Rows.uptoBulk bulky (by kernel_rfl) (by kernel_rfl) (hval 0 _ v0 rfl rfl) (fun _ => rfl) h0
  have hpre := Go.AE.law24_WalkHeights_pre a0 w0
  have hc := Go.AE.Seat.has_law24_WalkHeights.ok [Rep.to a0] (by simpa only [S_law24_WalkHeights, spec1, Rep.of_to] using hpre)
  simp only [S_law24_WalkHeights, spec1, Rep.of_to] at hc
  exact lawCalls (by kernel_rfl) (by rw [Tryd.params8]; exact params_ok (by kernel_rfl)) rfl rfl (by kernel_rfl) rfl hW' (Wok.of hsh (by kernel_rfl)) hc rfl (fun k hk => by
    match k, hk with
    | 0, _ => exact e0)

theorem reads (os : Os) {H : Type} (enc : TypeId × Value → H) : ∃ places, DataW.whole enc Tryd.prog (({ World.holding Tryd.prog os ⟨#[], #[], []⟩ with heap := layHeap (World.holding Tryd.prog os ⟨#[], #[], []⟩).heap } : World).forCall (fun _ _ => 0) ⟨#[], #[.slice none 0 0], []⟩).memory Tryd.f8.params.toList Rows.walkHeightsSpec.vars false (#[.slice none 0 0] : Array Value).toList 8 = some ([.nil], [], places) :=
  ⟨[], by kernel_rfl⟩

theorem lifted (os : Os) (started : os.Started) (H : Type) (enc : TypeId × Value → H) (F : Stop.Interp) :
    ReturnsInHanded {} Tryd.checked os 8 .any ((OpenSpec.ofChange Rows.walkHeightsSpec).preRow enc Tryd.prog Tryd.f8 Rows.walkHeightsRow.domain false Rows.walkHeightsRow.laid) (((OpenSpec.ofChange Rows.walkHeightsSpec).at F).post enc Tryd.prog Tryd.f8 false true false false) := by
  obtain ⟨places, hx⟩ := reads os enc
  refine returnsInHanded_of_row (C := Tryd.checked) (s := OpenSpec.ofChange Rows.walkHeightsSpec) own started (by kernel_rfl) Tryd.func8
    (witness_row_at (enc := enc) (C := Tryd.checked) false { World.holding Tryd.prog os ⟨#[], #[], []⟩ with heap := layHeap (World.holding Tryd.prog os ⟨#[], #[], []⟩).heap } #[.slice none 0 0] rfl (by kernel_rfl) (by kernel_rfl) (by kernel_rfl)
      (OpenSpec.preRow_of_cond 8 hx (by kernel_rfl) (fun k hk => by cases hk) (by kernel_rfl) (laid_met os _))) ?_
  intro W base args ds gs before hval hW _ _ _ hL hsh _
  exact contract H enc W base args ds gs before hsh hval hW

theorem row : Rows.WalkHeightsSaid :=
  OpenClaim.holds_of_cond 8 Tryd.f8 rfl rfl rfl rfl rfl rfl rfl ⟨rfl, rfl, rfl, rfl, rfl⟩ rfl rfl rfl rfl rfl (by kernel_rfl) Tryd.func8 (by kernel_rfl)
    (of_decide_eq_true (by kernel_rfl)) (by unfold Func.isWrapper; first | (rw [if_pos (by decide +kernel)]; kernel_rfl) | (rw [if_neg (by decide +kernel)]; exact ⟨rfl, rfl⟩))
    (fun os started H enc _ F => by rw [OpenClaim.pre_eq_preRow]; exact lifted os started H enc F)

theorem noStandIn : (Tryd.f8.params.toList.all fun t => !Tryd.prog.wantsStandIn t) = true := by kernel_rfl

theorem plain (f : FuncId) (fn : Func) (hf : Tryd.pinned.checked.prog.funcNamed Rows.walkHeightsRow.func = some f) (hfn : Tryd.pinned.checked.prog.funcs[f]? = some fn) :
    true = Tryd.pinned.checked.prog.looks [] ∧ ∀ (j : Nat) t, fn.params[j]? = some t → Tryd.pinned.checked.prog.wantsStandIn t = false := by
  obtain rfl : f = 8 := Option.some.inj ((show Tryd.prog.funcNamed Rows.walkHeightsRow.func = some 8 by kernel_rfl).symm.trans hf) |>.symm
  obtain rfl : fn = Tryd.f8 := (Option.some.inj (Tryd.func8.symm.trans hfn)).symm
  refine ⟨by kernel_rfl, fun j t ht => ?_⟩
  have hm : t ∈ Tryd.f8.params.toList := Array.mem_toList_iff.2 (Array.mem_of_getElem? ht)
  have h := List.all_eq_true.1 noStandIn t hm
  exact (show Tryd.prog.wantsStandIn t = false by simpa using h)

theorem proved : Rows.WalkHeightsCardSaid :=
  Claim7.holds_tied_plain_at .later [] _ _ _ _ row (fun _ h => by cases h) (by kernel_rfl) (fun _ h => by cases h) walkHeights_row_tie rfl ⟨rfl, rfl⟩ (by kernel_rfl) rfl plain (by kernel_rfl)
end Go.Proofs.YtlkndcbimdcnpaaDoor.walkHeights
