/-
  The law TopRestores: for every input that its statement speaks of, the call answers true and leaves its arguments as they were.
-/
import Derived.Test.YtafcebkjmeinnaaGreatDoorShDT
import Derived.Test.YtafcebkjmeinnaaGreatDoorTrT2
import Derived.Test.YtafcebkjmeinnaaGreatDoorAe3
import Derived.Deep.DeepHandedRow
import Derived.JoinedCond
import Derived.OpenShut
import Derived.ProofKit
import Derived.SevenTiedAt
import Derived.Test.YtafcebkjmeinnaaGreatDoorCards
import Derived.Test.YtafcebkjmeinnaaGreatDoorTie
import Derived.WalkKit

set_option linter.unusedSimpArgs false
set_option linter.unusedVariables false
set_option linter.unnecessarySimpa false
set_option maxRecDepth 100000
namespace Go.Proofs.YtafcebkjmeinnaaGreatDoor.topRestores
open Go.ChangeShapes Go.WideShapes Go.ChangeAt Go.RowKit Go.AE

theorem own : ownKnob Tryz.prog.godebug = none := by kernel_rfl

theorem sumAll {H : Type} (l : List (DataW H)) : Rows.uptoBulkAll l = (l.map Rows.uptoBulk).sum := by
  induction l with
  | nil => simp [Rows.uptoBulkAll]
  | cons x r ih => simp [Rows.uptoBulkAll, ih]

theorem bulky {H : Type} : Bulky (Rows.uptoBulk (H := H)) where
  one d := by
    cases d with
    | lit l => cases l <;> simp [Rows.uptoBulk]
    | nil => simp [Rows.uptoBulk]
    | ptr d => simp [Rows.uptoBulk]
    | slice e s => simp [Rows.uptoBulk]
    | agg p => simp [Rows.uptoBulk]
    | iface t d => simp [Rows.uptoBulk]
    | map es => simp [Rows.uptoBulk]
    | held h => simp [Rows.uptoBulk]
  str s := by simp [Rows.uptoBulk]
  slice e s := by simp only [Rows.uptoBulk, sumAll]; omega
  agg p := by simp only [Rows.uptoBulk, sumAll]; omega

theorem contract (H : Type) (enc : TypeId × Value → H) (W : World) (base : Nat) (args : Array Value) (ds gs : List (DataW H)) (before : List MemPlace) (hsh : W.ShapedOpen Tryz.prog)
    (hval : ∀ (j : Nat) t v, Tryz.f5.params[j]? = some t → args[j]? = some v → Value.okWide Tryz.prog W .any base t v)
    (hW : DataW.Whole enc Tryz.prog Tryz.f5.params.toList Rows.topRestoresSpec.vars false W args.toList ds gs before) (hL : laidMetH Tryz.prog Rows.topRestoresRow.laid W) :
    Calls Tryz.prog 5 args W fun e W' => ∃ v, e = .returned v ∧ Rows.topRestoresSpec.post enc Tryz.prog Tryz.f5 false true false false W args v W' := by
  have hW' := hW
  obtain ⟨p, q, hA, hV, rfl, hfz, hnd⟩ := hW
  obtain ⟨rfl, rfl⟩ := trodVars_none hV
  rw [Tryz.params5] at hA hval
  obtain ⟨v0, vs0, d0, ds0, p0, q0, hargs0, rfl, rfl, h0, r0⟩ := trodAll_cons hA
  obtain ⟨v1, vs1, d1, ds1, p1, q1, hargs1, rfl, rfl, h1, r1⟩ := trodAll_cons r0
  obtain ⟨v2, vs2, d2, ds2, p2, q2, hargs2, rfl, rfl, h2, r2⟩ := trodAll_cons r1
  obtain ⟨rfl, rfl, rfl⟩ := trodAll_nil r2
  obtain rfl : args = #[v0, v1, v2] := by cases args; simp_all
  obtain ⟨a0, w0, _, e0⟩ := Arg.readV (α := List UInt8) Rows.uptoBulk bulky (by kernel_rfl) (by kernel_rfl) (hval 0 _ v0 rfl rfl) (fun _ => rfl) h0
  obtain ⟨a1, w1, _, e1⟩ := Arg.readV (α := List (List UInt8)) Rows.uptoBulk bulky (by kernel_rfl) (by kernel_rfl) (hval 1 _ v1 rfl rfl) (fun _ => rfl) h1
  obtain ⟨a2, w2, _, e2⟩ := Arg.readV (α := Int) Rows.uptoBulk bulky (by kernel_rfl) (by kernel_rfl) (hval 2 _ v2 rfl rfl) (fun _ => rfl) h2
  have hpre := Go.AE.top_TopRestores_pre a0 a1 a2 w0 w1 w2
  have hc := Go.AE.Seat.has_top_TopRestores.ok [Rep.to a0, Rep.to a1, Rep.to a2] (by simpa only [S_top_TopRestores, spec3, Rep.of_to] using hpre)
  simp only [S_top_TopRestores, spec3, Rep.of_to] at hc
  exact lawCalls (by kernel_rfl) (by rw [Tryz.params5]; exact params_ok (by kernel_rfl)) rfl rfl (by kernel_rfl) rfl hW' (Wok.of hsh (by kernel_rfl) (powTab hL)) hc rfl (fun k hk => by
    match k, hk with
    | 0, _ => exact e0
    | 1, _ => exact e1
    | 2, _ => exact e2)

theorem reads (os : Os) {H : Type} (enc : TypeId × Value → H) : ∃ places, DataW.whole enc Tryz.prog (({ World.holding Tryz.prog os ⟨#[], #[], []⟩ with heap := layHeap (World.holding Tryz.prog os ⟨#[], #[], []⟩).heap } : World).forCall (fun _ _ => 0) ⟨#[], #[.string ⟨#[]⟩, .slice none 0 0, .int .i64 0], []⟩).memory Tryz.f5.params.toList Rows.topRestoresSpec.vars false (#[.string ⟨#[]⟩, .slice none 0 0, .int .i64 0] : Array Value).toList 8 = some ([.lit (.string []), .nil, .lit (.int .i64 0)], [], places) :=
  ⟨[], by kernel_rfl⟩

theorem lifted (os : Os) (started : os.Started) (H : Type) (enc : TypeId × Value → H) (F : Stop.Interp) :
    ReturnsInHanded {} Tryz.checked os 5 .any ((OpenSpec.ofChange Rows.topRestoresSpec).preRow enc Tryz.prog Tryz.f5 Rows.topRestoresRow.domain false Rows.topRestoresRow.laid) (((OpenSpec.ofChange Rows.topRestoresSpec).at F).post enc Tryz.prog Tryz.f5 false true false false) := by
  obtain ⟨places, hx⟩ := reads os enc
  refine returnsInHanded_of_row (C := Tryz.checked) (s := OpenSpec.ofChange Rows.topRestoresSpec) own started (by kernel_rfl) Tryz.func5
    (witness_row_at (enc := enc) (C := Tryz.checked) false { World.holding Tryz.prog os ⟨#[], #[], []⟩ with heap := layHeap (World.holding Tryz.prog os ⟨#[], #[], []⟩).heap } #[.string ⟨#[]⟩, .slice none 0 0, .int .i64 0] rfl (by kernel_rfl) (by kernel_rfl) (by kernel_rfl)
      (OpenSpec.preRow_of_cond 8 hx (by kernel_rfl) (fun k hk => by cases hk) (by kernel_rfl) (laid_met os _))) ?_
  intro W base args ds gs before hval hW _ _ _ hL hsh _
  exact contract H enc W base args ds gs before hsh hval hW hL

theorem row : Rows.TopRestoresSaid :=
  OpenClaim.holds_of_cond 5 Tryz.f5 rfl rfl rfl rfl rfl rfl rfl ⟨rfl, rfl, rfl, rfl, rfl⟩ rfl rfl rfl rfl rfl (by kernel_rfl) Tryz.func5 (by kernel_rfl)
    (of_decide_eq_true (by kernel_rfl)) (by unfold Func.isWrapper; first | (rw [if_pos (by decide +kernel)]; kernel_rfl) | (rw [if_neg (by decide +kernel)]; exact ⟨rfl, rfl⟩))
    (fun os started H enc _ F => by rw [OpenClaim.pre_eq_preRow]; exact lifted os started H enc F)

theorem noStandIn : (Tryz.f5.params.toList.all fun t => !Tryz.prog.wantsStandIn t) = true := by kernel_rfl

theorem plain (f : FuncId) (fn : Func) (hf : Tryz.pinned.checked.prog.funcNamed Rows.topRestoresRow.func = some f) (hfn : Tryz.pinned.checked.prog.funcs[f]? = some fn) :
    false = Tryz.pinned.checked.prog.looks [] ∧ ∀ (j : Nat) t, fn.params[j]? = some t → Tryz.pinned.checked.prog.wantsStandIn t = false := by
  obtain rfl : f = 5 := Option.some.inj ((show Tryz.prog.funcNamed Rows.topRestoresRow.func = some 5 by kernel_rfl).symm.trans hf) |>.symm
  obtain rfl : fn = Tryz.f5 := (Option.some.inj (Tryz.func5.symm.trans hfn)).symm
  refine ⟨by kernel_rfl, fun j t ht => ?_⟩
  have hm : t ∈ Tryz.f5.params.toList := Array.mem_toList_iff.2 (Array.mem_of_getElem? ht)
  have h := List.all_eq_true.1 noStandIn t hm
  exact (show Tryz.prog.wantsStandIn t = false by simpa using h)

theorem proved : Rows.TopRestoresCardSaid :=
  Claim7.holds_tied_plain_at .later [] _ _ _ _ row (fun _ h => by cases h) (by kernel_rfl) (fun _ h => by cases h) topRestores_row_tie rfl ⟨rfl, rfl⟩ (by kernel_rfl) rfl plain (by kernel_rfl)
end Go.Proofs.YtafcebkjmeinnaaGreatDoor.topRestores
