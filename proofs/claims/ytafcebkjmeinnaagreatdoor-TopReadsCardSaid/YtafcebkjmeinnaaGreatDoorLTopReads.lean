/-
  The law TopReads: for every input that its statement speaks of, the call answers true and leaves its arguments as they were.
-/
import Derived.Test.YtafcebkjmeinnaaGreatDoorShDT
import Derived.Test.YtafcebkjmeinnaaGreatDoorTrT3
import Derived.Test.YtafcebkjmeinnaaGreatDoorAe3
import Derived.Deep.DeepHandedRow
import Derived.JoinedCond
import Derived.OpenShut
import Derived.ProofKit
import Derived.SevenTiedAt
import Derived.Test.YtafcebkjmeinnaaGreatDoorCards
import Derived.Test.YtafcebkjmeinnaaGreatDoorTie
import Derived.WalkKit

set_option linter.unusedSimpArgs false
set_option linter.unusedVariables false
set_option linter.unnecessarySimpa false
set_option maxRecDepth 100000
namespace Go.Proofs.YtafcebkjmeinnaaGreatDoor.topReads
open Go.ChangeShapes Go.WideShapes Go.ChangeAt Go.RowKit Go.AE

theorem own : ownKnob Tryz.prog.godebug = none := by kernel_rfl

theorem sumAll {H : Type} (l : List (DataW H)) : Rows.uptoBulkAll l = (l.map Rows.uptoBulk).sum := by
  induction l with
  | nil => simp [Rows.uptoBulkAll]
  | cons x r ih => simp [Rows.uptoBulkAll, ih]

theorem bulky {H : Type} : Bulky (Rows.uptoBulk (H := H)) where
  one d := by
    cases d with
    | lit l => cases l <;> simp [Rows.uptoBulk]
    | nil => simp [Rows.uptoBulk]
    | ptr d => simp [Rows.uptoBulk]
    | slice e s => simp [Rows.uptoBulk]
    | agg p => simp [Rows.uptoBulk]
    | iface t d => simp [Rows.uptoBulk]
    | map es => simp [Rows.uptoBulk]
    | held h => simp [Rows.uptoBulk]
  str s := by simp [Rows.uptoBulk]
  slice e s := by simp only [Rows.uptoBulk, sumAll]; omega
  agg p := by simp only [Rows.uptoBulk, sumAll]; omega

theorem contract (H : Type) (enc : TypeId × Value → H) (W : World) (base : Nat) (args : Array Value) (ds gs : List (DataW H)) (before : List MemPlace) (hsh : W.ShapedOpen Tryz.prog)
    (hval : ∀ (j : Nat) t v, Tryz.f6.params[j]? = some t → args[j]? = some v → Value.okWide Tryz.prog W .any base t v)
    (hW : DataW.Whole enc Tryz.prog Tryz.f6.params.toList Rows.topReadsSpec.vars false W args.toList ds gs before) (hL : laidMetH Tryz.prog Rows.topReadsRow.laid W) :
    Calls Tryz.prog 6 args W fun e W' => ∃ v, e = .returned v ∧ Rows.topReadsSpec.post enc Tryz.prog Tryz.f6 false true false false W args v W' := by
  have hW' := hW
  obtain ⟨p, q, hA, hV, rfl, hfz, hnd⟩ := hW
  obtain ⟨rfl, rfl⟩ := trodVars_none hV
  rw [Tryz.params6] at hA hval
  obtain ⟨v0, vs0, d0, ds0, p0, q0, hargs0, rfl, rfl, h0, r0⟩ := trodAll_cons hA
  obtain ⟨v1, vs1, d1, ds1, p1, q1, hargs1, rfl, rfl, h1, r1⟩ := trodAll_cons r0
  obtain ⟨v2, vs2, d2, ds2, p2, q2, hargs2, rfl, rfl, h2, r2⟩ := trodAll_cons r1
  obtain ⟨v3, vs3, d3, ds3, p3, q3, hargs3, rfl, rfl, h3, r3⟩ := trodAll_cons r2
  obtain ⟨v4, vs4, d4, ds4, p4, q4, hargs4, rfl, rfl, h4, r4⟩ := trodAll_cons r3
  obtain ⟨v5, vs5, d5, ds5, p5, q5, hargs5, rfl, rfl, h5, r5⟩ := trodAll_cons r4
  obtain ⟨rfl, rfl, rfl⟩ := trodAll_nil r5
  obtain rfl : args = #[v0, v1, v2, v3, v4, v5] := by cases args; simp_all
  obtain ⟨a0, w0, _, e0⟩ := Arg.readV (α := List UInt8) Rows.uptoBulk bulky (by kernel_rfl) (by kernel_rfl) (hval 0 _ v0 rfl rfl) (fun _ => rfl) h0
  obtain ⟨a1, w1, _, e1⟩ := Arg.readV (α := List Int) Rows.uptoBulk bulky (by kernel_rfl) (by kernel_rfl) (hval 1 _ v1 rfl rfl) (fun _ => rfl) h1
  obtain ⟨a2, w2, _, e2⟩ := Arg.readV (α := Int) Rows.uptoBulk bulky (by kernel_rfl) (by kernel_rfl) (hval 2 _ v2 rfl rfl) (fun _ => rfl) h2
  obtain ⟨a3, w3, _, e3⟩ := Arg.readV (α := Int) Rows.uptoBulk bulky (by kernel_rfl) (by kernel_rfl) (hval 3 _ v3 rfl rfl) (fun _ => rfl) h3
  obtain ⟨a4, w4, _, e4⟩ := Arg.readV (α := Int) Rows.uptoBulk bulky (by kernel_rfl) (by kernel_rfl) (hval 4 _ v4 rfl rfl) (fun _ => rfl) h4
  obtain ⟨a5, w5, _, e5⟩ := Arg.readV (α := Int) Rows.uptoBulk bulky (by kernel_rfl) (by kernel_rfl) (hval 5 _ v5 rfl rfl) (fun _ => rfl) h5
  have hpre := Go.AE.top_TopReads_pre a0 a1 a2 a3 a4 a5 w0 w1 w2 w3 w4 w5
  have hc := Go.AE.Seat.has_top_TopReads.ok [Rep.to a0, Rep.to a1, Rep.to a2, Rep.to a3, Rep.to a4, Rep.to a5] (by simpa only [S_top_TopReads, spec6, Rep.of_to] using hpre)
  simp only [S_top_TopReads, spec6, Rep.of_to] at hc
  exact lawCalls (by kernel_rfl) (by rw [Tryz.params6]; exact params_ok (by kernel_rfl)) rfl rfl (by kernel_rfl) rfl hW' (Wok.of hsh (by kernel_rfl) (powTab hL)) hc rfl (fun k hk => by
    match k, hk with
    | 0, _ => exact e0
    | 1, _ => exact e1
    | 2, _ => exact e2
    | 3, _ => exact e3
    | 4, _ => exact e4
    | 5, _ => exact e5)

theorem reads (os : Os) {H : Type} (enc : TypeId × Value → H) : ∃ places, DataW.whole enc Tryz.prog (({ World.holding Tryz.prog os ⟨#[], #[], []⟩ with heap := layHeap (World.holding Tryz.prog os ⟨#[], #[], []⟩).heap } : World).forCall (fun _ _ => 0) ⟨#[], #[.string ⟨#[]⟩, .slice none 0 0, .int .i64 0, .int .i64 0, .int .i64 0, .int .i64 0], []⟩).memory Tryz.f6.params.toList Rows.topReadsSpec.vars false (#[.string ⟨#[]⟩, .slice none 0 0, .int .i64 0, .int .i64 0, .int .i64 0, .int .i64 0] : Array Value).toList 8 = some ([.lit (.string []), .nil, .lit (.int .i64 0), .lit (.int .i64 0), .lit (.int .i64 0), .lit (.int .i64 0)], [], places) :=
  ⟨[], by kernel_rfl⟩

theorem lifted (os : Os) (started : os.Started) (H : Type) (enc : TypeId × Value → H) (F : Stop.Interp) :
    ReturnsInHanded {} Tryz.checked os 6 .any ((OpenSpec.ofChange Rows.topReadsSpec).preRow enc Tryz.prog Tryz.f6 Rows.topReadsRow.domain false Rows.topReadsRow.laid) (((OpenSpec.ofChange Rows.topReadsSpec).at F).post enc Tryz.prog Tryz.f6 false true false false) := by
  obtain ⟨places, hx⟩ := reads os enc
  refine returnsInHanded_of_row (C := Tryz.checked) (s := OpenSpec.ofChange Rows.topReadsSpec) own started (by kernel_rfl) Tryz.func6
    (witness_row_at (enc := enc) (C := Tryz.checked) false { World.holding Tryz.prog os ⟨#[], #[], []⟩ with heap := layHeap (World.holding Tryz.prog os ⟨#[], #[], []⟩).heap } #[.string ⟨#[]⟩, .slice none 0 0, .int .i64 0, .int .i64 0, .int .i64 0, .int .i64 0] rfl (by kernel_rfl) (by kernel_rfl) (by kernel_rfl)
      (OpenSpec.preRow_of_cond 8 hx (by kernel_rfl) (fun k hk => by cases hk) (by kernel_rfl) (laid_met os _))) ?_
  intro W base args ds gs before hval hW _ _ _ hL hsh _
  exact contract H enc W base args ds gs before hsh hval hW hL

theorem row : Rows.TopReadsSaid :=
  OpenClaim.holds_of_cond 6 Tryz.f6 rfl rfl rfl rfl rfl rfl rfl ⟨rfl, rfl, rfl, rfl, rfl⟩ rfl rfl rfl rfl rfl (by kernel_rfl) Tryz.func6 (by kernel_rfl)
    (of_decide_eq_true (by kernel_rfl)) (by unfold Func.isWrapper; first | (rw [if_pos (by decide +kernel)]; kernel_rfl) | (rw [if_neg (by decide +kernel)]; exact ⟨rfl, rfl⟩))
    (fun os started H enc _ F => by rw [OpenClaim.pre_eq_preRow]; exact lifted os started H enc F)

theorem noStandIn : (Tryz.f6.params.toList.all fun t => !Tryz.prog.wantsStandIn t) = true := by kernel_rfl

theorem plain (f : FuncId) (fn : Func) (hf : Tryz.pinned.checked.prog.funcNamed Rows.topReadsRow.func = some f) (hfn : Tryz.pinned.checked.prog.funcs[f]? = some fn) :
    false = Tryz.pinned.checked.prog.looks [] ∧ ∀ (j : Nat) t, fn.params[j]? = some t → Tryz.pinned.checked.prog.wantsStandIn t = false := by
  obtain rfl : f = 6 := Option.some.inj ((show Tryz.prog.funcNamed Rows.topReadsRow.func = some 6 by kernel_rfl).symm.trans hf) |>.symm
  obtain rfl : fn = Tryz.f6 := (Option.some.inj (Tryz.func6.symm.trans hfn)).symm
  refine ⟨by kernel_rfl, fun j t ht => ?_⟩
  have hm : t ∈ Tryz.f6.params.toList := Array.mem_toList_iff.2 (Array.mem_of_getElem? ht)
  have h := List.all_eq_true.1 noStandIn t hm
  exact (show Tryz.prog.wantsStandIn t = false by simpa using h)

theorem proved : Rows.TopReadsCardSaid :=
  Claim7.holds_tied_plain_at .later [] _ _ _ _ row (fun _ h => by cases h) (by kernel_rfl) (fun _ h => by cases h) topReads_row_tie rfl ⟨rfl, rfl⟩ (by kernel_rfl) rfl plain (by kernel_rfl)
end Go.Proofs.YtafcebkjmeinnaaGreatDoor.topReads
