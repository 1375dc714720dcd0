/-
  Contracts of the loom: the rows are woven.
-/
import Derived.Test.YtgmdpmpmbhahhaaDoorCon1
import Derived.Test.YtgmdpmpmbhahhaaDoorCode1

set_option linter.unusedSimpArgs false
set_option linter.unusedVariables false
set_option linter.unnecessarySimpa false

set_option maxRecDepth 20000
set_option maxHeartbeats 4000000
namespace Go.AE

def A.dl : A → List D
  | .d (.sl _ xs) => xs
  | _ => []
attribute [simp] A.dl Ob.agn

def ofDD (d : D) : List (List Int) := (Rep.of (α := List (List Int)) d).getD []

structure WeaveX where
  names : List Str
  i0 : List Int
  marks : List U32T
  gaps : List D
  pn : Nat
  v : Nat

def weaveRow (names : List Str) (i0 : List Int) (marks : List U32T) (gaps : List D) (k : Nat) : List RowT :=
  (mergedV (ofDD (gaps.getD k .nilsl))).map (lostRow names) ++ if k < i0.length then [⟨false, (marks.getD k default).n, names.getD (i0.getD k 0).toNat []⟩] else []
def weaveTo (names : List Str) (i0 : List Int) (marks : List U32T) (gaps : List D) (k : Nat) : List RowT := (List.range k).flatMap (weaveRow names i0 marks gaps)
theorem weaveTo_succ (names : List Str) (i0 : List Int) (marks : List U32T) (gaps : List D) (k : Nat) : weaveTo names i0 marks gaps (k + 1) = weaveTo names i0 marks gaps k ++ weaveRow names i0 marks gaps k := by simp [weaveTo, List.range_succ]

structure WeaveOk (x : WeaveX) : Prop where
  l1 : x.gaps.length = x.i0.length + 1
  l2 : x.marks.length = x.i0.length
  l3 : x.i0.length ≤ 101
  gp : ∀ k (h : k < x.gaps.length), ∃ ds xs, x.gaps[k] = .sl 1 ds ∧ ofAll (Rep.of (α := List Int)) ds = some xs ∧ xs.length ≤ 32 ∧ sumL xs ≤ 4096 ∧ ∀ m, m ∈ mergedV xs → ∃ j : Nat, m.line = j ∧ j < x.names.length
  nm : ∀ k (h : k < x.i0.length), ∃ j : Nat, x.i0[k] = j ∧ j < x.names.length

@[simp] def F_weave_loom_weave : RF WeaveX where
  new := 1
  view a s := ⟨((s.getD 0 .dead).agn 0).gl Str, ((s.getD 0 .dead).agn 1).gl Int, ((s.getD 0 .dead).agn 2).gl U32T, ((s.getD 0 .dead).agn 3).dl, ((s.getD 0 .dead).agn 4).gi.toNat, (s.getD 0 .dead).ver⟩
  args x := [.ref 0 x.v 0 0]
  st x := [.cells x.v 6 [.agg [.d (Rep.to x.names), .d (Rep.to x.i0), .d (Rep.to x.marks), .d (.sl 1 x.gaps), .d (.int .i64 x.pn), .d .nilsl]], .res]
  pre x := WeaveOk x
  res _ := .d (.int .i64 0)
  st' x := [.cells x.v 6 [.agg [.d (Rep.to x.names), .d (Rep.to x.i0), .d (Rep.to x.marks), .d (.sl 1 x.gaps), .d (.int .i64 x.pn), .gr 1 3 ((weaveTo x.names x.i0 x.marks x.gaps (x.i0.length + 1)).map Rep.to)]], .tip (weaveTo x.names x.i0 x.marks x.gaps (x.i0.length + 1)).length]
abbrev R_weave_loom_weave : RSpec := F_weave_loom_weave.spec

def weaveIn (names : List Str) (i0 : List Int) (marks : List U32T) (gaps : List D) (k : Nat) (ml : List MergedT) (i : Nat) : List RowT := weaveTo names i0 marks gaps k ++ (ml.take i).map (lostRow names)
theorem weaveIn_zero (names : List Str) (i0 : List Int) (marks : List U32T) (gaps : List D) (k : Nat) (ml : List MergedT) : weaveIn names i0 marks gaps k ml 0 = weaveTo names i0 marks gaps k := by simp [weaveIn]
theorem weaveIn_succ (names : List Str) (i0 : List Int) (marks : List U32T) (gaps : List D) (k : Nat) {ml : List MergedT} {i : Nat} (h : i < ml.length) : weaveIn names i0 marks gaps k ml (i + 1) = weaveIn names i0 marks gaps k ml i ++ [lostRow names ml[i]] := by
  unfold weaveIn
  rw [List.take_succ_eq_append_getElem h, List.map_append, List.append_assoc]
  rfl
theorem weaveIn_len (names : List Str) (i0 : List Int) (marks : List U32T) (gaps : List D) (k : Nat) {ml : List MergedT} {i : Nat} (h : i ≤ ml.length) : (weaveIn names i0 marks gaps k ml i).length = (weaveTo names i0 marks gaps k).length + i := by
  simp [weaveIn]; omega

theorem FinR.pick2 {rs : List Nat} {o : Ob} {a : Nat} {res : A} {v e : Nat} {xs ys : List A} {T : List A} (h : resOf rs T [.cells v e xs, .res, .tip a] = res) (hu : ∃ y, res = .d y)
    (h1 : xs.map (A.ren (idxIn [0, 2])) = ys) (h2 : ys.all (A.under 2) = true) (hp : resPre rs T [.cells v e xs, .res, .tip a]) : FinR rs [o, .res] res [.cells v e ys, .tip a] .ret T [.cells v e xs, .res, .tip a] := by
  refine ⟨hp, [0, 2], rfl, ⟨by decide, by simp, ?_⟩, fun k hk => ?_, ?_, ?_, ?_⟩
  · simp [pickS, Ob.ren, h1]
    simpa using h2
  · match k, hk with
    | 0, _ => exact .inl rfl
    | 1, _ => exact .inr rfl
  · simp [pickS, Ob.ren, h1]
  · rw [h]
    obtain ⟨y, rfl⟩ := hu
    rfl
  · obtain ⟨y, rfl⟩ := hu
    rfl

theorem ct_weave_loom_weave {P : Program} {f g1 : Nat} {G : Gam} (hc : CodeOf P f 1 17 [1] (x_weave_loom_weave g1)) (hG : GamOk P G) (h1 : G.find g1 = some S_lost_Coalesce) : RSpec.Ok P f R_weave_loom_weave := by
  refine RF.ok hc.call fun x hx => hc.rcalls hG rfl ?_
  obtain ⟨names, i0, marks, gaps, pn, v⟩ := x
  obtain ⟨l1, l2, l3, gp, nm⟩ := hx
  simp only at l1 l2 l3 gp nm
  obtain ⟨L, hL⟩ : ∃ L, i0.length = L := ⟨_, rfl⟩
  rw [hL] at l1 l2 l3
  simp [x_weave_loom_weave, startA, hL, l1]
  refine vc_lpR (σ := Nat) (fun k => k ≤ L + 1 ∧ (weaveTo names i0 marks gaps k).length ≤ 4097 * k) (fun k => L + 1 - k)
    (fun k => [.ref 0 v 0 0, .any, .any, .any, .any, .any, .any, .d (.sl 1 gaps), .d (.int .i64 ((L : Int) + 1)), .d (.int .i64 k), .any, .any, .any, .any, .any, .any, .any])
    (fun k => [.cells v 6 [.agg [.d (Rep.to names), .d (Rep.to i0), .d (Rep.to marks), .d (.sl 1 gaps), .d (.int .i64 pn), .gr 2 3 ((weaveTo names i0 marks gaps k).map Rep.to)]], .res, .tip (weaveTo names i0 marks gaps k).length]) 0 ?_ (by simp [weaveTo]) ?_
  · refine Re.weak (k := [.tip 0]) (s' := [.cells v 6 [.agg [.d (Rep.to names), .d (Rep.to i0), .d (Rep.to marks), .d (.sl 1 gaps), .d (.int .i64 pn), .gr 2 3 []]], .res]) (by simp) (by simp) (by simp) ⟨.cellsL ?_, .inl rfl, trivial⟩
    simp
    exact Wk.fresh 2 [.tip 0] 3 0 rfl
  rintro k ⟨hk, hkl⟩
  by_cases hkL : k < L + 1
  · have w1 : IntKind.i64.wrap ((k : Int) + 1) = (k : Int) + 1 := wrap_in (by omega) (by omega)
    obtain ⟨ds, xs, hds, hof, x1, x2, x3⟩ := gp k (by omega)
    obtain ⟨hco, hcok⟩ := merged_ok (xs := xs) x1 x2
    have hml := hcok.len
    have hkg : k < gaps.length := by omega
    have hofd : ofDD (gaps.getD k .nilsl) = xs := by
      unfold ofDD
      have : gaps.getD k .nilsl = gaps[k] := by simp [List.getD, hkg]
      rw [this, hds]
      show (if 1 = 1 then ofAll (Rep.of (α := List Int)) ds else none).getD [] = xs
      rw [if_pos rfl, hof]
      rfl
    have hrs := weaveTo_succ names i0 marks gaps k
    unfold weaveRow at hrs
    rw [hofd, hL] at hrs
    have hxl : ∀ x, x ∈ xs → x.length ≤ 1048576 := fun x hx => by
      have : x.length ≤ sumL xs := by
        unfold sumL
        obtain ⟨i, hi, rfl⟩ := List.mem_iff_getElem.1 hx
        have e := sumL_drop (xs := xs.drop 0) (k := i) (by simpa using hi)
        have : ∀ (l : List (List Int)) (i : Nat) (h : i < l.length), l[i].length ≤ (l.map List.length).sum := by
          intro l
          induction l with
          | nil => intro i h; simp at h
          | cons a l ih =>
            intro i h
            cases i with
            | zero => simp
            | succ i =>
              have := ih i (by simpa using h)
              simp only [List.getElem_cons_succ, List.map_cons, List.sum_cons]
              omega
        exact this xs i hi
      omega
    simp [hkL, show (k : Int) < (L : Int) + 1 by omega, hkg, h1, hds, hof, hco, hxl, show xs.length ≤ 1048576 by omega]
    refine ⟨hxl, ?_⟩
    have hmm : ∀ m, m ∈ mergedV xs → ∃ j : Nat, m.line = j ∧ j < names.length := x3
    generalize mergedV xs = ml at *
    have hk101 : (weaveTo names i0 marks gaps k).length ≤ 4097 * 101 := by omega
    have hmll : ml.length ≤ 4096 := by omega
    rw [← weaveIn_zero names i0 marks gaps k ml]
    refine vc_lp (σ := Nat) (fun i => i ≤ ml.length) (fun i => ml.length - i)
      (fun i => [.ref 0 v 0 0, .any, .d (.int .i64 k), .any, .any, .any, .any, .d (.sl 1 gaps), .d (.int .i64 ((L : Int) + 1)), .d (.int .i64 k), .any, .any, .d (Rep.to ml), .d (.int .i64 ml.length), .d (.int .i64 i), .any, .any])
      (fun i => [.cells v 6 [.agg [.d (Rep.to names), .d (Rep.to i0), .d (Rep.to marks), .d (.sl 1 gaps), .d (.int .i64 pn), .gr 2 3 ((weaveIn names i0 marks gaps k ml i).map Rep.to)]], .res, .tip (weaveIn names i0 marks gaps k ml i).length]) 0 (by simp) (by simp) (by simp) ?_
    intro i hi
    by_cases hil : i < ml.length
    · have w2 : IntKind.i64.wrap ((i : Int) + 1) = (i : Int) + 1 := wrap_in (by omega) (by omega)
      obtain ⟨j, hj, hjN⟩ := hmm _ (List.getElem_mem hil)
      have hst := weaveIn_succ names i0 marks gaps k hil
      have hsl := weaveIn_len names i0 marks gaps k hi
      have hlr : lostRow names ml[i] = ⟨true, ml[i].parents, names[j]⟩ := by unfold lostRow; rw [hj]; simp [List.getD, hjN]
      rw [hlr] at hst
      simp [hil, getD_map, hj, hjN, w2, hsl]
      exact ⟨by unfold room; omega, Nxt.mk (i + 1) (by omega) (by simp) (by simp [hst, hsl]) (by omega)⟩
    · have h9 : i = ml.length := by omega
      subst h9
      have hsl := weaveIn_len names i0 marks gaps k (Nat.le_refl ml.length)
      have hre : weaveIn names i0 marks gaps k ml ml.length = weaveTo names i0 marks gaps k ++ ml.map (lostRow names) := by unfold weaveIn; rw [List.take_length]
      by_cases hkl2 : k < L
      · obtain ⟨j, hj, hjN⟩ := nm k (by omega)
        have hki : k < i0.length := by omega
        have hkm : k < marks.length := by omega
        have e1 : marks.getD k default = marks[k] := by simp [List.getD, hkm]
        have e2 : i0.getD k 0 = i0[k] := by simp [List.getD, hki]
        have e3 : names.getD (i0[k]).toNat [] = names[j] := by rw [hj]; simp [List.getD, hjN]
        have hrs2 : weaveTo names i0 marks gaps (k + 1) = weaveIn names i0 marks gaps k ml ml.length ++ [⟨false, marks[k].n, names[j]⟩] := by rw [hrs, if_pos hkl2, hre, List.append_assoc, e1, e2, e3]
        have hl2 : (weaveTo names i0 marks gaps (k + 1)).length = (weaveTo names i0 marks gaps k).length + ml.length + 1 := by rw [hrs2]; simp [hsl]
        simp [hkl2, hL, hki, hkm, getD_map, w1, hj, hjN, hsl]
        exact ⟨by unfold room; omega, Nxt.mk (k + 1) (by omega) (by simp) (by simp [hrs2, hsl]) ⟨by omega, by omega⟩⟩
      · have hrs2 : weaveTo names i0 marks gaps (k + 1) = weaveIn names i0 marks gaps k ml ml.length := by rw [hrs, if_neg hkl2, hre, List.append_nil]
        have hl2 : (weaveTo names i0 marks gaps (k + 1)).length = (weaveTo names i0 marks gaps k).length + ml.length := by rw [hrs2]; simp [hsl]
        simp [w1, hL, show ¬ k < L by omega]
        exact Nxt.mk (k + 1) (by omega) (by simp) (by simp [hrs2]) ⟨by omega, by omega⟩
  · have h9 : k = L + 1 := by omega
    subst h9
    simp
    exact FinR.pick2 (by simp [resOf, resE]) ⟨_, rfl⟩ (by simp [idxIn] <;> rfl) (by simp) (by simp [resPre, resE])

end Go.AE

set_option maxRecDepth 20000
set_option maxHeartbeats 4000000
namespace Go.AE

theorem loomS_congr {names : List Str} {i0 : List Int} {n L : Nat} {q q' : Nat → Nat} {d d' : Nat → Nat → D} {vg pn : Nat} (h1 : ∀ k, k < L → q k = q' k) (h2 : ∀ r k, r < n → k < L + 1 → d r k = d' r k) : loomS names i0 n L q d vg pn = loomS names i0 n L q' d' vg pn := by
  unfold loomS
  rw [marksC_congr h1, rowsO_congr2 h2]

theorem eR_loom_add {G : Gam} {f : Nat} (hf : G.findR f = some R_weave_loom_add) {names : List Str} {i0 : List Int} {n L : Nat} {q : Nat → Nat} {d : Nat → Nat → D} {vg pn p : Nat} {x : List Int}
    (p1 : x.length ≤ 4096) (p2 : i0.length = L) (p3 : L ≤ 4096) (p4 : p < n) (p5 : n ≤ 32) (p6 : ∀ k, k < L → q k < 4294967296) (p7 : ∀ k, k < L + 1 → d p k = .nilsl) :
    eRCall G (loomS names i0 n L q d vg pn) (L + 5) f [.ref 1 0 0 0, .d (.int .i64 p), .d (.sl 1 (x.map Rep.to))] = ⟨True, wholeFp (L + 5) (loomS names i0 n L (addQ (scriptV x i0) p q) (addD x (scriptV x i0) p d) vg pn), .d (.int .i64 0)⟩ := by
  have hv : ∃ q' d', F_weave_loom_add.view [.ref 1 0 0 0, .d (.int .i64 p), .d (.sl 1 (x.map Rep.to))] (loomS names i0 n L q d vg pn) = ⟨names, i0, n, L, q', d', vg, p, x, pn⟩ ∧ (∀ k, k < L → q' k = q k) ∧ ∀ r k, r < n → k < L + 1 → d' r k = d r k := by
    refine ⟨fun k => (((loomS names i0 n L q d vg pn).getD 2 .dead).el k).gi.toNat, fun r k => (((loomS names i0 n L q d vg pn).getD (k + 4) .dead).el r).toD, ?_, fun k hk => ?_, fun r k hr hk => ?_⟩
    · have h4 : (loomS names i0 n L q d vg pn).getD 4 .dead = .cells 0 1 (rowG n d 0) := by
        simp [loomS, List.getD, rowsO_get (n := n) (d := d) (m := L + 1) (k := 0) (by omega)]
      unfold F_weave_loom_add
      simp only [h4, LoomX.mk.injEq]
      refine ⟨?_, ?_, by simp [Ob.len, rowG_len], ?_, by first | rfl | trivial, by first | rfl | trivial, rfl, by simp, by simp [ofAll_to], ?_⟩
      · simp [loomS, loomO, ofAll_to]
      · simp [loomS, loomO, ofAll_to]
      · simp [loomS, Ob.len, marksC_len]
      · simp [loomS, loomO]
    · simp [loomS, List.getD, marksC_get hk]
    · simp [loomS, List.getD, rowsO_get (n := n) (d := d) hk, rowG, hr] <;> rfl
  obtain ⟨q', d', hv, hq, hd⟩ := hv
  have e1 : loomS names i0 n L q d vg pn = loomS names i0 n L q' d' vg pn := loomS_congr (fun k hk => (hq k hk).symm) fun r k hr hk => (hd r k hr hk).symm
  have hst : F_weave_loom_add.st ⟨names, i0, n, L, q', d', vg, p, x, pn⟩ = loomS names i0 n L q' d' vg pn := rfl
  have hst' : F_weave_loom_add.st' ⟨names, i0, n, L, q', d', vg, p, x, pn⟩ = loomS names i0 n L (addQ (scriptV x i0) p q) (addD x (scriptV x i0) p d) vg pn := by
    show loomS names i0 n L (addQ (scriptV x i0) p q') (addD x (scriptV x i0) p d') vg pn = _
    exact loomS_congr (fun k hk => by unfold addQ; rw [hq k hk]) fun r k hr hk => by unfold addD; rw [hd r k hr hk]
  have key := eR_whole (r := F_weave_loom_add) hf (s := loomS names i0 n L q d vg pn) (nw := L + 5) (args := [.ref 1 0 0 0, .d (.int .i64 p), .d (.sl 1 (x.map Rep.to))]) (loomS_len _ _ _ _ _ _ _ _) (loomS_under _ _ _ _ _ _ _ _) (by simp)
    (by rw [hv]; rfl) (by rw [hv, hst]; exact e1) (by
      rw [hv]
      exact ⟨p1, p2, p3, p4, p5, fun k hk => by simp only at hk ⊢; rw [hq k hk]; exact p6 k hk, fun k hk => by simp only at hk ⊢; rw [hd p k p4 hk]; exact p7 k hk⟩)
    (by rw [hv, hst']; exact loomS_len _ _ _ _ _ _ _ _) (by rw [hv, hst']; exact loomS_under _ _ _ _ _ _ _ _) (by rw [hv]; rfl)
  rw [key, hv, hst']
  rfl

/-- the rows are frozen, one after another -/
theorem freezeRowsV {lo : Nat} {T : List A} (b0 b1 : Ob) (mk : List A) (n m vg : Nat) (d : Nat → Nat → D) : ∀ k, k ≤ m → Re lo T (b0 :: b1 :: .cells 0 1 mk :: .cells vg 1 (gapC n m m) :: rowsO n d m) T (b0 :: b1 :: .cells 0 1 mk :: .cells vg 1 (gapF n m d k) :: rowsF n d m k)
  | 0, _ => by
    have e1 : gapC n m m = gapF n m d 0 := by
      unfold gapC gapF
      exact List.map_congr_left fun j hj => by simp at hj; simp [hj]
    have e2 : rowsO n d m = rowsF n d m 0 := by
      unfold rowsO rowsF
      exact List.map_congr_left fun j hj => by simp
    rw [e1, e2]
    exact Re.refl _ _ _
  | k + 1, h => by
    refine Re.trans (freezeRowsV b0 b1 mk n m vg d k (by omega)) ?_
    have hlf : (rowsF n d m k).length = m := by simp [rowsF]
    have hlg : (rowsF n d m (k + 1)).length = m := by simp [rowsF]
    refine Re.freeze (k + 4) 0 1 (rowG n d k) ?_ (FzL.refl _ _ _ _ _) ⟨by simp [hlf, hlg], ?_⟩ ?_
    · simp [rowsF, List.getD, show k < m by omega]
    · intro j hj hne
      match j, hj, hne with
      | 0, _, _ => exact .inl rfl
      | 1, _, _ => exact .inl rfl
      | 2, _, _ => exact .inl rfl
      | 3, _, _ =>
        refine .inr ⟨vg, 1, _, _, rfl, rfl, by simp [gapF], fun i hi => ?_⟩
        have hi : i < m := by simpa [gapF] using hi
        have g1 : (gapF n m d k).getD i .any = if i < k then .d (.sl 1 (rowD n d i)) else .own (i + 4) 0 0 n := by simp [gapF, List.getD, hi]
        have g2 : (gapF n m d (k + 1)).getD i .any = if i < k + 1 then .d (.sl 1 (rowD n d i)) else .own (i + 4) 0 0 n := by simp [gapF, List.getD, hi]
        rw [g1, g2]
        by_cases c : i < k
        · rw [if_pos c, if_pos (by omega)]
          exact ⟨rfl, FzL.refl _ _ _ _ _⟩
        · rw [if_neg c]
          by_cases c2 : i < k + 1
          · rw [if_pos c2]
            obtain rfl : i = k := by omega
            refine ⟨rfl, ?_, trivial⟩
            have hf := Fz.own (i + 4) 0 1 0 n (rowG n d i) (by rw [List.drop_zero, List.take_of_length_le (by rw [rowG_len]; omega)]; exact rowG_isD _ _ _)
            rw [List.drop_zero, List.take_of_length_le (by rw [rowG_len]; omega), rowG_toD] at hf
            exact hf
          · rw [if_neg c2]
            exact ⟨rfl, FzL.refl _ _ _ _ _⟩
      | j + 4, hj, hne =>
        refine .inl ?_
        have hjm : j < m := by simp [hlf] at hj; omega
        have hjk : j ≠ k := by omega
        have e : (j < k + 1) = (j < k) := by rw [eq_iff_iff]; omega
        simp [rowsF, List.getD, hjm, e]
    · simp [rowsF, List.getD, show k < m by omega]

def loomD (names : List Str) (i0 : List Int) (marks : List U32T) (gaps : List D) (pn : Nat) : Ob := .cells 0 6 [.agg [.d (Rep.to names), .d (Rep.to i0), .d (Rep.to marks), .d (.sl 1 gaps), .d (.int .i64 pn), .d .nilsl]]
def marksT (L : Nat) (q : Nat → Nat) : List U32T := (List.range L).map fun k => ⟨q k⟩

theorem fz_gapsV (n m vg : Nat) (d : Nat → Nat → D) : Fz 3 vg 1 (gapF n m d m) (.own 3 vg 0 m) (.d (.sl 1 (rowsD n d m))) := by
  have hg : gapF n m d m = (rowsD n d m).map .d := by
    unfold gapF rowsD
    rw [List.map_map]
    exact List.map_congr_left fun j hj => by simp at hj; simp [hj]
  have hl : (gapF n m d m).length = m := by simp [gapF]
  have hf := Fz.own 3 vg 1 0 m (gapF n m d m) (by rw [List.drop_zero, List.take_of_length_le (by omega), hg]; simp [A.isD])
  rw [List.drop_zero, List.take_of_length_le (by omega)] at hf
  rw [show (gapF n m d m).map A.toD = rowsD n d m by rw [hg, List.map_map]; exact List.map_id' _] at hf
  exact hf

theorem freezeLoom {lo : Nat} (hlo : lo ≤ 2) {T : List A} (hT : T.all (A.under 2) = true) (names : List Str) (i0 : List Int) (n L : Nat) (q : Nat → Nat) (d : Nat → Nat → D) (vg pn : Nat) :
    Re lo T (loomS names i0 n L q d vg pn) T [boxO, loomD names i0 (marksT L q) (rowsD n d (L + 1)) pn] := by
  refine Re.trans (freezeRowsV boxO (loomO names i0 L vg pn) (marksC L q) n (L + 1) vg d (L + 1) (Nat.le_refl _)) ?_
  refine Re.trans (Re.freeze (T' := T) (s' := boxO :: .cells 0 6 [.agg [.d (Rep.to names), .d (Rep.to i0), .own 2 0 0 L, .d (.sl 1 (rowsD n d (L + 1))), .d (.int .i64 pn), .d .nilsl]] :: .cells 0 1 (marksC L q) :: .dead :: rowsF n d (L + 1) (L + 1)) 3 vg 1 (gapF n (L + 1) d (L + 1)) rfl (FzL.refl _ _ _ _ _) ⟨by simp, ?_⟩ rfl) ?_
  · intro j hj hne
    match j, hj, hne with
    | 0, _, _ => exact .inl rfl
    | 1, _, _ =>
      refine .inr ⟨0, 6, _, _, rfl, rfl, rfl, fun i hi => ?_⟩
      simp at hi
      subst hi
      exact ⟨rfl, Fz.refl _ _ _ _ _, Fz.refl _ _ _ _ _, Fz.refl _ _ _ _ _, fz_gapsV n (L + 1) vg d, Fz.refl _ _ _ _ _, Fz.refl _ _ _ _ _, trivial⟩
    | 2, _, _ => exact .inl rfl
    | j + 4, _, _ => exact .inl rfl
  refine Re.trans (Re.freeze (T' := T) (s' := boxO :: loomD names i0 (marksT L q) (rowsD n d (L + 1)) pn :: .dead :: .dead :: rowsF n d (L + 1) (L + 1)) 2 0 1 (marksC L q) rfl (FzL.refl _ _ _ _ _) ⟨by simp, ?_⟩ rfl) ?_
  · intro j hj hne
    match j, hj, hne with
    | 0, _, _ => exact .inl rfl
    | 1, _, _ =>
      refine .inr ⟨0, 6, _, _, rfl, rfl, rfl, fun i hi => ?_⟩
      simp at hi
      subst hi
      exact ⟨rfl, Fz.refl _ _ _ _ _, Fz.refl _ _ _ _ _, fz_marks L q, Fz.refl _ _ _ _ _, Fz.refl _ _ _ _ _, Fz.refl _ _ _ _ _, trivial⟩
    | 3, _, _ => exact .inl rfl
    | j + 4, _, _ => exact .inl rfl
  refine Sub.re ⟨by simpa using hlo, ?_, by simp, .inr ⟨by simpa using hT, rfl⟩⟩
  have : ∀ T : List A, SbL T T := by
    intro T
    induction T with
    | nil => trivial
    | cons x T ih => exact ⟨.inr (.inl rfl), ih⟩
  exact this T

end Go.AE

set_option maxRecDepth 20000
set_option maxHeartbeats 1000000
namespace Go.AE

/-- what f gives from j on, d times -/
def totF {α : Type} (f : Nat → List α) : Nat → Nat → List α
  | _, 0 => []
  | j, d + 1 => f j ++ totF f (j + 1) d

theorem totF_add {α : Type} (f : Nat → List α) : ∀ (a b j : Nat), totF f j (a + b) = totF f j a ++ totF f (j + a) b
  | 0, b, j => by simp [totF]
  | a + 1, b, j => by
    rw [Nat.add_right_comm, totF, totF, totF_add f a b (j + 1), List.append_assoc, show j + 1 + a = j + (a + 1) by omega]
theorem totF_congr {α : Type} {f g : Nat → List α} : ∀ (d j : Nat), (∀ k, j ≤ k → k < j + d → f k = g k) → totF f j d = totF g j d
  | 0, _, _ => rfl
  | d + 1, j, h => by
    rw [totF, totF, h j (by omega) (by omega), totF_congr d (j + 1) fun k h1 h2 => h k (by omega) (by omega)]
theorem totF_range {α : Type} (f : Nat → List α) : ∀ m, (List.range m).flatMap f = totF f 0 m
  | 0 => by simp [totF]
  | m + 1 => by
    rw [List.range_succ, List.flatMap_append, totF_range f m, totF_add f m 1 0]
    simp [totF]
theorem totF_nil {α : Type} {f : Nat → List α} (d j : Nat) (h : ∀ k, j ≤ k → k < j + d → f k = []) : totF f j d = [] := by
  rw [totF_congr (g := fun _ => []) d j h]
  have : ∀ (d j : Nat), totF (fun _ => ([] : List α)) j d = [] := by
    intro d
    induction d with
    | zero => intro j; rfl
    | succ d ih => intro j; rw [totF, ih]; rfl
  exact this d j

theorem drop_cons {x : List Int} {i : Nat} (h : i < x.length) : x.drop i = x.getD i 0 :: x.drop (i + 1) := by
  rw [List.drop_eq_getElem_cons h]
  simp [List.getD, h]

theorem run_ok (x y : List Int) : ∀ (d i j : Nat), i + d ≤ x.length → (∀ t, t < d → x.getD (i + t) 0 = y.getD (j + t) 0) → totF (fun k => [y.getD k 0]) j d = (x.drop i).take d
  | 0, i, j, _, _ => by simp [totF]
  | d + 1, i, j, h, ht => by
    have h0 := ht 0 (by omega)
    simp only [Nat.add_zero] at h0
    rw [totF, run_ok x y d (i + 1) (j + 1) (by omega) fun t htd => by rw [Nat.add_right_comm, Nat.add_right_comm j, Nat.add_assoc, Nat.add_assoc j]; exact ht (t + 1) (by omega), drop_cons (i := i) (by omega), List.take_succ_cons, h0]
    rfl

theorem markN_bit (I : List (List Int)) (k : Nat) : ∀ (n p : Nat), (markN I k n).testBit p = (decide (p < n) && insB (scrV I p) k)
  | 0, p => by simp [markN]
  | n + 1, p => by
    unfold markN
    have ih := markN_bit I k n p
    cases hb : insB (scrV I n) k with
    | true =>
      rw [if_pos rfl, Nat.testBit_or, Nat.testBit_two_pow, ih]
      by_cases e : p = n
      · subst e; simp [hb]
      · have : decide (n = p) = false := by simpa using fun h => e h.symm
        have h2 : decide (p < n + 1) = decide (p < n) := by rw [decide_eq_decide]; omega
        rw [this, h2, Bool.or_false]
    | false =>
      rw [if_neg (by simp), ih]
      by_cases e : p = n
      · subst e; simp [hb]
      · have h2 : decide (p < n + 1) = decide (p < n) := by rw [decide_eq_decide]; omega
        rw [h2]

def nmV (N : List Str) (x : Int) : Str := N.getD x.toNat []

theorem col_app (a b : List RowT) (c : Int) : colV (a ++ b) c = colV a c ++ colV b c := by simp [colV]
theorem col_flat (c : Int) (f : Nat → List RowT) : ∀ l : List Nat, colV (l.flatMap f) c = l.flatMap fun k => colV (f k) c
  | [] => rfl
  | a :: l => by rw [List.flatMap_cons, List.flatMap_cons, col_app, col_flat c f l]

theorem col_res0 (N : List Str) (I : List (List Int)) (n k : Nat) : colV (gapRows N I n k) (-1) = if k < (I.getD 0 []).length then [nmV N ((I.getD 0 []).getD k 0)] else [] := by
  unfold gapRows
  rw [col_app]
  have e1 : colV ((mergedV (gapV I n k)).map (lostRow N)) (-1) = [] := by
    unfold colV
    rw [List.filter_eq_nil_iff.2]
    · rfl
    · intro r hr
      obtain ⟨m, _, rfl⟩ := List.mem_map.1 hr
      simp [vis_res, lostRow]
  rw [e1, List.nil_append]
  by_cases hk : k < (I.getD 0 []).length
  · rw [if_pos hk, if_pos hk]
    simp [colV, vis_res, keptRow, nmV]
  · rw [if_neg hk, if_neg hk]
    rfl

theorem col_res (N : List Str) (I : List (List Int)) (n : Nat) : colV (rowsTo N I n ((I.getD 0 []).length + 1)) (-1) = (I.getD 0 []).map (nmV N) := by
  unfold rowsTo
  rw [col_flat]
  generalize hy : I.getD 0 [] = y
  have e : ∀ k, colV (gapRows N I n k) (-1) = if k < y.length then [nmV N (y.getD k 0)] else [] := fun k => by rw [col_res0, hy]
  rw [funext e, totF_range, totF_add, totF_nil 1, List.append_nil, totF_congr (g := fun k => ([y.getD k 0]).map (nmV N))]
  · have : ∀ (d j : Nat), totF (fun k => ([y.getD k 0]).map (nmV N)) j d = (totF (fun k => [y.getD k 0]) j d).map (nmV N) := by
      intro d
      induction d with
      | zero => intro j; rfl
      | succ d ih => intro j; rw [totF, totF, ih, List.map_append]
    rw [this, run_ok y y y.length 0 0 (by omega) (fun _ _ => rfl)]
    simp
  · intro k _ hk
    rw [if_pos (by omega)]
    rfl
  · intro k hk _
    rw [if_neg (by omega)]

end Go.AE

set_option maxRecDepth 20000
set_option maxHeartbeats 4000000
namespace Go.AE

theorem aw17a : checkTab ⟨2, [⟨false, 0, [97, 10]⟩, ⟨true, 1, [98, 10]⟩, ⟨false, 1, [99, 10]⟩]⟩ = 0 := by decide
end Go.AE

set_option maxRecDepth 20000
set_option maxHeartbeats 4000000
namespace Go.AE

def pickN (n : Int) : Nat := (1 + modV n 4).toNat
theorem pickN_in (n : Int) : 1 ≤ pickN n ∧ pickN n ≤ 4 ∧ ((pickN n : Nat) : Int) = 1 + modV n 4 := by
  have := modV_lt n (n := 4) (by omega)
  unfold pickN
  omega

theorem blobs_cons (raw : List Int) (n : Nat) : ∃ b bs, blobsV raw (n + 1) 7 = b :: bs ∧ bs.length = n ∧ b.length ≤ 60 ∧ ∀ x, x ∈ bs → x.length ≤ 60 := by
  have hl : (blobsV raw (n + 1) 7).length = n + 1 := by simp [blobsV]
  have hm : ∀ x, x ∈ blobsV raw (n + 1) 7 → x.length ≤ 60 := by
    intro x hx
    obtain ⟨p, _, rfl⟩ := List.mem_map.1 hx
    have := blobOne_len raw (lines := 7) (by omega) p
    omega
  cases h : blobsV raw (n + 1) 7 with
  | nil => rw [h] at hl; cases hl
  | cons b bs =>
    rw [h] at hl hm
    exact ⟨b, bs, rfl, by simpa using hl, hm b (by simp), fun x hx => hm x (by simp [hx])⟩

end Go.AE

set_option maxRecDepth 20000
set_option maxHeartbeats 1000000
namespace Go.AE

theorem linesV_le {s : Str} {B : Nat} (h : s.length ≤ B) : (linesV s).length ≤ B + 1 := by
  have hc : s.count 10 ≤ s.length := List.count_le_length
  rw [linesV_len]
  split <;> omega

structure Small (r : Str) (ps : List Str) (B : Nat) : Prop where
  hr : r.length ≤ B
  hp : ∀ p, p ∈ ps → p.length ≤ B
  n1 : 1 ≤ ps.length
  n2 : ps.length ≤ 32
  b1 : B ≤ 100
  b2 : (B + 1) * ps.length ≤ 4096

theorem Small.ids {r : Str} {ps : List Str} {B : Nat} (h : Small r ps B) : ∀ p, p < ps.length → ((idsV (filesV r ps)).getD (p + 1) []).length ≤ B + 1 := fun p hp => by
  rw [idsV_getD (by rw [filesV_len]; omega), List.length_map, filesV_succ r ps hp]
  exact linesV_le (h.hp _ (List.getElem_mem hp))
theorem Small.ids0 {r : Str} {ps : List Str} {B : Nat} (h : Small r ps B) : ((idsV (filesV r ps)).getD 0 []).length ≤ B + 1 := by
  rw [ids0_len]
  exact linesV_le h.hr

theorem nm_place {N : List Str} {y : Str} (h : y ∈ N) : nmV N (placeV N y) = y := by
  obtain ⟨k, hk, h1, h2⟩ := placeV_mem h
  unfold nmV
  rw [h1]
  simp [List.getD, hk, h2]

theorem nm_ids {r : Str} {ps : List Str} {p : Nat} (hp : p < (filesV r ps).length) : ((idsV (filesV r ps)).getD p []).map (nmV (namesV (filesV r ps))) = (filesV r ps)[p] := by
  rw [idsV_getD hp, List.map_map]
  have : ∀ l : List Str, (∀ y, y ∈ l → y ∈ namesV (filesV r ps)) → l.map (nmV (namesV (filesV r ps)) ∘ placeV (namesV (filesV r ps))) = l := fun l hl => by
    rw [List.map_congr_left fun y hy => show (nmV (namesV (filesV r ps)) ∘ placeV (namesV (filesV r ps))) y = y from nm_place (hl y hy)]
    exact List.map_id' l
  exact this _ fun y hy => mem_names.2 ⟨_, List.getElem_mem hp, hy⟩

theorem make_res {r : Str} {ps : List Str} : colV (makeV r ps).rows (-1) = linesV r := by
  unfold makeV
  simp only
  rw [← ids0_len r ps, col_res, nm_ids (by rw [filesV_len]; omega), filesV_zero]

/-- a row of the table is lost or kept -/
theorem make_row {r : Str} {ps : List Str} {x : RowT} (hx : x ∈ (makeV r ps).rows) :
    (∃ k m, m ∈ mergedV (gapV (idsV (filesV r ps)) ps.length k) ∧ x = lostRow (namesV (filesV r ps)) m) ∨ ∃ k, ∃ h : k < (linesV r).length, x = ⟨false, markN (idsV (filesV r ps)) k ps.length, (linesV r)[k]⟩ := by
  unfold makeV rowsTo at hx
  simp only [List.mem_flatMap, List.mem_range] at hx
  obtain ⟨k, hk, hx⟩ := hx
  unfold gapRows at hx
  rcases List.mem_append.1 hx with hx | hx
  · obtain ⟨m, hm, rfl⟩ := List.mem_map.1 hx
    exact .inl ⟨k, m, hm, rfl⟩
  · rw [ids0_len] at hx
    split at hx
    · rename_i hkl
      simp only [List.mem_singleton] at hx
      subst hx
      refine .inr ⟨k, hkl, ?_⟩
      unfold keptRow
      rw [(kept_text r ps hkl).1]
    · cases hx

theorem make_marks {r : Str} {ps : List Str} {B : Nat} (h : Small r ps B) {x : RowT} (hx : x ∈ (makeV r ps).rows) : ∃ k : Nat, x.marks = k ∧ k < 2 ^ ps.length ∧ (x.lost = true → 0 < k) := by
  rcases make_row hx with ⟨k, m, hm, rfl⟩ | ⟨k, hk, rfl⟩
  · obtain ⟨_, h2⟩ := merged_ok (xs := gapV (idsV (filesV r ps)) ps.length k) (by rw [gapV_len]; exact h.n2) (by have := sumL_gap h.ids k; have := h.b2; omega)
    obtain ⟨q, q1, q2, q3⟩ := h2.ok m hm
    rw [gapV_len] at q3
    exact ⟨q, q1, q3, fun _ => q2⟩
  · exact ⟨_, rfl, markN_lt _ _ _, fun h => by cases h⟩

theorem rows_len2 {N : List Str} {I : List (List Int)} {n B : Nat} (h : ∀ p, p < n → (I.getD (p + 1) []).length ≤ B) (hn : n ≤ 32) (hB : B * n ≤ 4096) : ∀ k, (rowsTo N I n k).length ≤ (B * n + 1) * k
  | 0 => by simp [rowsTo]
  | k + 1 => by
    rw [rowsTo_succ, List.length_append, Nat.mul_succ]
    have h0 := rows_len2 (N := N) h hn hB k
    have h1 := sumL_gap h k
    obtain ⟨_, h2⟩ := merged_ok (xs := gapV I n k) (by rw [gapV_len]; exact hn) (by omega)
    have h3 := h2.len
    have h4 : (gapRows N I n k).length ≤ B * n + 1 := by
      unfold gapRows
      rw [List.length_append, List.length_map]
      split <;> simp <;> omega
    omega

theorem make_len {r : Str} {ps : List Str} {B : Nat} (h : Small r ps B) : (makeV r ps).rows.length ≤ ((B + 1) * ps.length + 1) * (B + 2) := by
  have h1 := rows_len2 (N := namesV (filesV r ps)) h.ids h.n2 h.b2 ((linesV r).length + 1)
  have h2 := linesV_le h.hr
  exact Nat.le_trans h1 (Nat.mul_le_mul_left _ (by omega))

end Go.AE

set_option maxRecDepth 20000
set_option maxHeartbeats 4000000
namespace Go.AE

theorem gapC_snoc (n k : Nat) : gapC n k k ++ [.own (k + 4) 0 0 n] = gapC n (k + 1) (k + 1) := by
  unfold gapC
  rw [List.range_succ, List.map_append]
  congr 1
  · exact List.map_congr_left fun j hj => by
      have hj : j < k := by simpa using hj
      rw [if_pos hj, if_pos (by omega)]
  · simp

theorem split_small {s : Str} (h : s.length ≤ 100) : splitD s = .tup [Rep.to (linesV s), .int .i64 0] := by
  have ck : checkT s = 0 := check_of (by omega) (by have : s.count 10 ≤ s.length := List.count_le_length; omega)
  unfold splitD
  rw [if_pos ck]

theorem marksC_ren (L : Nat) (q : Nat → Nat) (f : Nat → Nat) : (marksC L q).map (A.ren f) = marksC L q := by
  unfold marksC
  rw [List.map_map]
  rfl
def tkF (F : List (List Str)) (i : Nat) : List (List Str) := F.take i
theorem tkF_succ {F : List (List Str)} {i : Nat} (h : i < F.length) : tkF F (i + 1) = tkF F i ++ [F[i]] := List.take_succ_eq_append_getElem h
theorem tkF_len {F : List (List Str)} {i : Nat} (h : i ≤ F.length) : (tkF F i).length = i := by simp [tkF]; omega
def allC (l : List Str) : List A := l.map fun x => .d (.str x)
theorem allC_len (l : List Str) : (allC l).length = l.length := by simp [allC]
theorem allC_under (l : List Str) (n : Nat) : ∀ x, x ∈ allC l → A.under n x = true := by
  intro x hx
  obtain ⟨y, _, rfl⟩ := List.mem_map.1 hx
  rfl
theorem allC_get {l : List Str} {i : Nat} (h : i < l.length) : (allC l)[i]? = some (.d (.str l[i])) := by simp [allC, h]

def loomK (N : List Str) (i0 : List Int) (n L k : Nat) : Store :=
  boxO :: .cells 0 6 [.agg [.d (Rep.to N), .d (Rep.to i0), .own 2 0 0 L, .own 3 k 0 k, .d (.int .i64 n), .d .nilsl]] :: .cells 0 1 (marksC L fun _ => 0) :: .cells k 1 (gapC n k k) :: rowsO n (fun _ _ => .nilsl) k
theorem loomK_len (N : List Str) (i0 : List Int) (n L k : Nat) : (loomK N i0 n L k).length = k + 4 := by simp [loomK, rowsO_len]
theorem loomK_under (N : List Str) (i0 : List Int) (n L k : Nat) : (loomK N i0 n L k).all (Ob.under (k + 4)) = true := by
  have h1 := marksC_under L (fun _ => 0) (k + 4)
  have h2 := gapC_under n k k (N := k + 4) (by omega)
  have h3 := rowsO_under n (fun _ _ => .nilsl) k (k + 4)
  unfold loomK
  rw [List.all_cons, List.all_cons, List.all_cons, List.all_cons, h3]
  simp only [Ob.under, h1, h2, Bool.and_true]
  simp [boxO]

theorem flat_congr {α : Type} {f g : Nat → List α} : ∀ l : List Nat, (∀ k, k ∈ l → f k = g k) → l.flatMap f = l.flatMap g
  | [], _ => rfl
  | a :: l, h => by rw [List.flatMap_cons, List.flatMap_cons, h a (by simp), flat_congr l fun k hk => h k (by simp [hk])]

@[simp] def S_weave_Make : List D → Prop × D := spec2 (α := Str) (β := List Str) (fun r ps => r.length ≤ 100 ∧ ∀ p, p ∈ ps → p.length ≤ 100) (fun r ps => makeD r ps)

theorem ct_weave_Make {P : Program} {f g1 g2 g3 g4 g5 : Nat} {G : Gam} (h : CodeOf P f 2 28 [22002, 3] (x_weave_Make g1 g2 g3 g4 g5)) (hG : GamOk P G) (h1 : G.find g1 = some S_text_Split) (h2 : G.find g2 = some S_intern_Ids) (h3 : G.find g3 = some S_intern_Names) (h4 : G.findR g4 = some R_weave_loom_add) (h5 : G.findR g5 = some R_weave_loom_weave) : Has P f S_weave_Make := h.has2 hG fun r ps hp => by
  obtain ⟨p1, p2⟩ := hp
  by_cases c1 : (ps.length : Int) < 1
  · have : makeD r ps = .tup [Rep.to (⟨0, []⟩ : TableT), .int .i64 2] := by unfold makeD; rw [if_pos (by omega)]
    simp [x_weave_Make, c1, this]
  by_cases c2 : 32 < (ps.length : Int)
  · have : makeD r ps = .tup [Rep.to (⟨0, []⟩ : TableT), .int .i64 2] := by unfold makeD; rw [if_pos (by omega)]
    simp [x_weave_Make, c1, c2, this]
  have hmk : makeD r ps = .tup [Rep.to (makeV r ps), .int .i64 0] := by unfold makeD; rw [if_neg (by omega)]
  rw [hmk]
  have hsmall : Small r ps 100 := ⟨p1, p2, by omega, by omega, by omega, by omega⟩
  have hIl := hsmall.ids
  have hI0l := hsmall.ids0
  have hFl := filesV_len r ps
  have hIlen : (idsV (filesV r ps)).length = (filesV r ps).length := by simp [idsV]
  have hall : ∀ p, p ∈ r :: ps → p.length ≤ 100 := fun p hp => by
    rcases List.mem_cons.1 hp with rfl | hp
    · exact p1
    · exact p2 p hp
  have hsm : smallL (filesV r ps) := by
    refine ⟨by omega, ?_⟩
    have key : ∀ l : List (List Str), (∀ x, x ∈ l → x.length ≤ 101) → l.flatten.length ≤ 101 * l.length := by
      intro l
      induction l with
      | nil => simp
      | cons x r ih =>
        intro hx
        have := hx x (by simp)
        have := ih fun y hy => hx y (by simp [hy])
        simp
        simp at this
        omega
    have := key (filesV r ps) fun x hx => by
      obtain ⟨y, hy, rfl⟩ := List.mem_map.1 hx
      exact linesV_le (hall y hy)
    omega
  have hps : ps ≠ [] := by rintro rfl; simp at c1
  simp [x_weave_Make, c1, c2, hps]
  have hn1 : 0 < ps.length := by omega
  refine ⟨by unfold room; omega, ?_⟩
  refine vc_lp (σ := Nat) (fun i => i ≤ ps.length + 1) (fun i => ps.length + 1 - i)
    (fun i => [.any, .any, .ref 0 0 0 0, .any, .d (.int .i64 ps.length), .gr 1 1 ((tkF (filesV r ps) i).map Rep.to), .any, .any, .any, .any, .any, .any, .any, .any, .any, .own 2 1 0 (ps.length + 1), .d (.int .i64 ((ps.length : Int) + 1)), .d (.int .i64 i), .any, .any, .any, .any, .any, .any, .any, .any, .any, .any])
    (fun i => [.cells 0 2 [.d (.agg [.int .i64 0, .nilsl])], .tip i, .cells 1 1 (allC (r :: ps))]) 0 (by simp [tkF]; omega) (by simp [allC]) (by simp) ?_ (hc := .inr ⟨by simp, by simpa using allC_under _ _⟩)
  intro i hi
  by_cases hk : i < ps.length + 1
  · have w1 : IntKind.i64.wrap ((i : Int) + 1) = (i : Int) + 1 := wrap_in (by omega) (by omega)
    have hil : i < (r :: ps).length := by simpa using hk
    have hpi := hall _ (List.getElem_mem hil)
    have hsp := split_small hpi
    have hag := allC_get hil
    have hal : (allC (r :: ps)).length = ps.length + 1 := by simp [allC_len]
    have hiF : i < (filesV r ps).length := by omega
    have hs := tkF_succ hiF
    have hFi : (filesV r ps)[i] = linesV (r :: ps)[i] := List.getElem_map _
    rw [hFi] at hs
    clear hFi
    generalize hx : (r :: ps)[i] = x at *
    have hag2 : ∀ h : i < (allC (r :: ps)).length, (allC (r :: ps))[i]'h = .d (.str x) := fun h => by obtain ⟨_, h9⟩ := List.getElem?_eq_some_iff.1 hag; exact h9
    have hfl : (tkF (filesV r ps) i).length = i := tkF_len (by omega)
    simp [show (i : Int) < (ps.length : Int) + 1 by omega, hag, hag2, hal, hk, h1, hsp, w1, hfl, show x.length ≤ 4194304 by omega]
    exact ⟨by unfold room; omega, Nxt.mk (i + 1) (by omega) (by simp [hs]) (by simp) (by omega) (by simp) (.inr ⟨by simp, by simpa using allC_under _ _⟩)⟩
  · have h9 : i = ps.length + 1 := by omega
    subst h9
    have htk : tkF (filesV r ps) (ps.length + 1) = filesV r ps := List.take_of_length_le (by omega)
    rw [htk]
    have hkt := fun k hk => kept_text r ps (k := k) hk
    have hL : ((idsV (filesV r ps)).getD 0 []).length = (linesV r).length := ids0_len r ps
    have hIm : ∀ p, p < ps.length → ∀ x, x ∈ (idsV (filesV r ps)).getD (p + 1) [] → ∃ k : Nat, x = k ∧ k < (namesV (filesV r ps)).length := fun p hp x hx => by
      obtain ⟨k, e1, e2, _⟩ := id_name (files := filesV r ps) (p := p + 1) (by rw [hFl]; omega) hx
      exact ⟨k, e1, e2⟩
    have hIm0 : ∀ x, x ∈ (idsV (filesV r ps)).getD 0 [] → ∃ k : Nat, x = k ∧ k < (namesV (filesV r ps)).length := fun x hx => by
      obtain ⟨k, e1, e2, _⟩ := id_name (files := filesV r ps) (p := 0) (by rw [hFl]; omega) hx
      exact ⟨k, e1, e2⟩
    clear hkt
    have hmv : makeV r ps = ⟨ps.length, rowsTo (namesV (filesV r ps)) (idsV (filesV r ps)) ps.length ((linesV r).length + 1)⟩ := rfl
    rw [hmv, ← hL]
    generalize hI : idsV (filesV r ps) = I at *
    generalize hN : namesV (filesV r ps) = N at *
    generalize filesV r ps = F at *
    generalize hn : ps.length = n at *
    have hI0 : 0 < I.length := by omega
    have hgI : I.getD 0 [] = I[0] := by simp [List.getD, hI0]
    rw [hgI] at hI0l hIm0 ⊢
    obtain ⟨i0, hi0⟩ : ∃ i0, I[0] = i0 := ⟨_, rfl⟩
    rw [hi0] at hI0l hIm0 ⊢
    obtain ⟨L, hLL⟩ : ∃ L, i0.length = L := ⟨_, rfl⟩
    rw [hLL] at hI0l ⊢
    have wL : IntKind.i64.wrap ((L : Int) + 1) = (L : Int) + 1 := wrap_in (by omega) (by omega)
    simp [h2, h3, hsm, hI, hN, hI0, getD_map, hi0, hLL, wL]
    refine ⟨⟨by unfold room; omega, by omega⟩, ?_⟩
    refine vc_lpR (σ := Nat) (fun k => k ≤ L + 1) (fun k => L + 1 - k)
      (fun k => [.any, .any, .ref 0 0 0 0, .any, .d (.int .i64 n), .any, .any, .any, .any, .d (Rep.to I), .ref 1 0 0 0, .any, .any, .any, .any, .any, .any, .any, .any, .any, .d (.int .i64 ((L : Int) + 1)), .d (.int .i64 k), .any, .any, .any, .any, .any, .any])
      (fun k => boxO :: .cells 0 6 [.agg [.d (Rep.to N), .d (Rep.to i0), .own 2 0 0 L, .own 3 k 0 k, .d (.int .i64 n), .d .nilsl]] :: .cells 0 1 (marksC L fun _ => 0) :: .cells k 1 (gapC n k k) :: rowsO n (fun _ _ => .nilsl) k) 0 ?_ (by simp) ?_
    · have e1 : List.replicate L (A.d (D.int .u32 0)) = marksC L fun _ => 0 := by
        apply List.ext_getElem
        · simp [marksC]
        · intro a b c; simp [marksC]
      rw [e1]
      refine Re.norm (s' := [boxO, .cells 0 6 [.agg [.d (Rep.to N), .d (Rep.to i0), .own 2 0 0 L, .own 3 0 0 0, .d (.int .i64 n), .d .nilsl]], .cells 0 1 (marksC L fun _ => 0)]) [false, false, true, false, true, false, false, false, false, true, true, false, false, false, false, false, false, false, false, false, true, true] [0, 4, 3] [.cells 0 1 []] (by simp) ⟨by decide, by simp, ?_⟩ (by decide) (by simp) ?_ ?_ ?_ ?_
      · simp [pickS]
        intro x hx
        obtain ⟨k, _, rfl⟩ := List.mem_map.1 hx
        rfl
      · simp
      · simp
      · simp [pickS]
        rw [marksC_ren]
        refine ⟨.inl rfl, .cellsL ?_, .inl rfl⟩
        simp
        exact Wk.freshO 3 [.cells 0 1 []] 1 0 rfl
      · simp [rowsO, gapC]
    intro k hk
    by_cases hkl : k < L + 1
    · have w1 : IntKind.i64.wrap ((k : Int) + 1) = (k : Int) + 1 := wrap_in (by omega) (by omega)
      have hgl := gapC_len n k k
      have hrl := rowsO_len n (fun _ _ => .nilsl) k
      have hgs := gapC_snoc n k
      have hrs := rowsO_succ n (fun _ _ => .nilsl) k
      have hrg : rowG n (fun _ _ => .nilsl) k = List.replicate n (A.d D.nilsl) := by
        apply List.ext_getElem
        · simp [rowG]
        · intro a b c; simp [rowG]
      rw [hrg] at hrs
      simp [show (k : Int) < (L : Int) + 1 by omega, w1, hgl, hrl, hgs, boxO]
      refine ⟨⟨by unfold room; omega, by omega⟩, by unfold room; omega, Nxt.mk (k + 1) (by omega) (by simp) ?_ (by omega) (by simp) (.inr ⟨by simp, ?_⟩)⟩
      · have e : ∀ x y z : Ob, rowsO n (fun _ _ => .nilsl) k ++ [x, y, z] = (rowsO n (fun _ _ => .nilsl) k ++ [x]) ++ [y, z] := fun x y z => by simp
        rw [e, ← hrs]
        simp [SbS_app, boxO]
      · have hl : ∀ s' : Store, s' = loomK N i0 n L (k + 1) → s'.all (Ob.under s'.length) = true := fun s' h => by
          subst h
          rw [loomK_len]
          exact loomK_under _ _ _ _ _
        exact hl _ rfl
    · have h9 : k = L + 1 := by omega
      subst h9
      have hls : ∀ s', s' = loomS N i0 n L (fun k => markN I k 0) (dAt I 0 0) (L + 1) n → (boxO :: .cells 0 6 [.agg [.d (Rep.to N), .d (Rep.to i0), .own 2 0 0 L, .own 3 (L + 1) 0 (L + 1), .d (.int .i64 n), .d .nilsl]] :: .cells 0 1 (marksC L fun _ => 0) :: .cells (L + 1) 1 (gapC n (L + 1) (L + 1)) :: rowsO n (fun _ _ => .nilsl) (L + 1)) = s' := fun s' h => by
        subst h
        unfold loomS loomO
        rw [marksC_congr (q := fun k => markN I k 0) (r := fun _ => 0) fun k _ => rfl, rowsO_congr2 (d := dAt I 0 0) (e := fun _ _ => .nilsl) fun q j _ _ => dAt_start I q j]
      rw [hls _ rfl]
      simp
      refine vc_lp (σ := Nat) (fun p => p ≤ n) (fun p => n - p)
        (fun p => [.any, .any, .ref 0 0 0 0, .any, .d (.int .i64 n), .any, .any, .any, .any, .d (Rep.to I), .ref 1 0 0 0, .any, .any, .any, .any, .any, .any, .any, .any, .any, .any, .any, .any, .d (.int .i64 n), .d (.int .i64 p), .any, .any, .any])
        (fun p => loomS N i0 n L (fun k => markN I k p) (dAt I p 0) (L + 1) n) 0 (by simp) (by simp) (by simp) ?_ (hc := .inl (by simp))
      intro p hp
      by_cases hpn : p < n
      · have w1 : IntKind.i64.wrap ((p : Int) + 1) = (p : Int) + 1 := wrap_in (by omega) (by omega)
        have hpI : p + 1 < I.length := by omega
        have hgp : I.getD (p + 1) [] = I[p + 1] := by simp [List.getD, hpI]
        have hxl : I[p + 1].length ≤ 4096 := by
          have := hIl p hpn
          rw [hgp] at this
          omega
        have hscr : scriptV I[p + 1] i0 = scrV I p := by unfold scrV; rw [hgp, hgI, hi0]
        have hcall := eR_loom_add (f := g4) h4 (names := N) (i0 := i0) (n := n) (L := L) (q := fun k => markN I k p) (d := dAt I p 0) (vg := L + 1) (pn := n) (p := p) (x := I[p + 1]) hxl hLL (by omega) hpn (by omega) (fun k _ => Nat.lt_of_lt_of_le (markN_lt I k p) (pow_le (by omega))) fun k _ => by
          unfold dAt
          rw [if_neg (by omega), if_pos rfl, List.take_zero]
          rfl
        have hnext : loomS N i0 n L (addQ (scriptV I[p + 1] i0) p fun k => markN I k p) (addD I[p + 1] (scriptV I[p + 1] i0) p (dAt I p 0)) (L + 1) n = loomS N i0 n L (fun k => markN I k (p + 1)) (dAt I (p + 1) 0) (L + 1) n := by
          rw [hscr]
          refine loomS_congr (fun k _ => ?_) fun r k _ _ => ?_
          · unfold addQ
            rw [markN]
          · unfold addD dAt
            by_cases h : r = p
            · subst h
              rw [if_pos rfl, if_pos (by omega), hgp]
            · rw [if_neg h]
              by_cases h2 : r < p
              · rw [if_pos h2, if_pos (by omega)]
              · rw [if_neg h2, if_neg h, if_neg (by omega)]
                split <;> rfl
        rw [hnext] at hcall
        simp [show (p : Int) < n by omega, w1, hpI, getD_map, hcall]
        exact ⟨by omega, Nxt.mk (p + 1) (by omega) (by simp) (by simp) (by omega) (by simp) (.inl (by simp))⟩
      · have h9 : p = n := by omega
        subst h9
        simp
        refine Hint.of (T' := [.any, .any, .ref 0 0 0 0, .any, .d (.int .i64 p), .any, .any, .any, .any, .d (Rep.to I), .ref 1 0 0 0, .any, .any, .any, .any, .any, .any, .any, .any, .any, .any, .any, .any, .any, .any, .any, .any, .any]) (s' := [boxO, loomD N i0 (marksT L fun k => markN I k p) (rowsD p (dAt I p 0) (L + 1)) p]) (Re.trans (Sub.re (T' := [.any, .any, .ref 0 0 0 0, .any, .d (.int .i64 p), .any, .any, .any, .any, .d (Rep.to I), .ref 1 0 0 0, .any, .any, .any, .any, .any, .any, .any, .any, .any, .any, .any, .any, .any, .any, .any, .any, .any]) ⟨by simp, by simp, by simp, .inl rfl⟩) (freezeLoom (by omega) (by simp) N i0 p L (fun k => markN I k p) (dAt I p 0) (L + 1) p)) ?_
        have hBn : (100 + 1) * p ≤ 4096 := by omega
        have hp32 : p ≤ 32 := by omega
        have hof := fun k => rowD_of I p k
        have hwv : weaveTo N i0 (marksT L fun k => markN I k p) (rowsD p (dAt I p 0) (L + 1)) (L + 1) = rowsTo N I p (L + 1) := by
          unfold weaveTo rowsTo
          refine flat_congr _ fun k hk => ?_
          have hk : k < L + 1 := by simpa using hk
          have hgd : (rowsD p (dAt I p 0) (L + 1)).getD k .nilsl = .sl 1 (rowD p (dAt I p 0) k) := by
            have := rowsD_get (n := p) (d := dAt I p 0) (m := L + 1) (k := k) hk
            simp [List.getD, this]
          have hdd : ofDD (.sl 1 (rowD p (dAt I p 0) k)) = gapV I p k := by
            show (if 1 = 1 then ofAll (Rep.of (α := List Int)) (rowD p (dAt I p 0) k) else none).getD [] = _
            rw [if_pos rfl, hof k]
            rfl
          unfold weaveRow gapRows
          rw [hgd, hdd, hgI, hi0, hLL]
          congr 1
          by_cases hkL : k < L
          · rw [if_pos hkL, if_pos hkL]
            unfold keptRow
            have : (marksT L fun k => markN I k p).getD k default = ⟨markN I k p⟩ := by simp [marksT, List.getD, hkL]
            rw [this, hgI, hi0]
          · rw [if_neg hkL, if_neg hkL]
        have hok : WeaveOk ⟨N, i0, marksT L fun k => markN I k p, rowsD p (dAt I p 0) (L + 1), p, 0⟩ := by
          refine ⟨by simp [rowsD, hLL], by simp [marksT, hLL], by simp only; omega, fun k hk => ?_, fun k hk => ?_⟩
          · simp only [rowsD, List.length_map, List.length_range] at hk
            refine ⟨rowD p (dAt I p 0) k, gapV I p k, by simp [rowsD], hof k, by rw [gapV_len]; exact hp32, Nat.le_trans (sumL_gap hIl k) hBn, fun m hm => ?_⟩
            obtain ⟨b, hb, hbm⟩ := merged_line hIl hp32 hBn hm
            exact hIm b hb _ hbm
          · exact hIm0 _ (List.getElem_mem _)
        have hml : (marksT L fun k => markN I k p).length = L := by simp [marksT]
        generalize (marksT L fun k => markN I k p) = mt at *
        generalize rowsD p (dAt I p 0) (L + 1) = gd at *
        simp [loomD, boxO, h5, eRCall, hLL, hok, hwv]

end Go.AE

set_option maxRecDepth 20000
set_option maxHeartbeats 4000000
namespace Go.AE

theorem row_ext {a b : RowT} : a = b ↔ a.lost = b.lost ∧ a.marks = b.marks ∧ a.text = b.text := by
  constructor
  · rintro rfl; exact ⟨rfl, rfl, rfl⟩
  · rintro ⟨h1, h2, h3⟩
    cases a; cases b
    simp_all

@[simp] def S_gen_Rows : List D → Prop × D := spec2 (α := List RowT) (β := List RowT) (fun a _ => a.length ≤ 9223372036854775807) (fun a b => .bool (decide (a = b)))
theorem ct_gen_Rows {P : Program} {f : Nat} {G : Gam} (h : CodeOf P f 2 7 [2] x_gen_Rows) (hG : GamOk P G) : Has P f S_gen_Rows := h.has2 hG fun a b h => by
  by_cases hl : a.length = b.length
  · simp [x_gen_Rows, hl]
    refine vc_lp (σ := Nat) (fun i => i ≤ a.length ∧ ∀ k (h : k < a.length) (h2 : k < b.length), k < i → a[k] = b[k]) (fun i => a.length - i) (fun i => [.d (Rep.to a), .d (Rep.to b), .any, .d (.int .i64 i), .any, .any, .any]) (fun _ => []) 0 (by simp) (by simp) ⟨by simp, by simp⟩ ?_
    rintro i ⟨hi, hm⟩
    by_cases hia : i < a.length
    · have hib : i < b.length := by omega
      have w1 : IntKind.i64.wrap ((i : Int) + 1) = (i : Int) + 1 := wrap_in (by omega) (by omega)
      by_cases e : a[i] = b[i]
      · obtain ⟨e1, e2, e3⟩ := row_ext.1 e
        have hnx : ∀ k (h : k < a.length) (h2 : k < b.length), k < i + 1 → a[k] = b[k] := fun k h h2 hk => by
          by_cases hki : k = i
          · subst hki; exact e
          · exact hm k h h2 (by omega)
        simp [hia, hib, show i < b.length from hib, getD_map, pairsOk, eSeq, cellsEq, cellEq, e, w1]
        exact Nxt.mk (i + 1) (by omega) (by simp) (by simp) ⟨by omega, hnx⟩
      · have hne : ¬ (a = b) := fun h => e (by simp only [h])
        have hc : ¬ (a[i].lost = b[i].lost ∧ a[i].marks = b[i].marks ∧ a[i].text = b[i].text) := fun h => e (row_ext.2 h)
        simp [hia, hib, getD_map, pairsOk, eSeq, cellsEq, cellEq, hne]
        exact fun x y z => absurd ⟨x, y, z⟩ hc
    · have h9 : i = a.length := by omega
      subst h9
      have : a = b := List.ext_getElem hl fun k k1 k2 => hm k k1 k2 k1
      simp [hl, this]
  · have hne : ¬ (a = b) := fun h => hl (by rw [h])
    simp [x_gen_Rows, show ¬ ((a.length : Int) = b.length) by omega, hne]

@[simp] def S_gen_Table : List D → Prop × D := spec2 (α := TableT) (β := TableT) (fun a _ => a.rows.length ≤ 9223372036854775807) (fun a b => .bool (decide (a = b)))
theorem ct_gen_Table {P : Program} {f g1 : Nat} {G : Gam} (h : CodeOf P f 2 5 [4] (x_gen_Table g1)) (hG : GamOk P G) (h1 : G.find g1 = some S_gen_Rows) : Has P f S_gen_Table := h.has2 hG fun a b h => by
  obtain ⟨pa, ra⟩ := a
  obtain ⟨pb, rb⟩ := b
  have h : ra.length ≤ 9223372036854775807 := h
  have e : (TableT.mk pa ra = TableT.mk pb rb) = (pa = pb ∧ ra = rb) := by simp
  by_cases hp : pa = pb
  · simp [x_gen_Table, h1, h, hp]
  · simp [x_gen_Table, h1, h, hp]

def pickP (raw : List Int) (n : Int) : Str × List Str := ((blobsV raw (pickN n + 1) 7).getD 0 [], (blobsV raw (pickN n + 1) 7).drop 1)
@[simp] def S_law16_pick : List D → Prop × D := spec2 (α := List Int) (β := Int) (fun raw _ => raw.length ≤ 1048576) (fun raw n => .tup [Rep.to (pickP raw n).1, Rep.to (pickP raw n).2])
theorem ct_law16_pick {P : Program} {f g1 g2 : Nat} {G : Gam} (h : CodeOf P f 2 5 [2, 3] (x_law16_pick g1 g2)) (hG : GamOk P G) (h1 : G.find g1 = some S_gen_Mod) (h2 : G.find g2 = some S_gen_Blobs) : Has P f S_law16_pick := h.has2 hG fun raw n hp => by
  obtain ⟨n1, n2, n3⟩ := pickN_in n
  have w0 : IntKind.i64.wrap (2 + modV n 4) = ((pickN n + 1 : Nat) : Int) := by rw [wrap_in (by omega) (by omega)]; push_cast; omega
  obtain ⟨b, bs, hb, hbl, hb1, hb2⟩ := blobs_cons raw (pickN n)
  have htk : List.take bs.length (List.map (Rep.to (α := Str)) bs) = List.map Rep.to bs := List.take_of_length_le (by simp)
  have hpk : pickP raw n = (b, bs) := by unfold pickP; rw [hb]; rfl
  simp [x_law16_pick, h1, h2, w0, hp, hb, htk, hpk, show ((pickN n : Nat) : Int) + 1 ≤ 1000 by omega]
  omega

theorem pickP_ok (raw : List Int) (n : Int) : Small (pickP raw n).1 (pickP raw n).2 60 ∧ (pickP raw n).2.length = pickN n := by
  obtain ⟨n1, n2, n3⟩ := pickN_in n
  obtain ⟨b, bs, hb, hbl, hb1, hb2⟩ := blobs_cons raw (pickN n)
  have hpk : pickP raw n = (b, bs) := by unfold pickP; rw [hb]; rfl
  rw [hpk]
  exact ⟨⟨hb1, hb2, by simp only; omega, by simp only; omega, by omega, by simp only; omega⟩, hbl⟩

theorem aw16a : makeV [97, 10, 99, 10] [[97, 10, 98, 10], [97, 10, 99, 10]] = ⟨2, [⟨false, 0, [97, 10]⟩, ⟨true, 1, [98, 10]⟩, ⟨false, 1, [99, 10]⟩]⟩ := by decide +kernel

@[simp] def S_law16_awake : List D → Prop × D := spec0 True (.bool true)
theorem ct_law16_awake {P : Program} {f g1 g2 g3 : Nat} {G : Gam} (h : CodeOf P f 0 3 [0] (x_law16_awake g1 g2 g3)) (hG : GamOk P G) (h1 : G.find g1 = some S_weave_Make) (h2 : G.find g2 = some S_gen_Table) (h3 : G.find g3 = some S_weave_Check) : Has P f S_law16_awake := h.has0 hG fun _ => by
  have hmk : makeD [97, 10, 99, 10] [[97, 10, 98, 10], [97, 10, 99, 10]] = .tup [Rep.to (⟨2, [⟨false, 0, [97, 10]⟩, ⟨true, 1, [98, 10]⟩, ⟨false, 1, [99, 10]⟩]⟩ : TableT), .int .i64 0] := by
    rw [← aw16a]
    rfl
  have hok : tabOk ⟨2, [⟨false, 0, [97, 10]⟩, ⟨true, 1, [98, 10]⟩, ⟨false, 1, [99, 10]⟩]⟩ := by
    refine ⟨by simp, ?_, by decide⟩
    intro r hr
    simp at hr
    rcases hr with rfl | rfl | rfl <;> simp [rowOk]
  have e1 : ofAll (Rep.of (α := RowT)) [.agg [.bool false, .int .u32 0, .str [97, 10]], .agg [.bool true, .int .u32 1, .str [98, 10]], .agg [.bool false, .int .u32 1, .str [99, 10]]] = some [⟨false, 0, [97, 10]⟩, ⟨true, 1, [98, 10]⟩, ⟨false, 1, [99, 10]⟩] := rfl
  have e2 : ofAll (Rep.of (α := Str)) [.str [97, 10, 98, 10], .str [97, 10, 99, 10]] = some [[97, 10, 98, 10], [97, 10, 99, 10]] := rfl
  simp [x_law16_awake, h1, h2, h3, hmk, hok, aw17a, e1, e2]

end Go.AE

set_option maxRecDepth 20000
set_option maxHeartbeats 4000000
namespace Go.AE

theorem small_len {r : Str} {ps : List Str} {B : Nat} (h : Small r ps B) : (makeV r ps).rows.length ≤ 9223372036854775807 := by
  have h1 := make_len h
  have h2 := Nat.mul_le_mul (show (B + 1) * ps.length + 1 ≤ 4097 by have := h.b2; omega) (show B + 2 ≤ 102 by have := h.b1; omega)
  omega

theorem small_make {r : Str} {ps : List Str} {B : Nat} (h : Small r ps B) : makeD r ps = .tup [Rep.to (makeV r ps), .int .i64 0] := by
  have := h.n1
  have := h.n2
  unfold makeD
  rw [if_neg (by omega)]

theorem small_pre {r : Str} {ps : List Str} {B : Nat} (h : Small r ps B) : r.length ≤ 100 ∧ ∀ p, p ∈ ps → p.length ≤ 100 := ⟨by have := h.hr; have := h.b1; omega, fun p hp => by have := h.hp p hp; have := h.b1; omega⟩

end Go.AE

set_option maxRecDepth 20000
set_option maxHeartbeats 1000000
namespace Go.AE

theorem ids_same {F : List (List Str)} {p q : Nat} (hp : p < F.length) (hq : q < F.length) (h : F[p] = F[q]) : (idsV F).getD p [] = (idsV F).getD q [] := by
  rw [idsV_getD hp, idsV_getD hq, h]

/-- a parent that is the result has no script -/
theorem scr_self {r : Str} {ps : List Str} {p : Nat} (hp : p < ps.length) (h : ps[p] = r) : scrV (idsV (filesV r ps)) p = [] := by
  unfold scrV
  rw [ids_same (F := filesV r ps) (p := p + 1) (q := 0) (by rw [filesV_len]; omega) (by rw [filesV_len]; omega) (by rw [filesV_succ r ps hp, filesV_zero, h]), scriptV_self]

theorem make_same {r : Str} {ps : List Str} {B : Nat} (hs : Small r ps B) (h : ∀ p, p ∈ ps → p = r) : (∀ x, x ∈ (makeV r ps).rows → x.lost = false ∧ x.marks = 0) ∧ (makeV r ps).rows.length = (linesV r).length := by
  have hscr : ∀ p, p < ps.length → scrV (idsV (filesV r ps)) p = [] := fun p hp => scr_self hp (h _ (List.getElem_mem hp))
  have hrow : ∀ x, x ∈ (makeV r ps).rows → x.lost = false ∧ x.marks = 0 := by
    intro x hx
    rcases make_row hx with ⟨k, m, hm, rfl⟩ | ⟨k, hk, rfl⟩
    · exfalso
      have hg : gapV (idsV (filesV r ps)) ps.length k = List.replicate ps.length [] := by
        unfold gapV
        apply List.ext_getElem
        · simp
        · intro i h1 h2
          simp at h1
          simp only [List.getElem_map, List.getElem_range, List.getElem_replicate]
          rw [hscr i h1]
          rfl
      obtain ⟨_, h2⟩ := merged_ok (xs := gapV (idsV (filesV r ps)) ps.length k) (by rw [gapV_len]; exact hs.n2) (by have := sumL_gap hs.ids k; have := hs.b2; omega)
      have hl := h2.len
      have : sumL (gapV (idsV (filesV r ps)) ps.length k) = 0 := by rw [hg]; simp [sumL]
      rw [this] at hl
      have : mergedV (gapV (idsV (filesV r ps)) ps.length k) = [] := List.length_eq_zero_iff.1 (by omega)
      rw [this] at hm
      cases hm
    · refine ⟨rfl, ?_⟩
      have : markN (idsV (filesV r ps)) k ps.length = 0 := by
        apply Nat.eq_of_testBit_eq
        intro p
        rw [markN_bit, Nat.zero_testBit]
        by_cases hp : p < ps.length
        · rw [hscr p hp]; simp [insB]
        · simp [hp]
      simp [this]
  refine ⟨hrow, ?_⟩
  have := make_res (r := r) (ps := ps)
  rw [← this]
  unfold colV
  rw [List.filter_eq_self.2]
  · simp
  · intro x hx
    rw [vis_res, (hrow x hx).1]
    rfl

/-- equal parents have equal marks -/
theorem make_twice {r : Str} {ps : List Str} {B : Nat} (hs : Small r ps B) {p q : Nat} (hp : p < ps.length) (hq : q < ps.length) (h : ps[p] = ps[q]) {x : RowT} (hx : x ∈ (makeV r ps).rows) (hl : x.lost = false) : x.marks.toNat.testBit p = x.marks.toNat.testBit q := by
  rcases make_row hx with ⟨k, m, hm, rfl⟩ | ⟨k, hk, rfl⟩
  · cases hl
  · simp only [Int.toNat_natCast]
    rw [markN_bit, markN_bit]
    have : scrV (idsV (filesV r ps)) p = scrV (idsV (filesV r ps)) q := by
      unfold scrV
      rw [ids_same (F := filesV r ps) (p := p + 1) (q := q + 1) (by rw [filesV_len]; omega) (by rw [filesV_len]; omega) (by rw [filesV_succ r ps hp, filesV_succ r ps hq, h])]
    rw [this]
    simp [hp, hq]

end Go.AE

set_option maxRecDepth 20000
set_option maxHeartbeats 1000000
namespace Go.AE

end Go.AE

set_option maxRecDepth 20000
set_option maxHeartbeats 4000000
namespace Go.AE

theorem getU_zero (m : Int) (h : 0 ≤ m) : getU m 0 = IntKind.u32.wrap ↑((m % 2 ^ IntKind.u32.bits).toNat &&& 1 % 2 ^ IntKind.u32.bits) := by
  unfold getU
  simp

@[simp] def S_law16_WeaveSame : List D → Prop × D := spec2 (α := List Int) (β := Int) (fun raw _ => raw.length ≤ 1048576) (fun _ _ => .bool true)
theorem ct_law16_WeaveSame {P : Program} {f g1 g2 g3 g4 g5 : Nat} {G : Gam} (h : CodeOf P f 2 20 [2] (x_law16_WeaveSame g1 g2 g3 g4 g5)) (hG : GamOk P G) (h1 : G.find g1 = some S_law16_pick) (h2 : G.find g2 = some S_gen_Mod) (h3 : G.find g3 = some S_weave_Make) (h4 : G.find g4 = some S_ref02_Lines) (h5 : G.find g5 = some S_law16_awake) : Has P f S_law16_WeaveSame := h.has2 hG fun raw n p1 => by
  obtain ⟨hs, hpl⟩ := pickP_ok raw n
  have hpre := small_pre hs
  generalize hpk : pickP raw n = pk at *
  obtain ⟨r, ps⟩ := pk
  simp only at hs hpre hpl
  have hn := pickN_in n
  obtain ⟨m1, m2⟩ := modV_lt n (n := 32) (by omega)
  obtain ⟨K, hK⟩ : ∃ K : Nat, 1 + modV n 32 = K := ⟨(1 + modV n 32).toNat, by omega⟩
  have wK : IntKind.i64.wrap (1 + modV n 32) = K := by rw [hK]; exact wrap_in (by omega) (by omega)
  have hp0 : 0 < ps.length := by omega
  have s1 : Small r (List.replicate K r) 60 := ⟨hs.hr, fun p hp => by rw [(List.mem_replicate.1 hp).2]; exact hs.hr, by simp; omega, by simp; omega, by omega, by simp; omega⟩
  have s2 : Small r (ps ++ [ps[0]]) 60 := ⟨hs.hr, fun p hp => by
    rcases List.mem_append.1 hp with hp | hp
    · exact hs.hp p hp
    · rw [List.mem_singleton.1 hp]
      exact hs.hp _ (List.getElem_mem _), by simp, by simp; omega, by omega, by simp; omega⟩
  have k1 := small_make s1
  have k2 := small_make s2
  have q1 := small_pre s1
  have q2 := small_pre s2
  have l1 := small_len s1
  have l2 := small_len s2
  obtain ⟨e1, e2⟩ := make_same s1 fun p hp => (List.mem_replicate.1 hp).2
  have e3 := fun x hx hl => make_twice s2 (p := ps.length) (q := 0) (by simp) (by simp) (by simp [List.getElem_append, hp0]) (x := x) hx hl
  have e4 := fun x hx => make_marks s2 (x := x) hx
  have hrr := hs.hr
  generalize ht : makeV r (List.replicate K r) = t at *
  generalize hu : makeV r (ps ++ [ps[0]]) = u at *
  obtain ⟨pt, rt⟩ := t
  obtain ⟨pu, ru⟩ := u
  simp only at e1 e2 e3 e4 l1 l2
  simp [x_law16_WeaveSame, h1, h2, p1, hpk, wK]
  refine vc_lp (σ := Nat) (fun i => i ≤ K) (fun i => K - i)
    (fun i => [.any, .any, .any, .d (.str r), .d (Rep.to ps), .d (.int .i64 K), .gr 0 1 ((List.replicate i r).map Rep.to), .d (.int .i64 i), .any, .any, .any, .any, .any, .any, .any, .any, .any, .any, .any, .any]) (fun i => [.tip i]) 0 (by simp) (by simp) (by simp) ?_
  intro i hi
  by_cases hiK : i < K
  · have w1 : IntKind.i64.wrap ((i : Int) + 1) = (i : Int) + 1 := wrap_in (by omega) (by omega)
    have hrs : List.replicate (i + 1) (D.str r) = List.replicate i (D.str r) ++ [D.str r] := List.replicate_succ'
    simp [hiK, w1]
    exact ⟨by unfold room; omega, Nxt.mk (i + 1) (by omega) (by simp [hrs]) (by simp) (by omega)⟩
  · have h9 : i = K := by omega
    subst h9
    have er : ofAll (Rep.of (α := Str)) (List.replicate i (.str r)) = some (List.replicate i r) := by
      have := ofAll_to (List.replicate i r)
      rw [List.map_replicate] at this
      exact this
    have ea : ofAll (Rep.of (α := Str)) (List.map Rep.to ps ++ [.str ps[0]]) = some (ps ++ [ps[0]]) := by
      have := ofAll_to (ps ++ [ps[0]])
      rw [List.map_append] at this
      exact this
    simp [h3, h4, er, ea, q1, q2, k1, k2, hp0, getD_map, e2, show r.length ≤ 4194304 by omega]
    have hlr : (linesV r).length ≤ 61 := linesV_le hrr
    refine ⟨by unfold room; omega, by unfold room; omega, fun p hp => q2.2 p (by simpa using hp), ?_⟩
    refine vc_lp (σ := Nat) (fun c => c ≤ rt.length) (fun c => rt.length - c)
      (fun c => [.any, .any, .any, .any, .d (Rep.to ps), .any, .any, .any, .ref 1 0 0 0, .any, .ref 5 0 0 0, .any, .d (.int .i64 c), .any, .any, .any, .any, .any, .any, .any])
      (fun _ => [.tip i, .cells 0 2 [.d (Rep.to (⟨pt, rt⟩ : TableT))], .tip (ps.length + 1), .res, .res, .cells 0 2 [.d (Rep.to (⟨pu, ru⟩ : TableT))]]) 0 (by simp) (by simp) (by simp) ?_
    intro c hc
    by_cases hcl : c < rt.length
    · have w1 : IntKind.i64.wrap ((c : Int) + 1) = (c : Int) + 1 := wrap_in (by omega) (by omega)
      obtain ⟨f1, f2⟩ := e1 _ (List.getElem_mem hcl)
      simp [hcl, getD_map, f1, f2, w1]
      exact Nxt.mk (c + 1) (by omega) (by simp) (by simp) (by omega)
    · have h9 : c = rt.length := by omega
      subst h9
      simp
      refine vc_lp (σ := Nat) (fun c => c ≤ ru.length) (fun c => ru.length - c)
        (fun c => [.any, .any, .any, .any, .d (Rep.to ps), .any, .any, .any, .any, .any, .ref 5 0 0 0, .any, .any, .d (.int .i64 c), .any, .any, .any, .any, .any, .any])
        (fun _ => [.tip i, .cells 0 2 [.d (Rep.to (⟨pt, rt⟩ : TableT))], .tip (ps.length + 1), .res, .res, .cells 0 2 [.d (Rep.to (⟨pu, ru⟩ : TableT))]]) 0 (by simp) (by simp) (by simp) ?_
      intro c hc
      by_cases hcl : c < ru.length
      · have w1 : IntKind.i64.wrap ((c : Int) + 1) = (c : Int) + 1 := wrap_in (by omega) (by omega)
        cases hl : ru[c].lost with
        | true =>
          simp [hcl, getD_map, hl, w1]
          exact Nxt.mk (c + 1) (by omega) (by simp) (by simp) (by omega)
        | false =>
          have htw := e3 _ (List.getElem_mem hcl) hl
          obtain ⟨m, g1', g2', _⟩ := e4 _ (List.getElem_mem hcl)
          rw [g1', Int.toNat_natCast] at htw
          have hlt : m < 4294967296 := Nat.lt_of_lt_of_le g2' (pow_le s2.n2)
          have hg := getU_nat hlt (show ps.length < 32 by omega)
          have hg0 := getU_nat hlt (show 0 < 32 by omega)
          have e : getU m ps.length = IntKind.u32.wrap ↑(((m : Int).fdiv (2 ^ min ps.length IntKind.u32.bits) % 2 ^ IntKind.u32.bits).toNat &&& 1 % 2 ^ IntKind.u32.bits) := rfl
          have e0 : getU m ((0 : Nat) : Int) = IntKind.u32.wrap ↑(m % 2 ^ IntKind.u32.bits &&& 1 % 2 ^ IntKind.u32.bits) := by
            have := getU_zero m (by omega)
            rw [show ((0 : Nat) : Int) = 0 from rfl, this]
            have h2 : ((m : Int) % 2 ^ IntKind.u32.bits).toNat = m % 2 ^ IntKind.u32.bits := by
              have a1 : (2 : Int) ^ IntKind.u32.bits = 4294967296 := rfl
              have a2 : (2 : Nat) ^ IntKind.u32.bits = 4294967296 := rfl
              rw [a1, a2]
              omega
            rw [h2]
          rw [htw, ← hg0, e0] at hg
          simp [hcl, getD_map, hl, g1', u64_wrap (show ps.length < 18446744073709551616 by omega), ← e, hg, w1]
          exact Nxt.mk (c + 1) (by omega) (by simp) (by simp) (by omega)
      · have h9 : c = ru.length := by omega
        subst h9
        simp [h5]

theorem law16_WeaveSame_pre (raw : List Int) (n : Int) (_ : Arg.wf raw) (_ : Arg.wf n) (h : Arg.bulk raw + (Arg.bulk n + 0) ≤ 1048576) : raw.length ≤ 1048576 := by
  have := len_bulk raw
  omega

end Go.AE
