/-
  Contracts of the document's numbers of strings.
-/
import Derived.Test.YtgmdpmpmbhahhaaCon1
import Derived.Test.YtgmdpmpmbhahhaaCode1
import Derived.Test.YtgmdpmpmbhahhaaCode2
import Derived.Test.YtgmdpmpmbhahhaaAe3
import Derived.Lib.Bytealg
import Derived.Lib.IndexLaws
import Derived.Lib.Join
import Derived.Lib.Split
import Derived.Lib.SplitLaws
import Derived.Lib.Strings

set_option linter.unusedSimpArgs false
set_option linter.unusedVariables false
set_option linter.unnecessarySimpa false

namespace Go.AE

def placeV (l : List Str) (x : Str) : Int := match l.findIdx? (· == x) with | some i => (i : Int) | none => -1

theorem placeV_some {l : List Str} {x : Str} {i : Nat} (h : i < l.length) (h1 : l[i] = x) (h2 : ∀ k (h : k < l.length), k < i → l[k] ≠ x) : placeV l x = i := by
  have : l.findIdx? (· == x) = some i := by
    rw [List.findIdx?_eq_some_iff_getElem]
    exact ⟨h, by simpa using h1, fun j hj => by simpa using h2 j (by omega) hj⟩
  simp [placeV, this]

theorem placeV_none {l : List Str} {x : Str} (h2 : ∀ k (h : k < l.length), l[k] ≠ x) : placeV l x = -1 := by
  have : l.findIdx? (· == x) = none := by
    rw [List.findIdx?_eq_none_iff]
    intro y hy
    obtain ⟨k, hk, rfl⟩ := List.getElem_of_mem hy
    simpa using h2 k hk
  simp [placeV, this]

@[simp] def S_ref03_place : List D → Prop × D := spec2 (α := List Str) (β := Str) (fun a _ => a.length ≤ 9223372036854775807) (fun a b => Rep.to (placeV a b))

theorem ct_ref03_place {P : Program} {f : Nat} {G : Gam} (h : CodeOf P f 2 6 [2] x_ref03_place) (hG : GamOk P G) : Has P f S_ref03_place := h.has2 hG fun l x h => by
  simp [x_ref03_place]
  refine vc_ghost (σ := Nat) [true, true, false, true] 0 (fun i => i ≤ l.length ∧ ∀ k (h : k < l.length), k < i → l[k] ≠ x) (fun i => l.length - i) (fun i => [.d (Rep.to l), .d (Rep.to x), .any, .d (.int .i64 i), .any, .any]) (fun i => []) 0 (Nat.le_refl _) (by simp) (by simp) ?_
  rintro i ⟨hm, hi⟩
  simp
  refine ⟨fun h2 => ?_, fun h2 => ?_⟩
  · simp [getD_map, h2, add1 h2 h]
    refine ⟨fun h3 => (placeV_some h2 h3 hi).symm, fun h3 => ⟨i + 1, by omega, by simp, by omega, fun k k1 k2 => ?_⟩⟩
    rcases Nat.lt_or_ge k i with k4 | k4
    · exact hi k k1 k4
    · have : k = i := by omega
      subst this
      exact h3
  · exact (placeV_none fun k k1 => hi k k1 (by omega)).symm

/-- the different strings, in the order of their first places -/
def addV (out : List Str) (x : Str) : List Str := if x ∈ out then out else out ++ [x]
def namesV (l : List (List Str)) : List Str := l.flatten.foldl addV []

theorem addV_len (out : List Str) (x : Str) : (addV out x).length ≤ out.length + 1 := by
  unfold addV; split <;> simp
theorem fold_len (xs : List Str) : ∀ out : List Str, (xs.foldl addV out).length ≤ out.length + xs.length := by
  induction xs with
  | nil => intro out; simp
  | cons x xs ih => intro out; have := ih (addV out x); have := addV_len out x; simp; omega

theorem take_flat_le {α : Type} (l : List (List α)) (i : Nat) : (l.take i).flatten.length ≤ l.flatten.length := by
  have : l.flatten = (l.take i).flatten ++ (l.drop i).flatten := by rw [← List.flatten_append, List.take_append_drop]
  rw [this]; simp
theorem mem_flat_le {α : Type} {l : List (List α)} {i : Nat} (h : i < l.length) : (l.take i).flatten.length + l[i].length ≤ l.flatten.length := by
  have h1 := take_flat_le l (i + 1)
  rw [take_snoc h] at h1
  simpa only [List.flatten_append, List.length_append, List.flatten_cons, List.flatten_nil, List.append_nil] using h1

def part (l : List (List Str)) (i j : Nat) : List Str := ((l.take i).flatten ++ (l.getD i []).take j).foldl addV []

theorem part_step {l : List (List Str)} {i j : Nat} (h : i < l.length) (hj : j < l[i].length) : part l i (j + 1) = addV (part l i j) l[i][j] := by
  unfold part
  have : l.getD i [] = l[i] := by simp [List.getD, h]
  rw [this, take_snoc hj, ← List.append_assoc, List.foldl_append]
  rfl
theorem part_next {l : List (List Str)} {i : Nat} (h : i < l.length) : part l i l[i].length = part l (i + 1) 0 := by
  unfold part
  have : l.getD i [] = l[i] := by simp [List.getD, h]
  rw [this, take_snoc h]
  simp only [List.flatten_append, List.flatten_cons, List.flatten_nil, List.append_nil, List.take_zero, List.take_length]
theorem part_end (l : List (List Str)) : part l l.length 0 = namesV l := by simp [part, namesV]
theorem part_len {l : List (List Str)} {i j : Nat} (h : i < l.length) (hj : j ≤ l[i].length) : (part l i j).length ≤ l.flatten.length := by
  have h1 := fold_len ((l.take i).flatten ++ (l.getD i []).take j) []
  have : l.getD i [] = l[i] := by simp [List.getD, h]
  have h2 := mem_flat_le h
  rw [this] at h1
  simp only [List.length_append, List.length_take, List.length_nil] at h1
  unfold part
  rw [this]
  omega

theorem addV_in {out : List Str} {x : Str} (h : placeV out x ≥ 0) : addV out x = out := by
  unfold addV
  by_cases hx : x ∈ out
  · simp [hx]
  · exfalso
    rw [placeV_none (fun k hk (he : out[k] = x) => hx (by rw [← he]; exact List.getElem_mem _))] at h
    omega
theorem addV_out {out : List Str} {x : Str} (h : placeV out x < 0) : addV out x = out ++ [x] := by
  unfold addV
  have : x ∉ out := by
    intro hx
    unfold placeV at h
    cases hf : out.findIdx? (· == x) with
    | some i => rw [hf] at h; simp only at h; omega
    | none =>
      rw [List.findIdx?_eq_none_iff] at hf
      simpa using hf x hx
  simp [this]

def smallL (l : List (List Str)) : Prop := l.length ≤ 1048576 ∧ l.flatten.length ≤ 1048576

@[simp] def S_ref03_Names : List D → Prop × D := spec1 (α := List (List Str)) smallL (fun a => Rep.to (namesV a))

theorem ct_ref03_Names {P : Program} {f g : Nat} {G : Gam} (h : CodeOf P f 1 8 [1] (x_ref03_Names g)) (hG : GamOk P G) (hg : G.find g = some S_ref03_place) : Has P f S_ref03_Names := h.has1 hG fun l hp => by
  obtain ⟨h, h0⟩ := hp
  simp [x_ref03_Names]
  refine vc_loop _ _ _ _ _ [true, false, true, true] 1 (fun m T s => ∃ i : Nat, i + m = l.length ∧ s = [.tip (part l i 0).length] ∧ T = [.d (Rep.to l), .any, .gr 0 1 ((part l i 0).map Rep.to), .d (.int .i64 i), .any, .any, .any, .any]) _ (by omega) (by simp [inScope]) ⟨l.length, 0, by simp [part]⟩ ?_
  rintro m T s ⟨i, hm, rfl, rfl⟩
  simp
  refine ⟨fun h1 => ?_, fun h1 => ?_⟩
  · refine vc_loop _ _ _ _ _ [true, false, true, true, true] 1 (fun m T s => ∃ j : Nat, j + m = l[i].length ∧ s = [.tip (part l i j).length] ∧ T = [.d (Rep.to l), .any, .gr 0 1 ((part l i j).map Rep.to), .d (.int .i64 i), .d (.int .i64 j), .any, .any, .any]) _ (by omega) (by simp [inScope]) ⟨l[i].length, 0, by simp⟩ ?_
    rintro m2 T s ⟨j, hm2, rfl, rfl⟩
    have h2 := mem_flat_le h1
    simp [getD_map, h1]
    refine ⟨fun h3 => ?_, fun h3 => ?_⟩
    · have h4 := part_len (l := l) h1 (j := j) (by omega)
      have e := add1 h3 (by omega : l[i].length ≤ _)
      simp [getD_map, h1, h3, e, inScope, hg]
      refine ⟨by omega, fun h5 => ⟨by unfold room; omega, m2 - 1, by omega, j + 1, by omega, ?_⟩, fun h5 => ⟨m2 - 1, by omega, j + 1, by omega, ?_⟩⟩
      · rw [part_step h1 h3, addV_out h5]
        simp
      · rw [part_step h1 h3, addV_in h5]
        simp
    · have h5 : j = l[i].length := by omega
      subst h5
      simp [getD_map, h1, add1 h1 (by omega : l.length ≤ _), inScope]
      refine ⟨m - 1, by omega, i + 1, by omega, ?_⟩
      rw [part_next h1]
      simp
  · have : i = l.length := by omega
    subst this
    simp [part_end]

theorem namesV_len (l : List (List Str)) : (namesV l).length ≤ l.flatten.length := by
  have := fold_len l.flatten []
  simpa [namesV] using this

def idsV (l : List (List Str)) : List (List Int) := l.map fun x => x.map (placeV (namesV l))

theorem elem_flat_le {α : Type} {l : List (List α)} {i : Nat} (h : i < l.length) : l[i].length ≤ l.flatten.length := by
  have := mem_flat_le h; omega

@[simp] def S_ref03_Ids : List D → Prop × D := spec1 (α := List (List Str)) smallL (fun a => Rep.to (idsV a))

theorem ct_ref03_Ids {P : Program} {f g1 g2 : Nat} {G : Gam} (h : CodeOf P f 1 9 [1] (x_ref03_Ids g1 g2)) (hG : GamOk P G) (hg1 : G.find g1 = some S_ref03_Names) (hg2 : G.find g2 = some S_ref03_place) : Has P f S_ref03_Ids := h.has1 hG fun l hp => by
  obtain ⟨h, h0⟩ := hp
  have hn := namesV_len l
  have hN : (namesV l).length ≤ 9223372036854775807 := by omega
  simp [x_ref03_Ids, hg1]
  refine ⟨⟨h, h0⟩, ?_⟩
  refine vc_loop _ _ _ _ _ [true, false, true, true, true] 1 (fun m T s => ∃ (i : Nat) (out : List (List Int)), i + m = l.length ∧ s = [.tip i] ∧ T = [.d (Rep.to l), .any, .d (Rep.to (namesV l)), .gr 0 1 (out.map Rep.to), .d (.int .i64 i), .any, .any, .any, .any] ∧ out.length = i ∧ Eqv out ((l.take i).map fun x => x.map (placeV (namesV l)))) _ (by omega) (by simp [inScope]) ⟨l.length, 0, [], by simp [Eqv]⟩ ?_
  rintro m T s ⟨i, out, hm, rfl, rfl, hol, ho⟩
  simp
  refine ⟨fun h1 => ?_, fun h1 => ?_⟩
  · refine vc_loop _ _ _ _ _ [true, false, true, true, true, true, true] 2 (fun m T s => ∃ (j : Nat) (o2 : List Int), j + m = l[i].length ∧ s = [.tip i, .tip j] ∧ T = [.d (Rep.to l), .any, .d (Rep.to (namesV l)), .gr 0 1 (out.map Rep.to), .d (.int .i64 i), .gr 1 1 (o2.map Rep.to), .d (.int .i64 j), .any, .any] ∧ o2.length = j ∧ Eqv o2 ((l[i].take j).map (placeV (namesV l)))) _ (by omega) (by simp [inScope]) ⟨l[i].length, 0, [], by simp [Eqv]⟩ ?_
    rintro m2 T s ⟨j, o2, hm2, rfl, rfl, hol2, ho2⟩
    have h2 := elem_flat_le h1
    simp [getD_map, h1]
    refine ⟨fun h3 => ?_, fun h3 => ?_⟩
    · have e := add1 h3 (by omega : l[i].length ≤ _)
      simp [getD_map, h1, h3, e, inScope, hN, hol2, hg2]
      refine ⟨by unfold room; omega, m2 - 1, by omega, j + 1, by omega, rfl, o2 ++ [placeV (namesV l) l[i][j]], ⟨by simp, by simp⟩, by simp [hol2], ?_⟩
      unfold Eqv at *
      rw [← List.map_take, take_snoc h3, List.map_append, ← ho2]; rfl
    · have h5 : j = l[i].length := by omega
      simp [getD_map, h1, add1 h1 (by omega : l.length ≤ _), inScope, hol]
      refine ⟨by unfold room; omega, m - 1, by omega, i + 1, by omega, rfl, out ++ [o2], ⟨by simp, by simp⟩, by simp [hol], ?_⟩
      unfold Eqv at *
      rw [← List.map_take, take_snoc h1, List.map_append, ← ho, ho2, h5, List.take_length]; rfl
  · have : i = l.length := by omega
    unfold Eqv at ho
    rw [this, List.take_length] at ho
    rw [ho]
    rfl

def okId (names : List Str) (i : Int) : Prop := 0 ≤ i ∧ i < names.length
instance (names : List Str) (i : Int) : Decidable (okId names i) := inferInstanceAs (Decidable (_ ∧ _))
def spellV (names : List Str) (ids : List Int) : List Str := ids.map fun i => names.getD i.toNat []
def spellD (names : List Str) (ids : List Int) : D := if ∀ x, x ∈ ids → okId names x then .tup [Rep.to (spellV names ids), .int .i64 0] else .tup [Rep.to ([] : List Str), .int .i64 3]

theorem spell_bad {names : List Str} {ids : List Int} {i : Nat} (h : i < ids.length) (hb : ¬ okId names ids[i]) : spellD names ids = D.tup [Rep.to ([] : List Str), D.int .i64 3] := by
  unfold spellD
  rw [if_neg]
  intro h2
  exact hb (h2 _ (List.getElem_mem _))

theorem spell_step {names : List Str} {ids : List Int} {i : Nat} (h : i < ids.length) : spellV names (ids.take (i + 1)) = spellV names (ids.take i) ++ [names.getD ids[i].toNat []] := by
  unfold spellV; rw [take_snoc h, List.map_append]; rfl

@[simp] def S_ref03_Spell : List D → Prop × D := spec2 (α := List Str) (β := List Int) (fun _ ids => ids.length ≤ 1048576) (fun names ids => spellD names ids)

theorem ct_ref03_Spell {P : Program} {f : Nat} {G : Gam} (h : CodeOf P f 2 8 [2, 3] x_ref03_Spell) (hG : GamOk P G) : Has P f S_ref03_Spell := h.has2 hG fun names ids h => by
  simp [x_ref03_Spell]
  refine vc_loop _ _ _ _ _ [true, true, false, false, true, true] 1 (fun m T s => ∃ (i : Nat) (out : List Str), i + m = ids.length ∧ s = [.tip i] ∧ T = [.d (Rep.to names), .d (Rep.to ids), .any, .any, .gr 0 1 (out.map Rep.to), .d (.int .i64 i), .any, .any] ∧ out.length = i ∧ Eqv out (spellV names (ids.take i)) ∧ ∀ x, x ∈ ids.take i → okId names x) _ (by omega) (by simp [inScope]) ⟨ids.length, 0, [], by simp [spellV, Eqv]⟩ ?_
  rintro m T s ⟨i, out, hm, rfl, rfl, hol, ho, hi⟩
  simp
  refine ⟨fun h1 => ?_, fun h1 => ?_⟩
  · have e := add1 h1 (by omega : ids.length ≤ _)
    simp [getD_map, h1, e, inScope]
    refine ⟨fun h2 => (by rw [spell_bad h1 (fun hk => by unfold okId at hk; omega)]; simp), fun h2 => ⟨fun h3 => (by rw [spell_bad h1 (fun hk => by unfold okId at hk; omega)]; simp), fun h3 => ?_⟩⟩
    have ss := spell_step (names := names) h1
    have e2 : names[ids[i].toNat]? = some (names.getD ids[i].toNat []) := by
      have : ids[i].toNat < names.length := by omega
      simp [List.getD, this]
    generalize names.getD ids[i].toNat [] = y at ss e2
    simp [e2, hol]
    refine ⟨⟨h2, h3⟩, by unfold room; omega, m - 1, by omega, i + 1, by omega, rfl, out ++ [y], ⟨by simp, by simp⟩, by simp [hol], by unfold Eqv at *; rw [ss, ho], fun x hx => ?_⟩
    rw [take_snoc h1] at hx
    rcases List.mem_append.1 hx with hx | hx
    · exact hi x hx
    · rw [List.mem_singleton] at hx
      subst hx
      exact ⟨h2, h3⟩
  · have : i = ids.length := by omega
    unfold Eqv at ho
    rw [this, List.take_length] at ho hi
    unfold spellD
    rw [if_pos hi, ho]
    simp


end Go.AE

namespace Go.AE

def tabV : Nat → List Str → List (D × D)
  | _, [] => []
  | k, x :: r => (.str x, .int .i64 k) :: tabV (k + 1) r

theorem tabV_snoc (x : Str) : ∀ (k : Nat) (l : List Str), tabV k (l ++ [x]) = tabV k l ++ [(.str x, .int .i64 ((k + l.length : Nat) : Int))] := by
  intro k l
  induction l generalizing k with
  | nil => simp [tabV]
  | cons y l ih =>
    simp only [List.cons_append, tabV, ih, List.length_cons]
    rw [show k + 1 + l.length = k + (l.length + 1) by omega]

theorem placeV_cons (y : Str) (l : List Str) (x : Str) : placeV (y :: l) x = if y = x then 0 else if x ∈ l then placeV l x + 1 else -1 := by
  by_cases h : y = x
  · rw [if_pos h]; exact placeV_some (i := 0) (by simp) h (fun k _ hk => by omega)
  · rw [if_neg h]
    by_cases hx : x ∈ l
    · rw [if_pos hx]
      unfold placeV
      rw [List.findIdx?_cons]
      have : (y == x) = false := by simpa using h
      simp only [this]
      cases hf : l.findIdx? (· == x) with
      | none =>
        rw [List.findIdx?_eq_none_iff] at hf
        exact absurd (hf x hx) (by simp)
      | some i => simp
    · rw [if_neg hx]
      refine placeV_none (fun k hk => ?_)
      cases k with
      | zero => simpa using h
      | succ k =>
        simp only [List.length_cons, List.getElem_cons_succ] at hk ⊢
        intro he
        exact hx (by rw [← he]; exact List.getElem_mem _)

theorem mlook_tab (x : Str) : ∀ (k : Nat) (l : List Str), mlook (.str x) (tabV k l) = if x ∈ l then some (.int .i64 (k + placeV l x)) else none := by
  intro k l
  induction l generalizing k with
  | nil => rfl
  | cons y l ih =>
    simp only [tabV, mlook, keyEq, decide_eq_true_eq, ih, placeV_cons, List.mem_cons]
    by_cases h : x = y
    · subst h; simp
    · have h2 : ¬ y = x := fun e => h e.symm
      simp only [h, h2, if_false, false_or]
      by_cases hx : x ∈ l
      · simp only [hx, if_true, Option.some.injEq, D.int.injEq, true_and]
        omega
      · simp [hx]

theorem mset_tab {x : Str} (v : D) : ∀ (k : Nat) (l : List Str), x ∉ l → mset (.str x) v (tabV k l) = tabV k l ++ [(.str x, v)] := by
  intro k l
  induction l generalizing k with
  | nil => intro _; rfl
  | cons y l ih =>
    intro h
    simp only [List.mem_cons, not_or] at h
    simp [tabV, mset, keyEq, h.1, ih (k + 1) h.2]

theorem keys_tab (x : Str) (k : Nat) (l : List Str) : keysOk 1 (.str x) (tabV k l) := by
  refine ⟨rfl, ?_⟩
  induction l generalizing k with
  | nil => intro e he; simp [tabV] at he
  | cons y l ih =>
    intro e he
    simp only [tabV, List.mem_cons] at he
    rcases he with rfl | he
    · exact ⟨rfl, trivial⟩
    · exact ih (k + 1) e he

/-- the table: at the first object, with its map and its list -/
def tabS (v : Nat) (nil : Bool) (names : List Str) : Store :=
  if nil = true then [.cells v 2 [.agg [.mp 1, .d .nilsl]], .map [], .res] else [.cells v 2 [.agg [.mp 1, .gr 2 1 (names.map Rep.to)]], .map (tabV 0 names), .tip names.length]

theorem id_old {P : Program} {f : Nat} (hc : CodeOf P f 2 6 [2] x_intern_table_id) {v : Nat} {names : List Str} {x : Str} (h : x ∈ names) : RCalls P f [.ref 0 v 0 0, .d (.str x)] (tabS v false names) (.d (.int .i64 (placeV names x))) (tabS v false names) := by
  refine hc.rcalls (GamOk.nil _) rfl ?_
  simp [x_intern_table_id, tabS, startA, mlook_tab, h, keys_tab]
  exact ⟨by simp [resPre], [0, 1, 2], rfl, ⟨by decide, by simp, rfl⟩, fun k hk => .inl (by match k, hk with | 0, _ => rfl | 1, _ => rfl | 2, _ => rfl), rfl, rfl, rfl⟩

theorem id_new {P : Program} {f : Nat} (hc : CodeOf P f 2 6 [2] x_intern_table_id) {v : Nat} {names : List Str} {x : Str} (h : x ∉ names) (hn : names.length ≤ 1048576) : RCalls P f [.ref 0 v 0 0, .d (.str x)] (tabS v false names) (.d (.int .i64 names.length)) (tabS v false (names ++ [x])) := by
  refine hc.rcalls (GamOk.nil _) rfl ?_
  simp [x_intern_table_id, tabS, startA, mlook_tab, h, keys_tab, mset_tab]
  refine ⟨by unfold room; omega, by simp [resPre], [0, 1, 2], rfl, ⟨by decide, by simp, rfl⟩, fun k hk => .inl (by match k, hk with | 0, _ => rfl | 1, _ => rfl | 2, _ => rfl), ?_, rfl, rfl⟩
  rw [tabV_snoc]
  simp

theorem id_nil {P : Program} {f : Nat} (hc : CodeOf P f 2 6 [2] x_intern_table_id) {v : Nat} {x : Str} : RCalls P f [.ref 0 v 0 0, .d (.str x)] (tabS v true []) (.d (.int .i64 0)) (tabS v false [x]) := by
  refine hc.rcalls (GamOk.nil _) rfl ?_
  simp [x_intern_table_id, tabS, startA, mlook, mset]
  exact ⟨⟨rfl, fun e he => by simp at he⟩, by unfold room; omega, by simp [resPre], [0, 1, 3], rfl, ⟨by decide, by simp, rfl⟩, fun k hk => (by match k, hk with | 0, _ => exact .inl rfl | 1, _ => exact .inl rfl | 2, _ => exact .inr rfl), rfl, rfl, rfl⟩

def idRen (args : List A) (s : Store) (nw : Nat) : List Nat :=
  match args with
  | [.ref t _ 0 0, .d (.str _)] => match s.getD t .dead with
    | .cells _ 2 [.agg [.mp m, .gr l 1 _]] => [t, m, l]
    | .cells _ 2 [.agg [.mp m, .d .nilsl]] => [t, m, nw]
    | _ => [t]
  | _ => []

def idSpec (args : List A) (s0 : Store) : Prop × Store × A :=
  match args, s0 with
  | [.ref 0 v 0 0, .d (.str x)], [.cells v' 2 [.agg [.mp 1, .d .nilsl]], .map [], .res] => (v = v', tabS v false [x], .d (.int .i64 0))
  | [.ref 0 v 0 0, .d (.str x)], [.cells v' 2 [.agg [.mp 1, .gr 2 1 ns]], .map es, .tip n] => match ofAll (Rep.of (α := Str)) ns with
    | some names => (v = v' ∧ ns = names.map Rep.to ∧ es = tabV 0 names ∧ n = names.length ∧ names.length ≤ 1048576, tabS v false (addV names x), .d (.int .i64 (placeV (addV names x) x)))
    | none => (False, [], .any)
  | _, _ => (False, [], .any)

theorem placeV_snoc {names : List Str} {x : Str} (h : x ∉ names) : placeV (names ++ [x]) x = names.length := by
  refine placeV_some (i := names.length) (by simp) (by simp) (fun k hk hlt he => h ?_)
  rw [List.getElem_append_left hlt] at he
  rw [← he]
  exact List.getElem_mem _

abbrev R_intern_table_id : RSpec := ⟨idRen, idSpec⟩

theorem ct_intern_table_id {P : Program} {f : Nat} (hc : CodeOf P f 2 6 [2] x_intern_table_id) : RSpec.Ok P f R_intern_table_id := by
  refine ⟨hc.call, ?_, ?_⟩
  · intro args s s2 nw h
    simp only [idRen] at h ⊢
    split at h
    · rename_i t u x
      have ht : s2.getD t .dead = s.getD t .dead := by
        apply h
        split <;> simp
      simp only [ht]
    · rfl
  · intro args s0 hp
    simp only [idSpec] at hp ⊢
    split at hp
    · rename_i v x v'
      simp only at hp
      subst hp
      exact id_nil hc
    · rename_i v x v' ns es n
      split at hp
      · rename_i names hn
        obtain ⟨rfl, rfl, rfl, rfl, h5⟩ := hp
        simp only [ofAll_to]
        by_cases hx : x ∈ names
        · have e : addV names x = names := by simp [addV, hx]
          rw [e]
          exact id_old hc hx
        · have e : addV names x = names ++ [x] := by simp [addV, hx]
          rw [e, placeV_snoc hx]
          exact id_new hc hx h5
      · exact hp.elim
    · exact hp.elim



theorem eR_id {G : Gam} {f : Nat} (hf : G.findR f = some R_intern_table_id) {s : Store} {nw t m l v : Nat} {names : List Str} {x : Str} (h1 : s.getD t .dead = .cells v 2 [.agg [.mp m, .gr l 1 (names.map Rep.to)]]) (h2 : s.getD m .dead = .map (tabV 0 names))
    (h3 : s.getD l .dead = .tip names.length) (h4 : t ≠ m ∧ t ≠ l ∧ m ≠ l) (h5 : t < s.length ∧ m < s.length ∧ l < s.length) (h6 : names.length ≤ 1048576) :
    eRCall G s nw f [.ref t v 0 0, .d (.str x)] = ⟨True, [(t, .cells v 2 [.agg [.mp m, .gr l 1 ((addV names x).map Rep.to)]]), (m, .map (tabV 0 (addV names x))), (l, .tip (addV names x).length)], .d (.int .i64 (placeV (addV names x) x))⟩ := by
  obtain ⟨n1, n2, n3⟩ := h4
  obtain ⟨l1, l2, l3⟩ := h5
  have i0 : idxIn [t, m, l] t = 0 := by simp [idxIn, List.idxOf?, List.findIdx?_cons]
  have i1 : idxIn [t, m, l] m = 1 := by simp [idxIn, List.idxOf?, List.findIdx?_cons, n1]
  have i2 : idxIn [t, m, l] l = 2 := by simp [idxIn, List.idxOf?, List.findIdx?_cons, n2, n3]
  unfold eRCall
  rw [hf]
  have hr : idRen [.ref t v 0 0, .d (.str x)] s nw = [t, m, l] := by simp only [idRen, h1]
  simp only [hr, List.map_cons, List.map_nil, h1, h2, h3]
  simp [A.ren, A.rens, Ob.ren, i0, i1, i2, h1, h2, h3, idSpec, ofAll_to, h6, n1, n2, n3, l1, l2, l3, tabS]

theorem fold_pre (xs : List Str) : ∀ out : List Str, ∃ r, xs.foldl addV out = out ++ r := by
  induction xs with
  | nil => intro out; exact ⟨[], by simp⟩
  | cons x xs ih =>
    intro out
    obtain ⟨r, h⟩ := ih (addV out x)
    unfold addV at h ⊢
    split at h
    · rename_i hx; exact ⟨r, by simp [hx, h]⟩
    · rename_i hx; exact ⟨x :: r, by simp [hx, h]⟩

theorem placeV_app {a b : List Str} {x : Str} (h : x ∈ a) : placeV (a ++ b) x = placeV a x := by
  unfold placeV
  rw [List.findIdx?_append]
  have : (a.findIdx? (· == x)).isSome = true := by
    rw [List.findIdx?_isSome]; simpa using h
  cases hf : a.findIdx? (· == x) with
  | none => rw [hf] at this; simp at this
  | some i => simp

theorem mem_addV (out : List Str) (x : Str) : x ∈ addV out x := by unfold addV; split <;> simp_all

theorem place_part {l : List (List Str)} {i j : Nat} (h : i < l.length) (hj : j < l[i].length) : placeV (addV (part l i j) l[i][j]) l[i][j] = placeV (namesV l) l[i][j] := by
  have h1 : l.flatten = ((l.take i).flatten ++ l[i].take (j + 1)) ++ (l[i].drop (j + 1) ++ (l.drop (i + 1)).flatten) := by
    conv => lhs; rw [← List.take_append_drop i l, List.drop_eq_getElem_cons h]
    simp only [List.flatten_append, List.flatten_cons, List.append_assoc]
    conv => lhs; rw [← List.take_append_drop (j + 1) l[i]]
    simp only [List.append_assoc]
  have h2 : namesV l = (l[i].drop (j + 1) ++ (l.drop (i + 1)).flatten).foldl addV (part l i (j + 1)) := by
    unfold namesV part
    rw [h1, List.foldl_append]
    have : l.getD i [] = l[i] := by simp [List.getD, h]
    rw [this]
  obtain ⟨r, h3⟩ := fold_pre (l[i].drop (j + 1) ++ (l.drop (i + 1)).flatten) (part l i (j + 1))
  rw [h2, h3, part_step h hj, placeV_app (mem_addV _ _)]

@[simp] def S_intern_number : List D → Prop × D := spec1 (α := List (List Str)) smallL (fun l => .tup [Rep.to (idsV l), Rep.to (namesV l)])

theorem ct_intern_number {P : Program} {f g : Nat} {G : Gam} (h : CodeOf P f 1 16 [1, 2] (x_intern_number g)) (hG : GamOk P G) (hg : G.findR g = some R_intern_table_id) : Has P f S_intern_number := h.has1 hG fun l hp => by
  obtain ⟨h, h0⟩ := hp
  simp [x_intern_number]
  refine ⟨by unfold room; omega, ?_⟩
  obtain ⟨Tf, hT⟩ : ∃ Tf : Nat → List A, ∀ i, Tf i = [.any, .any, .any, .ref 0 0 0 0, .own 2 0 0 l.length, .any, .any, .any, .d (Rep.to l), .d (.int .i64 l.length), .d (.int .i64 i), .any, .any, .any, .any, .any] := ⟨_, fun _ => rfl⟩
  obtain ⟨out, ho⟩ : ∃ out : Nat → List A, ∀ i, out i = ((idsV l).take i).map (fun x => .d (Rep.to x)) ++ List.replicate (l.length - i) (.d .nilsl) := ⟨_, fun _ => rfl⟩
  obtain ⟨sf, hs⟩ : ∃ sf : Nat → Store, ∀ i, sf i = [.cells 0 2 [.agg [.mp 1, .gr 3 1 ((part l i 0).map Rep.to)]], .map (tabV 0 (part l i 0)), .cells 0 1 (out i), .tip (part l i 0).length] := ⟨_, fun _ => rfl⟩
  have hil : (idsV l).length = l.length := by simp [idsV]
  have hol : ∀ i, i ≤ l.length → (out i).length = l.length := by intro i hi; rw [ho]; simp [hil]; omega
  have hof : ∀ i, ∀ x, x ∈ out i → x.fits 1 = true := by
    intro i x hx
    rw [ho] at hx
    rcases List.mem_append.1 hx with hx | hx
    · obtain ⟨y, _, rfl⟩ := List.mem_map.1 hx
      rfl
    · rw [(List.mem_replicate.1 hx).2]
      rfl
  have hou5 : ∀ i, ∀ x, x ∈ out i → ∀ n, x.under n = true := by
    intro i x hx n
    rw [ho] at hx
    rcases List.mem_append.1 hx with hx | hx
    · obtain ⟨y, _, rfl⟩ := List.mem_map.1 hx
      rfl
    · rw [(List.mem_replicate.1 hx).2]
      rfl
  have hoi : ∀ i, i < l.length → (out i).getD i .any = .d .nilsl := by
    intro i hi
    rw [ho]
    have e : (((idsV l).take i).map (fun x => A.d (Rep.to x))).length = i := by simp [hil]; omega
    rw [List.getD, List.getElem?_append_right (by omega), e]
    have : 0 < l.length - i := by omega
    simp [this]
  have hos : ∀ i (hi : i < l.length), (out i).set i (.d (.sl 1 ((l[i].map (placeV (namesV l))).map Rep.to))) = out (i + 1) := by
    intro i hi
    have e : (((idsV l).take i).map (fun x => A.d (Rep.to x))).length = i := by simp [hil]; omega
    rw [ho, ho, List.set_append, if_neg (by omega), e, Nat.sub_self, show l.length - i = (l.length - (i + 1)) + 1 by omega, List.replicate_succ, List.set_cons_zero, take_snoc (by omega), List.map_append]
    simp [idsV]
  refine vc_ghostR (σ := Nat) (fun i => i ≤ l.length) (fun i => l.length - i) Tf sf 0 ⟨?_, by omega⟩ ?_
  · rw [hT, hs, ho]
    refine Re.norm (s' := [.cells 0 2 [.agg [.mp 1, .gr 3 1 []]], .map [], .cells 0 1 (List.replicate l.length (.d .nilsl))]) [false, false, false, true, true, false, false, false, true, true, true, false, false, false, false, false] [1, 0, 2] [.tip 0] (by simp) ⟨by decide, by simp, ?_⟩ (by decide) (by simp) ?_ ?_ ?_ ?_
    · simp [pickS]
    · simp 
    · simp 
    · simp [pickS]
      exact .cellsL (by simp; exact Wk.fresh _ _ _ 0 rfl)
    · simp [part, tabV]
  · intro i hi
    rw [hT, hs]
    simp
    refine ⟨fun h1 => ?_, fun h1 => ?_⟩
    · simp [getD_map, h1]
      obtain ⟨T2, hT2⟩ : ∃ Tf : Nat → List A, ∀ j, Tf j = [.any, .any, .any, .ref 0 0 0 0, .own 2 0 0 l.length, .d (.int .i64 i), .any, .any, .d (Rep.to l), .d (.int .i64 l.length), .d (.int .i64 i), .any, .d (Rep.to l[i]), .d (.int .i64 l[i].length), .d (.int .i64 j), .any] := ⟨_, fun _ => rfl⟩
      obtain ⟨row, hrow⟩ : ∃ row : Nat → List Int, ∀ j, row j = (l[i].take j).map (placeV (namesV l)) := ⟨_, fun _ => rfl⟩
      obtain ⟨s2, hs2⟩ : ∃ sf : Nat → Store, ∀ j, sf j = [.cells 0 2 [.agg [.mp 1, .gr 3 1 ((part l i j).map Rep.to)]], .map (tabV 0 (part l i j)), .cells 0 1 ((out i).set i (.gr 4 1 ((row j).map Rep.to))), .tip (part l i j).length, .tip j] := ⟨_, fun _ => rfl⟩
      refine vc_ghostR (σ := Nat) (fun j => j ≤ l[i].length) (fun j => l[i].length - j) T2 s2 0 ⟨?_, by omega⟩ ?_
      · rw [hT2, hs2]
        refine Re.wn (s' := [.cells 0 2 [.agg [.mp 1, .gr 3 1 ((part l i 0).map Rep.to)]], .map (tabV 0 (part l i 0)), .cells 0 1 ((out i).set i (.gr 4 1 [])), .tip (part l i 0).length]) [false, false, false, true, true, true, false, false, true, true, true, false, true, true, true] [.tip 0] (by simp) (by omega) (by simp) ?_ (by simp [hrow])
        simp
        refine .cells (.set (hof i) rfl ?_)
        rw [hoi i h1]
        simp
        exact .fresh _ _ _ 0 rfl
      · intro j hj
        rw [hT2, hs2]
        simp
        refine ⟨fun h2 => ?_, fun h2 => ?_⟩
        · have hpl := part_len (l := l) h1 (j := j) (by omega)
          simp [getD_map, h2, hol i hi, h1]
          rw [eR_id hg (t := 0) (m := 1) (l := 3) (names := part l i j) (by simp) (by simp) (by simp) (by simp) (by simp) (by omega)]
          simp [hol i hi, h1, pairsOk, disj, add1 h2 (by have := elem_flat_le h1; omega)]
          have hrl : (row j).length = j := by rw [hrow]; simp; omega
          refine ⟨⟨hrl.symm, by rw [hrl]; have := elem_flat_le h1; unfold room; omega⟩, j + 1, by omega, ?_, by omega⟩
          rw [hT2, hs2, part_step h1 h2]
          refine Re.wf _ [false, false, false, true, true, true, false, false, true, true, true, false, true, true, true] 5 (by omega) (by simp) (WkS.refl _ _ _) ?_ ?_ ?_
          · right
            simp
            intro x hx
            rcases List.mem_or_eq_of_mem_set hx with hx | hx
            · exact hou5 i x hx _
            · rw [hx]; rfl
          · simp
          · have hr : (row (j + 1)).map Rep.to = (row j).map Rep.to ++ [D.int .i64 (placeV (namesV l) l[i][j])] := by rw [hrow, hrow, take_snoc h2]; simp only [List.map_append, List.map_cons, List.map_nil, to_int]
            rw [place_part h1 h2, hr]
            simp only [List.take_succ_cons, List.take_zero]
        · have h3 : j = l[i].length := by omega
          refine ⟨i + 1, by omega, ?_, by omega⟩
          subst h3
          rw [hT, hs, ← hos i h1, part_next h1, hrow, List.take_length]
          refine Re.wf [.cells 0 2 [.agg [.mp 1, .gr 3 1 ((part l (i + 1) 0).map Rep.to)]], .map (tabV 0 (part l (i + 1) 0)), .cells 0 1 ((out i).set i (.d (.sl 1 ((l[i].map (placeV (namesV l))).map Rep.to)))), .tip (part l (i + 1) 0).length, .tip l[i].length] [false, false, false, true, true, false, false, false, true, true, true, false, false, false, false] 4 (by omega) (by simp) ?_ ?_ ?_ ?_
          · simp only [WkS_cons, WkO_refl, WkS_nil, and_true, true_and]
            exact .cells (.setset (hof i) rfl (by simp only [acells_gr, acells_dsl, WkL_cons, Wk_gr, WkL_nil, and_true]))
          · right
            simp
            intro x hx
            rcases List.mem_or_eq_of_mem_set hx with hx | hx
            · exact hou5 i x hx _
            · rw [hx]; rfl
          · simp [add1 h1 (by omega)]
          · simp
    · have h2 : i = l.length := by omega
      subst h2
      have hoe : out l.length = (idsV l).map (fun x => .d (Rep.to x)) := by rw [ho, List.take_of_length_le (by omega)]; simp
      refine ⟨?_, ?_, ?_⟩
      · simp only [bor, List.getD_cons_succ, List.getD_cons_zero, hoe, List.drop_zero]
        refine ⟨trivial, ?_⟩
        rw [List.all_eq_true]
        intro x hx
        obtain ⟨y, _, rfl⟩ := List.mem_map.1 (List.mem_of_mem_take hx)
        rfl
      · simp only [bor, List.getD_cons_succ, List.getD_cons_zero, hoe, List.drop_zero]
        rw [List.take_of_length_le (by simp [hil]), List.map_map]
        simp only [LeD_sl, true_and]
        rfl
      · rw [part_end]

@[simp] def S_intern_Ids : List D → Prop × D := spec1 (α := List (List Str)) smallL (fun l => Rep.to (idsV l))
theorem ct_intern_Ids {P : Program} {f g : Nat} {G : Gam} (h : CodeOf P f 1 3 [1] (x_intern_Ids g)) (hG : GamOk P G) (hg : G.find g = some S_intern_number) : Has P f S_intern_Ids := h.has1 hG fun l hp => by
  simp [x_intern_Ids, hg]
  exact hp

@[simp] def S_intern_Names : List D → Prop × D := spec1 (α := List (List Str)) smallL (fun l => Rep.to (namesV l))
theorem ct_intern_Names {P : Program} {f g : Nat} {G : Gam} (h : CodeOf P f 1 3 [1] (x_intern_Names g)) (hG : GamOk P G) (hg : G.find g = some S_intern_number) : Has P f S_intern_Names := h.has1 hG fun l hp => by
  simp [x_intern_Names, hg]
  exact hp

@[simp] def S_intern_Spell : List D → Prop × D := spec2 (α := List Str) (β := List Int) (fun _ ids => ids.length ≤ 1048576) (fun names ids => spellD names ids)

theorem ct_intern_Spell {P : Program} {f : Nat} {G : Gam} (h : CodeOf P f 2 11 [2, 3] x_intern_Spell) (hG : GamOk P G) : Has P f S_intern_Spell := h.has2 hG fun names ids h => by
  simp [x_intern_Spell]
  refine vc_loop _ _ _ _ _ [true, false, false, false, true, false, true, true, true] 1 (fun m T s => ∃ (i : Nat) (out : List Str), i + m = ids.length ∧ s = [.tip i] ∧ T = [.d (Rep.to names), .any, .any, .any, .gr 0 1 (out.map Rep.to), .any, .d (Rep.to ids), .d (.int .i64 ids.length), .d (.int .i64 i), .any, .any] ∧ out.length = i ∧ Eqv out (spellV names (ids.take i)) ∧ ∀ x, x ∈ ids.take i → okId names x) _ (by omega) (by simp [inScope]) ⟨ids.length, 0, [], by simp [spellV, Eqv]⟩ ?_
  rintro m T s ⟨i, out, hm, rfl, rfl, hol, ho, hi⟩
  simp
  refine ⟨fun h1 => ?_, fun h1 => ?_⟩
  · have e := add1 h1 (by omega : ids.length ≤ _)
    simp [getD_map, h1, e, inScope]
    refine ⟨fun h2 => (by rw [spell_bad h1 (fun hk => by unfold okId at hk; omega)]; simp), fun h2 => ⟨fun h3 => (by rw [spell_bad h1 (fun hk => by unfold okId at hk; omega)]; simp), fun h3 => ?_⟩⟩
    have ss := spell_step (names := names) h1
    have e2 : names[ids[i].toNat]? = some (names.getD ids[i].toNat []) := by
      have : ids[i].toNat < names.length := by omega
      simp [List.getD, this]
    generalize names.getD ids[i].toNat [] = y at ss e2
    simp [e2, hol]
    refine ⟨⟨h2, h3⟩, by unfold room; omega, m - 1, by omega, i + 1, by omega, rfl, out ++ [y], ⟨by simp, by simp⟩, by simp [hol], by unfold Eqv at *; rw [ss, ho], fun x hx => ?_⟩
    rw [take_snoc h1] at hx
    rcases List.mem_append.1 hx with hx | hx
    · exact hi x hx
    · rw [List.mem_singleton] at hx
      subst hx
      exact ⟨h2, h3⟩
  · have : i = ids.length := by omega
    unfold Eqv at ho
    rw [this, List.take_length] at ho hi
    unfold spellD
    rw [if_pos hi, ho]
    simp


end Go.AE

namespace Go.AE

def smallV (l : List (List Str)) : Bool := decide (l.length ≤ 6 ∧ ∀ x, x ∈ l → x.length ≤ 10)

@[simp] def S_law03_small : List D → Prop × D := spec1 (α := List (List Str)) (fun _ => True) (fun l => Rep.to (smallV l))

theorem ct_law03_small {P : Program} {f : Nat} {G : Gam} (h : CodeOf P f 1 6 [1] x_law03_small) (hG : GamOk P G) : Has P f S_law03_small := h.has1 hG fun l _ => by
  simp [x_law03_small]
  refine ⟨fun h => by simp [smallV]; omega, fun h => ?_⟩
  refine vc_ghost (σ := Nat) [true, false, true] 0 (fun i => i ≤ l.length ∧ ∀ k (h : k < l.length), k < i → (l[k]).length ≤ 10) (fun i => l.length - i) (fun i => [.d (Rep.to l), .any, .d (.int .i64 i), .any, .any, .any]) (fun i => []) 0 (Nat.le_refl _) (by simp) (by simp) ?_
  rintro i ⟨hi, hk⟩
  simp
  refine ⟨fun h1 => ?_, fun h1 => ?_⟩
  · simp [getD_map, h1, add1 h1 (by omega)]
    refine ⟨fun h2 => ?_, fun h2 => ⟨i + 1, by omega, by simp, by omega, fun k k1 k2 => ?_⟩⟩
    · have : ¬ (l[i].length ≤ 10) := by omega
      simp only [smallV, decide_eq_false_iff_not, not_and, Bool.false_eq]
      exact fun _ h3 => this (h3 _ (List.getElem_mem _))
    · rcases Nat.lt_or_ge k i with k4 | k4
      · exact hk k k1 k4
      · have : k = i := by omega
        subst this
        omega
  · simp only [smallV, Bool.true_eq, decide_eq_true_eq]
    refine ⟨by omega, fun x hx => ?_⟩
    obtain ⟨k, h2, rfl⟩ := List.getElem_of_mem hx
    exact hk k h2 (by omega)

theorem small_le {l : List (List Str)} (h : smallV l = true) : smallL l ∧ l.length ≤ 6 ∧ l.flatten.length ≤ 60 := by
  simp only [smallV, decide_eq_true_eq] at h
  obtain ⟨h1, h2⟩ := h
  have : l.flatten.length ≤ 10 * l.length := by
    clear h1
    induction l with
    | nil => simp
    | cons x l ih =>
      have h3 := ih (fun y hy => h2 y (by simp [hy]))
      have h4 := h2 x (by simp)
      simp only [List.flatten_cons, List.length_append, List.length_cons]
      omega
  exact ⟨⟨by omega, by omega⟩, h1, by omega⟩

@[simp] def S_law03_awake : List D → Prop × D := spec0 True (Rep.to true)

theorem ct_law03_awake {P : Program} {f g1 g2 g3 g4 : Nat} {G : Gam} (h : CodeOf P f 0 2 [0] (x_law03_awake g1 g2 g3 g4)) (hG : GamOk P G) (h1 : G.find g1 = some S_intern_Ids) (h2 : G.find g2 = some S_gen_Lists) (h3 : G.find g3 = some S_intern_Names) (h4 : G.find g4 = some S_gen_Strings) : Has P f S_law03_awake := h.has0 hG fun _ => by
  simp [x_law03_awake, h1, h2, h3, h4, idsV, namesV, addV, placeV, Rep.of, ofAll, List.findIdx?_cons]
  exact ⟨by simp, by simp⟩

abbrev lawB {α : Type} [Rep α] (f : α → Prop) (l : List α) : Prop := True

theorem ids_ok {l : List (List Str)} (h : smallL l) : (idsV l).length ≤ 9223372036854775807 ∧ ∀ x, x ∈ idsV l → x.length ≤ 9223372036854775807 := by
  obtain ⟨h1, h2⟩ := h
  refine ⟨by simp [idsV]; omega, fun x hx => ?_⟩
  obtain ⟨y, hy, rfl⟩ := List.mem_map.1 hx
  obtain ⟨k, hk, rfl⟩ := List.getElem_of_mem hy
  have := elem_flat_le hk
  simp only [List.length_map]
  omega

theorem names_ok {l : List (List Str)} (h : smallL l) : (namesV l).length ≤ 9223372036854775807 := by
  obtain ⟨h1, h2⟩ := h
  have := namesV_len l
  omega

@[simp] def S_law03_InternNumbers : List D → Prop × D := spec2 (α := List (List Str)) (β := List Int) (fun _ raw => raw.length ≤ 1048576) (fun _ _ => Rep.to true)

theorem ct_law03_InternNumbers {P : Program} {f g1 g2 g3 g4 g5 g6 g7 g8 g9 g10 g11 : Nat} {G : Gam} (h : CodeOf P f 2 10 [2] (x_law03_InternNumbers g1 g2 g3 g4 g5 g6 g7 g8 g9 g10 g11)) (hG : GamOk P G)
    (h1 : G.find g1 = some S_law03_small) (h2 : G.find g2 = some S_law03_awake) (h3 : G.find g3 = some S_gen_At) (h4 : G.find g4 = some S_gen_Mod) (h5 : G.find g5 = some S_gen_Line) (h6 : G.find g6 = some S_intern_Ids) (h7 : G.find g7 = some S_ref03_Ids) (h8 : G.find g8 = some S_gen_Lists)
    (h9 : G.find g9 = some S_intern_Names) (h10 : G.find g10 = some S_ref03_Names) (h11 : G.find g11 = some S_gen_Strings) : Has P f S_law03_InternNumbers := h.has2 hG fun l raw hr => by
  simp [x_law03_InternNumbers, h1, h2]
  intro hs
  obtain ⟨hs1, hs2, hs3⟩ := small_le hs
  obtain ⟨Tf, hT⟩ : ∃ Tf : List (List Str) → List A, ∀ m, Tf m = [.d (Rep.to l), .d (Rep.to raw), .any, .gr 0 1 (m.map Rep.to), .d (.int .i64 m.length), .any, .any, .any, .any, .any] := ⟨_, fun _ => rfl⟩
  refine vc_ghost (σ := List (List Str)) [true, true, false, true, true] 1 (fun m => m.length ≤ 3 ∧ m.flatten.length ≤ 7 * m.length) (fun m => 3 - m.length) Tf (fun m => [.tip m.length]) [] (by omega) (by simp [inScope]) (by simp [hT]) ?_
  rintro m ⟨hm, hm2⟩
  rw [hT]
  simp
  refine ⟨fun h12 => ?_, fun h12 => ?_⟩
  · obtain ⟨T2, hT2⟩ : ∃ Tf : List Str → List A, ∀ x, Tf x = [.d (Rep.to l), .d (Rep.to raw), .any, .gr 0 1 (m.map Rep.to), .d (.int .i64 m.length), .gr 1 1 (x.map Rep.to), .d (.int .i64 x.length), .any, .any, .any] := ⟨_, fun _ => rfl⟩
    refine vc_ghost (σ := List Str) [true, true, false, true, true, true, true] 2 (fun x => x.length ≤ 7) (fun x => 7 - x.length) T2 (fun x => [.tip m.length, .tip x.length]) [] (by omega) (by simp [inScope]) (by simp [hT2]) ?_
    intro x hx
    rw [hT2]
    have hat := atV_range raw
    have hmm := fun k => modV_lt (atV raw k) (n := 8) (by omega)
    simp [h3, h4, h5]
    refine ⟨by omega, fun h13 => ?_, fun h13 => ?_⟩
    · have := hmm m.length
      have e : IntKind.i64.wrap (IntKind.i64.wrap (IntKind.i64.wrap (10 * (m.length : Int)) + x.length) + 5) = ((10 * m.length + x.length + 5 : Nat) : Int) := by
        rw [wrap_in (n := 10 * (m.length : Int)) (by omega) (by omega), wrap_in (n := 10 * (m.length : Int) + x.length) (by omega) (by omega), wrap_in (by omega) (by omega)]
        omega
      simp [e]
      refine ⟨⟨by omega, by omega, by omega⟩, by unfold room; omega, by simp [inScope], x ++ [lineV (atV raw (10 * m.length + x.length + 5 : Nat))], by simp; omega, ?_, by simp, by simp; omega⟩
      rw [hT2]
      have e2 := add1 (i := x.length) (n := 8) (by omega) (by omega)
      simp [e2]
    · have e2 := add1 (i := m.length) (n := 3) (by omega) (by omega)
      refine ⟨by unfold room; omega, by simp [inScope], m ++ [x], by simp; omega, ?_, by simp, by simp; omega, by simp at hm2 ⊢; omega⟩
      rw [hT]
      simp [e2]
  · have b1 : smallL m := ⟨by omega, by omega⟩
    simp [h2, h6, h7, h8, h9, h10, h11, hs1]
    exact ⟨ids_ok hs1, (names_ok hs1), b1, ids_ok b1, b1, names_ok b1⟩

theorem law03_InternNumbers_pre (l : List (List Str)) (raw : List Int) (_ : Arg.wf l) (_ : Arg.wf raw) (h : Arg.bulk l + Arg.bulk raw ≤ 1048576) : raw.length ≤ 1048576 := by
  have := len_bulk raw
  omega

end Go.AE

namespace Go.AE

theorem mem_fold (xs : List Str) : ∀ out : List Str, ∀ x, x ∈ xs.foldl addV out ↔ x ∈ out ∨ x ∈ xs := by
  induction xs with
  | nil => intro out x; simp
  | cons y xs ih =>
    intro out x
    rw [List.foldl_cons, ih]
    unfold addV
    by_cases hy : y ∈ out
    · simp only [hy, if_true, List.mem_cons]
      constructor
      · rintro (h | h)
        · exact .inl h
        · exact .inr (.inr h)
      · rintro (h | rfl | h)
        · exact .inl h
        · exact .inl hy
        · exact .inr h
    · simp only [hy, if_false, List.mem_append, List.mem_cons, List.not_mem_nil, or_false, or_assoc]

theorem mem_names {l : List (List Str)} {x : Str} : x ∈ namesV l ↔ ∃ y, y ∈ l ∧ x ∈ y := by
  unfold namesV
  rw [mem_fold]
  simp

theorem placeV_mem {l : List Str} {x : Str} (h : x ∈ l) : ∃ k : Nat, ∃ hk : k < l.length, placeV l x = k ∧ l[k] = x := by
  unfold placeV
  cases hf : l.findIdx? (· == x) with
  | none =>
    rw [List.findIdx?_eq_none_iff] at hf
    simpa using hf x h
  | some k =>
    rw [List.findIdx?_eq_some_iff_getElem] at hf
    obtain ⟨hk, h1, _⟩ := hf
    exact ⟨k, hk, rfl, by simpa using h1⟩

theorem placeV_inj {l : List Str} {x y : Str} (hx : x ∈ l) (hy : y ∈ l) : placeV l x = placeV l y ↔ x = y := by
  obtain ⟨a, ha, h1, h2⟩ := placeV_mem hx
  obtain ⟨b, hb, h3, h4⟩ := placeV_mem hy
  constructor
  · intro h
    have : a = b := by omega
    subst this
    rw [← h2, ← h4]
  · rintro rfl; rfl

theorem spell_ids {l : List (List Str)} {k : Nat} (h : k < l.length) : spellD (namesV l) (l[k].map (placeV (namesV l))) = .tup [Rep.to l[k], .int .i64 0] := by
  have hm : ∀ x, x ∈ l[k] → x ∈ namesV l := fun x hx => mem_names.2 ⟨_, List.getElem_mem h, hx⟩
  unfold spellD
  rw [if_pos]
  · congr 3
    unfold spellV
    rw [List.map_map]
    conv => rhs; rw [← List.map_id l[k]]
    refine List.map_congr_left fun x hx => ?_
    obtain ⟨a, ha, h1, h2⟩ := placeV_mem (hm x hx)
    simp only [Function.comp, h1, id]
    simp [List.getD, ha, h2]
  · intro x hx
    obtain ⟨y, hy, rfl⟩ := List.mem_map.1 hx
    obtain ⟨a, ha, h1, h2⟩ := placeV_mem (hm y hy)
    rw [h1]
    exact ⟨by omega, by omega⟩

@[simp] def S_law03_InternExact : List D → Prop × D := spec5 (α := List (List Str)) (β := Int) (γ := Int) (δ := Int) (ε := Int) (fun _ _ _ _ _ => True) (fun _ _ _ _ _ => Rep.to true)

theorem ct_law03_InternExact {P : Program} {f g1 g2 g3 g4 g5 g6 g7 : Nat} {G : Gam} (h : CodeOf P f 5 16 [5] (x_law03_InternExact g1 g2 g3 g4 g5 g6 g7)) (hG : GamOk P G)
    (h1 : G.find g1 = some S_law03_small) (h2 : G.find g2 = some S_law03_awake) (h3 : G.find g3 = some S_intern_Ids) (h4 : G.find g4 = some S_intern_Names) (h5 : G.find g5 = some S_intern_Spell) (h6 : G.find g6 = some S_gen_Strings) (h7 : G.find g7 = some S_gen_Mod) : Has P f S_law03_InternExact := h.has5 hG fun l f i g j _ => by
  simp [x_law03_InternExact, h1, h2]
  intro hs h0
  obtain ⟨hs1, hs2, hs3⟩ := small_le hs
  simp [h3, h4, hs1]
  have hil : (idsV l).length = l.length := by simp [idsV]
  simp [hil]
  have hpos : 0 < l.length := List.length_pos_iff.2 h0
  have hik : ∀ k (hk : k < l.length), (idsV l)[k]'(by omega) = l[k].map (placeV (namesV l)) := by intro k hk; simp [idsV]
  have hlen : ∀ k (hk : k < l.length), l[k].length ≤ 60 := by intro k hk; have := elem_flat_le hk; omega
  obtain ⟨Tf, hT⟩ : ∃ Tf : Nat → List A, ∀ k, Tf k = [.d (Rep.to l), .d (.int .i64 f), .d (.int .i64 i), .d (.int .i64 g), .d (.int .i64 j), .any, .d (Rep.to (idsV l)), .d (Rep.to (namesV l)), .d (.int .i64 k), .any, .any, .any, .any, .any, .any, .any] := ⟨_, fun _ => rfl⟩
  refine vc_ghost (σ := Nat) [true, true, true, true, true, false, true, true, true] 0 (fun k => k ≤ l.length) (fun k => l.length - k) Tf (fun _ => []) 0 (by omega) (by simp) (by simp [hT]) ?_
  intro k hk
  rw [hT]
  simp
  refine ⟨fun hk1 => ?_, fun hk1 => ?_⟩
  · have e := add1 hk1 (by omega)
    have hl := hlen k hk1
    have hil2 : k < (idsV l).length := by omega
    have hl2 : (idsV l)[k].length = l[k].length := by rw [hik k hk1]; simp
    have hsp : spellD (namesV l) (idsV l)[k] = .tup [Rep.to l[k], .int .i64 0] := by rw [hik k hk1, spell_ids hk1]
    simp [getD_map, hk1, hil2, h5, hl2, hsp, h6, e, pairsOk]
    refine ⟨by omega, by omega, k + 1, by omega, by rw [hT]; simp, by omega⟩
  · have hf := modV_lt f (n := (l.length : Int)) (by omega)
    have hg := modV_lt g (n := (l.length : Int)) (by omega)
    obtain ⟨a, ha⟩ := Int.eq_ofNat_of_zero_le hf.1
    obtain ⟨b, hb⟩ := Int.eq_ofNat_of_zero_le hg.1
    have ha1 : a < l.length := by omega
    have hb1 : b < l.length := by omega
    have hla := hlen a ha1
    have hlb := hlen b hb1
    simp [h7, ha, hb, getD_map, ha1, hb1, h2]
    refine ⟨⟨by omega, by omega⟩, fun n1 n2 => ?_⟩
    have p1 : 0 < l[a].length := List.length_pos_iff.2 n1
    have p2 : 0 < l[b].length := List.length_pos_iff.2 n2
    have hi2 := modV_lt i (n := (l[a].length : Int)) (by omega)
    have hj2 := modV_lt j (n := (l[b].length : Int)) (by omega)
    obtain ⟨c, hc⟩ := Int.eq_ofNat_of_zero_le hi2.1
    obtain ⟨d, hd⟩ := Int.eq_ofNat_of_zero_le hj2.1
    have hc1 : c < l[a].length := by omega
    have hd1 : d < l[b].length := by omega
    have ha2 : a < (idsV l).length := by omega
    have hb2 : b < (idsV l).length := by omega
    have hla2 : (idsV l)[a].length = l[a].length := by rw [hik a ha1]; simp
    have hlb2 : (idsV l)[b].length = l[b].length := by rw [hik b hb1]; simp
    have hc2 : c < (idsV l)[a].length := by omega
    have hd2 : d < (idsV l)[b].length := by omega
    have key : ((idsV l)[a][c] = (idsV l)[b][d]) ↔ (l[a][c] = l[b][d]) := by
      simp only [idsV, List.getElem_map]
      exact placeV_inj (mem_names.2 ⟨_, List.getElem_mem ha1, List.getElem_mem hc1⟩) (mem_names.2 ⟨_, List.getElem_mem hb1, List.getElem_mem hd1⟩)
    refine ⟨⟨by omega, by omega⟩, ⟨by omega, by omega⟩, ?_⟩
    simp [hc, hd, getD_map, ha1, hb1, hc1, hd1, ha2, hb2, hc2, hd2, pairsOk, key, h2]


theorem law03_InternExact_pre (l : List (List Str)) (f i g j : Int) (_ : Arg.wf l) (_ : Arg.wf f) (_ : Arg.wf i) (_ : Arg.wf g) (_ : Arg.wf j) (_ : Arg.bulk l + (Arg.bulk f + (Arg.bulk i + (Arg.bulk g + (Arg.bulk j + 0)))) ≤ 1048576) : True := trivial

end Go.AE

set_option maxRecDepth 20000
namespace Go.AE

/-- the pieces behind each line feed; the last one may be empty -/
def splitF (cur : Str) : Str → List Str
  | [] => [cur]
  | c :: s => if c = 10 then (cur ++ [c]) :: splitF [] s else splitF (cur ++ [c]) s

def linesF (cur : Str) : Str → List Str
  | [] => if cur = [] then [] else [cur]
  | c :: s => if c = 10 then (cur ++ [c]) :: linesF [] s else linesF (cur ++ [c]) s

def linesV (s : Str) : List Str := linesF [] s

theorem splitF_lines : ∀ (s cur : Str), ∃ l r, splitF cur s = l ++ [r] ∧ linesF cur s = if r = [] then l else l ++ [r]
  | [], cur => ⟨[], cur, rfl, by simp [linesF]⟩
  | c :: s, cur => by
    by_cases h : c = 10
    · obtain ⟨l, r, h1, h2⟩ := splitF_lines s []
      refine ⟨(cur ++ [c]) :: l, r, by simp [splitF, h, h1], ?_⟩
      simp only [linesF, h, if_true, h2]
      split <;> simp
    · obtain ⟨l, r, h1, h2⟩ := splitF_lines s (cur ++ [c])
      exact ⟨l, r, by simp [splitF, h, h1], by simp [linesF, h, h2]⟩

theorem occ10 (s : Str) (j : Nat) : Lib.occAt s [10] j = true ↔ s[j]? = some 10 := by
  unfold Lib.occAt
  rw [← List.head?_drop]
  cases h : s.drop j with
  | nil => simp
  | cons a t => simp [List.isPrefixOf]; exact eq_comm

theorem splitF_none : ∀ (s cur : Str), (∀ j : Nat, s[j]? ≠ some 10) → splitF cur s = [cur ++ s]
  | [], cur, _ => by simp [splitF]
  | c :: s, cur, h => by
    have h0 : c ≠ 10 := by simpa using h 0
    have ih := splitF_none s (cur ++ [c]) fun j => by simpa using h (j + 1)
    simp [splitF, h0, ih]

theorem splitF_some : ∀ (s cur : Str) (i : Nat), s[i]? = some 10 → (∀ j : Nat, j < i → s[j]? ≠ some 10) → splitF cur s = (cur ++ s.take (i + 1)) :: splitF [] (s.drop (i + 1))
  | [], cur, i, h, _ => by simp at h
  | c :: s, cur, 0, h, _ => by
    have : c = 10 := by simpa using h
    simp [splitF, this]
  | c :: s, cur, i + 1, h, h2 => by
    have h0 : c ≠ 10 := by simpa using h2 0 (by omega)
    have ih := splitF_some s (cur ++ [c]) i (by simpa using h) fun j hj => by simpa using h2 (j + 1) (by omega)
    simp [splitF, h0, ih]

theorem first10 (s : Str) : (∀ j : Nat, s[j]? ≠ some 10) ∨ ∃ i, s[i]? = some 10 ∧ ∀ j : Nat, j < i → s[j]? ≠ some 10 := by
  induction s with
  | nil => exact .inl fun j => by simp
  | cons c s ih =>
    by_cases h : c = 10
    · exact .inr ⟨0, by simp [h], fun j hj => absurd hj (by omega)⟩
    · rcases ih with h1 | ⟨i, h1, h2⟩
      · refine .inl fun j => ?_
        cases j with
        | zero => simpa using h
        | succ j => simpa using h1 j
      · refine .inr ⟨i + 1, by simpa using h1, fun j hj => ?_⟩
        cases j with
        | zero => simpa using h
        | succ j => simpa using h2 j (by omega)

theorem splitK_lines : ∀ (k : Nat) (s : Str), Lib.count s [10] = k → Lib.splitK [10] 1 k s = splitF [] s := by
  intro k
  induction k with
  | zero =>
    intro s hk
    rcases first10 s with h | ⟨i, h1, h2⟩
    · rw [splitF_none s [] h]; rfl
    · have hi : Lib.index s [10] = i := Lib.index_first (by have := List.getElem?_eq_some_iff.1 h1; obtain ⟨h3, _⟩ := this; omega) ((occ10 s i).2 h1) fun j hj => by
        have := h2 j hj
        cases h3 : Lib.occAt s [10] j with
        | false => rfl
        | true => exact absurd ((occ10 s j).1 h3) this
      have := Lib.count_hit (by simp) hi
      omega
  | succ k ih =>
    intro s hk
    rcases first10 s with h | ⟨i, h1, h2⟩
    · have hi : Lib.index s [10] = -1 := Lib.index_none fun j hj => by
        cases h3 : Lib.occAt s [10] j with
        | false => rfl
        | true => exact absurd ((occ10 s j).1 h3) (h j)
      have := Lib.count_miss hi
      omega
    · have hi : Lib.index s [10] = i := Lib.index_first (by have := List.getElem?_eq_some_iff.1 h1; obtain ⟨h3, _⟩ := this; omega) ((occ10 s i).2 h1) fun j hj => by
        have := h2 j hj
        cases h3 : Lib.occAt s [10] j with
        | false => rfl
        | true => exact absurd ((occ10 s j).1 h3) this
      have hc := Lib.count_hit (by simp) hi
      have hn : ¬ ((i : Int) == -1) = true := by simp
      simp only [Lib.splitK, hi, hn, if_false, Int.toNat_natCast, List.length_singleton]
      simp only [List.length_singleton] at hc
      rw [ih _ (by omega), splitF_some s [] i h1 h2]
      simp

theorem linesF_count : ∀ (s cur : Str), (linesF cur s).length = s.count 10 + if cur ++ s = [] ∨ (cur ++ s).getLast? = some 10 ∧ s ≠ [] then 0 else 1
  | [], cur => by
    by_cases h : cur = [] <;> simp [linesF, h]
  | c :: s, cur => by
    by_cases h : c = 10
    · subst h
      have ih := linesF_count s []
      simp only [linesF, if_true, List.length_cons, ih, List.nil_append, List.count_cons_self]
      by_cases hs : s = []
      · subst hs; simp
      · simp only [hs, false_or, ne_eq, not_false_eq_true, and_true]
        have e : (cur ++ 10 :: s).getLast? = s.getLast? := by
          rw [List.getLast?_append]
          obtain ⟨a, t, rfl⟩ := List.exists_cons_of_ne_nil hs
          simp [List.getLast?_cons]
        rw [e]
        simp only [List.append_eq_nil_iff, List.cons_ne_nil, and_false, reduceCtorEq, not_false_eq_true, and_true, false_or]
        omega
    · have ih := linesF_count s (cur ++ [c])
      simp only [linesF, h, if_false, ih, List.append_assoc, List.singleton_append, List.count_cons_of_ne h]
      by_cases hs : s = []
      · subst hs
        simp [h]
      · simp [hs]

theorem splitF_flat : ∀ (s cur : Str), (splitF cur s).flatten = cur ++ s
  | [], cur => by simp [splitF]
  | c :: s, cur => by
    by_cases h : c = 10
    · simp [splitF, h, splitF_flat s []]
    · simp [splitF, h, splitF_flat s (cur ++ [c])]

theorem linesF_flat : ∀ (s cur : Str), (linesF cur s).flatten = cur ++ s
  | [], cur => by by_cases h : cur = [] <;> simp [linesF, h]
  | c :: s, cur => by
    by_cases h : c = 10
    · simp [linesF, h, linesF_flat s []]
    · simp [linesF, h, linesF_flat s (cur ++ [c])]

end Go.AE

set_option maxRecDepth 20000
set_option maxHeartbeats 1000000
namespace Go.AE

/-! what the library's functions answer -/

@[simp] def S_strings_Count : List D → Prop × D := spec2 (α := Str) (β := Str) (fun _ n => n.length = 1) (fun s n => .int .i64 (s.count (n.getD 0 0)))
@[simp] def S_strings_HasSuffix : List D → Prop × D := spec2 (α := Str) (β := Str) (fun s _ => s.length ≤ 9223372036854775807) (fun s p => .bool (Lib.hasSuffix s p))
@[simp] def S_strings_TrimSuffix : List D → Prop × D := spec2 (α := Str) (β := Str) (fun s _ => s.length ≤ 9223372036854775807) (fun s p => .str (Lib.trimSuffix s p))
@[simp] def S_strings_IndexByte : List D → Prop × D
  | [.str s, .int .u8 c] => (0 ≤ c ∧ c < 256, .int .i64 (Lib.indexByte s c.toNat.toUInt8))
  | _ => (False, .nilp)
@[simp] def S_strings_Join : List D → Prop × D := spec2 (α := List Str) (β := Str) (fun l sep => l.length ≤ 140737488355328 ∧ (Lib.join l sep).length ≤ 140737488355328) (fun l sep => .str (Lib.join l sep))
@[simp] def S_strings_genSplit : List D → Prop × D
  | [.str s, .str sep, .int .i64 sv, .int .i64 n] => (sep.length = 1 ∧ 0 ≤ sv ∧ sv ≤ 1 ∧ n = -1 ∧ s.length < 4294967281, Rep.to (α := List Str) (Lib.splitK sep sv.toNat (Lib.count s sep) s))
  | _ => (False, .nilp)

@[simp] def S_strings_SplitAfter : List D → Prop × D := spec2 (α := Str) (β := Str) (fun s sep => sep.length = 1 ∧ s.length < 4294967281) (fun s sep => Rep.to (Lib.splitK sep 1 (Lib.count s sep) s))

theorem ct_strings_SplitAfter {P : Program} {f g : Nat} {G : Gam} (h : CodeOf P f 2 3 [2] (x_strings_SplitAfter g)) (hG : GamOk P G) (hg : G.find g = some S_strings_genSplit) : Has P f S_strings_SplitAfter := h.has2 hG fun s sep hp => by
  obtain ⟨h1, h2⟩ := hp
  simp [x_strings_SplitAfter, hg, h1, h2]

def endedV (s : Str) : Bool := decide (s.getLast? = some 10)
def bareV (s : Str) : Str := if endedV s then s.dropLast else s

theorem hasSuffix_ended (s : Str) : Lib.hasSuffix s [10] = endedV s := by
  unfold Lib.hasSuffix endedV
  by_cases h : s.getLast? = some 10
  · obtain ⟨t, rfl⟩ := List.getLast?_eq_some_iff.1 h
    simp [List.isSuffixOf_iff_suffix]
  · simp only [h, decide_false]
    cases h2 : [10].isSuffixOf s with
    | false => rfl
    | true =>
      obtain ⟨t, rfl⟩ := List.isSuffixOf_iff_suffix.1 h2
      simp at h

theorem trimSuffix_bare (s : Str) : Lib.trimSuffix s [10] = bareV s := by
  unfold Lib.trimSuffix bareV
  rw [hasSuffix_ended, List.dropLast_eq_take]
  rfl

@[simp] def S_text_Ended : List D → Prop × D := spec1 (α := Str) (fun s => s.length ≤ 9223372036854775807) (fun s => .bool (endedV s))
theorem ct_text_Ended {P : Program} {f g : Nat} {G : Gam} (h : CodeOf P f 1 2 [1] (x_text_Ended g)) (hG : GamOk P G) (hg : G.find g = some S_strings_HasSuffix) : Has P f S_text_Ended := h.has1 hG fun s hp => by
  simp [x_text_Ended, hg, hp, hasSuffix_ended]

@[simp] def S_text_Bare : List D → Prop × D := spec1 (α := Str) (fun s => s.length ≤ 9223372036854775807) (fun s => .str (bareV s))
theorem ct_text_Bare {P : Program} {f g : Nat} {G : Gam} (h : CodeOf P f 1 2 [1] (x_text_Bare g)) (hG : GamOk P G) (hg : G.find g = some S_strings_TrimSuffix) : Has P f S_text_Bare := h.has1 hG fun s hp => by
  simp [x_text_Bare, hg, hp, trimSuffix_bare]

theorem linesV_len (s : Str) : (linesV s).length = s.count 10 + if s ≠ [] ∧ endedV s = false then 1 else 0 := by
  rw [linesV, linesF_count]
  simp only [List.nil_append]
  by_cases h : s = []
  · subst h; simp [endedV]
  · by_cases h2 : s.getLast? = some 10 <;> simp [h, h2, endedV]

/-- the number of the error of a text -/
def checkT (s : Str) : Int := if s.length ≤ 1048576 ∧ (linesV s).length ≤ 4096 then 0 else 1

@[simp] def S_text_Check : List D → Prop × D := spec1 (α := Str) (fun s => s.length ≤ 4194304) (fun s => .int .i64 (checkT s))
theorem ct_text_Check {P : Program} {f g1 g2 : Nat} {G : Gam} (h : CodeOf P f 1 5 [1] (x_text_Check g1 g2)) (hG : GamOk P G) (h1 : G.find g1 = some S_strings_Count) (h2 : G.find g2 = some S_text_Ended) : Has P f S_text_Check := h.has1 hG fun s hp => by
  have hc : s.count 10 ≤ s.length := List.count_le_length
  have hl := linesV_len s
  have w1 : IntKind.i64.wrap ((s.count 10 : Int) + 1) = (s.count 10 : Int) + 1 := wrap_in (by omega) (by omega)
  have hp' : s.length ≤ 9223372036854775807 := by omega
  have key : ∀ m : Nat, (linesV s).length = m → checkT s = if (1048576 : Int) < s.length then 1 else if (4096 : Int) < m then 1 else 0 := by
    intro m hm
    unfold checkT
    rw [hm]
    by_cases a : (1048576 : Int) < s.length
    · rw [if_neg (by omega), if_pos a]
    · rw [if_neg a]
      by_cases b : (4096 : Int) < m
      · rw [if_neg (by omega), if_pos b]
      · rw [if_pos (by omega), if_neg b]
  by_cases c0 : s ≠ [] ∧ endedV s = false
  · obtain ⟨c1, c2⟩ := c0
    rw [if_pos ⟨c1, c2⟩] at hl
    have k := key _ hl
    rw [k]
    by_cases a : (1048576 : Int) < s.length <;> by_cases b : (4096 : Int) < ((s.count 10 + 1 : Nat) : Int) <;>
      (have b' := b; push_cast at b'; simp [x_text_Check, h1, h2, hp', c1, c2, w1, a, b, b'])
  · rw [if_neg c0] at hl
    have k := key _ hl
    rw [k]
    by_cases c1 : s = []
    · subst c1
      simp [x_text_Check, h1, h2]
    · have c2 : endedV s = true := by
        cases h3 : endedV s with
        | true => rfl
        | false => exact absurd ⟨c1, h3⟩ c0
      simp only [Nat.add_zero]
      by_cases a : (1048576 : Int) < s.length <;> by_cases b : (4096 : Int) < ((s.count 10 : Nat) : Int) <;>
        simp [x_text_Check, h1, h2, hp', c1, c2, a, b]

def splitD (s : Str) : D := if checkT s = 0 then .tup [Rep.to (linesV s), .int .i64 0] else .tup [.nilsl, .int .i64 1]

@[simp] def S_text_Split : List D → Prop × D := spec1 (α := Str) (fun s => s.length ≤ 4194304) (fun s => splitD s)
theorem ct_text_Split {P : Program} {f g1 g2 : Nat} {G : Gam} (h : CodeOf P f 1 7 [1, 2] (x_text_Split g1 g2)) (hG : GamOk P G) (h1 : G.find g1 = some S_text_Check) (h2 : G.find g2 = some S_strings_SplitAfter) : Has P f S_text_Split := h.has1 hG fun s hp => by
  have hp' : s.length < 4294967281 := by omega
  by_cases c : checkT s = 0
  · obtain ⟨l, r, e1, e2⟩ := splitF_lines s []
    have e3 := splitK_lines _ s rfl
    rw [e1] at e3
    have e4 : linesV s = if r = [] then l else l ++ [r] := e2
    have hll : l.length ≤ 4096 := by
      have : checkT s = 0 := c
      unfold checkT at this
      split at this
      · rename_i h3
        rw [e4] at h3
        split at h3
        · exact h3.2
        · have := h3.2; simp at this; omega
      · simp at this
    have w1 : IntKind.i64.wrap (l.length : Int) = (l.length : Int) := wrap_in (by omega) (by omega)
    have e5 : splitD s = .tup [Rep.to (linesV s), .int .i64 0] := if_pos c
    rw [e5, e4]
    by_cases hr : r = []
    · simp [x_text_Split, h1, h2, hp, hp', c, e3, w1, hr]
      omega
    · simp [x_text_Split, h1, h2, hp, hp', c, e3, w1, hr]
      omega
  · have c1 : checkT s = 1 := by
      unfold checkT at *
      split at c <;> simp_all
    have e5 : splitD s = .tup [.nilsl, .int .i64 1] := if_neg c
    rw [e5]
    simp [x_text_Split, h1, hp, c1]

end Go.AE

set_option maxRecDepth 20000
set_option maxHeartbeats 1000000
namespace Go.AE

@[simp] def S_ref02_Ended : List D → Prop × D := spec1 (α := Str) (fun s => s.length ≤ 9223372036854775807) (fun s => .bool (endedV s))
theorem ct_ref02_Ended {P : Program} {f : Nat} {G : Gam} (h : CodeOf P f 1 2 [1] x_ref02_Ended) (hG : GamOk P G) : Has P f S_ref02_Ended := h.has1 hG fun s hp => by
  rcases List.eq_nil_or_concat s with rfl | ⟨t, c, rfl⟩
  · simp [x_ref02_Ended, endedV]
  · simp only [List.concat_eq_append] at *
    simp at hp
    have w : IntKind.i64.wrap (t.length : Int) = t.length := wrap_in (by omega) (by omega)
    have e : ((c.toNat : Int) = 10) = (c = 10) := by
      apply propext
      constructor
      · intro h
        exact UInt8.toNat_inj.1 (by simp; omega)
      · rintro rfl; rfl
    simp [x_ref02_Ended, endedV, w, e]
    omega

@[simp] def S_ref02_Bare : List D → Prop × D := spec1 (α := Str) (fun s => s.length ≤ 9223372036854775807) (fun s => .str (bareV s))
theorem ct_ref02_Bare {P : Program} {f g : Nat} {G : Gam} (h : CodeOf P f 1 3 [1] (x_ref02_Bare g)) (hG : GamOk P G) (hg : G.find g = some S_ref02_Ended) : Has P f S_ref02_Bare := h.has1 hG fun s hp => by
  cases c : endedV s with
  | false => simp [x_ref02_Bare, hg, hp, c, bareV]
  | true =>
    have h1 : 1 ≤ s.length := by
      cases s with
      | nil => simp [endedV] at c
      | cons a t => simp
    have w : IntKind.i64.wrap ((s.length : Int) - 1) = ((s.length - 1 : Nat) : Int) := by rw [wrap_in (by omega) (by omega)]; omega
    simp [x_ref02_Bare, hg, hp, c, bareV, w, List.dropLast_eq_take]

@[simp] def S_ref02_Lines : List D → Prop × D := spec1 (α := Str) (fun s => s.length ≤ 4194304) (fun s => Rep.to (linesV s))
theorem ct_ref02_Lines {P : Program} {f : Nat} {G : Gam} (h : CodeOf P f 1 7 [1] x_ref02_Lines) (hG : GamOk P G) : Has P f S_ref02_Lines := h.has1 hG fun s hp => by
  simp [x_ref02_Lines]
  refine vc_lp (σ := Nat × Nat × List Str) (fun x => x.1 ≤ x.2.1 ∧ x.2.1 ≤ s.length ∧ x.2.2.length ≤ x.2.1 ∧ (x.2.1 < s.length ∨ x.1 = x.2.1) ∧ x.2.2 ++ linesF ((s.take x.2.1).drop x.1) (s.drop x.2.1) = linesV s) (fun x => s.length - x.2.1)
    (fun x => [.d (Rep.to s), .any, .gr 0 1 (x.2.2.map Rep.to), .d (.int .i64 x.1), .d (.int .i64 x.2.1), .any, .any]) (fun x => [.tip x.2.2.length]) (0, 0, []) (by simp) (by simp) ⟨by simp, by simp, by simp, by simp, by simp [linesV]⟩ ?_
  rintro ⟨fr, i, o⟩ ⟨b1, b2, b3, b5, b4⟩
  simp only at b1 b2 b3 b4 b5
  by_cases hi : i < s.length
  · have w1 : IntKind.i64.wrap ((i : Int) + 1) = ((i + 1 : Nat) : Int) := by rw [wrap_in (by omega) (by omega)]; omega
    have ed : s.drop i = s[i] :: s.drop (i + 1) := List.drop_eq_getElem_cons hi
    have et : (s.take (i + 1)).drop fr = (s.take i).drop fr ++ [s[i]] := by
      rw [List.take_succ_eq_append_getElem hi, List.drop_append_of_le_length (by simp; omega)]
    have es : List.take (i + 1 - fr) (s.drop fr) = (s.take (i + 1)).drop fr := by rw [List.drop_take]
    rw [ed] at b4
    simp only [linesF, ← et] at b4
    have i2 : (i : Int) + 1 ≤ s.length := by omega
    have i3 : (fr : Int) ≤ (i : Int) + 1 := by omega
    have e : ((s[i].toNat : Int) = 10) = (s[i] = 10) := by
      apply propext
      constructor
      · intro h
        exact UInt8.toNat_inj.1 (by simp; omega)
      · intro h; rw [h]; rfl
    have en : (s.take (i + 1)).drop (i + 1) = [] := List.drop_eq_nil_of_le (by simp; omega)
    by_cases c : s[i] = 10
    · rw [if_pos c] at b4
      simp [hi, w1, e, c, i2, i3]
      rw [es]
      exact ⟨by unfold room; omega, Nxt.mk (i + 1, i + 1, o ++ [(s.take (i + 1)).drop fr]) (by simp; omega) (by simp) (by simp) ⟨by simp, by simp; omega, by simp; omega, by simp, by simp only [en]; rw [← b4]; simp⟩⟩
    · rw [if_neg c] at b4
      by_cases l : i + 1 = s.length
      · have l' : s.length = i + 1 := by omega
        have ez : s.drop (i + 1) = [] := List.drop_eq_nil_of_le (by omega)
        have ec : (s.take (i + 1)).drop fr ≠ [] := by
          intro hh
          have := congrArg List.length hh
          simp at this
          omega
        rw [ez] at b4
        simp only [linesF, ec, if_false] at b4
        have i4 : (i : Int) < (i : Int) + 1 := by omega
        simp [l', w1, e, c, i3, i4]
        rw [es]
        refine ⟨by unfold room; omega, Nxt.mk (i + 1, i + 1, o ++ [(s.take (i + 1)).drop fr]) (by simp) (by simp) (by simp) ⟨by simp, by simp, by simp; omega, by simp, ?_⟩⟩
        simp only [en, ez, linesF, if_true]
        rw [← b4]
        simp
      · have l' : ¬ ((i : Int) + 1 = s.length) := by omega
        simp [hi, w1, e, c, l']
        exact Nxt.mk (fr, i + 1, o) (by simp; omega) (by simp) (by simp) ⟨by simp only; omega, by simp only; omega, by simp only; omega, by simp only; omega, by simpa using b4⟩
  · have h1 : i = s.length := by omega
    subst h1
    have h2 : fr = s.length := by omega
    subst h2
    simp [linesF] at b4
    simp [b4]

@[simp] def S_ref02_Check : List D → Prop × D := spec1 (α := Str) (fun s => s.length ≤ 4194304) (fun s => .int .i64 (checkT s))
theorem ct_ref02_Check {P : Program} {f g : Nat} {G : Gam} (h : CodeOf P f 1 3 [1] (x_ref02_Check g)) (hG : GamOk P G) (hg : G.find g = some S_ref02_Lines) : Has P f S_ref02_Check := h.has1 hG fun s hp => by
  by_cases a : s.length ≤ 1048576
  · have a' : ¬ ((1048576 : Int) < s.length) := by omega
    by_cases b : (linesV s).length ≤ 4096
    · have b' : ¬ ((4096 : Int) < (linesV s).length) := by omega
      simp [x_ref02_Check, hg, hp, a, a', b, b', checkT]
    · have b' : ((4096 : Int) < (linesV s).length) := by omega
      simp [x_ref02_Check, hg, hp, a, a', b, b', checkT]
  · have a' : ((1048576 : Int) < s.length) := by omega
    simp [x_ref02_Check, a, a', checkT]

@[simp] def S_ref02_Split : List D → Prop × D := spec1 (α := Str) (fun s => s.length ≤ 4194304) (fun s => splitD s)
theorem ct_ref02_Split {P : Program} {f g1 g2 : Nat} {G : Gam} (h : CodeOf P f 1 4 [1, 2] (x_ref02_Split g1 g2)) (hG : GamOk P G) (h1 : G.find g1 = some S_ref02_Check) (h2 : G.find g2 = some S_ref02_Lines) : Has P f S_ref02_Split := h.has1 hG fun s hp => by
  by_cases c : checkT s = 0
  · simp [x_ref02_Split, h1, h2, hp, c, splitD]
  · have c1 : checkT s = 1 := by
      unfold checkT at *
      split at c <;> simp_all
    simp [x_ref02_Split, h1, hp, c1, splitD]

end Go.AE

set_option maxRecDepth 20000
namespace Go.AE

def okL (x : Str) : Bool := decide (x ≠ [] ∧ (10 : UInt8) ∉ x.dropLast)

def listV : List Str → Bool
  | [] => true
  | [x] => okL x
  | x :: y :: r => okL x && endedV x && listV (y :: r)

theorem listV_cons {x : Str} {l : List Str} (h1 : okL x = true) (h2 : endedV x = true) (h3 : listV l = true) : listV (x :: l) = true := by
  cases l with
  | nil => exact h1
  | cons y r => simp [listV, h1, h2, h3]

theorem listV_lines : ∀ (s cur : Str), (10 : UInt8) ∉ cur → listV (linesF cur s) = true
  | [], cur, h => by
    by_cases hc : cur = []
    · simp [linesF, hc, listV]
    · simp only [linesF, hc, if_false, listV, okL, ne_eq, not_false_eq_true, true_and, decide_eq_true_eq]
      exact fun hm => h (List.dropLast_subset _ hm)
  | c :: s, cur, h => by
    by_cases hc : c = 10
    · subst hc
      simp only [linesF, if_true]
      exact listV_cons (by simp [okL, h]) (by simp [endedV]) (listV_lines s [] (by simp))
    · simp only [linesF, hc, if_false]
      refine listV_lines s (cur ++ [c]) ?_
      simp [h]
      exact fun e => hc e.symm

theorem indexByte_last : ∀ (t : Str) (c : UInt8), ((10 : UInt8) ∈ t → 0 ≤ Lib.indexByte (t ++ [c]) 10 ∧ Lib.indexByte (t ++ [c]) 10 < t.length) ∧ ((10 : UInt8) ∉ t → Lib.indexByte (t ++ [c]) 10 = if c = 10 then (t.length : Int) else -1)
  | [], c => by
    by_cases h : c = 10 <;> simp [Lib.indexByte, h]
  | a :: t, c => by
    obtain ⟨h1, h2⟩ := indexByte_last t c
    by_cases ha : a = 10
    · subst ha
      simp [Lib.indexByte]
    · have ha' : ¬ (10 : UInt8) = a := fun e => ha e.symm
      have e : Lib.indexByte (a :: t ++ [c]) 10 = if Lib.indexByte (t ++ [c]) 10 = -1 then -1 else Lib.indexByte (t ++ [c]) 10 + 1 := by
        simp [Lib.indexByte, ha]
      rw [e]
      constructor
      · intro h
        have h' : (10 : UInt8) ∈ t := by simpa [ha'] using h
        have := h1 h'
        rw [if_neg (by omega)]
        simp
        omega
      · intro h
        have h' : (10 : UInt8) ∉ t := fun hm => h (by simp [hm])
        rw [h2 h']
        by_cases hc : c = 10
        · simp only [hc, if_true]
          rw [if_neg (by omega)]
          simp
        · simp [hc]

def blobS (raw : List Int) (fr kinds : Int) (k : Nat) : Str := (List.range k).flatMap fun (i : Nat) => lineV (modV (atV raw (fr + 1 + i)) kinds) ++ [10]

theorem blobS_succ (raw : List Int) (fr kinds : Int) (k : Nat) : blobS raw fr kinds (k + 1) = blobS raw fr kinds k ++ lineV (modV (atV raw (fr + 1 + k)) kinds) ++ [10] := by
  simp [blobS, List.range_succ]

def blobV (raw : List Int) (fr n kinds : Int) : Str :=
  let s := blobS raw fr kinds (modV (atV raw fr) (n + 1)).toNat
  if (atV raw (fr + 90)).tmod 4 = 0 ∧ 1 < s.length ∧ s.getD (s.length - 2) 0 ≠ 10 then s.dropLast else s

theorem lines_good : ∀ x, x ∈ lines → x.length ≤ 3 ∧ x.count 10 = 0 := by decide

theorem lineV_good (k : Int) : (lineV k).length ≤ 3 ∧ (lineV k).count 10 = 0 := by
  obtain ⟨h1, h2⟩ := modV_lt k (n := 10) (by omega)
  unfold lineV
  have hl : (modV k 10).toNat < lines.length := by
    have : lines.length = 10 := rfl
    omega
  have e : lines.getD (modV k 10).toNat [] = lines[(modV k 10).toNat] := by simp [List.getD, hl]
  rw [e]
  exact lines_good _ (List.getElem_mem hl)

theorem blobS_good (raw : List Int) (fr kinds : Int) : ∀ k, (blobS raw fr kinds k).length ≤ 4 * k ∧ (blobS raw fr kinds k).count 10 = k
  | 0 => by simp [blobS]
  | k + 1 => by
    obtain ⟨h1, h2⟩ := blobS_good raw fr kinds k
    obtain ⟨h3, h4⟩ := lineV_good (modV (atV raw (fr + 1 + k)) kinds)
    rw [blobS_succ]
    simp only [List.length_append, List.count_append, List.length_singleton, h2, h4]
    simp
    omega

theorem blobV_good (raw : List Int) (fr kinds : Int) {n : Int} (hn : 0 ≤ n) : (blobV raw fr n kinds).length ≤ 4 * n.toNat ∧ (blobV raw fr n kinds).count 10 ≤ n.toNat := by
  obtain ⟨m1, m2⟩ := modV_lt (atV raw fr) (n := n + 1) (by omega)
  obtain ⟨h1, h2⟩ := blobS_good raw fr kinds (modV (atV raw fr) (n + 1)).toNat
  have e : (modV (atV raw fr) (n + 1)).toNat ≤ n.toNat := by omega
  unfold blobV
  generalize blobS raw fr kinds (modV (atV raw fr) (n + 1)).toNat = s at *
  simp only
  split
  · have hs := (List.dropLast_sublist s).count_le 10
    simp only [List.length_dropLast]
    omega
  · omega

theorem check_of {s : Str} (h1 : s.length ≤ 1048576) (h2 : s.count 10 ≤ 4095) : checkT s = 0 := by
  have h3 : (linesV s).length ≤ 4096 := by
    rw [linesV_len]
    split <;> omega
  simp [checkT, h1, h3]

theorem lines_flat (s : Str) : (linesV s).flatten = s := by
  rw [linesV, linesF_flat]; rfl

end Go.AE

set_option maxRecDepth 20000
namespace Go.AE

/-- is line k of the new text added by a script? -/
def insB (s : List ChangeT) (k : Nat) : Bool := s.any fun c => decide (c.new ≤ (k : Int) ∧ (k : Int) < c.new + c.newLen)

theorem runN_mem : ∀ (n : Nat) (i j : Int) (s : SpanT), s ∈ runN n i j ↔ ∃ t : Nat, t < n ∧ s = ⟨i + t, j + t⟩
  | 0, i, j, s => by simp [runN]
  | n + 1, i, j, s => by
    simp only [runN, List.mem_cons, runN_mem n]
    constructor
    · rintro (rfl | ⟨t, ht, rfl⟩)
      · exact ⟨0, by omega, by simp⟩
      · exact ⟨t + 1, by omega, by push_cast; simp; omega⟩
    · rintro ⟨t, ht, rfl⟩
      rcases Nat.eq_zero_or_pos t with rfl | h
      · exact .inl (by simp)
      · exact .inr ⟨t - 1, by omega, by simp; omega⟩

theorem okV_new : ∀ (l : List ChangeT) (i j m n : Int) (fst : Bool), okV l i j fst m n = true → j ≤ n ∧ ∀ c, c ∈ l → j ≤ c.new ∧ 0 ≤ c.newLen ∧ c.new + c.newLen ≤ n ∧ i ≤ c.old ∧ 0 ≤ c.oldLen ∧ c.old + c.oldLen ≤ m
  | [], i, j, m, n, fst, h => by
    simp only [okV, Bool.and_eq_true, decide_eq_true_eq] at h
    exact ⟨by omega, by simp⟩
  | c :: l, i, j, m, n, fst, h => by
    simp only [okV, Bool.and_eq_true] at h
    have h2 := stepV_true h.1
    obtain ⟨h3, h4⟩ := okV_new l _ _ _ _ _ h.2
    have h5 := okV_le l _ _ _ _ _ h.2
    refine ⟨by omega, fun d hd => ?_⟩
    rcases List.mem_cons.1 hd with rfl | hd
    · omega
    · have := h4 d hd
      omega

theorem insB_low {l : List ChangeT} {i j m n : Int} {fst : Bool} (h : okV l i j fst m n = true) {k : Nat} (hk : (k : Int) < j) : insB l k = false := by
  unfold insB
  rw [List.any_eq_false]
  intro c hc
  have := (okV_new l _ _ _ _ _ h).2 c hc
  simp
  omega

theorem ins_mat : ∀ (l : List ChangeT) (i j m n : Int) (fst : Bool), okV l i j fst m n = true → ∀ k : Nat, j ≤ k → (k : Int) < n → ((∃ s, s ∈ matV l i j m ∧ s.to = k) ↔ insB l k = false)
  | [], i, j, m, n, fst, h, k, hk, hk2 => by
    simp only [okV, Bool.and_eq_true, decide_eq_true_eq] at h
    constructor
    · intro _; rfl
    · intro _
      exact ⟨⟨i + ((k - j).toNat : Nat), j + ((k - j).toNat : Nat)⟩, (runN_mem _ _ _ _).2 ⟨(k - j).toNat, by omega, rfl⟩, by simp; omega⟩
  | c :: l, i, j, m, n, fst, h, k, hk, hk2 => by
    simp only [okV, Bool.and_eq_true] at h
    have h2 := stepV_true h.1
    have hlow := fun hk => insB_low h.2 (k := k) hk
    have hm := matV_mem l _ _ _ _ _ h.2
    have hins : insB (c :: l) k = (decide (c.new ≤ (k : Int) ∧ (k : Int) < c.new + c.newLen) || insB l k) := by simp [insB]
    rw [hins]
    by_cases h3 : c.new + c.newLen ≤ (k : Int)
    · have ih := ins_mat l _ _ _ _ _ h.2 k h3 hk2
      have e : decide (c.new ≤ (k : Int) ∧ (k : Int) < c.new + c.newLen) = false := by simp; omega
      rw [e, Bool.false_or, ← ih]
      simp only [matV, List.mem_append]
      constructor
      · rintro ⟨s, hs | hs, h4⟩
        · obtain ⟨t, ht, rfl⟩ := (runN_mem _ _ _ _).1 hs
          simp at h4
          omega
        · exact ⟨s, hs, h4⟩
      · rintro ⟨s, hs, h4⟩
        exact ⟨s, .inr hs, h4⟩
    · have hl := hlow (by omega)
      rw [hl, Bool.or_false]
      by_cases h4 : c.new ≤ (k : Int)
      · have e : decide (c.new ≤ (k : Int) ∧ (k : Int) < c.new + c.newLen) = true := by simp; omega
        rw [e]
        simp only [Bool.true_eq_false, iff_false, matV, List.mem_append]
        rintro ⟨s, hs | hs, h5⟩
        · obtain ⟨t, ht, rfl⟩ := (runN_mem _ _ _ _).1 hs
          simp at h5
          omega
        · have := hm s hs
          omega
      · have e : decide (c.new ≤ (k : Int) ∧ (k : Int) < c.new + c.newLen) = false := by simp; omega
        rw [e]
        simp only [iff_true, matV, List.mem_append]
        exact ⟨⟨i + ((k - j).toNat : Nat), j + ((k - j).toNat : Nat)⟩, .inl ((runN_mem _ _ _ _).2 ⟨(k - j).toNat, by omega, rfl⟩), by simp; omega⟩

/-! ### the table -/

def scrV (ids : List (List Int)) (p : Nat) : List ChangeT := scriptV (ids.getD (p + 1) []) (ids.getD 0 [])

/-- the marks of line k of the result, of the first n parents -/
def markN (ids : List (List Int)) (k : Nat) : Nat → Nat
  | 0 => 0
  | p + 1 => if insB (scrV ids p) k = true then markN ids k p ||| 2 ^ p else markN ids k p

theorem markN_lt (ids : List (List Int)) (k : Nat) : ∀ n, markN ids k n < 2 ^ n
  | 0 => by simp [markN]
  | n + 1 => by
    have ih := markN_lt ids k n
    have e : 2 ^ (n + 1) = 2 ^ n + 2 ^ n := by rw [Nat.pow_succ]; omega
    unfold markN
    split
    · exact Nat.or_lt_two_pow (by omega) (by omega)
    · omega

/-- what a parent lost in gap k -/
def gapS (x : List Int) (s : List ChangeT) (k : Nat) : List Int := s.foldl (fun acc c => if c.new = (k : Int) then (x.drop c.old.toNat).take c.oldLen.toNat else acc) []
def gapV (ids : List (List Int)) (n k : Nat) : List (List Int) := (List.range n).map fun p => gapS (ids.getD (p + 1) []) (scrV ids p) k

theorem gapS_len (x : List Int) (s : List ChangeT) (k : Nat) : (gapS x s k).length ≤ x.length := by
  unfold gapS
  suffices ∀ (s : List ChangeT) (acc : List Int), acc.length ≤ x.length → (s.foldl (fun acc c => if c.new = (k : Int) then (x.drop c.old.toNat).take c.oldLen.toNat else acc) acc).length ≤ x.length from this s [] (by simp)
  intro s
  induction s with
  | nil => intro acc h; exact h
  | cons c s ih =>
    intro acc h
    rw [List.foldl_cons]
    refine ih _ ?_
    split
    · simp; omega
    · exact h

theorem gapS_mem (x : List Int) (s : List ChangeT) (k : Nat) : ∀ y, y ∈ gapS x s k → y ∈ x := by
  unfold gapS
  suffices ∀ (s : List ChangeT) (acc : List Int), (∀ y, y ∈ acc → y ∈ x) → ∀ y, y ∈ (s.foldl (fun acc c => if c.new = (k : Int) then (x.drop c.old.toNat).take c.oldLen.toNat else acc) acc) → y ∈ x from this s [] (by simp)
  intro s
  induction s with
  | nil => intro acc h; exact h
  | cons c s ih =>
    intro acc h
    rw [List.foldl_cons]
    refine ih _ ?_
    split
    · intro y hy
      exact List.mem_of_mem_drop (List.mem_of_mem_take hy)
    · exact h

def mergedV (xs : List (List Int)) : List MergedT := (coalO xs 0 []).getD []

def lostRow (names : List Str) (m : MergedT) : RowT := ⟨true, m.parents, names.getD m.line.toNat []⟩
def keptRow (names : List Str) (ids : List (List Int)) (n k : Nat) : RowT := ⟨false, markN ids k n, names.getD ((ids.getD 0 []).getD k 0).toNat []⟩

/-- the rows of gap k and of the line behind it -/
def gapRows (names : List Str) (ids : List (List Int)) (n k : Nat) : List RowT :=
  (mergedV (gapV ids n k)).map (lostRow names) ++ if k < (ids.getD 0 []).length then [keptRow names ids n k] else []
def rowsTo (names : List Str) (ids : List (List Int)) (n k : Nat) : List RowT := (List.range k).flatMap (gapRows names ids n)

theorem rowsTo_succ (names : List Str) (ids : List (List Int)) (n k : Nat) : rowsTo names ids n (k + 1) = rowsTo names ids n k ++ gapRows names ids n k := by
  simp [rowsTo, List.range_succ]

def filesV (result : Str) (parents : List Str) : List (List Str) := (result :: parents).map linesV

def makeV (result : Str) (parents : List Str) : TableT :=
  ⟨parents.length, rowsTo (namesV (filesV result parents)) (idsV (filesV result parents)) parents.length ((linesV result).length + 1)⟩

def makeD (result : Str) (parents : List Str) : D :=
  if parents.length < 1 ∨ 32 < parents.length then .tup [Rep.to (⟨0, []⟩ : TableT), .int .i64 2] else .tup [Rep.to (makeV result parents), .int .i64 0]

/-- blobs that are small -/
def smallB (result : Str) (parents : List Str) : Prop := result.length ≤ 100 ∧ ∀ p, p ∈ parents → p.length ≤ 100

/-! ### facts of the numbers -/

theorem idsV_getD {files : List (List Str)} {p : Nat} (h : p < files.length) : (idsV files).getD p [] = (files[p]).map (placeV (namesV files)) := by
  simp [idsV, List.getD, h]

theorem id_name {files : List (List Str)} {p : Nat} (h : p < files.length) {x : Int} (hx : x ∈ (idsV files).getD p []) : ∃ k : Nat, x = k ∧ k < (namesV files).length ∧ ∃ y, y ∈ files[p] ∧ (namesV files).getD k [] = y ∧ x = placeV (namesV files) y := by
  rw [idsV_getD h] at hx
  obtain ⟨y, hy, rfl⟩ := List.mem_map.1 hx
  obtain ⟨k, hk, h1, h2⟩ := placeV_mem (mem_names.2 ⟨_, List.getElem_mem h, hy⟩)
  exact ⟨k, h1, hk, y, hy, by simp [List.getD, hk, h2], rfl⟩

theorem filesV_len (r : Str) (ps : List Str) : (filesV r ps).length = ps.length + 1 := by simp [filesV]
theorem filesV_zero (r : Str) (ps : List Str) : (filesV r ps)[0]'(by rw [filesV_len]; omega) = linesV r := by simp [filesV]
theorem filesV_succ (r : Str) (ps : List Str) {p : Nat} (h : p < ps.length) : (filesV r ps)[p + 1]'(by rw [filesV_len]; omega) = linesV ps[p] := by simp [filesV]

theorem ids0_len (r : Str) (ps : List Str) : ((idsV (filesV r ps)).getD 0 []).length = (linesV r).length := by
  rw [idsV_getD (by rw [filesV_len]; omega), List.length_map, filesV_zero]

theorem kept_text (r : Str) (ps : List Str) {k : Nat} (hk : k < (linesV r).length) : (namesV (filesV r ps)).getD (((idsV (filesV r ps)).getD 0 []).getD k 0).toNat [] = (linesV r)[k] ∧ 0 ≤ ((idsV (filesV r ps)).getD 0 []).getD k 0 ∧ (((idsV (filesV r ps)).getD 0 []).getD k 0).toNat < (namesV (filesV r ps)).length := by
  have h0 : 0 < (filesV r ps).length := by rw [filesV_len]; omega
  have hl := ids0_len r ps
  have hm : ((idsV (filesV r ps)).getD 0 []).getD k 0 ∈ (idsV (filesV r ps)).getD 0 [] := by
    exact getD_mem _ 0 (by rw [hl]; exact hk)
  obtain ⟨j, h1, h2, y, h3, h4, h5⟩ := id_name h0 hm
  have e : ((idsV (filesV r ps)).getD 0 []).getD k 0 = placeV (namesV (filesV r ps)) (linesV r)[k] := by
    rw [idsV_getD h0, List.getD, List.getElem?_eq_getElem (by rw [List.length_map, filesV_zero]; exact hk)]
    simp [filesV_zero]
  have hin : (linesV r)[k] ∈ namesV (filesV r ps) := mem_names.2 ⟨_, List.getElem_mem h0, by rw [filesV_zero]; exact List.getElem_mem _⟩
  obtain ⟨i, hi, g1, g2⟩ := placeV_mem hin
  rw [e, g1]
  simp [List.getD, hi, g2]

/-- the lines of a merged list stand in its lists -/
theorem coal_mem {ys : List (List Int)} {l : List MergedT} (h : CoalOk ys l) (hn : ys.length ≤ 32) {m : MergedT} (hm : m ∈ l) : ∃ b, ∃ hb : b < ys.length, m.line ∈ ys[b] := by
  obtain ⟨k, h1, h2, h3⟩ := h.ok m hm
  obtain ⟨b, hb⟩ := Nat.exists_testBit_of_ne_zero (show k ≠ 0 by omega)
  have hbl : b < ys.length := by
    rcases Nat.lt_or_ge b ys.length with h4 | h4
    · exact h4
    · have : k < 2 ^ b := Nat.lt_of_lt_of_le h3 (Nat.pow_le_pow_right (by omega) h4)
      rw [Nat.testBit_lt_two_pow this] at hb
      exact absurd hb (by simp)
  have hk : k < 4294967296 := Nat.lt_of_lt_of_le h3 (pow_le hn)
  refine ⟨b, hbl, ?_⟩
  rw [← h.pr b hbl]
  refine List.mem_map.2 ⟨m, List.mem_filter.2 ⟨hm, ?_⟩, rfl⟩
  unfold hasV
  rw [h1, getU_nat hk (by omega), if_pos hb]
  rfl

end Go.AE

set_option maxRecDepth 20000
set_option maxHeartbeats 2000000
namespace Go.AE

@[simp] def S_gen_Blob : List D → Prop × D := spec4 (α := List Int) (β := Int) (γ := Int) (δ := Int) (fun raw fr n kinds => raw.length ≤ 1048576 ∧ 0 ≤ fr ∧ fr ≤ 100000 ∧ 0 ≤ n ∧ n ≤ 1000 ∧ 1 ≤ kinds ∧ kinds ≤ 1000) (fun raw fr n kinds => Rep.to (blobV raw fr n kinds))

theorem ct_gen_Blob {P : Program} {f g1 g2 g3 : Nat} {G : Gam} (h : CodeOf P f 4 9 [4] (x_gen_Blob g1 g2 g3)) (hG : GamOk P G) (h1 : G.find g1 = some S_gen_At) (h2 : G.find g2 = some S_gen_Mod) (h3 : G.find g3 = some S_gen_Line) : Has P f S_gen_Blob := h.has4 hG fun raw fr n kinds hp => by
  obtain ⟨p1, p2, p3, p4, p5, p6, p7⟩ := hp
  obtain ⟨m1, m2⟩ := modV_lt (atV raw fr) (n := n + 1) (by omega)
  have q1 : (fr : Int) < 9223372036854775807 := by omega
  have q2 : raw.length ≤ 9223372036854775807 := by omega
  have q3 : 1 ≤ n + 1 ∧ n + 1 ≤ 9223372036854775807 := by omega
  have q4 : 1 ≤ kinds ∧ kinds ≤ 9223372036854775807 := by omega
  have w0 : IntKind.i64.wrap (n + 1) = n + 1 := wrap_in (by omega) (by omega)
  have w2 : IntKind.i64.wrap (fr + 1) = fr + 1 := wrap_in (by omega) (by omega)
  have w3 : IntKind.i64.wrap (fr + 90) = fr + 90 := wrap_in (by omega) (by omega)
  obtain ⟨m, hm⟩ := Int.eq_ofNat_of_zero_le m1
  have hv : blobV raw fr n kinds = if (atV raw (fr + 90)).tmod 4 = 0 ∧ 1 < (blobS raw fr kinds m).length ∧ (blobS raw fr kinds m).getD ((blobS raw fr kinds m).length - 2) 0 ≠ 10 then (blobS raw fr kinds m).dropLast else blobS raw fr kinds m := by
    unfold blobV
    rw [hm]
    rfl
  have hr := atV_range raw (fr + 90)
  obtain ⟨hb, _⟩ := blobS_good raw fr kinds m
  have r1 : 0 ≤ fr + 90 ∧ fr + 90 < 9223372036854775807 := by omega
  rw [hv]
  clear hv
  simp [x_gen_Blob, h1, h2, p2, q1, q2, q3, w0]
  rw [hm]
  refine vc_lp (σ := Nat) (fun i => i ≤ m) (fun i => m - i) (fun i => [.d (Rep.to raw), .d (.int .i64 fr), .d (.int .i64 m), .d (.int .i64 kinds), .any, .d (.str (blobS raw fr kinds i)), .d (.int .i64 i), .any, .any]) (fun _ => []) 0 (by simp [blobS]) (by simp) (by simp) ?_
  intro i hi
  by_cases h6 : i < m
  · have w1 : IntKind.i64.wrap (fr + 1 + i) = fr + 1 + i := wrap_in (by omega) (by omega)
    have w4 : IntKind.i64.wrap ((i : Int) + 1) = (i : Int) + 1 := wrap_in (by omega) (by omega)
    have r2 : 0 ≤ fr + 1 + (i : Int) ∧ fr + 1 + (i : Int) < 9223372036854775807 := by omega
    obtain ⟨hl, _⟩ := lineV_good (modV (atV raw (fr + 1 + i)) kinds)
    obtain ⟨hbi, _⟩ := blobS_good raw fr kinds i
    simp [h1, h2, h3, w1, w2, w4, h6, q2, q4, r2]
    refine ⟨by omega, by omega, ?_⟩
    exact Nxt.mk (i + 1) (by omega) (by simp [blobS_succ]) (by simp) (by omega)
  · have h7 : i = m := by omega
    subst h7
    generalize blobS raw fr kinds i = s at *
    simp [h1, q2, w3, r1]
    generalize atV raw (fr + 90) = z at *
    refine ⟨fun c1 => ⟨fun c2 => ?_, fun c2 c3 c4 => by omega⟩, fun a b => absurd b a⟩
    have c2' : 1 < s.length := by omega
    have wA : IntKind.i64.wrap ((s.length : Int) - 2) = ((s.length - 2 : Nat) : Int) := by rw [wrap_in (by omega) (by omega)]; omega
    have wB : IntKind.i64.wrap ((s.length : Int) - 1) = ((s.length - 1 : Nat) : Int) := by rw [wrap_in (by omega) (by omega)]; omega
    rw [wA, wB]
    simp only [Int.toNat_natCast]
    refine ⟨by omega, fun c3 => ⟨by omega, ?_⟩, fun c3 _ _ c4 => ?_⟩
    · have c4 : ¬ s[s.length - 2]?.getD 0 = 10 := fun e => c3 (by rw [e]; rfl)
      rw [if_pos ⟨c1, c2', c4⟩, List.dropLast_eq_take]
    · exact absurd (UInt8.toNat_inj.1 (by simp; omega)) c4

def flen (l : List Str) : Nat := l.flatten.length

theorem flen_take (l : List Str) (k : Nat) : flen l = flen (l.take k) + flen (l.drop k) := by
  unfold flen
  rw [← List.length_append, ← List.flatten_append, List.take_append_drop]

theorem flen_succ {l : List Str} {i : Nat} (hi : i < l.length) : flen (l.take (i + 1)) = flen (l.take i) + l[i].length := by
  unfold flen
  rw [List.take_succ_eq_append_getElem hi, List.flatten_append, List.length_append]
  congr 1
  rw [List.flatten_cons, List.flatten_nil, List.append_nil]

def joinD (l : List Str) : D := if listV l = true then (if flen l ≤ 1048576 ∧ l.length ≤ 4096 then .tup [.str (Lib.join l []), .int .i64 0] else .tup [.str [], .int .i64 1]) else .tup [.str [], .int .i64 2]

theorem join_flat (l : List Str) : Lib.join l [] = l.flatten := by
  cases l with
  | nil => rfl
  | cons x r =>
    rw [Lib.join_cons]
    simp [Lib.joinTail]

theorem listV_drop {l : List Str} {i : Nat} (h : i < l.length) : listV (l.drop i) = (okL l[i] && (decide (i + 1 = l.length) || endedV l[i]) && listV (l.drop (i + 1))) := by
  rw [List.drop_eq_getElem_cons h]
  cases h2 : l.drop (i + 1) with
  | nil =>
    have h3 : l.length ≤ i + 1 := List.drop_eq_nil_iff.1 h2
    have h4 : i + 1 = l.length := by omega
    simp [listV, h4]
  | cons y r =>
    have h4 : ¬ i + 1 = l.length := by
      intro h5
      have : l.drop (i + 1) = [] := List.drop_eq_nil_iff.2 (by omega)
      rw [this] at h2
      simp at h2
    simp [listV, h4]

@[simp] def S_text_Join : List D → Prop × D := spec1 (α := List Str) (fun l => flen l ≤ 4194304 ∧ l.length ≤ 4194304) (fun l => joinD l)

theorem ct_text_Join {P : Program} {f g1 g2 : Nat} {G : Gam} (h : CodeOf P f 1 13 [1, 2] (x_text_Join g1 g2)) (hG : GamOk P G) (h1 : G.find g1 = some S_strings_IndexByte) (h2 : G.find g2 = some S_strings_Join) : Has P f S_text_Join := h.has1 hG fun l hp => by
  obtain ⟨p1, p2⟩ := hp
  simp [x_text_Join]
  refine vc_lp (σ := Nat) (fun i => i ≤ l.length ∧ listV l = listV (l.drop i)) (fun i => l.length - i) (fun i => [.d (Rep.to l), .any, .any, .d (.int .i64 (flen (l.take i))), .any, .any, .any, .d (Rep.to l), .d (.int .i64 l.length), .d (.int .i64 i), .any, .any, .any]) (fun _ => []) 0 (by simp [flen]) (by simp) ⟨by simp, by simp⟩ ?_
  rintro i ⟨i1, i2⟩
  by_cases hi : i < l.length
  · have w1 : IntKind.i64.wrap ((i : Int) + 1) = (i : Int) + 1 := wrap_in (by omega) (by omega)
    have w2 : IntKind.i64.wrap ((l.length : Int) - 1) = (l.length : Int) - 1 := wrap_in (by omega) (by omega)
    rw [listV_drop hi] at i2
    have ef := flen_succ hi
    have el := flen_take l (i + 1)
    rw [ef] at el
    have hx : l[i] = l[i] := rfl
    generalize hq : l[i] = x at *
    rcases List.eq_nil_or_concat x with rfl | ⟨t, c, rfl⟩
    · have hb : listV l = false := by rw [i2]; simp [okL]
      simp [h1, hi, getD_map, hq, joinD, hb]
    · simp only [List.concat_eq_append] at *
      obtain ⟨b1, b2⟩ := indexByte_last t c
      have hl0 : (t ++ [c]).length = t.length + 1 := by simp
      have w4 : IntKind.i64.wrap (t.length : Int) = t.length := wrap_in (by omega) (by omega)
      have hne : t ++ [c] ≠ [] := by simp
      rw [hl0] at ef el
      have w3 : IntKind.i64.wrap ((flen (l.take i) : Int) + ((t.length : Int) + 1)) = flen (l.take (i + 1)) := by rw [wrap_in (by omega) (by omega), ef]; omega
      generalize hz : Lib.indexByte (t ++ [c]) 10 = z at *
      by_cases ht : (10 : UInt8) ∈ t
      · obtain ⟨b3, b4⟩ := b1 ht
        have hb : listV l = false := by rw [i2]; simp [okL, ht]
        simp [h1, hi, getD_map, hq, joinD, hb, hz, b3, b4, w4, w2]
      · have b3 := b2 ht
        have ok : okL (t ++ [c]) = true := by simp [okL, ht]
        by_cases hc : c = 10
        · rw [if_pos hc] at b3
          have en : endedV (t ++ [c]) = true := by simp [endedV, hc]
          rw [ok, en] at i2
          simp at i2
          subst b3
          have hn : ¬ ((t.length : Int) < 0) := by omega
          simp [h1, hi, getD_map, hq, hz, w4, w2, w3, w1, hn]
          exact Nxt.mk (i + 1) (by omega) (by simp) (by simp) ⟨by omega, i2⟩
        · rw [if_neg hc] at b3
          have en : endedV (t ++ [c]) = false := by simp [endedV, hc]
          rw [ok, en] at i2
          simp at i2
          subst b3
          by_cases hlast : i + 1 = l.length
          · have hl2 : ¬ ((i : Int) < (l.length : Int) - 1) := by omega
            simp [h1, hi, getD_map, hq, hz, w4, w2, hl2, w3, w1]
            exact Nxt.mk (i + 1) (by omega) (by simp) (by simp) ⟨by omega, by rw [i2]; simp [hlast]⟩
          · have hl2 : ((i : Int) < (l.length : Int) - 1) := by omega
            have hb : listV l = false := by rw [i2]; simp [hlast]
            simp [h1, hi, getD_map, hq, hz, w4, w2, hl2, joinD, hb]
  · have hi2 : i = l.length := by omega
    subst hi2
    have hb : listV l = true := by rw [i2]; simp [listV]
    have hj := join_flat l
    have ht : l.take l.length = l := List.take_length
    by_cases a : (1048576 : Int) < flen l
    · have a' : ¬ (flen l ≤ 1048576) := by omega
      simp [joinD, hb, a, a', ht]
    · by_cases b : (4096 : Int) < l.length
      · have b' : ¬ (l.length ≤ 4096) := by omega
        simp [joinD, hb, a, b, b', ht]
      · have a' : flen l ≤ 1048576 := by omega
        have b' : l.length ≤ 4096 := by omega
        have a2 : (Lib.join l []).length ≤ 140737488355328 := by rw [hj]; unfold flen at a'; omega
        have b2 : l.length ≤ 140737488355328 := by omega
        simp [h2, joinD, hb, a, b, a', b', a2, b2, ht]

end Go.AE

set_option maxRecDepth 20000
set_option maxHeartbeats 2000000
namespace Go.AE

/-- bytes as data -/
def bytesD (s : Str) : List D := s.map fun c => .int .u8 c.toNat

theorem u8s_bytes (s : Str) : u8s (bytesD s) = s := by
  unfold u8s bytesD
  rw [List.map_map]
  refine (List.map_congr_left fun c _ => ?_).trans (List.map_id s)
  simp

theorem allU8_bytes (s : Str) : allU8 (bytesD s) := by
  intro x hx
  unfold bytesD at hx
  obtain ⟨c, _, rfl⟩ := List.mem_map.1 hx
  exact ⟨_, rfl⟩

theorem bytesD_app (s t : Str) : bytesD s ++ bytesD t = bytesD (s ++ t) := by simp [bytesD]

@[simp] theorem src_str (s : Store) (t : Str) : src s 1 (.d (.str t)) = (True, bytesD t) := by simp [src, bytesD]

@[simp] theorem eB2s_gr (s : Store) (l : Nat) (t : Str) : eB2s s (.gr l 1 (bytesD t)) = ⟨True, [], .d (.str t)⟩ := by
  unfold eB2s
  simp [A.notStr, src, borFp, u8s_bytes, allU8_bytes]
theorem bytesD_len (s : Str) : (bytesD s).length = s.length := by simp [bytesD]

@[simp] def S_ref02_All : List D → Prop × D := spec1 (α := List Str) (fun l => flen l ≤ 4194304 ∧ l.length ≤ 4194304) (fun l => .str l.flatten)

theorem ct_ref02_All {P : Program} {f : Nat} {G : Gam} (h : CodeOf P f 1 5 [1] x_ref02_All) (hG : GamOk P G) : Has P f S_ref02_All := h.has1 hG fun l hp => by
  obtain ⟨p1, p2⟩ := hp
  simp [x_ref02_All]
  refine vc_lp (σ := Nat) (fun i => i ≤ l.length) (fun i => l.length - i) (fun i => [.d (Rep.to l), .any, .gr 0 1 (bytesD (l.take i).flatten), .d (.int .i64 i), .any]) (fun i => [.tip (flen (l.take i))]) 0 (by simp [bytesD]) (by simp [flen]) (by simp) ?_
  intro i i1
  by_cases hi : i < l.length
  · have w1 : IntKind.i64.wrap ((i : Int) + 1) = (i : Int) + 1 := wrap_in (by omega) (by omega)
    have ef := flen_succ hi
    have el := flen_take l (i + 1)
    have e1 : (l.take (i + 1)).flatten = (l.take i).flatten ++ l[i] := by
      rw [List.take_succ_eq_append_getElem hi, List.flatten_append, List.flatten_cons, List.flatten_nil, List.append_nil]
    simp [hi, getD_map, w1, bytesD_len, bytesD_app, ← e1, -List.length_flatten]
    exact ⟨⟨rfl, by unfold room; unfold flen at *; omega⟩, Nxt.mk (i + 1) (by omega) (by simp) (by simp [flen, e1]) (by omega)⟩
  · have hi2 : i = l.length := by omega
    subst hi2
    simp

@[simp] def S_ref02_List : List D → Prop × D := spec1 (α := List Str) (fun l => flen l ≤ 4194304 ∧ l.length ≤ 4194304) (fun l => .bool (listV l))

theorem ct_ref02_List {P : Program} {f g : Nat} {G : Gam} (h : CodeOf P f 1 8 [1] (x_ref02_List g)) (hG : GamOk P G) (hg : G.find g = some S_ref02_Ended) : Has P f S_ref02_List := h.has1 hG fun l hp => by
  obtain ⟨p1, p2⟩ := hp
  simp [x_ref02_List]
  refine vc_lp (σ := Nat) (fun i => i ≤ l.length ∧ listV l = listV (l.drop i)) (fun i => l.length - i) (fun i => [.d (Rep.to l), .any, .d (.int .i64 i), .any, .any, .any, .any, .any]) (fun _ => []) 0 (by simp) (by simp) ⟨by simp, by simp⟩ ?_
  rintro i ⟨i1, i2⟩
  by_cases hi : i < l.length
  · have w1 : IntKind.i64.wrap ((i : Int) + 1) = (i : Int) + 1 := wrap_in (by omega) (by omega)
    rw [listV_drop hi] at i2
    have ef := flen_succ hi
    have el := flen_take l (i + 1)
    obtain ⟨x, hq⟩ : ∃ x, l[i] = x := ⟨_, rfl⟩
    rw [hq] at i2 ef
    have hx : x.length ≤ 4194304 := by omega
    simp [hi, getD_map, hq]
    refine vc_lp (σ := Nat) (fun k => k ≤ x.length ∧ ∀ j, j < k → x.getD j 0 ≠ 10) (fun k => x.length - k) (fun k => [.d (Rep.to l), .any, .d (.int .i64 i), .d (.int .i64 k), .any, .any, .any, .any]) (fun _ => []) 0 (by simp) (by simp) ⟨by simp, by simp⟩ ?_
    rintro k ⟨k1, k2⟩
    have w2 : IntKind.i64.wrap ((k : Int) + 1) = (k : Int) + 1 := wrap_in (by omega) (by omega)
    by_cases hk : k + 1 < x.length
    · have hk' : (k : Int) + 1 < x.length := by omega
      have hk2 : k < x.length := by omega
      have e : ((x[k].toNat : Int) = 10) = (x[k] = 10) := by
        apply propext
        constructor
        · intro h
          exact UInt8.toNat_inj.1 (by simp; omega)
        · intro h; rw [h]; rfl
      by_cases c : x[k] = 10
      · have hb : listV l = false := by
          rw [i2]
          have : (10 : UInt8) ∈ x.dropLast := by
            rw [List.dropLast_eq_take, List.mem_take_iff_getElem]
            exact ⟨k, by omega, c⟩
          simp [okL, this]
        simp [hi, getD_map, hq, w2, hk', hk2, e, c, hb]
      · simp [hi, getD_map, hq, w2, hk', hk2, e, c]
        refine Nxt.mk (k + 1) (by omega) (by simp) (by simp) ⟨by omega, fun j hj => ?_⟩
        by_cases hjk : j < k
        · exact k2 j hjk
        · obtain rfl : j = k := by omega
          simpa [List.getD, hk2] using c
    · have hk' : ¬ ((k : Int) + 1 < x.length) := by omega
      have hn : (10 : UInt8) ∉ x.dropLast := by
        intro hm
        rw [List.dropLast_eq_take, List.mem_take_iff_getElem] at hm
        obtain ⟨j, hj, hm⟩ := hm
        have := k2 j (by omega)
        have hj2 : j < x.length := by omega
        simp [List.getD, hj2] at this
        exact this hm
      have hx2 : x.length ≤ 9223372036854775807 := by omega
      by_cases hx0 : x = []
      · subst hx0
        have hb : listV l = false := by rw [i2]; simp [okL]
        have hk0 : ¬ ((k : Int) + 1 < 0) := by omega
        simp [hi, getD_map, hq, w2, hb, hk0]
      · have hok : okL x = true := by simp [okL, hx0, hn]
        rw [hok] at i2
        by_cases hlast : i + 1 < l.length
        · have hl' : (i : Int) + 1 < l.length := by omega
          have hne : ¬ i + 1 = l.length := by omega
          cases he : endedV x with
          | false =>
            have hb : listV l = false := by rw [i2, he]; simp [hne]
            simp [hi, getD_map, hq, w1, w2, hk', hx0, hl', hg, hx2, he, hb]
          | true =>
            simp [hi, getD_map, hq, w1, w2, hk', hx0, hl', hg, hx2, he]
            exact Nxt.mk (i + 1) (by omega) (by simp) (by simp) ⟨by omega, by rw [i2, he]; simp⟩
        · have hl' : ¬ ((i : Int) + 1 < l.length) := by omega
          simp [hi, getD_map, hq, w1, w2, hk', hx0, hl']
          exact Nxt.mk (i + 1) (by omega) (by simp) (by simp) ⟨by omega, by rw [i2]; simp; omega⟩
  · have hi2 : i = l.length := by omega
    subst hi2
    have hb : listV l = true := by rw [i2]; simp [listV]
    simp [hb]

@[simp] def S_ref02_Join : List D → Prop × D := spec1 (α := List Str) (fun l => flen l ≤ 4194304 ∧ l.length ≤ 4194304) (fun l => joinD l)

theorem ct_ref02_Join {P : Program} {f g1 g2 : Nat} {G : Gam} (h : CodeOf P f 1 6 [1, 2] (x_ref02_Join g1 g2)) (hG : GamOk P G) (h1 : G.find g1 = some S_ref02_List) (h2 : G.find g2 = some S_ref02_All) : Has P f S_ref02_Join := h.has1 hG fun l hp => by
  obtain ⟨p1, p2⟩ := hp
  have hj := join_flat l
  cases hb : listV l with
  | false => simp [x_ref02_Join, h1, p1, p2, hb, joinD]
  | true =>
    have hf : ((l.flatten.length : Nat) : Int) = flen l := rfl
    by_cases a : (1048576 : Int) < flen l
    · have a' : ¬ (flen l ≤ 1048576) := by omega
      simp [x_ref02_Join, h1, h2, p1, p2, hb, joinD, a, a', hf, -List.length_flatten]
    · by_cases b : (4096 : Int) < l.length
      · have b' : ¬ (l.length ≤ 4096) := by omega
        simp [x_ref02_Join, h1, h2, p1, p2, hb, joinD, a, b, b', hf, -List.length_flatten]
      · have a' : flen l ≤ 1048576 := by omega
        have b' : l.length ≤ 4096 := by omega
        simp [x_ref02_Join, h1, h2, p1, p2, hb, joinD, a, b, a', b', hf, hj, -List.length_flatten]

end Go.AE

namespace Go.AE

/-- b is a border of the first k bytes -/
def Bd (s : Str) (k b : Nat) : Prop := b < k ∧ ∀ i, i < b → s.getD i 0 = s.getD (k - b + i) 0

theorem Bd.zero (s : Str) {k : Nat} (h : 0 < k) : Bd s k 0 := ⟨h, fun i hi => absurd hi (by omega)⟩

theorem Bd.trans {s : Str} {k b c : Nat} (h : Bd s k b) (h2 : Bd s b c) : Bd s k c := by
  refine ⟨by have := h.1; have := h2.1; omega, fun i hi => ?_⟩
  have h3 := h.1
  have h4 := h2.1
  rw [h2.2 i hi, h.2 (b - c + i) (by omega)]
  congr 1
  omega

theorem Bd.nest {s : Str} {k b c : Nat} (h : Bd s k b) (h2 : Bd s k c) (h3 : c < b) : Bd s b c := by
  refine ⟨h3, fun i hi => ?_⟩
  have h4 := h.1
  rw [h2.2 i hi, h.2 (b - c + i) (by omega)]
  congr 1
  omega

theorem Bd.succ {s : Str} {k c : Nat} : Bd s (k + 1) (c + 1) ↔ (Bd s k c ∧ s.getD c 0 = s.getD k 0) ∨ False := by
  constructor
  · rintro ⟨h1, h2⟩
    refine .inl ⟨⟨by omega, fun i hi => ?_⟩, ?_⟩
    · have := h2 i (by omega)
      rw [this]
      congr 1
      omega
    · have := h2 c (by omega)
      rw [this]
      congr 1
      omega
  · rintro (⟨⟨h1, h2⟩, h3⟩ | h)
    · refine ⟨by omega, fun i hi => ?_⟩
      rcases Nat.lt_or_ge i c with h4 | h4
      · rw [h2 i h4]
        congr 1
        omega
      · have : i = c := by omega
        subst this
        rw [h3]
        congr 1
        omega
    · exact h.elim

def bdB (s : Str) (k b : Nat) : Bool := decide (s.take b = (s.take k).drop (k - b))

theorem bdB_iff {s : Str} {k b : Nat} (hk : k ≤ s.length) (hb : b < k) : bdB s k b = true ↔ Bd s k b := by
  simp only [bdB, decide_eq_true_eq]
  constructor
  · intro h
    refine ⟨hb, fun i hi => ?_⟩
    have h1 : (s.take b).getD i 0 = s.getD i 0 := by simp [List.getD, List.getElem?_take, hi]
    rw [← h1, h]
    simp [List.getD, List.getElem?_take, show k - b + i < k by omega]
  · rintro ⟨_, h⟩
    apply List.ext_getElem
    · simp; omega
    · intro i h1 h2
      simp at h1
      have := h i (by omega)
      simp only [List.getElem_take, List.getElem_drop]
      have e1 : s.getD i 0 = s[i] := by simp [List.getD, show i < s.length by omega]
      have e2 : s.getD (k - b + i) 0 = s[k - b + i] := by simp [List.getD, show k - b + i < s.length by omega]
      rw [← e1, this, e2]

/-- the greatest border of the first k bytes that is at most b -/
def downV (s : Str) (k : Nat) : Nat → Nat
  | 0 => 0
  | b + 1 => if bdB s k (b + 1) = true then b + 1 else downV s k b
def bordV (s : Str) (k : Nat) : Nat := downV s k (k - 1)
def bordsV (s : Str) : List Int := (List.range s.length).map fun k => (bordV s (k + 1) : Int)

theorem downV_spec {s : Str} {k : Nat} (hk : k ≤ s.length) : ∀ b, b < k → Bd s k (downV s k b) ∧ downV s k b ≤ b ∧ ∀ c, c ≤ b → Bd s k c → c ≤ downV s k b
  | 0, hb => ⟨Bd.zero s hb, Nat.le_refl _, fun c hc _ => hc⟩
  | b + 1, hb => by
    obtain ⟨h1, h2, h3⟩ := downV_spec hk b (by omega)
    simp only [downV]
    split
    · rename_i h
      exact ⟨(bdB_iff hk hb).1 h, Nat.le_refl _, fun c hc _ => hc⟩
    · rename_i h
      refine ⟨h1, by omega, fun c hc hb2 => ?_⟩
      rcases Nat.lt_or_ge c (b + 1) with h4 | h4
      · exact h3 c (by omega) hb2
      · have : c = b + 1 := by omega
        subst this
        exact absurd ((bdB_iff hk hb).2 hb2) h

theorem bordV_spec {s : Str} {k : Nat} (hk : k ≤ s.length) (h0 : 0 < k) : Bd s k (bordV s k) ∧ ∀ c, Bd s k c → c ≤ bordV s k := by
  obtain ⟨h1, _, h3⟩ := downV_spec hk (k - 1) (by omega)
  exact ⟨h1, fun c hc => h3 c (by have := hc.1; omega) hc⟩

/-- a border that no border exceeds is the greatest -/
theorem bordV_eq {s : Str} {k b : Nat} (hk : k ≤ s.length) (h1 : Bd s k b) (h2 : ∀ c, Bd s k c → c ≤ b) : bordV s k = b := by
  obtain ⟨h3, h4⟩ := bordV_spec hk (by have := h1.1; omega)
  exact Nat.le_antisymm (h2 _ h3) (h4 _ h1)

theorem bordV_one {s : Str} (h : 1 ≤ s.length) : bordV s 1 = 0 := bordV_eq h (Bd.zero s (by omega)) fun c hc => by have := hc.1; omega

/-- one step of the search for the next border -/
theorem bord_step {s : Str} {k b : Nat} (hb : Bd s k b) (hm : ∀ c, Bd s (k + 1) (c + 1) → c ≤ b) (hk : k < s.length) :
    (s.getD b 0 = s.getD k 0 → bordV s (k + 1) = b + 1) ∧ (s.getD b 0 ≠ s.getD k 0 → b = 0 → bordV s (k + 1) = 0) ∧
    (s.getD b 0 ≠ s.getD k 0 → 0 < b → Bd s k (bordV s b) ∧ bordV s b < b ∧ ∀ c, Bd s (k + 1) (c + 1) → c ≤ bordV s b) := by
  have hbk := hb.1
  refine ⟨fun he => ?_, fun hne h0 => ?_, fun hne h0 => ?_⟩
  · refine bordV_eq hk (Bd.succ.2 (.inl ⟨hb, he⟩)) fun c hc => ?_
    cases c with
    | zero => omega
    | succ c => have := hm c hc; omega
  · refine bordV_eq hk (Bd.zero s (by omega)) fun c hc => ?_
    cases c with
    | zero => omega
    | succ c =>
      have h1 := hm c hc
      rcases Bd.succ.1 hc with ⟨h2, h3⟩ | h
      · have : c = b := by omega
        subst this
        exact absurd h3 hne
      · exact h.elim
  · obtain ⟨h1, h2⟩ := bordV_spec (s := s) (k := b) (by omega) h0
    refine ⟨hb.trans h1, h1.1, fun c hc => ?_⟩
    have h3 := hm c hc
    rcases Bd.succ.1 hc with ⟨h4, h5⟩ | h
    · rcases Nat.lt_or_ge c b with h6 | h6
      · exact h2 c (hb.nest h4 h6)
      · have : c = b := by omega
        subst this
        exact absurd h5 hne
    · exact h.elim

theorem bordV_grow {s : Str} {k : Nat} (hk : k < s.length) (h0 : 0 < k) : bordV s (k + 1) ≤ bordV s k + 1 := by
  obtain ⟨h1, _⟩ := bordV_spec (s := s) (k := k + 1) hk (by omega)
  obtain ⟨_, h2⟩ := bordV_spec (s := s) (k := k) (by omega) h0
  generalize bordV s (k + 1) = b at *
  cases b with
  | zero => omega
  | succ b =>
    rcases Bd.succ.1 h1 with ⟨h3, _⟩ | h
    · have := h2 b h3
      omega
    · exact h.elim

/-! occurrences -/

def atB (n s : Str) (i : Nat) : Bool := decide (n ≠ [] ∧ i + n.length ≤ s.length ∧ (s.drop i).take n.length = n)

/-- the first occurrence from i on -/
def nextF (n s : Str) : Nat → Nat → Option Nat
  | 0, _ => none
  | f + 1, i => if atB n s i = true then some i else nextF n s f (i + 1)
def nextV (n s : Str) (i : Nat) : Option Nat := nextF n s (s.length + 1 - i) i

theorem nextF_spec (n s : Str) : ∀ (f i : Nat), match nextF n s f i with
    | some j => i ≤ j ∧ j < i + f ∧ atB n s j = true ∧ ∀ k, i ≤ k → k < j → atB n s k = false
    | none => ∀ k, i ≤ k → k < i + f → atB n s k = false
  | 0, i => by intro k h1 h2; omega
  | f + 1, i => by
    have ih := nextF_spec n s f (i + 1)
    by_cases h : atB n s i = true
    · simp only [nextF, h, if_true]
      exact ⟨Nat.le_refl _, by omega, trivial, fun k h1 h2 => by omega⟩
    · simp only [nextF, h, if_false, Bool.false_eq_true]
      cases hq : nextF n s f (i + 1) with
      | none =>
        rw [hq] at ih
        simp only at ih ⊢
        intro k h1 h2
        rcases Nat.lt_or_ge i k with h3 | h3
        · exact ih k (by omega) (by omega)
        · have : k = i := by omega
          subst this
          simpa using h
      | some j =>
        rw [hq] at ih
        simp only at ih ⊢
        obtain ⟨a1, a2, a3, a4⟩ := ih
        refine ⟨by omega, by omega, a3, fun k h1 h2 => ?_⟩
        rcases Nat.lt_or_ge i k with h3 | h3
        · exact a4 k (by omega) h2
        · have : k = i := by omega
          subst this
          simpa using h

theorem atB_le {n s : Str} {i : Nat} (h : atB n s i = true) : n ≠ [] ∧ i + n.length ≤ s.length ∧ (s.drop i).take n.length = n := by simpa [atB] using h

theorem nextV_some {n s : Str} {i j : Nat} (h : nextV n s i = some j) : i ≤ j ∧ atB n s j = true ∧ ∀ k, i ≤ k → k < j → atB n s k = false := by
  have := nextF_spec n s (s.length + 1 - i) i
  unfold nextV at h
  rw [h] at this
  exact ⟨this.1, this.2.2.1, this.2.2.2⟩

theorem nextV_none {n s : Str} {i : Nat} (h : nextV n s i = none) : ∀ k, i ≤ k → atB n s k = false := by
  have := nextF_spec n s (s.length + 1 - i) i
  unfold nextV at h
  rw [h] at this
  intro k hk
  by_cases h2 : k < i + (s.length + 1 - i)
  · exact this k hk h2
  · by_cases h3 : atB n s k = true
    · have := (atB_le h3).2.1
      omega
    · simpa using h3

theorem nextV_eq {n s : Str} {i j : Nat} (h1 : i ≤ j) (h2 : atB n s j = true) (h3 : ∀ k, i ≤ k → k < j → atB n s k = false) : nextV n s i = some j := by
  cases h : nextV n s i with
  | none => have := nextV_none h j h1; rw [h2] at this; simp at this
  | some k =>
    obtain ⟨a1, a2, a3⟩ := nextV_some h
    rcases Nat.lt_trichotomy j k with h4 | h4 | h4
    · have := a3 j h1 h4; rw [h2] at this; simp at this
    · rw [h4]
    · have := h3 k a1 h4; rw [a2] at this; simp at this

theorem nextV_noneOf {n s : Str} {i : Nat} (h : ∀ k, i ≤ k → atB n s k = false) : nextV n s i = none := by
  cases h2 : nextV n s i with
  | none => rfl
  | some k =>
    obtain ⟨a1, a2, _⟩ := nextV_some h2
    have := h k a1
    rw [a2] at this
    simp at this

/-- the leftmost occurrences that do not overlap, from i on -/
def posF (n s : Str) : Nat → Nat → List Nat
  | 0, _ => []
  | f + 1, i => match nextV n s i with
    | some j => j :: posF n s f (j + n.length)
    | none => []
def posV (n s : Str) (i : Nat) : List Nat := posF n s (s.length + 1 - i) i

theorem posF_fuel (n s : Str) : ∀ (f g i : Nat), s.length + 1 - i ≤ f → s.length + 1 - i ≤ g → posF n s f i = posF n s g i
  | 0, 0, _, _, _ => rfl
  | 0, g + 1, i, h, _ => by
    have : nextV n s i = none := nextV_noneOf fun k hk => by
      by_cases h3 : atB n s k = true
      · have := (atB_le h3).2.1; omega
      · simpa using h3
    simp only [posF, this]
  | f + 1, 0, i, _, h => by
    have : nextV n s i = none := nextV_noneOf fun k hk => by
      by_cases h3 : atB n s k = true
      · have := (atB_le h3).2.1; omega
      · simpa using h3
    simp only [posF, this]
  | f + 1, g + 1, i, h1, h2 => by
    simp only [posF]
    split
    · rename_i j hj
      obtain ⟨a1, a2, _⟩ := nextV_some hj
      have h3 := atB_le a2
      have h4 : 0 < n.length := List.length_pos_iff.2 h3.1
      rw [posF_fuel n s f g (j + n.length) (by omega) (by omega)]
    · rfl

theorem posV_some {n s : Str} {i j : Nat} (h : nextV n s i = some j) : posV n s i = j :: posV n s (j + n.length) := by
  obtain ⟨a1, a2, _⟩ := nextV_some h
  have h3 := atB_le a2
  have h4 : 0 < n.length := List.length_pos_iff.2 h3.1
  unfold posV
  rw [show s.length + 1 - i = (s.length - i) + 1 by omega]
  simp only [posF, h]
  rw [posF_fuel n s _ (s.length + 1 - (j + n.length)) _ (by omega) (Nat.le_refl _)]

theorem posV_none {n s : Str} {i : Nat} (h : nextV n s i = none) : posV n s i = [] := by
  unfold posV
  cases s.length + 1 - i with
  | zero => rfl
  | succ f => simp only [posF, h]

/-- induction along the occurrences -/
theorem pos_induct {n s : Str} {C : Nat → Prop} (h0 : ∀ i, nextV n s i = none → C i) (h1 : ∀ i j, nextV n s i = some j → C (j + n.length) → C i) : ∀ i, C i := by
  have : ∀ (f i : Nat), s.length + 1 - i ≤ f → C i := by
    intro f
    induction f with
    | zero =>
      intro i hi
      exact h0 i (nextV_noneOf fun k hk => by
        by_cases h3 : atB n s k = true
        · have := (atB_le h3).2.1; omega
        · simpa using h3)
    | succ f ih =>
      intro i hi
      cases h : nextV n s i with
      | none => exact h0 i h
      | some j =>
        obtain ⟨a1, a2, _⟩ := nextV_some h
        have h3 := atB_le a2
        have h4 : 0 < n.length := List.length_pos_iff.2 h3.1
        exact h1 i j h (ih _ (by omega))
  intro i
  exact this _ i (Nat.le_refl _)

theorem posV_len (n s : Str) : ∀ i, (posV n s i).length ≤ s.length - i ∨ (posV n s i) = [] := by
  refine pos_induct (n := n) (s := s) (fun i h => .inr (posV_none h)) fun i j h ih => ?_
  left
  obtain ⟨a1, a2, _⟩ := nextV_some h
  have h3 := atB_le a2
  have h4 : 0 < n.length := List.length_pos_iff.2 h3.1
  rw [posV_some h, List.length_cons]
  rcases ih with ih | ih
  · omega
  · rw [ih]; simp; omega

theorem posV_len' (n s : Str) (i : Nat) : (posV n s i).length ≤ s.length := by
  rcases posV_len n s i with h | h
  · omega
  · simp [h]

/-- fewer from a later place on -/
theorem posV_mono (n s : Str) : ∀ q p, p ≤ q → (posV n s q).length ≤ (posV n s p).length := by
  refine pos_induct (n := n) (s := s) (fun q h p hp => by rw [posV_none h]; simp) fun q j h ih p hp => ?_
  obtain ⟨a1, a2, a3⟩ := nextV_some h
  cases h2 : nextV n s p with
  | none => have := nextV_none h2 j (by omega); rw [a2] at this; simp at this
  | some i =>
    obtain ⟨b1, b2, b3⟩ := nextV_some h2
    have : i ≤ j := by
      rcases Nat.lt_or_ge j i with h4 | h4
      · have := b3 j (by omega) h4; rw [a2] at this; simp at this
      · exact h4
    rw [posV_some h, posV_some h2]
    have := ih (i + n.length) (by omega)
    simp only [List.length_cons]
    omega

/-- an occurrence that is chosen costs one -/
theorem posV_pick {n s : Str} {e p : Nat} (h : e ≤ p) (h2 : atB n s p = true) : (posV n s (p + n.length)).length + 1 ≤ (posV n s e).length := by
  cases h3 : nextV n s e with
  | none => have := nextV_none h3 p h; rw [h2] at this; simp at this
  | some i =>
    obtain ⟨b1, b2, b3⟩ := nextV_some h3
    have : i ≤ p := by
      rcases Nat.lt_or_ge p i with h4 | h4
      · have := b3 p h h4; rw [h2] at this; simp at this
      · exact h4
    rw [posV_some h3, List.length_cons]
    have := posV_mono n s (p + n.length) (i + n.length) (by omega)
    omega

end Go.AE

set_option maxRecDepth 20000
namespace Go.AE

theorem u8_int (a b : UInt8) : ((a.toNat : Int) = b.toNat) = (a = b) := by
  apply propext
  constructor
  · intro h
    exact UInt8.toNat_inj.1 (by omega)
  · rintro rfl; rfl

@[simp] def S_ref07_At : List D → Prop × D := spec3 (α := Str) (β := Str) (γ := Int) (fun n s i => n.length ≤ 1048576 ∧ s.length ≤ 4194304 ∧ 0 ≤ i ∧ i ≤ s.length) (fun n s i => Rep.to (atB n s i.toNat))

theorem ct_ref07_At {P : Program} {f : Nat} {G : Gam} (h : CodeOf P f 3 4 [3] x_ref07_At) (hG : GamOk P G) : Has P f S_ref07_At := h.has3 hG fun n s i hp => by
  obtain ⟨h1, h2, h3, h4⟩ := hp
  obtain ⟨i, rfl⟩ := Int.eq_ofNat_of_zero_le h3
  have w1 := wrap_in (n := (s.length : Int) - i) (by omega) (by omega)
  have w2 := wrap_in (n := (i : Int) + n.length) (by omega) (by omega)
  have e1 : ((i : Int) + n.length).toNat = i + n.length := by omega
  by_cases h5 : n = []
  · simp [x_ref07_At, h5, atB]
  · by_cases h6 : i + n.length ≤ s.length
    · have h6' : (n.length : Int) ≤ s.length - i := by omega
      simp [x_ref07_At, h5, w1, w2, h6', e1, atB, h6]
      omega
    · have h6' : ¬ (n.length : Int) ≤ s.length - i := by omega
      simp [x_ref07_At, h5, w1, w2, h6', atB, h6]

@[simp] def nextD (o : Option Nat) : D := .tup [.int .i64 ((o.getD 0 : Nat) : Int), .bool o.isSome]

/-- the answer for any place -/
def nextI (n s : Str) (i : Int) : Option Nat := if 0 ≤ i ∧ i ≤ s.length then nextV n s i.toNat else none

@[simp] def S_ref07_Next : List D → Prop × D := spec3 (α := Str) (β := Str) (γ := Int) (fun n s _ => n.length ≤ 1048576 ∧ s.length ≤ 4194304) (fun n s i => nextD (nextI n s i))

theorem nextV_stop {n s : Str} {i : Nat} (h : s.length < i) : nextV n s i = none := nextV_noneOf fun k hk => by
  by_cases h3 : atB n s k = true
  · have := (atB_le h3).2.1; omega
  · simpa using h3

theorem nextV_skip {n s : Str} {i : Nat} (h : atB n s i = false) : nextV n s i = nextV n s (i + 1) := by
  cases h2 : nextV n s (i + 1) with
  | none =>
    refine nextV_noneOf fun k hk => ?_
    rcases Nat.lt_or_ge i k with h3 | h3
    · exact nextV_none h2 k (by omega)
    · rw [show k = i by omega]; exact h
  | some j =>
    obtain ⟨a1, a2, a3⟩ := nextV_some h2
    refine nextV_eq (by omega) a2 fun k h3 h4 => ?_
    rcases Nat.lt_or_ge i k with h5 | h5
    · exact a3 k (by omega) h4
    · rw [show k = i by omega]; exact h

theorem ct_ref07_Next {P : Program} {f g : Nat} {G : Gam} (h : CodeOf P f 3 8 [3, 4] (x_ref07_Next g)) (hG : GamOk P G) (hg : G.find g = some S_ref07_At) : Has P f S_ref07_Next := h.has3 hG fun n s i hp => by
  obtain ⟨h1, h2⟩ := hp
  by_cases h3 : 0 ≤ i
  · obtain ⟨i, rfl⟩ := Int.eq_ofNat_of_zero_le h3
    by_cases h4 : i ≤ s.length
    · have e : nextI n s i = nextV n s i := by unfold nextI; rw [if_pos (by omega)]; rfl
      simp [x_ref07_Next, e]
      refine vc_lp (σ := Nat) (fun k => k ≤ s.length + 1 ∧ nextV n s k = nextV n s i) (fun k => s.length + 1 - k) (fun k => [.d (Rep.to n), .d (Rep.to s), .any, .any, .any, .d (.int .i64 k), .any, .any]) (fun _ => []) i (by simp) (by simp) ⟨by omega, rfl⟩ ?_
      rintro k ⟨b1, b2⟩
      by_cases c1 : k ≤ s.length
      · have w1 : IntKind.i64.wrap ((k : Int) + 1) = ((k + 1 : Nat) : Int) := by rw [wrap_in (by omega) (by omega)]; push_cast; rfl
        by_cases c2 : atB n s k = true
        · have e2 : nextV n s k = some k := nextV_eq (Nat.le_refl _) c2 fun j h1 h2 => by omega
          simp [c1, hg, h1, h2, c2, ← b2, e2, nextD]
        · have c2 : atB n s k = false := by simpa using c2
          simp [c1, hg, h1, h2, c2, w1]
          exact Nxt.mk (k + 1) (by omega) (by simp) (by simp) ⟨by omega, by rw [← b2, nextV_skip c2]⟩
      · have e2 : nextV n s k = none := nextV_stop (by omega)
        simp [c1, ← b2, e2, nextD]
    · have e : nextI n s i = none := by unfold nextI; rw [if_neg (by omega)]
      simp [x_ref07_Next, e]
      refine vc_lp (σ := Unit) (fun _ => True) (fun _ => 0) (fun _ => [.d (Rep.to n), .d (Rep.to s), .any, .any, .any, .d (.int .i64 i), .any, .any]) (fun _ => []) () (by simp) (by simp) trivial ?_
      intro _ _
      simp [h4, nextD]
  · have e : nextI n s i = none := by unfold nextI; rw [if_neg (by omega)]
    simp [x_ref07_Next, e]
    refine vc_lp (σ := Unit) (fun _ => True) (fun _ => 0) (fun _ => [.d (Rep.to n), .d (Rep.to s), .any, .any, .any, .d (.int .i64 i), .any, .any]) (fun _ => []) () (by simp) (by simp) trivial ?_
    intro _ _
    simp [h3, nextD]

def posI (n s : Str) : List Int := (posV n s 0).map fun (k : Nat) => (k : Int)

@[simp] def S_ref07_Positions : List D → Prop × D := spec2 (α := Str) (β := Str) (fun n s => n.length ≤ 1048576 ∧ s.length ≤ 4194304) (fun n s => Rep.to (posI n s))

theorem ct_ref07_Positions {P : Program} {f g : Nat} {G : Gam} (h : CodeOf P f 2 8 [2] (x_ref07_Positions g)) (hG : GamOk P G) (hg : G.find g = some S_ref07_Next) : Has P f S_ref07_Positions := h.has2 hG fun n s hp => by
  obtain ⟨h1, h2⟩ := hp
  simp [x_ref07_Positions]
  refine vc_lp (σ := Nat × List Int) (fun x => x.1 ≤ s.length ∧ x.2.length ≤ x.1 ∧ x.2 ++ (posV n s x.1).map (fun (k : Nat) => (k : Int)) = posI n s) (fun x => s.length + 1 - x.1) (fun x => [.d (Rep.to n), .d (Rep.to s), .any, .gr 0 1 (x.2.map Rep.to), .d (.int .i64 x.1), .any, .any, .any]) (fun x => [.tip x.2.length]) (0, []) (by simp) (by simp) (by simp [posI]) ?_
  rintro ⟨k, o⟩ ⟨b1, b2, b3⟩
  simp only at b1 b2 b3
  have e : nextI n s k = nextV n s k := by unfold nextI; rw [if_pos (by omega)]; rfl
  cases hq : nextV n s k with
  | none =>
    rw [posV_none hq, List.map_nil, List.append_nil] at b3
    simp [hg, h1, h2, e, hq, nextD, b3]
  | some j =>
    obtain ⟨a1, a2, _⟩ := nextV_some hq
    have a3 := atB_le a2
    have a4 : 0 < n.length := List.length_pos_iff.2 a3.1
    have w1 : IntKind.i64.wrap ((j : Int) + n.length) = ((j + n.length : Nat) : Int) := by rw [wrap_in (by omega) (by omega)]; push_cast; rfl
    rw [posV_some hq] at b3
    simp [hg, h1, h2, e, hq, nextD, w1]
    refine ⟨by unfold room; omega, Nxt.mk (j + n.length, o ++ [(j : Int)]) (by simp; omega) (by simp) (by simp) ⟨by simp; omega, by simp; omega, ?_⟩⟩
    simp only
    rw [← b3]
    simp

@[simp] def S_ref07_Borders : List D → Prop × D := spec1 (α := Str) (fun s => s.length ≤ 4194304) (fun s => Rep.to (bordsV s))

theorem bordsV_len (s : Str) : (bordsV s).length = s.length := by simp [bordsV]

theorem ct_ref07_Borders {P : Program} {f : Nat} {G : Gam} (h : CodeOf P f 1 7 [1] x_ref07_Borders) (hG : GamOk P G) : Has P f S_ref07_Borders := h.has1 hG fun s hs => by
  simp [x_ref07_Borders]
  refine vc_lp (σ := Nat) (fun k => 1 ≤ k ∧ k ≤ s.length + 1) (fun k => s.length + 1 - k) (fun k => [.d (Rep.to s), .any, .gr 0 1 (((bordsV s).take (k - 1)).map Rep.to), .d (.int .i64 k), .any, .any, .any]) (fun k => [.tip (k - 1)]) 1 (by simp) (by simp) (by simp) ?_
  rintro k ⟨b1, b2⟩
  have hbl := bordsV_len s
  by_cases c1 : k ≤ s.length
  · have c1' : (k : Int) ≤ s.length := by omega
    have w1 : IntKind.i64.wrap ((k : Int) - 1) = ((k - 1 : Nat) : Int) := by rw [wrap_in (by omega) (by omega)]; omega
    simp [c1, w1]
    refine vc_lp (σ := Nat) (fun b => b < k ∧ downV s k b = bordV s k) (fun b => b) (fun b => [.d (Rep.to s), .any, .gr 0 1 (((bordsV s).take (k - 1)).map Rep.to), .d (.int .i64 k), .d (.int .i64 b), .any, .any]) (fun _ => [.tip (k - 1)]) (k - 1) (by simp) (by simp) ⟨by omega, rfl⟩ ?_
    rintro b ⟨d1, d2⟩
    have w2 : IntKind.i64.wrap ((k : Int) - b) = ((k - b : Nat) : Int) := by rw [wrap_in (by omega) (by omega)]; omega
    have e1 : b ≤ s.length := by omega
    have e2 : k - b ≤ k := by omega
    have e3 : (s.take k).drop (k - b) = (s.drop (k - b)).take (k - (k - b)) := by rw [List.drop_take]
    by_cases d3 : bdB s k b = true
    · have d4 : s.take b = (s.drop (k - b)).take (k - (k - b)) := by rw [← e3]; simpa [bdB] using d3
      have d5 : bordV s k = b := by
        rw [← d2]
        cases b with
        | zero => rfl
        | succ b => simp [downV, d3]
      have w3 : IntKind.i64.wrap ((k : Int) + 1) = ((k + 1 : Nat) : Int) := by rw [wrap_in (by omega) (by omega)]; push_cast; rfl
      simp [w2, e1, e2, c1, d4, hbl, Nat.min_eq_left (show k - 1 ≤ s.length by omega), w3]
      refine ⟨by unfold room; omega, Nxt.mk (k + 1) (by omega) ?_ (by simp; omega) ⟨by omega, by omega⟩⟩
      have d6 := take_to (l := bordsV s) (k := k - 1) (by rw [hbl]; omega)
      have d7 : (bordsV s)[k - 1]'(by rw [hbl]; omega) = (b : Int) := by simp [bordsV, show k - 1 + 1 = k by omega, d5]
      rw [d7, show k - 1 + 1 = k by omega] at d6
      simp [d6]
    · have d4 : ¬ s.take b = (s.drop (k - b)).take (k - (k - b)) := by rw [← e3]; simpa [bdB] using d3
      have d5 : 0 < b := by
        rcases Nat.eq_zero_or_pos b with h0 | h0
        · subst h0
          exfalso
          exact d3 ((bdB_iff c1 (by omega)).2 (Bd.zero s (by omega)))
        · exact h0
      have w3 : IntKind.i64.wrap ((b : Int) - 1) = ((b - 1 : Nat) : Int) := by rw [wrap_in (by omega) (by omega)]; omega
      simp [w2, e1, e2, c1, d4, w3]
      refine Nxt.mk (b - 1) (by omega) (by simp) (by simp) ⟨by omega, ?_⟩
      rw [← d2]
      obtain ⟨b, rfl⟩ : ∃ c, b = c + 1 := ⟨b - 1, by omega⟩
      simp [downV, d3]
  · have c2 : k = s.length + 1 := by omega
    subst c2
    have c1' : ¬ (s.length : Int) + 1 ≤ s.length := by omega
    simp [c1']
    rw [List.take_of_length_le (by simp [hbl])]

end Go.AE

set_option maxRecDepth 20000
namespace Go.AE

theorem occ_at {n s : Str} (hn : n ≠ []) (fr i : Nat) : Lib.occAt (s.drop fr) n i = atB n s (fr + i) := by
  by_cases h : fr + i + n.length ≤ s.length
  · rw [Lib.occAt_iff_take _ _ _ (by simp; omega), List.drop_drop]
    simp only [atB, ne_eq, hn, not_false_eq_true, h, true_and]
    exact beq_dec _ _
  · have h2 : atB n s (fr + i) = false := by simp [atB, h]
    rw [h2]
    cases h3 : Lib.occAt (s.drop fr) n i with
    | false => rfl
    | true =>
      rcases Lib.occAt_room h3 with h4 | h4
      · simp at h4
        have : 0 < n.length := List.length_pos_iff.2 hn
        omega
      · exact absurd h4 hn

theorem index_next {n s : Str} (hn : n ≠ []) {fr : Nat} (hf : fr ≤ s.length) : Lib.index (s.drop fr) n = match nextV n s fr with | some j => ((j - fr : Nat) : Int) | none => -1 := by
  cases h : nextV n s fr with
  | none =>
    exact Lib.index_none fun j hj => by rw [occ_at hn]; exact nextV_none h _ (by omega)
  | some j =>
    obtain ⟨a1, a2, a3⟩ := nextV_some h
    have a4 := (atB_le a2).2.1
    refine Lib.index_first (by simp; omega) (by rw [occ_at hn, show fr + (j - fr) = j by omega]; exact a2) fun k hk => ?_
    rw [occ_at hn]
    exact a3 _ (by omega) (by omega)

@[simp] def S_strings_Index : List D → Prop × D := spec2 (α := Str) (β := Str) (fun s _ => s.length < 4294967281) (fun s n => .int .i64 (Lib.index s n))

@[simp] def S_occur_Next : List D → Prop × D := spec3 (α := Str) (β := Str) (γ := Int) (fun _ s _ => s.length ≤ 4194304) (fun n s i => nextD (nextI n s i))

theorem nextV_nil (s : Str) (i : Nat) : nextV [] s i = none := nextV_noneOf fun k _ => by simp [atB]

theorem ct_occur_Next {P : Program} {f g : Nat} {G : Gam} (h : CodeOf P f 3 8 [3, 4] (x_occur_Next g)) (hG : GamOk P G) (hg : G.find g = some S_strings_Index) : Has P f S_occur_Next := h.has3 hG fun n s i hs => by
  by_cases h0 : n = []
  · subst h0
    have : nextI [] s i = none := by unfold nextI; split; exact nextV_nil _ _; rfl
    simp [x_occur_Next, this, nextD]
  by_cases h1 : 0 ≤ i
  · obtain ⟨i, rfl⟩ := Int.eq_ofNat_of_zero_le h1
    by_cases h2 : i ≤ s.length
    · have e : nextI n s i = nextV n s i := by unfold nextI; rw [if_pos (by omega)]; rfl
      have e2 := index_next h0 h2
      have h2' : ¬ ((i : Int) > s.length) := by omega
      have h3 : (s.drop i).length < 4294967281 := by simp; omega
      have e3 : List.take (s.length - i) (s.drop i) = s.drop i := List.take_of_length_le (by simp)
      cases hq : nextV n s i with
      | none =>
        rw [hq] at e2
        simp [x_occur_Next, h0, h2, hg, e3, e2, e, hq, nextD]
        omega
      | some j =>
        rw [hq] at e2
        obtain ⟨a1, a2, _⟩ := nextV_some hq
        have a4 := (atB_le a2).2.1
        have w1 : IntKind.i64.wrap ((i : Int) + ((j - i : Nat) : Int)) = (j : Int) := by rw [wrap_in (by omega) (by omega)]; omega
        simp only at e2
        simp [x_occur_Next, h0, h2, hg, e3, e2, e, hq, nextD, w1]
        omega
    · have e : nextI n s i = none := by unfold nextI; rw [if_neg (by omega)]
      simp [x_occur_Next, h0, h2, e, nextD]
  · have e : nextI n s i = none := by unfold nextI; rw [if_neg (by omega)]
    simp [x_occur_Next, h0, h1, e, nextD]

@[simp] def S_occur_Positions : List D → Prop × D := spec2 (α := Str) (β := Str) (fun n s => n.length ≤ 4194304 ∧ s.length ≤ 4194304) (fun n s => Rep.to (posI n s))

theorem posI_len (n s : Str) : (posI n s).length ≤ s.length := by unfold posI; rw [List.length_map]; exact posV_len' n s 0

theorem nextI_nat {n s : Str} {k : Nat} (h : k ≤ s.length) : nextI n s k = nextV n s k := by unfold nextI; rw [if_pos (by omega)]; rfl

theorem ct_occur_Positions {P : Program} {f g : Nat} {G : Gam} (h : CodeOf P f 2 7 [2] (x_occur_Positions g)) (hG : GamOk P G) (hg : G.find g = some S_occur_Next) : Has P f S_occur_Positions := h.has2 hG fun n s hp => by
  obtain ⟨h1, h2⟩ := hp
  have e0 : nextI n s 0 = nextV n s 0 := nextI_nat (n := n) (s := s) (k := 0) (by omega)
  simp [x_occur_Positions, hg, h2, e0]
  refine vc_lp (σ := Option Nat × List Int × Nat) (fun x => x.2.2 ≤ s.length ∧ x.2.1.length ≤ x.2.2 ∧ x.1 = nextV n s x.2.2 ∧ x.2.1 ++ (posV n s x.2.2).map (fun (k : Nat) => (k : Int)) = posI n s) (fun x => s.length + 1 - x.2.2)
    (fun x => [.d (Rep.to n), .d (Rep.to s), .any, .gr 0 1 (x.2.1.map Rep.to), .d (.int .i64 ((x.1.getD 0 : Nat) : Int)), .d (.bool x.1.isSome), .any]) (fun x => [.tip x.2.1.length]) (nextV n s 0, [], 0) (by simp) (by simp) ⟨by simp, by simp, rfl, by simp [posI]⟩ ?_
  rintro ⟨c, o, k⟩ ⟨b1, b2, b3, b4⟩
  simp only at b1 b2 b3 b4
  subst b3
  cases hq : nextV n s k with
  | none =>
    rw [posV_none hq, List.map_nil, List.append_nil] at b4
    simp [b4]
  | some j =>
    obtain ⟨a1, a2, _⟩ := nextV_some hq
    have a3 := atB_le a2
    have a4 : 0 < n.length := List.length_pos_iff.2 a3.1
    have w1 : IntKind.i64.wrap ((j : Int) + n.length) = ((j + n.length : Nat) : Int) := by rw [wrap_in (by omega) (by omega)]; push_cast; rfl
    have e1 := nextI_nat (n := n) (s := s) (k := j + n.length) (by omega)
    rw [posV_some hq] at b4
    simp [hg, h2, w1]
    rw [show ((j : Int) + n.length) = ((j + n.length : Nat) : Int) by push_cast; rfl, e1]
    refine ⟨by unfold room; omega, Nxt.mk (nextV n s (j + n.length), o ++ [(j : Int)], j + n.length) (by simp; omega) (by simp) (by simp) ⟨by simp; omega, by simp; omega, rfl, ?_⟩⟩
    simp only
    rw [← b4]
    simp

@[simp] def S_occur_Count : List D → Prop × D := spec2 (α := Str) (β := Str) (fun n s => n.length ≤ 4194304 ∧ s.length ≤ 4194304) (fun n s => .int .i64 (posI n s).length)

theorem ct_occur_Count {P : Program} {f g : Nat} {G : Gam} (h : CodeOf P f 2 3 [2] (x_occur_Count g)) (hG : GamOk P G) (hg : G.find g = some S_occur_Positions) : Has P f S_occur_Count := h.has2 hG fun n s hp => by
  obtain ⟨h1, h2⟩ := hp
  simp [x_occur_Count, hg, h1, h2]

@[simp] def S_occur_Borders : List D → Prop × D := spec1 (α := Str) (fun s => s.length ≤ 4194304) (fun s => Rep.to (bordsV s))

/-- the table of borders while it is filled -/
def bfill (s : Str) (k : Nat) : List A := (List.range s.length).map fun i => .d (.int .i64 (if i < k then (bordV s (i + 1) : Int) else 0))

theorem bfill_len (s : Str) (k : Nat) : (bfill s k).length = s.length := by simp [bfill]
theorem bfill_get {s : Str} {k i : Nat} (h : i < k) (h2 : i < (bfill s k).length) : (bfill s k)[i] = .d (.int .i64 (bordV s (i + 1))) := by simp [bfill, h]
theorem bfill_set {s : Str} {k : Nat} (h : k < s.length) : (bfill s k).set k (.d (.int .i64 (bordV s (k + 1)))) = bfill s (k + 1) := by
  apply List.ext_getElem
  · simp [bfill]
  · intro i h1 h2
    rw [List.getElem_set]
    by_cases h3 : k = i
    · subst h3; simp [bfill]
    · simp only [bfill, h3, if_false, List.getElem_map, List.getElem_range]
      by_cases h4 : i < k
      · simp [h4, show i < k + 1 by omega]
      · simp [h4, show ¬ i < k + 1 by omega]

theorem ct_occur_Borders {P : Program} {f : Nat} {G : Gam} (h : CodeOf P f 1 8 [1] x_occur_Borders) (hG : GamOk P G) : Has P f S_occur_Borders := h.has1 hG fun s hs => by
  simp [x_occur_Borders]
  refine ⟨⟨by unfold room; omega, by omega⟩, ?_⟩
  obtain ⟨fl, hfl⟩ : ∃ fl : Nat → List A, ∀ k, fl k = bfill s k := ⟨_, fun _ => rfl⟩
  have f1 : ∀ k, (fl k).length = s.length := fun k => by rw [hfl, bfill_len]
  have f2 : ∀ k i (h : i < (fl k).length), i < k → (fl k)[i] = .d (.int .i64 (bordV s (i + 1))) := fun k i h h2 => by simp only [hfl]; exact bfill_get h2 _
  have f3 : s.length ≤ 1 ∨ True := .inr trivial
  have f4 : List.replicate s.length (A.d (D.int .i64 0)) = fl 1 := by
    rw [hfl]
    apply List.ext_getElem
    · simp [bfill]
    · intro i h1 h2
      simp [bfill]
      intro h3
      subst h3
      simp at h1
      rw [show bordV s 1 = 0 from bordV_one (by omega)]
      rfl
  refine vc_lp (σ := Nat) (fun k => 1 ≤ k ∧ (k ≤ s.length ∨ k = 1)) (fun k => s.length + 1 - k) (fun k => [.d (Rep.to s), .any, .own 0 0 0 s.length, .d (.int .i64 k), .any, .any, .any, .any]) (fun k => [.cells 0 1 (fl k)]) 1 (by simp) (by simp [f4]) (by simp) ?_
  rintro k ⟨b1, b2⟩
  by_cases c1 : k < s.length
  · have w1 : IntKind.i64.wrap ((k : Int) - 1) = ((k - 1 : Nat) : Int) := by rw [wrap_in (by omega) (by omega)]; omega
    have c2 : k - 1 < s.length := by omega
    have e1 := f2 k (k - 1) (by rw [f1]; exact c2) (by omega)
    have c3 : (1 : Int) ≤ k := by omega
    have c4 : (k : Int) - 1 < s.length := by omega
    have e2 : ((k : Int) - 1).toNat = k - 1 := by omega
    simp [c1, w1, c2, e1, f1]
    rw [show k - 1 + 1 = k by omega]
    obtain ⟨g1, g2⟩ := bordV_spec (s := s) (k := k) (by omega) (by omega)
    refine vc_lp (σ := Nat) (fun b => Bd s k b ∧ ∀ c, Bd s (k + 1) (c + 1) → c ≤ b) (fun b => b) (fun b => [.d (Rep.to s), .any, .own 0 0 0 s.length, .d (.int .i64 k), .d (.int .i64 b), .any, .any, .any]) (fun _ => [.cells 0 1 (fl k)]) (bordV s k) (by simp) (by simp) ⟨g1, fun c hc => ?_⟩ ?_
    · rcases Bd.succ.1 hc with ⟨h1, _⟩ | h1
      · exact g2 c h1
      · exact h1.elim
    rintro b ⟨d1, d2⟩
    obtain ⟨s1, s2, s3⟩ := bord_step d1 d2 c1
    have d3 := d1.1
    have q1 : s.getD b 0 = s[b]'(by omega) := by simp [List.getD, show b < s.length by omega]
    have q2 : s.getD k 0 = s[k] := by simp [List.getD, c1]
    rw [q1, q2] at s1 s2 s3
    have hbl : b < s.length := by omega
    have done : ∀ v : Nat, bordV s (k + 1) = v → (fl k).set k (.d (.int .i64 v)) = fl (k + 1) := fun v hv => by rw [hfl, hfl, ← hv]; exact bfill_set c1
    by_cases h0 : 0 < b
    · by_cases h2 : s[b] = s[k]
      · simp [h0, hbl, c1, h2, f1, add1 hbl (by omega), add1 c1 (by omega)]
        exact Nxt.mk (k + 1) (by omega) (by simp) (by simp; exact done (b + 1) (s1 h2)) ⟨by omega, by omega⟩
      · obtain ⟨t1, t2, t3⟩ := s3 h2 h0
        have w2 : IntKind.i64.wrap ((b : Int) - 1) = ((b - 1 : Nat) : Int) := by rw [wrap_in (by omega) (by omega)]; omega
        have e3 := f2 k (b - 1) (by rw [f1]; omega) (by omega)
        have hb1 : b - 1 < s.length := by omega
        have h2' : ¬ ((s[b].toNat : Int) = s[k].toNat) := by rw [u8_int]; exact h2
        have h2'' : ¬ (s[b].toNat = s[k].toNat) := by omega
        simp [h0, hbl, c1, h2', h2'', h2, w2, f1, hb1, e3]
        rw [show b - 1 + 1 = b by omega]
        exact Nxt.mk (bordV s b) t2 (by simp) (by simp) ⟨t1, t3⟩
    · have hb0 : b = 0 := by omega
      subst hb0
      by_cases h2 : s[0]'(by omega) = s[k]
      · simp [hbl, c1, h2, f1, add1 c1 (by omega)]
        simp (disch := omega) only [wrap_in]
        exact Nxt.mk (k + 1) (by omega) (by simp) (by simp; exact done 1 (s1 h2)) ⟨by omega, by omega⟩
      · have h2' : ¬ (((s[0]'(by omega)).toNat : Int) = s[k].toNat) := by rw [u8_int]; exact h2
        have h2'' : ¬ ((s[0]'(by omega)).toNat = s[k].toNat) := by omega
        simp [hbl, c1, h2', h2'', h2, f1, add1 c1 (by omega)]
        exact Nxt.mk (k + 1) (by omega) (by simp) (by simp; exact done 0 (s2 h2 rfl)) ⟨by omega, by omega⟩
  · have e : fl k = (bordsV s).map (fun x => A.d (Rep.to x)) := by
      rw [hfl]
      apply List.ext_getElem
      · simp [bfill, bordsV]
      · intro i h1 h2
        simp [bfill] at h1
        simp [bfill, bordsV, show i < k by omega]
    simp [c1]
    simp only [bor, List.getD_cons_zero, e, List.drop_zero]
    have e2 : List.take s.length ((bordsV s).map (fun x => A.d (Rep.to x))) = (bordsV s).map (fun x => A.d (Rep.to x)) := List.take_of_length_le (by simp [bordsV_len])
    rw [e2]
    refine ⟨⟨trivial, ?_⟩, ?_⟩
    · rw [List.all_eq_true]
      intro x hx
      obtain ⟨y, _, rfl⟩ := List.mem_map.1 hx
      rfl
    · rw [List.map_map]
      simp only [LeD_sl, true_and]
      rfl

end Go.AE

set_option maxRecDepth 20000
set_option maxHeartbeats 2000000
namespace Go.AE

/-- the marks of a row are a number of 32 bits -/
def rowOk (r : RowT) : Prop := 0 ≤ r.marks ∧ r.marks < 4294967296

def blankV (r : RowT) : Bool := !r.lost && decide (r.marks = 0)

@[simp] def S_ref17_Blank : List D → Prop × D := spec1 (α := RowT) (fun _ => True) (fun r => .bool (blankV r))
theorem ct_ref17_Blank {P : Program} {f : Nat} {G : Gam} (h : CodeOf P f 1 3 [2] x_ref17_Blank) (hG : GamOk P G) : Has P f S_ref17_Blank := h.has1 hG fun r _ => by
  cases hl : r.lost <;> simp [x_ref17_Blank, hl, blankV]

@[simp] def S_interest_blank : List D → Prop × D := spec1 (α := RowT) (fun _ => True) (fun r => .bool (blankV r))
theorem ct_interest_blank {P : Program} {f : Nat} {G : Gam} (h : CodeOf P f 1 3 [2] x_interest_blank) (hG : GamOk P G) : Has P f S_interest_blank := h.has1 hG fun r _ => by
  cases hl : r.lost <;> simp [x_interest_blank, hl, blankV]

/-- is a row seen in a column? -/
def visB (r : RowT) (c : Int) : Bool := if c = -1 then !r.lost else if c < -1 ∨ 32 ≤ c then false else (decide (getU r.marks c = 1) == r.lost)

@[simp] def S_ref16_Visible : List D → Prop × D := spec2 (α := RowT) (β := Int) (fun _ _ => True) (fun r c => .bool (visB r c))
theorem ct_ref16_Visible {P : Program} {f : Nat} {G : Gam} (h : CodeOf P f 2 6 [3] x_ref16_Visible) (hG : GamOk P G) : Has P f S_ref16_Visible := h.has2 hG fun r c _ => by
  by_cases c1 : c = -1
  · subst c1
    simp [x_ref16_Visible, visB]
  · by_cases c2 : c < -1 ∨ 32 ≤ c
    · rcases c2 with c2 | c2
      · simp [x_ref16_Visible, visB, c1, c2]
      · have c3 : ¬ c < -1 := by omega
        simp [x_ref16_Visible, visB, c1, c2, c3]
    · have c3 : ¬ c < -1 := by omega
      have c4 : ¬ 32 ≤ c := by omega
      obtain ⟨p, rfl⟩ := Int.eq_ofNat_of_zero_le (show 0 ≤ c by omega)
      have e : getU r.marks p = IntKind.u32.wrap ↑((r.marks.fdiv (2 ^ min p IntKind.u32.bits) % 2 ^ IntKind.u32.bits).toNat &&& 1 % 2 ^ IntKind.u32.bits) := rfl
      simp [x_ref16_Visible, visB, c1, c3, c4, u64_wrap (show p < 18446744073709551616 by omega)]
      rw [← e]

def colV (rows : List RowT) (c : Int) : List Str := (rows.filter fun r => visB r c).map RowT.text

@[simp] def S_ref16_Column : List D → Prop × D := spec2 (α := List RowT) (β := Int) (fun rows _ => rows.length ≤ 1048576) (fun rows c => Rep.to (colV rows c))
theorem ct_ref16_Column {P : Program} {f g1 : Nat} {G : Gam} (h : CodeOf P f 2 7 [2] (x_ref16_Column g1)) (hG : GamOk P G) (h1 : G.find g1 = some S_ref16_Visible) : Has P f S_ref16_Column := h.has2 hG fun rows c hp => by
  simp [x_ref16_Column]
  refine vc_lp (σ := Nat × List Str) (fun x => x.1 ≤ rows.length ∧ x.2.length ≤ x.1 ∧ x.2 ++ colV (rows.drop x.1) c = colV rows c) (fun x => rows.length - x.1) (fun x => [.d (Rep.to rows), .d (.int .i64 c), .any, .gr 0 1 (x.2.map Rep.to), .d (.int .i64 x.1), .any, .any]) (fun x => [.tip x.2.length]) (0, []) (by simp) (by simp) (by simp) ?_
  rintro ⟨k, o⟩ ⟨g1', g2, g3⟩
  simp only at g1' g2 g3
  by_cases hk : k < rows.length
  · rw [List.drop_eq_getElem_cons hk] at g3
    have w1 : IntKind.i64.wrap ((k : Int) + 1) = (k : Int) + 1 := wrap_in (by omega) (by omega)
    cases hv : visB rows[k] c with
    | true =>
      simp only [colV, List.filter_cons, hv, if_true, List.map_cons] at g3
      simp [hk, getD_map, h1, hv, w1]
      exact ⟨by unfold room; omega, Nxt.mk (k + 1, o ++ [rows[k].text]) (by simp; omega) (by simp) (by simp) ⟨by simp; omega, by simp; omega, by simp only [colV]; rw [← g3]; simp⟩⟩
    | false =>
      simp only [colV, List.filter_cons, hv] at g3
      simp [hk, getD_map, h1, hv, w1]
      exact Nxt.mk (k + 1, o) (by simp; omega) (by simp) (by simp) ⟨by simp; omega, by simp; omega, by simpa [colV] using g3⟩
  · have h9 : k = rows.length := by omega
    subst h9
    rw [List.drop_length] at g3
    simp [colV] at g3
    simp [g3, colV]

def lineB (s : Str) : Bool := okL s

@[simp] def S_ref12_Line : List D → Prop × D := spec1 (α := Str) (fun s => s.length ≤ 4194304) (fun s => .bool (lineB s))
theorem ct_ref12_Line {P : Program} {f : Nat} {G : Gam} (h : CodeOf P f 1 5 [1] x_ref12_Line) (hG : GamOk P G) : Has P f S_ref12_Line := h.has1 hG fun x hp => by
  simp [x_ref12_Line]
  refine vc_lp (σ := Nat) (fun k => k ≤ x.length ∧ ∀ j, j < k → x.getD j 0 ≠ 10) (fun k => x.length - k) (fun k => [.d (Rep.to x), .any, .d (.int .i64 k), .any, .any]) (fun _ => []) 0 (by simp) (by simp) ⟨by simp, by simp⟩ ?_
  rintro k ⟨k1, k2⟩
  have w2 : IntKind.i64.wrap ((k : Int) + 1) = (k : Int) + 1 := wrap_in (by omega) (by omega)
  by_cases hk : k + 1 < x.length
  · have hk' : (k : Int) + 1 < x.length := by omega
    have hk2 : k < x.length := by omega
    have e : ((x[k].toNat : Int) = 10) = (x[k] = 10) := by
      apply propext
      constructor
      · intro h
        exact UInt8.toNat_inj.1 (by simp; omega)
      · intro h; rw [h]; rfl
    by_cases c : x[k] = 10
    · have hb : lineB x = false := by
        have : (10 : UInt8) ∈ x.dropLast := by
          rw [List.dropLast_eq_take, List.mem_take_iff_getElem]
          exact ⟨k, by omega, c⟩
        simp [lineB, okL, this]
      simp [w2, hk', hk2, e, c, hb]
    · simp [w2, hk', hk2, e, c]
      refine Nxt.mk (k + 1) (by omega) (by simp) (by simp) ⟨by omega, fun j hj => ?_⟩
      by_cases hjk : j < k
      · exact k2 j hjk
      · obtain rfl : j = k := by omega
        simpa [List.getD, hk2] using c
  · have hk' : ¬ ((k : Int) + 1 < x.length) := by omega
    have hn : (10 : UInt8) ∉ x.dropLast := by
      intro hm
      rw [List.dropLast_eq_take, List.mem_take_iff_getElem] at hm
      obtain ⟨j, hj, hm⟩ := hm
      have := k2 j (by omega)
      have hj2 : j < x.length := by omega
      simp [List.getD, hj2] at this
      exact this hm
    by_cases hx0 : x = []
    · subst hx0
      have hb : lineB [] = false := by simp [lineB, okL]
      have hk0 : ¬ ((k : Int) + 1 < 0) := by omega
      simp [w2, hb, hk0]
    · have hb : lineB x = true := by simp [lineB, okL, hx0, hn]
      simp [w2, hk', hb, hx0]

/-- the marks of rows are right for n parents -/
def marksB (rows : List RowT) (n : Nat) : Bool := rows.all fun r => decide (r.marks.toNat < 2 ^ n) && (!r.lost || decide (r.marks ≠ 0))

theorem shr64 {m : Int} {n : Nat} (h1 : 0 ≤ m) (h2 : m < 4294967296) (hn : n ≤ 32) : ((IntKind.u64.wrap m).fdiv (2 ^ min n IntKind.u64.bits) = 0) = (m.toNat < 2 ^ n) := by
  obtain ⟨m, rfl⟩ := Int.eq_ofNat_of_zero_le h1
  have e3 : min n IntKind.u64.bits = n := by simp only [IntKind.bits]; omega
  have h0 : ((2 : Int) ^ n) = ((2 ^ n : Nat) : Int) := by push_cast; rfl
  have hlt : m / 2 ^ n ≤ m := Nat.div_le_self _ _
  rw [u64_wrap (by omega), e3, h0, Int.fdiv_eq_ediv_of_nonneg _ (Int.natCast_nonneg _), show ((m : Int) / ((2 ^ n : Nat) : Int)) = ((m / 2 ^ n : Nat) : Int) from rfl]
  have h3 : m / 2 ^ n = 0 ↔ m < 2 ^ n := by rw [Nat.div_eq_zero_iff]; have := Nat.two_pow_pos n; omega
  simp only [Int.toNat_natCast, eq_iff_iff, ← h3]
  omega

@[simp] def S_ref16_Marks : List D → Prop × D := spec2 (α := List RowT) (β := Int) (fun rows n => rows.length ≤ 1048576 ∧ (∀ r, r ∈ rows → rowOk r) ∧ 0 ≤ n ∧ n ≤ 32) (fun rows n => .bool (marksB rows n.toNat))
theorem ct_ref16_Marks {P : Program} {f : Nat} {G : Gam} (h : CodeOf P f 2 6 [2] x_ref16_Marks) (hG : GamOk P G) : Has P f S_ref16_Marks := h.has2 hG fun rows n hp => by
  obtain ⟨p1, p2, p3, p4⟩ := hp
  obtain ⟨n, rfl⟩ := Int.eq_ofNat_of_zero_le p3
  simp [x_ref16_Marks]
  refine vc_lp (σ := Nat) (fun k => k ≤ rows.length ∧ marksB rows n = marksB (rows.drop k) n) (fun k => rows.length - k) (fun k => [.d (Rep.to rows), .d (.int .i64 n), .any, .d (.int .i64 k), .any, .any]) (fun _ => []) 0 (by simp) (by simp) ⟨by simp, by simp⟩ ?_
  rintro k ⟨k1, k2⟩
  by_cases hk : k < rows.length
  · have w1 : IntKind.i64.wrap ((k : Int) + 1) = (k : Int) + 1 := wrap_in (by omega) (by omega)
    have hr := p2 _ (List.getElem_mem hk)
    have hs := shr64 hr.1 hr.2 (show n ≤ 32 by omega)
    rw [List.drop_eq_getElem_cons hk] at k2
    have k3 : marksB (rows[k] :: rows.drop (k + 1)) n = ((decide (rows[k].marks.toNat < 2 ^ n) && (!rows[k].lost || decide (rows[k].marks ≠ 0))) && marksB (rows.drop (k + 1)) n) := by rw [marksB, List.all_cons]; rfl
    rw [k3] at k2
    have w64 : IntKind.u64.wrap (n : Int) = n := u64_wrap (by omega)
    by_cases c1 : rows[k].marks.toNat < 2 ^ n
    · cases hl : rows[k].lost with
      | false =>
        have hb : marksB rows n = marksB (rows.drop (k + 1)) n := by rw [k2]; simp [c1, hl]
        simp [hk, getD_map, w1, w64, hs, c1, hl]
        exact Nxt.mk (k + 1) (by omega) (by simp) (by simp) ⟨by omega, hb⟩
      | true =>
        by_cases c2 : rows[k].marks = 0
        · have hb : marksB rows n = false := by rw [k2]; simp [c2, hl]
          simp [hk, getD_map, w1, w64, hs, c1, hl, c2, hb]
        · have hb : marksB rows n = marksB (rows.drop (k + 1)) n := by rw [k2]; simp [c1, hl, c2]
          simp [hk, getD_map, w1, w64, hs, c1, hl, c2]
          exact Nxt.mk (k + 1) (by omega) (by simp) (by simp) ⟨by omega, hb⟩
    · have hb : marksB rows n = false := by rw [k2]; simp [c1]
      simp [hk, getD_map, w1, w64, hs, c1, hb]
  · have hk2 : k = rows.length := by omega
    subst hk2
    have hb : marksB rows n = true := by rw [k2]; simp [marksB]
    simp [hb]

end Go.AE

set_option maxRecDepth 20000
namespace Go.AE

def markB (n : Nat) (r : RowT) : Bool := decide (r.marks.toNat < 2 ^ n) && (!r.lost || decide (r.marks ≠ 0))
theorem marksB_all (rows : List RowT) (n : Nat) : marksB rows n = rows.all (markB n) := rfl

def textsB (rows : List RowT) (n : Nat) : Bool := (rows.all fun r => lineB r.text) && (List.range (n + 1)).all fun (c : Nat) => listV (colV rows ((c : Int) - 1))

/-- the parents in which a row is seen -/
def inN (r : RowT) : Nat := if r.lost then r.marks.toNat else 4294967295 ^^^ r.marks.toNat

/-- row by row: may each row come where it comes? -/
def endsB : Bool → Nat → List RowT → Bool
  | _, _, [] => true
  | res, par, r :: rs => decide (par &&& inN r = 0) && (r.lost || !res) && endsB (res || (!endedV r.text && !r.lost)) (if endedV r.text then par else par ||| inN r) rs

/-- the same in one column -/
def colB (c : Int) : Bool → List RowT → Bool
  | _, [] => true
  | had, r :: rs => if visB r c then !had && colB c (!endedV r.text) rs else colB c had rs

theorem testBit_ones {p : Nat} (h : p < 32) : (4294967295 : Nat).testBit p = true := by
  have : (4294967295 : Nat) = 2 ^ 32 - 1 := rfl
  rw [this, Nat.testBit_two_pow_sub_one]
  simpa using h

theorem inN_bit {r : RowT} (h : rowOk r) {p : Nat} (hp : p < 32) : (inN r).testBit p = visB r p := by
  obtain ⟨h1, h2⟩ := h
  have hm : getU r.marks p = if r.marks.toNat.testBit p = true then 1 else 0 := by
    have := getU_nat (m := r.marks.toNat) (p := p) (by omega) hp
    rwa [show ((r.marks.toNat : Nat) : Int) = r.marks by omega] at this
  have n1 : ¬ ((p : Int) = -1) := by omega
  have n2 : ¬ ((p : Int) < -1 ∨ 32 ≤ (p : Int)) := by omega
  unfold inN visB
  rw [if_neg n1, if_neg n2, hm]
  cases hl : r.lost with
  | true => cases hb : r.marks.toNat.testBit p <;> simp [hb]
  | false =>
    simp only [Bool.false_eq_true, if_false, Nat.testBit_xor, testBit_ones hp]
    cases hb : r.marks.toNat.testBit p <;> simp

theorem inN_lt {r : RowT} (h : rowOk r) : inN r < 2 ^ 32 := by
  obtain ⟨h1, h2⟩ := h
  unfold inN
  split
  · have : (2 : Nat) ^ 32 = 4294967296 := rfl
    omega
  · exact Nat.xor_lt_two_pow (by omega) (by have : (2 : Nat) ^ 32 = 4294967296 := rfl; omega)

theorem and_zero {a b : Nat} (hb : b < 2 ^ 32) : (a &&& b = 0) ↔ ∀ p : Nat, p < 32 → ¬ (a.testBit p = true ∧ b.testBit p = true) := by
  constructor
  · intro h p _ h2
    have : (a &&& b).testBit p = true := by rw [Nat.testBit_and, h2.1, h2.2]; rfl
    rw [h] at this
    simp at this
  · intro h
    apply Nat.eq_of_testBit_eq
    intro p
    rw [Nat.testBit_and, Nat.zero_testBit]
    by_cases hp : p < 32
    · have := h p hp
      cases h1 : a.testBit p <;> cases h2 : b.testBit p <;> simp_all
    · rw [Nat.testBit_lt_two_pow (Nat.lt_of_lt_of_le hb (Nat.pow_le_pow_right (by omega) (by omega)))]
      simp

theorem vis_res (r : RowT) : visB r (-1) = !r.lost := by simp [visB]

theorem ends_cols : ∀ (rows : List RowT) (res : Bool) (par : Nat), (∀ r, r ∈ rows → rowOk r) → (endsB res par rows = true ↔ colB (-1) res rows = true ∧ ∀ p : Nat, p < 32 → colB p (par.testBit p) rows = true)
  | [], res, par, _ => by simp [endsB, colB]
  | r :: rs, res, par, h => by
    have hr := h r (by simp)
    have ih := ends_cols rs (res || (!endedV r.text && !r.lost)) (if endedV r.text then par else par ||| inN r) fun x hx => h x (by simp [hx])
    simp only [endsB, Bool.and_eq_true, decide_eq_true_eq, ih, and_zero (inN_lt hr), colB, vis_res]
    constructor
    · rintro ⟨⟨h1, h2⟩, h3, h4⟩
      refine ⟨?_, fun p hp => ?_⟩
      · cases hl : r.lost with
        | true => simpa [hl] using h3
        | false =>
          have hres : res = false := by simpa [hl] using h2
          subst hres
          simpa [hl] using h3
      · have h5 := h4 p hp
        have h6 := h1 p hp
        rw [inN_bit hr hp] at h6
        cases hv : visB r p with
        | true =>
          have hpf : par.testBit p = false := by
            cases hx : par.testBit p with
            | false => rfl
            | true => exact absurd ⟨hx, hv⟩ h6
          rw [hpf]
          cases he : endedV r.text with
          | true => rw [he] at h5; simp [hpf] at h5; simpa using h5
          | false => rw [he] at h5; simp [Nat.testBit_or, inN_bit hr hp, hv] at h5; simpa using h5
        | false =>
          cases he : endedV r.text with
          | true => rw [he] at h5; simpa using h5
          | false => rw [he] at h5; simp [Nat.testBit_or, inN_bit hr hp, hv] at h5; simpa using h5
    · rintro ⟨h3, h4⟩
      have h1 : ∀ p, p < 32 → ¬ (par.testBit p = true ∧ (inN r).testBit p = true) := by
        rintro p hp ⟨a, b⟩
        rw [inN_bit hr hp] at b
        have := h4 p hp
        simp [b, a] at this
      refine ⟨⟨h1, ?_⟩, ?_, fun p hp => ?_⟩
      · cases hl : r.lost with
        | true => rfl
        | false =>
          simp [hl] at h3
          simp [h3.1]
      · cases hl : r.lost with
        | true => simpa [hl] using h3
        | false =>
          simp [hl] at h3
          simp [h3]
      · have h5 := h4 p hp
        cases hv : visB r p with
        | true =>
          simp [hv] at h5
          cases he : endedV r.text with
          | true => simp [h5.1]; simpa [he] using h5.2
          | false => simp [Nat.testBit_or, inN_bit hr hp, hv]; simpa [he] using h5.2
        | false =>
          simp [hv] at h5
          cases he : endedV r.text with
          | true => simpa using h5
          | false => simpa [Nat.testBit_or, inN_bit hr hp, hv] using h5

theorem col_far {n : Nat} : ∀ (rows : List RowT) (had : Bool) (p : Nat), (∀ r, r ∈ rows → rowOk r) → rows.all (markB n) = true → n ≤ p → p < 32 → colB p had rows = colB (-1) had rows
  | [], _, _, _, _, _, _ => rfl
  | r :: rs, had, p, h, hm, hn, hp => by
    have hr := h r (by simp)
    simp only [List.all_cons, Bool.and_eq_true] at hm
    have ih := fun had => col_far rs had p (fun x hx => h x (by simp [hx])) hm.2 hn hp
    have hlt : r.marks.toNat < 2 ^ n := by
      have := hm.1
      simp only [markB, Bool.and_eq_true, decide_eq_true_eq] at this
      exact this.1
    have hb : r.marks.toNat.testBit p = false := Nat.testBit_lt_two_pow (Nat.lt_of_lt_of_le hlt (Nat.pow_le_pow_right (by omega) hn))
    have hv : visB r p = !r.lost := by
      rw [← inN_bit hr hp]
      unfold inN
      cases hl : r.lost with
      | true => simp [hb]
      | false => simp only [Bool.false_eq_true, if_false, Nat.testBit_xor, testBit_ones hp, hb]; rfl
    simp only [colB, hv, vis_res, ih]

/-- all but the last have a line feed -/
def lastB : List Str → Bool
  | [] => true
  | [_] => true
  | x :: y :: r => endedV x && lastB (y :: r)

theorem listV_last : ∀ l : List Str, listV l = (l.all okL && lastB l)
  | [] => rfl
  | [x] => by simp [listV, lastB]
  | x :: y :: r => by
    have ih := listV_last (y :: r)
    simp only [listV, lastB, ih, List.all_cons]
    cases okL x <;> cases endedV x <;> simp

theorem col_had (c : Int) : ∀ (rows : List RowT), colB c true rows = (colV rows c).isEmpty
  | [] => rfl
  | r :: rs => by
    simp only [colB]
    cases hv : visB r c with
    | true => simp [colV, hv]
    | false => simp [colV, hv, col_had c rs]

theorem last_cons (x : Str) (l : List Str) : lastB (x :: l) = if endedV x then lastB l else l.isEmpty := by
  cases l with
  | nil => simp [lastB]
  | cons y r => cases h : endedV x <;> simp [lastB, h]

theorem col_last (c : Int) : ∀ (rows : List RowT), colB c false rows = lastB (colV rows c)
  | [] => rfl
  | r :: rs => by
    simp only [colB]
    cases hv : visB r c with
    | true =>
      have e : colV (r :: rs) c = r.text :: colV rs c := by simp [colV, hv]
      rw [e, last_cons]
      cases he : endedV r.text with
      | true => simp [col_last c rs]
      | false => simp [col_had]
    | false => simp [colV, hv, col_last c rs]

theorem texts_ends {rows : List RowT} {n : Nat} (h : ∀ r, r ∈ rows → rowOk r) (hm : rows.all (markB n) = true) (hn : n ≤ 32) :
    textsB rows n = ((rows.all fun r => lineB r.text) && endsB false 0 rows) := by
  unfold textsB
  cases hl : rows.all fun r => lineB r.text with
  | false => rfl
  | true =>
    simp only [Bool.true_and]
    have hcol : ∀ c, listV (colV rows c) = colB c false rows := by
      intro c
      rw [listV_last, col_last]
      have : (colV rows c).all okL = true := by
        rw [List.all_eq_true] at hl ⊢
        intro x hx
        obtain ⟨r, hr, rfl⟩ := List.mem_map.1 hx
        exact hl r (List.mem_filter.1 hr).1
      rw [this, Bool.true_and]
    rw [Bool.eq_iff_iff, ends_cols rows false 0 h]
    simp only [hcol, List.all_eq_true, List.mem_range, Nat.zero_testBit]
    constructor
    · intro h1
      have h0 := h1 0 (by omega)
      simp at h0
      refine ⟨h0, fun p hp => ?_⟩
      by_cases hpn : p < n
      · have := h1 (p + 1) (by omega)
        rwa [show (((p + 1 : Nat) : Int) - 1) = p by omega] at this
      · rw [col_far rows false p h hm (by omega) hp]
        exact h0
    · rintro ⟨h0, h1⟩ c hc
      rcases Nat.eq_zero_or_pos c with rfl | hc0
      · simpa using h0
      · have := h1 (c - 1) (by omega)
        rwa [show ((c : Int) - 1) = ((c - 1 : Nat) : Int) by omega]

def checkTab (t : TableT) : Int := if t.parents < 1 ∨ 32 < t.parents then 2 else if marksB t.rows t.parents.toNat = true then (if textsB t.rows t.parents.toNat = true then 0 else 4) else 180

def tabOk (t : TableT) : Prop := t.rows.length ≤ 1048576 ∧ (∀ r, r ∈ t.rows → rowOk r) ∧ flen (t.rows.map RowT.text) ≤ 4194304

theorem text_le {rows : List RowT} {r : RowT} (h : r ∈ rows) : r.text.length ≤ flen (rows.map RowT.text) := by
  induction rows with
  | nil => simp at h
  | cons x rs ih =>
    unfold flen at *
    rw [List.map_cons, List.flatten_cons, List.length_append]
    rcases List.mem_cons.1 h with rfl | h
    · omega
    · have := ih h
      omega

theorem col_flen (rows : List RowT) (c : Int) : flen (colV rows c) ≤ flen (rows.map RowT.text) ∧ (colV rows c).length ≤ rows.length := by
  refine ⟨?_, by unfold colV; rw [List.length_map]; exact List.length_filter_le _ _⟩
  induction rows with
  | nil => simp [colV, flen]
  | cons x rs ih =>
    unfold flen colV at *
    rw [List.map_cons, List.flatten_cons, List.length_append, List.filter_cons]
    split
    · rw [List.map_cons, List.flatten_cons, List.length_append]; omega
    · omega

end Go.AE

set_option maxRecDepth 20000
set_option maxHeartbeats 2000000
namespace Go.AE

@[simp] def S_ref16_Texts : List D → Prop × D := spec2 (α := List RowT) (β := Int) (fun rows n => rows.length ≤ 1048576 ∧ flen (rows.map RowT.text) ≤ 4194304 ∧ 0 ≤ n ∧ n ≤ 32) (fun rows n => .bool (textsB rows n.toNat))
theorem ct_ref16_Texts {P : Program} {f g1 g2 g3 : Nat} {G : Gam} (h : CodeOf P f 2 9 [2] (x_ref16_Texts g1 g2 g3)) (hG : GamOk P G) (h1 : G.find g1 = some S_ref12_Line) (h2 : G.find g2 = some S_ref16_Column) (h3 : G.find g3 = some S_ref02_List) : Has P f S_ref16_Texts := h.has2 hG fun rows n hp => by
  obtain ⟨p1, p2, p3, p4⟩ := hp
  obtain ⟨n, rfl⟩ := Int.eq_ofNat_of_zero_le p3
  simp [x_ref16_Texts]
  refine vc_lp (σ := Nat) (fun k => k ≤ rows.length ∧ (rows.all fun r => lineB r.text) = ((rows.drop k).all fun r => lineB r.text)) (fun k => rows.length - k) (fun k => [.d (Rep.to rows), .d (.int .i64 n), .any, .d (.int .i64 k), .any, .any, .any, .any, .any]) (fun _ => []) 0 (by simp) (by simp) ⟨by simp, by simp⟩ ?_
  rintro k ⟨k1, k2⟩
  by_cases hk : k < rows.length
  · have w1 : IntKind.i64.wrap ((k : Int) + 1) = (k : Int) + 1 := wrap_in (by omega) (by omega)
    rw [List.drop_eq_getElem_cons hk, List.all_cons] at k2
    have hl := text_le (List.getElem_mem hk)
    have hl2 : rows[k].text.length ≤ 4194304 := by omega
    cases hb : lineB rows[k].text with
    | true =>
      rw [hb, Bool.true_and] at k2
      simp [hk, getD_map, h1, hl2, hb, w1]
      exact Nxt.mk (k + 1) (by omega) (by simp) (by simp) ⟨by omega, k2⟩
    | false =>
      rw [hb, Bool.false_and] at k2
      have ht : textsB rows n = false := by unfold textsB; rw [k2]; rfl
      simp [hk, getD_map, h1, hl2, hb, ht]
  · have hk2 : k = rows.length := by omega
    subst hk2
    rw [List.drop_length] at k2
    have ht : textsB rows n = (List.range (n + 1)).all fun (c : Nat) => listV (colV rows ((c : Int) - 1)) := by unfold textsB; rw [k2]; rfl
    simp
    refine vc_lp (σ := Nat) (fun c => c ≤ n + 1 ∧ ∀ d, d < c → listV (colV rows ((d : Int) - 1)) = true) (fun c => n + 1 - c) (fun c => [.d (Rep.to rows), .d (.int .i64 n), .any, .any, .d (.int .i64 ((c : Int) - 1)), .any, .any, .any, .any]) (fun _ => []) 0 (by simp) (by simp) ⟨by simp, by simp⟩ ?_
    rintro c ⟨c1, c2⟩
    by_cases hc : c < n + 1
    · have hc' : (c : Int) - 1 < n := by omega
      have w1 : IntKind.i64.wrap (c : Int) = (c : Int) := wrap_in (by omega) (by omega)
      obtain ⟨q1, q2⟩ := col_flen rows ((c : Int) - 1)
      have q3 : flen (colV rows ((c : Int) - 1)) ≤ 4194304 := by omega
      have q4 : (colV rows ((c : Int) - 1)).length ≤ 4194304 := by omega
      cases hb : listV (colV rows ((c : Int) - 1)) with
      | true =>
        simp [hc', h2, h3, p1, q3, q4, hb, w1]
        refine Nxt.mk (c + 1) (by omega) (by simp) (by simp) ⟨by omega, fun d hd => ?_⟩
        by_cases hdc : d < c
        · exact c2 d hdc
        · obtain rfl : d = c := by omega
          exact hb
      | false =>
        have hf : textsB rows n = false := by
          rw [ht, List.all_eq_false]
          exact ⟨c, by simp; omega, by rw [hb]; simp⟩
        simp [hc', h2, h3, p1, q3, q4, hb, hf]
    · have hc' : ¬ (c : Int) - 1 < n := by omega
      have hf : textsB rows n = true := by
        rw [ht, List.all_eq_true]
        intro d hd
        exact c2 d (by simp at hd; omega)
      simp [hc', hf]

@[simp] def S_ref16_Check : List D → Prop × D := spec1 (α := TableT) tabOk (fun t => .int .i64 (checkTab t))
theorem ct_ref16_Check {P : Program} {f g1 g2 : Nat} {G : Gam} (h : CodeOf P f 1 6 [2] (x_ref16_Check g1 g2)) (hG : GamOk P G) (h1 : G.find g1 = some S_ref16_Marks) (h2 : G.find g2 = some S_ref16_Texts) : Has P f S_ref16_Check := h.has1 hG fun t hp => by
  obtain ⟨p1, p2, p3⟩ := hp
  by_cases c1 : t.parents < 1
  · simp [x_ref16_Check, checkTab, c1]
  · by_cases c2 : 32 < t.parents
    · simp [x_ref16_Check, checkTab, c1, c2]
    · have c3 : 0 ≤ t.parents := by omega
      have c4 : t.parents ≤ 32 := by omega
      cases hm : marksB t.rows t.parents.toNat with
      | false => simp [x_ref16_Check, checkTab, c1, c2, h1, p1, c3, c4, hm, p2]; exact fun a h => p2 a h
      | true =>
        cases ht : textsB t.rows t.parents.toNat with
        | false => simp [x_ref16_Check, checkTab, c1, c2, h1, h2, p1, p3, c3, c4, hm, ht]; exact fun a h => p2 a h
        | true => simp [x_ref16_Check, checkTab, c1, c2, h1, h2, p1, p3, c3, c4, hm, ht]; exact fun a h => p2 a h

theorem shr32 {m : Int} {n : Nat} (h1 : 0 ≤ m) (h2 : m < 4294967296) (hn : 1 ≤ n) (hn2 : n ≤ 32) : ((m.fdiv (2 ^ min 1 IntKind.u32.bits)).fdiv (2 ^ min (n - 1) IntKind.u32.bits) = 0) = (m.toNat < 2 ^ n) := by
  obtain ⟨m, rfl⟩ := Int.eq_ofNat_of_zero_le h1
  have e3 : min (n - 1) IntKind.u32.bits = n - 1 := by simp only [IntKind.bits]; omega
  have e4 : min 1 IntKind.u32.bits = 1 := rfl
  have h0 : ((2 : Int) ^ (n - 1)) = ((2 ^ (n - 1) : Nat) : Int) := by push_cast; rfl
  have h5 : (m : Int).fdiv ((2 : Int) ^ 1) = ((m / 2 : Nat) : Int) := by
    rw [show ((2 : Int) ^ 1) = ((2 : Nat) : Int) from rfl, Int.fdiv_eq_ediv_of_nonneg _ (Int.natCast_nonneg _)]
    rfl
  rw [e3, e4, h0, h5, Int.fdiv_eq_ediv_of_nonneg _ (Int.natCast_nonneg _), show (((m / 2 : Nat) : Int) / ((2 ^ (n - 1) : Nat) : Int)) = ((m / 2 / 2 ^ (n - 1) : Nat) : Int) from rfl, Nat.div_div_eq_div_mul]
  have e5 : 2 * 2 ^ (n - 1) = 2 ^ n := by rw [Nat.mul_comm, ← Nat.pow_succ]; congr 1; omega
  rw [e5]
  have h3 : m / 2 ^ n = 0 ↔ m < 2 ^ n := by rw [Nat.div_eq_zero_iff]; have := Nat.two_pow_pos n; omega
  simp only [Int.toNat_natCast, eq_iff_iff, ← h3]
  omega

@[simp] def S_weave_Marked : List D → Prop × D := spec2 (α := RowT) (β := Int) (fun r n => rowOk r ∧ 1 ≤ n ∧ n ≤ 32) (fun r n => .bool (markB n.toNat r))
theorem ct_weave_Marked {P : Program} {f : Nat} {G : Gam} (h : CodeOf P f 2 4 [3] x_weave_Marked) (hG : GamOk P G) : Has P f S_weave_Marked := h.has2 hG fun r n hp => by
  obtain ⟨p1, p2, p3⟩ := hp
  obtain ⟨n, rfl⟩ := Int.eq_ofNat_of_zero_le (show 0 ≤ n by omega)
  have w1 : IntKind.i64.wrap ((n : Int) - 1) = ((n - 1 : Nat) : Int) := by rw [wrap_in (by omega) (by omega)]; omega
  have hs := shr32 p1.1 p1.2 (show 1 ≤ n by omega) (by omega)
  by_cases c : r.marks.toNat < 2 ^ n
  · cases hl : r.lost with
    | true => simp [x_weave_Marked, w1, hs, c, hl, markB]
    | false => simp [x_weave_Marked, w1, hs, c, hl, markB]
  · simp [x_weave_Marked, w1, hs, c, markB]

theorem index_ten (s : Str) : (0 ≤ Lib.index s [10]) ↔ (10 : UInt8) ∈ s := by
  rcases first10 s with h | ⟨i, h1, h2⟩
  · have : Lib.index s [10] = -1 := Lib.index_none fun j hj => by
      cases h3 : Lib.occAt s [10] j with
      | false => rfl
      | true => exact absurd ((occ10 s j).1 h3) (h j)
    rw [this]
    constructor
    · intro h3; omega
    · intro h3
      obtain ⟨k, hk⟩ := List.mem_iff_getElem?.1 h3
      exact absurd hk (h k)
  · have : Lib.index s [10] = i := Lib.index_first (by have := List.getElem?_eq_some_iff.1 h1; obtain ⟨h3, _⟩ := this; omega) ((occ10 s i).2 h1) fun j hj => by
      have := h2 j hj
      cases h3 : Lib.occAt s [10] j with
      | false => rfl
      | true => exact absurd ((occ10 s j).1 h3) this
    rw [this]
    constructor
    · intro _; exact List.mem_iff_getElem?.2 ⟨i, h1⟩
    · intro _; omega

@[simp] def S_strings_Contains : List D → Prop × D := spec2 (α := Str) (β := Str) (fun s _ => s.length < 4294967281) (fun s n => .bool (decide (0 ≤ Lib.index s n)))
theorem ct_strings_Contains {P : Program} {f g1 : Nat} {G : Gam} (h : CodeOf P f 2 3 [2] (x_strings_Contains g1)) (hG : GamOk P G) (h1 : G.find g1 = some S_strings_Index) : Has P f S_strings_Contains := h.has2 hG fun s n hp => by
  simp [x_strings_Contains, h1, hp]

theorem bareV_le (x : Str) : (bareV x).length ≤ x.length := by
  unfold bareV
  split <;> simp

theorem bare_ten (s : Str) : (10 : UInt8) ∈ bareV s ↔ (10 : UInt8) ∈ s.dropLast := by
  rcases List.eq_nil_or_concat s with rfl | ⟨t, c, rfl⟩
  · simp [bareV, endedV]
  · simp only [List.concat_eq_append, bareV, endedV, List.getLast?_append, List.getLast?_singleton, Option.some_or, List.dropLast_concat]
    by_cases hc : c = 10
    · simp [hc]
    · simp [hc, Ne.symm hc]

@[simp] def S_weave_Single : List D → Prop × D := spec1 (α := RowT) (fun r => r.text.length ≤ 4194304) (fun r => .bool (lineB r.text))
theorem ct_weave_Single {P : Program} {f g1 g2 : Nat} {G : Gam} (h : CodeOf P f 1 3 [2] (x_weave_Single g1 g2)) (hG : GamOk P G) (h1 : G.find g1 = some S_text_Bare) (h2 : G.find g2 = some S_strings_Contains) : Has P f S_weave_Single := h.has1 hG fun r hp => by
  have hb := bareV_le r.text
  have q1 : r.text.length ≤ 9223372036854775807 := by omega
  have q2 : (bareV r.text).length < 4294967281 := by omega
  have e : decide (0 ≤ Lib.index (bareV r.text) [10]) = decide ((10 : UInt8) ∈ r.text.dropLast) := by
    rw [Bool.eq_iff_iff, decide_eq_true_eq, decide_eq_true_eq, index_ten, bare_ten]
  by_cases c : r.text = []
  · simp [x_weave_Single, c, lineB, okL]
  · have e2 : (0 ≤ Lib.index (bareV r.text) [10]) = ((10 : UInt8) ∈ r.text.dropLast) := by rw [eq_iff_iff, index_ten, bare_ten]
    simp [x_weave_Single, h1, h2, q1, q2, c, e2, lineB, okL]

/-! ### following the rows -/

theorem xor_ones {m : Int} (h1 : 0 ≤ m) (h2 : m < 4294967296) : IntKind.u32.wrap ((((if IntKind.u32.signed = true then -1 else IntKind.u32.max) % 2 ^ IntKind.u32.bits).toNat ^^^ (m % 2 ^ IntKind.u32.bits).toNat : Nat) : Int) = ((4294967295 ^^^ m.toNat : Nat) : Int) := by
  obtain ⟨m, rfl⟩ := Int.eq_ofNat_of_zero_le h1
  have e : ((if IntKind.u32.signed = true then -1 else IntKind.u32.max) % 2 ^ IntKind.u32.bits : Int).toNat = 4294967295 := by decide
  have e2 : (2 : Int) ^ IntKind.u32.bits = 4294967296 := rfl
  have e3 : ((m : Int) % 2 ^ IntKind.u32.bits).toNat = m := by rw [e2]; omega
  rw [e, e3, Int.toNat_natCast, u32_wrap]
  have : (4294967296 : Nat) = 2 ^ 32 := rfl
  rw [this]
  exact Nat.xor_lt_two_pow (by omega) (by omega)

theorem andU {a b : Nat} (ha : a < 4294967296) (hb : b < 4294967296) : IntKind.u32.wrap ((((a : Int) % 2 ^ IntKind.u32.bits).toNat &&& ((b : Int) % 2 ^ IntKind.u32.bits).toNat : Nat) : Int) = ((a &&& b : Nat) : Int) := by
  have e : (2 : Int) ^ IntKind.u32.bits = 4294967296 := rfl
  rw [e]
  have h1 : ((a : Int) % 4294967296).toNat = a := by omega
  have h2 : ((b : Int) % 4294967296).toNat = b := by omega
  rw [h1, h2, u32_wrap]
  exact Nat.lt_of_le_of_lt Nat.and_le_left ha

theorem orU' {a b : Nat} (ha : a < 4294967296) (hb : b < 4294967296) : IntKind.u32.wrap ((((a : Int) % 2 ^ IntKind.u32.bits).toNat ||| ((b : Int) % 2 ^ IntKind.u32.bits).toNat : Nat) : Int) = ((a ||| b : Nat) : Int) := orU_nat ha hb

theorem andU2 {a b : Nat} (ha : a < 4294967296) (hb : b < 4294967296) : IntKind.u32.wrap ((a % 2 ^ IntKind.u32.bits &&& b % 2 ^ IntKind.u32.bits : Nat) : Int) = ((a &&& b : Nat) : Int) := by
  have e : (2 : Nat) ^ IntKind.u32.bits = 4294967296 := rfl
  rw [e, Nat.mod_eq_of_lt ha, Nat.mod_eq_of_lt hb, u32_wrap]
  exact Nat.lt_of_le_of_lt Nat.and_le_left ha

theorem orU2 {a b : Nat} (ha : a < 4294967296) (hb : b < 4294967296) : IntKind.u32.wrap ((a % 2 ^ IntKind.u32.bits ||| b % 2 ^ IntKind.u32.bits : Nat) : Int) = ((a ||| b : Nat) : Int) := by
  have e : (2 : Nat) ^ IntKind.u32.bits = 4294967296 := rfl
  rw [e, Nat.mod_eq_of_lt ha, Nat.mod_eq_of_lt hb, u32_wrap]
  have : (4294967296 : Nat) = 2 ^ 32 := rfl
  rw [this] at *
  exact Nat.or_lt_two_pow ha hb

/-- data that may lie part by part -/
def A.gvd (α : Type) [Rep α] [Inhabited α] (x : A) : α := (Rep.of x.toD).getD default
attribute [simp] A.gvd

structure EndsX where
  res : Bool
  par : Nat
  row : RowT
  v : Nat

def endsOk (res : Bool) (par : Nat) (r : RowT) : Bool := decide (par &&& inN r = 0) && (r.lost || !res)
def endsRes (res : Bool) (r : RowT) : Bool := res || (!endedV r.text && !r.lost)
def endsPar (par : Nat) (r : RowT) : Nat := if endedV r.text then par else par ||| inN r

@[simp] def F_weave_Ends_Add : RF EndsX where
  new := 0
  view a s := ⟨((s.getD 0 .dead).at 0 0).gb, ((s.getD 0 .dead).at 0 1).gi.toNat, (a.getD 1 .any).gvd RowT, (s.getD 0 .dead).ver⟩
  args x := [.ref 0 x.v 0 0, .agg [.d (.bool x.row.lost), .d (.int .u32 x.row.marks), .d (.str x.row.text)]]
  st x := [.cells x.v 2 [.agg [.d (.bool x.res), .d (.int .u32 x.par)]]]
  pre x := x.par < 4294967296 ∧ rowOk x.row ∧ x.row.text.length ≤ 4194304
  res x := .d (.bool (endsOk x.res x.par x.row))
  st' x := [.cells x.v 2 [.agg [.d (.bool (endsRes x.res x.row)), .d (.int .u32 (endsPar x.par x.row))]]]

abbrev R_weave_Ends_Add : RSpec := F_weave_Ends_Add.spec

theorem ct_weave_Ends_Add {P : Program} {f g1 : Nat} {G : Gam} (hc : CodeOf P f 2 8 [3] (x_weave_Ends_Add g1)) (hG : GamOk P G) (h1 : G.find g1 = some S_text_Ended) : RSpec.Ok P f R_weave_Ends_Add := by
  refine RF.ok hc.call fun x hx => hc.rcalls hG rfl ?_
  obtain ⟨res, par, row, v⟩ := x
  obtain ⟨p1, p2, p3⟩ := hx
  simp only at p1 p2 p3
  have q1 : row.text.length ≤ 9223372036854775807 := by omega
  have hx := xor_ones p2.1 p2.2
  have hin := inN_lt p2
  have h32 : (2 : Nat) ^ 32 = 4294967296 := rfl
  rw [h32] at hin
  have hin2 : (4294967295 ^^^ row.marks.toNat : Nat) < 4294967296 := by
    rw [← h32]
    obtain ⟨a, b⟩ := p2
    exact Nat.xor_lt_two_pow (by omega) (by omega)
  have hmm : row.marks = ((row.marks.toNat : Nat) : Int) := by have := p2.1; omega
  have hml : row.marks.toNat < 4294967296 := by have := p2.2; omega
  cases hl : row.lost with
  | true =>
    have hn : inN row = row.marks.toNat := by simp [inN, hl]
    generalize row.marks.toNat = m at *
    cases he : endedV row.text <;> cases res <;> by_cases ha : par &&& m = 0 <;>
      simp [x_weave_Ends_Add, startA, h1, hl, he, q1, hmm, andU2 p1 hml, orU2 p1 hml, ha]
    all_goals try exact FinR.done (by simp) (by simp [endsRes, endsPar, he, hl, hn, hmm]) rfl (by simp [resOf, endsOk, hl, hn, ha]) (by simp) (by simp)
  | false =>
    have hn : inN row = 4294967295 ^^^ row.marks.toNat := by simp [inN, hl]
    generalize hq : (4294967295 ^^^ row.marks.toNat : Nat) = m at *
    cases he : endedV row.text <;> cases res <;> by_cases ha : par &&& m = 0 <;>
      simp [x_weave_Ends_Add, startA, h1, hl, he, q1, hx, andU2 p1 hin2, orU2 p1 hin2, ha]
    all_goals try exact FinR.done (by simp) (by simp [endsRes, endsPar, he, hl, hn]) rfl (by simp [resOf, endsOk, hl, hn, ha]) (by simp) (by simp)

end Go.AE

set_option maxRecDepth 20000
set_option maxHeartbeats 4000000
namespace Go.AE

theorem endsPar_lt {par : Nat} {r : RowT} (h : par < 4294967296) (hr : rowOk r) : endsPar par r < 4294967296 := by
  have hin := inN_lt hr
  unfold endsPar
  split
  · exact h
  · have : (4294967296 : Nat) = 2 ^ 32 := rfl
    rw [this] at *
    exact Nat.or_lt_two_pow h hin

theorem WkL.refl' (n : Nat) (k : List Ob) : ∀ xs : List A, WkL n k xs xs
  | [] => trivial
  | _ :: xs => ⟨Wk.refl _ _ _, WkL.refl' n k xs⟩

/-- a struct that was laid whole, field by field -/
theorem WkO.agg1 (n : Nat) (k : List Ob) (v e : Nat) (cs : List D) (h : (A.agg (cs.map .d)).fits e = true) : WkO n k (.cells v e [.d (.agg cs)]) (.cells v e [.agg (cs.map .d)]) := by
  refine .inr ⟨v, e, _, _, rfl, rfl, rfl, fun i hi => ?_⟩
  simp only [List.length_singleton] at hi
  obtain rfl : i = 0 := by omega
  exact ⟨h, WkL.refl' _ _ _⟩

@[simp] def S_weave_Check : List D → Prop × D := spec1 (α := TableT) tabOk (fun t => .int .i64 (checkTab t))
theorem ct_weave_Check {P : Program} {f g1 g2 g3 : Nat} {G : Gam} (h : CodeOf P f 1 17 [2] (x_weave_Check g1 g2 g3)) (hG : GamOk P G) (h1 : G.find g1 = some S_weave_Marked) (h2 : G.find g2 = some S_weave_Single) (h3 : G.findR g3 = some R_weave_Ends_Add) : Has P f S_weave_Check := h.has1 hG fun t hp => by
  obtain ⟨p1, p2, p3⟩ := hp
  obtain ⟨par, rows⟩ := t
  simp only at p1 p2 p3
  by_cases c1 : par < 1
  · simp [x_weave_Check, checkTab, c1]
  by_cases c2 : 32 < par
  · simp [x_weave_Check, checkTab, c1, c2]
  obtain ⟨n, rfl⟩ := Int.eq_ofNat_of_zero_le (show 0 ≤ par by omega)
  have n1 : (1 : Int) ≤ n := by omega
  have n2 : (n : Int) ≤ 32 := by omega
  have n3 : n ≤ 32 := by omega
  have hck : checkTab ⟨n, rows⟩ = if marksB rows n = true then (if textsB rows n = true then 0 else 4) else 180 := by
    unfold checkTab
    rw [if_neg (by simp; omega)]
    rfl
  simp [x_weave_Check, c1, c2]
  refine vc_lp (σ := Nat) (fun k => k ≤ rows.length ∧ rows.all (markB n) = (rows.drop k).all (markB n)) (fun k => rows.length - k) (fun k => [.any, .ref 0 0 0 0, .any, .any, .any, .any, .any, .d (.sl 3 (rows.map Rep.to)), .d (.int .i64 rows.length), .d (.int .i64 k), .any, .any, .any, .any, .any, .any, .any])
    (fun k => [.cells 0 2 [.d (Rep.to (⟨n, rows⟩ : TableT))]]) 0 (by simp) (by simp) ⟨by simp, by simp⟩ ?_
  rintro k ⟨k1, k2⟩
  by_cases hk : k < rows.length
  · have w1 : IntKind.i64.wrap ((k : Int) + 1) = (k : Int) + 1 := wrap_in (by omega) (by omega)
    have hr := p2 _ (List.getElem_mem hk)
    rw [List.drop_eq_getElem_cons hk, List.all_cons] at k2
    cases hb : markB n rows[k] with
    | true =>
      rw [hb, Bool.true_and] at k2
      simp [hk, getD_map, w1, h1, hr, n1, n2, hb]
      exact Nxt.mk (k + 1) (by omega) (by simp) (by simp) ⟨by omega, k2⟩
    | false =>
      rw [hb, Bool.false_and] at k2
      have hc : checkTab ⟨n, rows⟩ = 180 := by rw [hck, marksB_all, k2]; rfl
      simp [hk, getD_map, h1, hr, n1, n2, hb, hc]
  have hk2 : k = rows.length := by omega
  subst hk2
  rw [List.drop_length] at k2
  have hm : rows.all (markB n) = true := by rw [k2]; rfl
  have hck2 : checkTab ⟨n, rows⟩ = if ((rows.all fun r => lineB r.text) && endsB false 0 rows) = true then 0 else 4 := by
    rw [hck, marksB_all, hm, if_pos rfl, texts_ends p2 hm n3]
  simp
  refine vc_lpR (σ := Nat × Bool × Nat) (fun x => x.1 ≤ rows.length ∧ x.2.2 < 4294967296 ∧ ((rows.all fun r => lineB r.text) && endsB false 0 rows) = (((rows.drop x.1).all fun r => lineB r.text) && endsB x.2.1 x.2.2 (rows.drop x.1))) (fun x => rows.length - x.1)
    (fun x => [.any, .ref 0 0 0 0, .any, .any, .ref 1 0 0 0, .any, .any, .any, .any, .any, .any, .any, .d (.sl 3 (rows.map Rep.to)), .d (.int .i64 rows.length), .d (.int .i64 x.1), .any, .any])
    (fun x => [.cells 0 2 [.d (Rep.to (⟨n, rows⟩ : TableT))], .cells 0 2 [.agg [.d (.bool x.2.1), .d (.int .u32 x.2.2)]]]) (0, false, 0) ?_ ⟨by simp, by simp, by simp⟩ ?_
  · refine Re.wn (s' := [.cells 0 2 [.d (Rep.to (⟨n, rows⟩ : TableT))], .cells 0 2 [.agg [.d (.bool false), .d (.int .u32 0)]]]) [false, true, false, false, true, false, false, false, false, false, false, false, true, true, true] [] (by simp) (by simp) ?_ ?_ (by simp)
    · simp
    · exact ⟨.inl rfl, WkO.agg1 _ _ 0 2 [.bool false, .int .u32 0] rfl, trivial⟩
  rintro ⟨k, res, par⟩ ⟨k1, k3, k4⟩
  simp only at k1 k3 k4
  by_cases hk : k < rows.length
  · have w1 : IntKind.i64.wrap ((k : Int) + 1) = (k : Int) + 1 := wrap_in (by omega) (by omega)
    have hr := p2 _ (List.getElem_mem hk)
    have hl := text_le (List.getElem_mem hk)
    have hl2 : rows[k].text.length ≤ 4194304 := by omega
    rw [List.drop_eq_getElem_cons hk, List.all_cons, endsB] at k4
    have e1 : (res || !endedV rows[k].text && !rows[k].lost) = endsRes res rows[k] := rfl
    have e2 : (if endedV rows[k].text = true then par else par ||| inN rows[k]) = endsPar par rows[k] := rfl
    have e3 : (decide (par &&& inN rows[k] = 0) && (rows[k].lost || !res)) = endsOk res par rows[k] := rfl
    rw [e1, e2, e3] at k4
    have q := endsPar_lt k3 hr
    cases hb : lineB rows[k].text with
    | false =>
      have hc : checkTab ⟨n, rows⟩ = 4 := by rw [hck2, k4, hb]; rfl
      simp [hk, getD_map, h2, hl2, hb, hc]
    | true =>
      cases ho : endsOk res par rows[k] with
      | false =>
        have hc : checkTab ⟨n, rows⟩ = 4 := by rw [hck2, k4, ho]; simp
        simp [hk, getD_map, h2, h3, hl2, hb, ho, eRCall, k3, hr, hc]
      | true =>
        rw [hb, ho, Bool.true_and, Bool.true_and] at k4
        simp [hk, getD_map, h2, h3, hl2, hb, ho, eRCall, k3, hr, w1]
        exact Nxt.mk (k + 1, endsRes res rows[k], endsPar par rows[k]) (by simp; omega) (by simp) (by simp) ⟨by simp; omega, q, k4⟩
  · have hk2 : k = rows.length := by omega
    subst hk2
    rw [List.drop_length] at k4
    have hc : checkTab ⟨n, rows⟩ = 0 := by rw [hck2, k4]; rfl
    simp [hc]

end Go.AE

set_option maxRecDepth 20000
set_option maxHeartbeats 4000000
namespace Go.AE

/-- the maximal spans of the numbers below n for which p holds -/
def spV (p : Nat → Bool) : Nat → List SpanT
  | 0 => []
  | i + 1 => if p i then (if decide (0 < i) && p (i - 1) then (spV p i).set ((spV p i).length - 1) ⟨((spV p i).getD ((spV p i).length - 1) default).fr, (i : Int) + 1⟩ else spV p i ++ [⟨i, (i : Int) + 1⟩]) else spV p i

theorem spV_len (p : Nat → Bool) : ∀ i, (spV p i).length ≤ i
  | 0 => by simp [spV]
  | i + 1 => by
    have := spV_len p i
    unfold spV
    split
    · split
      · rw [List.length_set]; omega
      · simp; omega
    · omega

theorem spV_ne (p : Nat → Bool) : ∀ i, 0 < i → p (i - 1) = true → spV p i ≠ []
  | 0, h, _ => absurd h (by omega)
  | i + 1, _, h => by
    simp only [Nat.add_sub_cancel] at h
    unfold spV
    rw [if_pos h]
    split
    · rename_i h2
      simp only [Bool.and_eq_true, decide_eq_true_eq] at h2
      have := spV_ne p i h2.1 h2.2
      intro h3
      have h4 := congrArg List.length h3
      rw [List.length_set] at h4
      exact this (List.eq_nil_of_length_eq_zero h4)
    · simp

/-- a span in a cell, field by field -/
def spanA (s : SpanT) : A := .agg [.d (.int .i64 s.fr), .d (.int .i64 s.to)]

theorem spanA_fits (s : SpanT) : (spanA s).fits 2 = true := rfl

theorem spans_all (l : List SpanT) : (l.map spanA).all A.isD = true ∧ (l.map spanA).map A.toD = l.map Rep.to := by
  constructor
  · rw [List.all_eq_true]
    intro y hy
    obtain ⟨x, _, rfl⟩ := List.mem_map.1 hy
    rfl
  · rw [List.map_map]
    rfl

theorem under_spans (n : Nat) (l : List SpanT) : (l.map spanA).all (A.under n) = true := by
  rw [List.all_eq_true]
  intro y hy
  obtain ⟨x, _, rfl⟩ := List.mem_map.1 hy
  rfl

theorem span_snoc (n : Nat) (k : List Ob) (v : Nat) (l : List SpanT) (s : SpanT) : WkO n k (.cells v 2 (l.map spanA ++ [A.d (.agg [.int .i64 s.fr, .int .i64 s.to])])) (.cells v 2 ((l ++ [s]).map spanA)) := by
  refine .inr ⟨v, 2, _, _, rfl, rfl, by simp, fun i hi => ?_⟩
  simp only [List.length_append, List.length_map, List.length_singleton] at hi
  by_cases h : i < l.length
  · have e1 : (l.map spanA ++ [A.d (.agg [.int .i64 s.fr, .int .i64 s.to])]).getD i .any = spanA l[i] := by
      simp [List.getD, List.getElem?_append, h]
    have e2 : ((l ++ [s]).map spanA).getD i .any = spanA l[i] := by
      simp [List.getD, List.getElem?_append, h]
    rw [e1, e2]
    exact ⟨rfl, WkL.refl' _ _ _⟩
  · obtain rfl : i = l.length := by omega
    have e1 : (l.map spanA ++ [A.d (.agg [.int .i64 s.fr, .int .i64 s.to])]).getD l.length .any = .d (.agg [.int .i64 s.fr, .int .i64 s.to]) := by
      simp [List.getD]
    have e2 : ((l ++ [s]).map spanA).getD l.length .any = spanA s := by
      simp [List.getD]
    rw [e1, e2]
    exact ⟨rfl, WkL.refl' _ _ _⟩

theorem spans_loop {G : Gam} {rs0 : List A} {f : Nat} {fnA : A} {o0 : Ob} (n : Nat) (hn : n ≤ 1048576) (p : Nat → Bool) (hcall : ∀ (y : Ob) (i nw : Nat), i < n → eCallv G [o0, y] nw [.d (.int .i64 i)] fnA = ⟨True, [(0, o0)], .d (.bool (p i))⟩) (hu : o0.under 2 = true) (hfn : fnA.under 2 = true)
    (Q : XE → List A → Store → Prop) (hQ : Q .ret [.d (.int .i64 n), fnA, .d (Rep.to (spV p n)), .d (Rep.to (spV p n)), .any, .any, .any, .any, .any, .any] [o0, .dead]) :
    vc G 1 x_interest_spans Q (startA [.d (.int .i64 n), fnA] 10) [o0] := by
  simp [x_interest_spans, startA]
  refine vc_lpR (σ := Nat) (fun i => i ≤ n) (fun i => n - i)
    (fun i => [.d (.int .i64 n), fnA, .any, .own 1 (spV p i).length 0 (spV p i).length, .any, .d (.int .i64 n), .d (.int .i64 i), .any, .any, .any]) (fun i => [o0, .cells (spV p i).length 2 ((spV p i).map spanA)]) 0 ?_ (by simp) ?_
  · refine Re.wn (s' := [o0]) [true, true, false, true, false, true, true, false, false, false] [.cells 0 2 []] (by simp) (by simp) ?_ ⟨.inl rfl, trivial⟩ (by simp [spV])
    simp [spV]
    exact Wk.freshO _ _ _ 0 rfl
  intro i hi
  by_cases h1 : i < n
  · have w1 : IntKind.i64.wrap ((i : Int) + 1) = (i : Int) + 1 := wrap_in (by omega) (by omega)
    have hc := fun y nw => hcall y i nw h1
    have hlen := spV_len p i
    cases hp : p i with
    | false =>
      have e : spV p (i + 1) = spV p i := by rw [spV]; simp [hp]
      simp [h1, w1, hc, hp]
      exact Nxt.mk (i + 1) (by omega) (by simp [e]) (by simp [e]) (by omega)
    | true =>
      by_cases h0 : 0 < i
      · have w0 : IntKind.i64.wrap ((i : Int) - 1) = ((i - 1 : Nat) : Int) := by rw [wrap_in (by omega) (by omega)]; omega
        have hc0 := fun y nw => hcall y (i - 1) nw (by omega)
        cases hp0 : p (i - 1) with
        | true =>
          have hne := spV_ne p i h0 hp0
          have hpos := List.length_pos_iff.2 hne
          have wl : IntKind.i64.wrap (((spV p i).length : Int) - 1) = (((spV p i).length - 1 : Nat) : Int) := by rw [wrap_in (by omega) (by omega)]; omega
          have e : spV p (i + 1) = (spV p i).set ((spV p i).length - 1) ⟨((spV p i).getD ((spV p i).length - 1) default).fr, (i : Int) + 1⟩ := by rw [spV]; simp [hp, hp0, h0]
          have el : (spV p (i + 1)).length = (spV p i).length := by rw [e, List.length_set]
          generalize hl : spV p i = l at *
          have hlt : l.length - 1 < l.length := by omega
          have hg : (l.map spanA)[l.length - 1]? = some (spanA l[l.length - 1]) := by simp [hlt]
          simp [h1, w1, hc, hp, h0, w0, hc0, hp0, wl, hlt, hg, spanA]
          refine Nxt.mk (i + 1) (by omega) (by simp [el]) ?_ (by omega)
          have eset : (l.map spanA).set (l.length - 1) (A.agg [A.d (D.int IntKind.i64 l[l.length - 1].fr), A.d (D.int IntKind.i64 ((i : Int) + 1))]) = (spV p (i + 1)).map spanA := by
            rw [e, List.map_set]
            simp [spanA, List.getD, hlt]
          simp [el, eset]
        | false =>
          have e : spV p (i + 1) = spV p i ++ [⟨i, (i : Int) + 1⟩] := by rw [spV]; simp [hp, hp0]
          simp [h1, w1, hc, hp, h0, w0, hc0, hp0]
          have el : (spV p (i + 1)).length = (spV p i).length + 1 := by rw [e]; simp
          refine ⟨by unfold room; omega, Nxt.re (i + 1) (by omega) ?_ (by omega)⟩
          refine Re.wf [o0, .cells ((spV p i).length + 1) 2 ((spV p (i + 1)).map spanA), .res] [true, true, false, true, false, true, true, false, false, false] 2 (by omega) (by simp) ?_ (.inr ⟨?_, ?_⟩) (by simp [el]) (by simp [el])
          · rw [e]
            exact ⟨.inl rfl, span_snoc _ _ _ _ ⟨i, (i : Int) + 1⟩, .inl rfl, trivial⟩
          · simp [hfn]
          · have h9 : (Ob.cells ((spV p i).length + 1) 2 ((spV p (i + 1)).map spanA)).under 2 = true := under_spans 2 _
            simp only [List.take_succ_cons, List.take_zero, List.all_cons, List.all_nil, hu, h9, Bool.true_and, Bool.and_true]
      · obtain rfl : i = 0 := by omega
        have e : spV p 1 = [⟨0, 1⟩] := by rw [spV]; simp [hp, spV]
        have e0 : spV p 0 = [] := rfl
        have hc0 : ∀ (y : Ob) (nw : Nat), eCallv G [o0, y] nw [.d (.int .i64 0)] fnA = ⟨True, [(0, o0)], .d (.bool (p 0))⟩ := fun y nw => by simpa using hcall y 0 nw h1
        have w2 : IntKind.i64.wrap 1 = 1 := wrap_in (by omega) (by omega)
        simp [h1, w2, hc0, hp, e0]
        refine ⟨by unfold room; omega, Nxt.re 1 (by omega) ?_ (by omega)⟩
        refine Re.wf [o0, .cells 1 2 ((spV p 1).map spanA), .res] [true, true, false, true, false, true, true, false, false, false] 2 (by omega) (by simp) ?_ (.inr ⟨?_, ?_⟩) (by simp [e]) (by simp [e])
        · rw [e]
          exact ⟨.inl rfl, span_snoc 3 [] 1 [] ⟨0, 1⟩, .inl rfl, trivial⟩
        · simp [hfn]
        · have h9 : (Ob.cells 1 2 ((spV p 1).map spanA)).under 2 = true := under_spans 2 _
          simp only [List.take_succ_cons, List.take_zero, List.all_cons, List.all_nil, hu, h9, Bool.true_and, Bool.and_true]
  · have hi2 : i = n := by omega
    subst hi2
    obtain ⟨d1, d2⟩ := spans_all (spV p i)
    simp
    refine Hint.of (T' := [.d (.int .i64 i), fnA, .any, .d (Rep.to (spV p i)), .any, .any, .any, .any, .any, .any]) (s' := [o0, .dead]) (Re.freeze 1 (spV p i).length 2 _ rfl ?_ ⟨rfl, ?_⟩ rfl) ?_
    · have hf := Fz.own 1 (spV p i).length 2 0 (spV p i).length ((spV p i).map spanA) (by rw [List.drop_zero, List.take_of_length_le (by simp)]; exact d1)
      rw [List.drop_zero, List.take_of_length_le (by simp), d2] at hf
      simp
      simpa using hf
    · intro k hk h0
      simp at hk
      obtain rfl : k = 0 := by omega
      exact .inl rfl
    · simpa using hQ

end Go.AE

set_option maxRecDepth 20000
set_option maxHeartbeats 4000000
namespace Go.AE

def A.gfn : A → Nat
  | .fn (.func g) _ _ => g
  | _ => 0
attribute [simp] A.gfn

structure RunX where
  i : Nat
  tab : TableT
  v : Nat

@[simp] def F_interest_runs_1 : RF RunX where
  new := 0
  view a s := ⟨(a.getD 0 .any).gi.toNat, ((s.getD 0 .dead).el 0).gv TableT, (s.getD 0 .dead).ver⟩
  args x := [.d (.int .i64 x.i), .ref 0 x.v 0 0]
  st x := [.cells x.v 2 [.d (Rep.to x.tab)]]
  pre x := x.i < x.tab.rows.length
  res x := .d (.bool (!blankV (x.tab.rows.getD x.i default)))
  st' x := [.cells x.v 2 [.d (Rep.to x.tab)]]
abbrev R_interest_runs_1 : RSpec := F_interest_runs_1.spec

theorem ct_interest_runs_1 {P : Program} {f g1 : Nat} {G : Gam} (hc : CodeOf P f 2 3 [2] (x_interest_runs_1 g1)) (hG : GamOk P G) (h1 : G.find g1 = some S_interest_blank) : RSpec.Ok P f R_interest_runs_1 := by
  refine RF.ok hc.call fun x hx => hc.rcalls hG rfl ?_
  obtain ⟨i, tab, v⟩ := x
  have hx : i < tab.rows.length := hx
  simp [x_interest_runs_1, startA, h1, hx, getD_map]
  exact FinR.done (by simp) (by simp) rfl rfl (by simp) (by simp)

structure ShowX where
  i : Nat
  sh : List Bool
  v : Nat

@[simp] def F_interest_Hunks_1 : RF ShowX where
  new := 0
  view a s := ⟨(a.getD 0 .any).gi.toNat, ((s.getD 0 .dead).at 0 0).gl Bool, (s.getD 0 .dead).ver⟩
  args x := [.d (.int .i64 x.i), .ref 0 x.v 0 0]
  st x := [.cells x.v 1 [.d (Rep.to x.sh)]]
  pre x := x.i < x.sh.length
  res x := .d (.bool (x.sh.getD x.i false))
  st' x := [.cells x.v 1 [.d (Rep.to x.sh)]]
abbrev R_interest_Hunks_1 : RSpec := F_interest_Hunks_1.spec

theorem ct_interest_Hunks_1 {P : Program} {f : Nat} (hc : CodeOf P f 2 3 [2] x_interest_Hunks_1) : RSpec.Ok P f R_interest_Hunks_1 := by
  refine RF.ok hc.call fun x hx => hc.rcalls (GamOk.nil _) rfl ?_
  obtain ⟨i, sh, v⟩ := x
  have hx : i < sh.length := hx
  simp [x_interest_Hunks_1, startA, hx, getD_map]
  exact FinR.done (by simp) (by simp) rfl rfl (by simp) (by simp)

structure SpansX where
  n : Nat
  b : Bool
  tab : TableT
  sh : List Bool
  v : Nat

def spansP (x : SpansX) (i : Nat) : Bool := if x.b then !blankV (x.tab.rows.getD i default) else x.sh.getD i false
def spansL (x : SpansX) : Nat := if x.b then x.tab.rows.length else x.sh.length

@[simp] def F_interest_spans (g1 g2 : Nat) : RF SpansX where
  new := 0
  view a s := ⟨(a.getD 0 .any).gi.toNat, decide ((a.getD 1 .any).gfn = g1), ((s.getD 0 .dead).el 0).gv TableT, ((s.getD 0 .dead).at 0 0).gl Bool, (s.getD 0 .dead).ver⟩
  args x := [.d (.int .i64 x.n), .fn (.func (if x.b then g1 else g2)) [] [.ref 0 x.v 0 0]]
  st x := [if x.b then .cells x.v 2 [.d (Rep.to x.tab)] else .cells x.v 1 [.d (Rep.to x.sh)]]
  pre x := x.n = spansL x ∧ x.n ≤ 1048576
  res x := .d (Rep.to (spV (spansP x) x.n))
  st' x := [if x.b then .cells x.v 2 [.d (Rep.to x.tab)] else .cells x.v 1 [.d (Rep.to x.sh)]]
abbrev R_interest_spans (g1 g2 : Nat) : RSpec := (F_interest_spans g1 g2).spec

theorem FinR.drop {rs : List Nat} {o : Ob} {r : D} {T : List A} (h : resOf rs T [o, .dead] = .d r) (ho : o.under 1 = true) (hp : resPre rs T [o, .dead]) : FinR rs [o] (.d r) [o] .ret T [o, .dead] := by
  refine FinR.done (by simp) ?_ rfl h.symm ?_ rfl hp
  · simp
  · simpa using ho

theorem ct_interest_spans {P : Program} {f g1 g2 : Nat} {G : Gam} (hc : CodeOf P f 2 10 [2] x_interest_spans) (hG : GamOk P G) (h1 : G.findR g1 = some R_interest_runs_1) (h2 : G.findR g2 = some R_interest_Hunks_1) : RSpec.Ok P f (R_interest_spans g1 g2) := by
  refine RF.ok hc.call fun x hx => hc.rcalls hG rfl ?_
  obtain ⟨n, b, tab, sh, v⟩ := x
  obtain ⟨hn, hn2⟩ := hx
  simp only at hn hn2
  cases b with
  | true =>
    have hn : n = tab.rows.length := hn
    refine spans_loop (f := f) (rs0 := []) n hn2 (spansP ⟨n, true, tab, sh, v⟩) (fun y i nw hi => ?_) (by simp) (by simp) _ ?_
    · have hi2 : i < tab.rows.length := by omega
      simp [eCallv, eRCall, h1, hi2, spansP]
    · exact FinR.drop rfl rfl (by simp [resPre, resE])
  | false =>
    have hn : n = sh.length := hn
    refine spans_loop (f := f) (rs0 := []) n hn2 (spansP ⟨n, false, tab, sh, v⟩) (fun y i nw hi => ?_) (by simp) (by simp) _ ?_
    · have hi2 : i < sh.length := by omega
      simp [eCallv, eRCall, h2, hi2, spansP]
    · exact FinR.drop rfl rfl (by simp [resPre, resE])

def runsV (t : TableT) : List SpanT := spV (fun i => !blankV (t.rows.getD i default)) t.rows.length

@[simp] def S_interest_runs : List D → Prop × D := spec1 (α := TableT) (fun t => t.rows.length ≤ 1048576) (fun t => Rep.to (runsV t))
theorem ct_interest_runs {P : Program} {f g1 g2 g3 : Nat} {G : Gam} (h : CodeOf P f 1 3 [2] (x_interest_runs g1 g2)) (hG : GamOk P G) (h1 : G.findR g1 = some (R_interest_spans g2 g3)) (_ : G.findR g2 = some R_interest_runs_1) : Has P f S_interest_runs := h.has1 hG fun t hp => by
  have e : ∀ (sh : List Bool) (v : Nat), spV (spansP ⟨t.rows.length, true, ⟨t.parents, t.rows⟩, sh, v⟩) t.rows.length = runsV t := fun _ _ => rfl
  simp [x_interest_runs, h1, eRCall, hp, spansL, e]

theorem bor_spans (s : Store) (j v : Nat) (l : List SpanT) (h : s.getD j .dead = .cells v 2 (l.map spanA)) : bor s (.own j v 0 l.length) = (True, Rep.to l) := by
  obtain ⟨d1, d2⟩ := spans_all l
  unfold bor
  simp only [h, List.drop_zero]
  rw [List.take_of_length_le (by simp), d1, d2]
  simp

/-- the spans of a list of conditions -/
def spansB (l : List Bool) : List SpanT := spV (fun i => l.getD i false) l.length

@[simp] def S_ref17_spans : List D → Prop × D := spec1 (α := List Bool) (fun l => l.length ≤ 1048576) (fun l => Rep.to (spansB l))
theorem ct_ref17_spans {P : Program} {f : Nat} {G : Gam} (h : CodeOf P f 1 7 [1] x_ref17_spans) (hG : GamOk P G) : Has P f S_ref17_spans := h.has1 hG fun l hp => by
  obtain ⟨p, hpd⟩ : ∃ p : Nat → Bool, p = fun i => l.getD i false := ⟨_, rfl⟩
  have hsp : spansB l = spV p l.length := by rw [hpd]; rfl
  have hpi : ∀ i (h : i < l.length), l[i] = p i := fun i h => by rw [hpd]; simp [List.getD, h]
  simp [x_ref17_spans]
  refine vc_lpR (σ := Nat) (fun i => i ≤ l.length) (fun i => l.length - i)
    (fun i => [.d (Rep.to l), .any, .own 0 (spV p i).length 0 (spV p i).length, .d (.int .i64 i), .any, .any, .any]) (fun i => [.cells (spV p i).length 2 ((spV p i).map spanA)]) 0 ?_ (by simp) ?_
  · refine Re.wn (s' := []) [true, false, true, true, false, false, false] [.cells 0 2 []] (by simp) (by simp) ?_ trivial (by simp [spV])
    simp [spV]
    exact Wk.freshO _ _ _ 0 rfl
  intro i hi
  by_cases h1 : i < l.length
  · have w1 : IntKind.i64.wrap ((i : Int) + 1) = (i : Int) + 1 := wrap_in (by omega) (by omega)
    have hlen := spV_len p i
    cases hpp : p i with
    | false =>
      have e : spV p (i + 1) = spV p i := by rw [spV]; simp [hpp]
      simp [h1, getD_map, w1, hpi i h1, hpp]
      exact Nxt.mk (i + 1) (by omega) (by simp [e]) (by simp [e]) (by omega)
    | true =>
      by_cases hc : 0 < i ∧ p (i - 1) = true
      · obtain ⟨h0, hp0⟩ := hc
        have w0 : IntKind.i64.wrap ((i : Int) - 1) = ((i - 1 : Nat) : Int) := by rw [wrap_in (by omega) (by omega)]; omega
        have hne := spV_ne p i h0 hp0
        have hpos := List.length_pos_iff.2 hne
        have wl : IntKind.i64.wrap (((spV p i).length : Int) - 1) = (((spV p i).length - 1 : Nat) : Int) := by rw [wrap_in (by omega) (by omega)]; omega
        have e : spV p (i + 1) = (spV p i).set ((spV p i).length - 1) ⟨((spV p i).getD ((spV p i).length - 1) default).fr, (i : Int) + 1⟩ := by rw [spV]; simp [hpp, hp0, h0]
        have el : (spV p (i + 1)).length = (spV p i).length := by rw [e, List.length_set]
        have hi1 : i - 1 < l.length := by omega
        have h00 : ¬ i = 0 := by omega
        generalize hl : spV p i = q at *
        have hlt : q.length - 1 < q.length := by omega
        have hg : (q.map spanA)[q.length - 1]? = some (spanA q[q.length - 1]) := by simp [hlt]
        simp [h1, getD_map, w1, hpi i h1, hpi (i - 1) hi1, hpp, hp0, h00, w0, hi1, wl, hlt, hg, spanA]
        refine Nxt.mk (i + 1) (by omega) (by simp [el]) ?_ (by omega)
        have eset : (q.map spanA).set (q.length - 1) (A.agg [A.d (D.int IntKind.i64 q[q.length - 1].fr), A.d (D.int IntKind.i64 ((i : Int) + 1))]) = (spV p (i + 1)).map spanA := by
          rw [e, List.map_set]
          simp [spanA, List.getD, hlt]
        simp [el, eset]
      · have e : spV p (i + 1) = spV p i ++ [⟨i, (i : Int) + 1⟩] := by
          rw [spV, if_pos hpp, if_neg]
          simpa using hc
        have el : (spV p (i + 1)).length = (spV p i).length + 1 := by rw [e]; simp
        have hset : (List.map spanA (spV p i) ++ [A.d (D.agg [D.int IntKind.i64 i, D.int IntKind.i64 i])]).set (spV p i).length (A.agg [A.d (D.int IntKind.i64 i), A.d (D.int IntKind.i64 ((i : Int) + 1))]) = (spV p (i + 1)).map spanA := by
          rw [e, List.set_append_right _ _ (by simp)]
          simp [spanA]
        have wl : IntKind.i64.wrap ((spV p i).length : Int) = ((spV p i).length : Int) := wrap_in (by omega) (by omega)
        by_cases h0 : i = 0
        · subst h0
          have e0 : spV p 0 = [] := rfl
          have w2 : IntKind.i64.wrap 1 = 1 := wrap_in (by omega) (by omega)
          have w3 : IntKind.i64.wrap 0 = 0 := wrap_in (by omega) (by omega)
          rw [e0] at e el
          simp [h1, getD_map, w2, w3, hpi 0 h1, hpp, e0]
          exact ⟨by unfold room; omega, Nxt.mk 1 (by omega) (by simp [e]) (by simp [e, spanA]) (by omega) (h4 := .inr ⟨by simp, by simp [e, spanA]⟩)⟩
        · have hp0 : p (i - 1) = false := by
            cases h9 : p (i - 1) with
            | false => rfl
            | true => exact absurd ⟨by omega, h9⟩ hc
          have w0 : IntKind.i64.wrap ((i : Int) - 1) = ((i - 1 : Nat) : Int) := by rw [wrap_in (by omega) (by omega)]; omega
          have hi1 : i - 1 < l.length := by omega
          have ef : List.map spanA (spV p i) ++ [A.agg [A.d (D.int IntKind.i64 i), A.d (D.int IntKind.i64 ((i : Int) + 1))]] = (spV p (i + 1)).map spanA := by rw [e, List.map_append]; rfl
          have h9 : (Ob.cells ((spV p i).length + 1) 2 ((spV p (i + 1)).map spanA)).under 1 = true := under_spans 1 _
          simp [h1, getD_map, w1, hpi i h1, hpi (i - 1) hi1, hpp, hp0, h0, w0, hi1, wl]
          rw [ef]
          exact ⟨by unfold room; omega, by omega, Nxt.mk (i + 1) (by omega) (by simp [el]) (by simp [el]) (by omega) (h4 := .inr ⟨by simp, by rw [el]; simpa using h9⟩)⟩
  · have hi2 : i = l.length := by omega
    subst hi2
    have hb := bor_spans [.cells (spV p l.length).length 2 ((spV p l.length).map spanA)] 0 (spV p l.length).length (spV p l.length) rfl
    simp only [to_list, size_Span] at hb
    simp [hb, hsp]

/-! ### runs, and which of them are shown -/

@[simp] def S_ref17_Runs : List D → Prop × D := spec1 (α := TableT) tabOk (fun t => if checkTab t = 0 then .tup [Rep.to (runsV t), .int .i64 0] else .tup [.nilsl, .int .i64 (checkTab t)])
theorem ct_ref17_Runs {P : Program} {f g1 g2 g3 : Nat} {G : Gam} (h : CodeOf P f 1 9 [2, 3] (x_ref17_Runs g1 g2 g3)) (hG : GamOk P G) (h1 : G.find g1 = some S_ref16_Check) (h2 : G.find g2 = some S_ref17_Blank) (h3 : G.find g3 = some S_ref17_spans) : Has P f S_ref17_Runs := h.has1 hG fun t hp => by
  have hp1 := hp.1
  by_cases c : checkTab t = 0
  · simp [x_ref17_Runs, h1, hp, c]
    refine vc_lp (σ := Nat) (fun i => i ≤ t.rows.length) (fun i => t.rows.length - i)
      (fun i => [.any, .ref 0 0 0 0, .any, .any, .any, .gr 1 1 ((t.rows.take i).map fun r => .bool (!blankV r)), .d (.int .i64 i), .any, .any]) (fun i => [.cells 0 2 [.d (Rep.to t)], .tip i]) 0 (by simp) (by simp) (by simp) ?_
    intro i hi
    by_cases hk : i < t.rows.length
    · have w1 : IntKind.i64.wrap ((i : Int) + 1) = (i : Int) + 1 := wrap_in (by omega) (by omega)
      have e : ((t.rows.take i).map fun r => D.bool (!blankV r)) ++ [D.bool (!blankV t.rows[i])] = (t.rows.take (i + 1)).map fun r => .bool (!blankV r) := by
        rw [List.take_succ_eq_append_getElem hk, List.map_append]
        rfl
      have el : min i t.rows.length = i := by omega
      simp [hk, getD_map, h2, w1, e, el, -List.map_take]
      exact ⟨by unfold room; omega, Nxt.mk (i + 1) (by omega) (by simp) (by simp) (by omega)⟩
    · have h9 : i = t.rows.length := by omega
      subst h9
      have e1 : (t.rows.map fun r => D.bool (!blankV r)) = (t.rows.map fun r => !blankV r).map Rep.to := by rw [List.map_map]; rfl
      have e2 : spansB (t.rows.map fun r => !blankV r) = runsV t := by
        unfold spansB runsV
        rw [List.length_map]
        have key : ∀ i, i ≤ t.rows.length → spV (fun i => (t.rows.map fun r => !blankV r).getD i false) i = spV (fun i => !blankV (t.rows.getD i default)) i := by
          intro i
          induction i with
          | zero => intro _; rfl
          | succ i ih =>
            intro hi
            have a1 : ∀ j, j < t.rows.length → (t.rows.map fun r => !blankV r).getD j false = !blankV (t.rows.getD j default) := by
              intro j hj
              simp [List.getD, hj]
            rw [spV, spV, ih (by omega), a1 i (by omega)]
            by_cases h0 : 0 < i
            · rw [a1 (i - 1) (by omega)]
            · simp [h0]
        exact key _ (Nat.le_refl _)
      rw [List.take_length]
      simp [e1, h3, hp1, e2, -List.map_map]
  · simp [x_ref17_Runs, h1, hp, c]

@[simp] def S_interest_Runs : List D → Prop × D := spec1 (α := TableT) tabOk (fun t => if checkTab t = 0 then .tup [Rep.to (runsV t), .int .i64 0] else .tup [.nilsl, .int .i64 (checkTab t)])
theorem ct_interest_Runs {P : Program} {f g1 g2 : Nat} {G : Gam} (h : CodeOf P f 1 6 [2, 3] (x_interest_Runs g1 g2)) (hG : GamOk P G) (h1 : G.find g1 = some S_weave_Check) (h2 : G.find g2 = some S_interest_runs) : Has P f S_interest_Runs := h.has1 hG fun t hp => by
  have hp1 := hp.1
  by_cases c : checkTab t = 0
  · simp [x_interest_Runs, h1, h2, hp, hp1, c]
  · simp [x_interest_Runs, h1, hp, c]

end Go.AE

set_option maxRecDepth 20000
namespace Go.AE

structure SpOk (p : Nat → Bool) (n : Nat) (l : List SpanT) : Prop where
  rng : ∀ s, s ∈ l → 0 ≤ s.fr ∧ s.fr < s.to ∧ s.to ≤ n ∧ ∀ i : Nat, s.fr ≤ i → (i : Int) < s.to → p i = true
  cov : ∀ i : Nat, i < n → p i = true → ∃ s, s ∈ l ∧ s.fr ≤ i ∧ (i : Int) < s.to
  asc : l.Pairwise fun s t => s.to < t.fr
  last : 0 < n → p (n - 1) = true → ∃ (m : List SpanT) (s : SpanT), l = m ++ [s] ∧ s.to = (n : Int)
  low : (n = 0 ∨ p (n - 1) = false) → ∀ s : SpanT, s ∈ l → s.to < (n : Int)

theorem spV_ok (p : Nat → Bool) : ∀ n, SpOk p n (spV p n)
  | 0 => ⟨by simp [spV], by simp, by simp [spV], by simp, by simp [spV]⟩
  | n + 1 => by
    have ih := spV_ok p n
    rw [spV]
    by_cases hp : p n = true
    · rw [if_pos hp]
      by_cases hc : 0 < n ∧ p (n - 1) = true
      · rw [if_pos (by simpa using hc)]
        obtain ⟨m, s, hl, hs⟩ := ih.last hc.1 hc.2
        have e : (spV p n).set ((spV p n).length - 1) ⟨((spV p n).getD ((spV p n).length - 1) default).fr, (n : Int) + 1⟩ = m ++ [⟨s.fr, (n : Int) + 1⟩] := by
          rw [hl]
          have e1 : (m ++ [s]).length - 1 = m.length := by simp
          rw [e1, List.set_append_right _ _ (Nat.le_refl _)]
          simp [List.getD]
        rw [e]
        have hsm : s ∈ spV p n := by rw [hl]; simp
        have hsr := ih.rng s hsm
        refine ⟨fun t ht => ?_, fun i hi hpi => ?_, ?_, fun _ _ => ⟨m, _, rfl, by push_cast; rfl⟩, fun h => ?_⟩
        · rcases List.mem_append.1 ht with ht | ht
          · have := ih.rng t (by rw [hl]; simp [ht])
            refine ⟨this.1, this.2.1, by push_cast; omega, this.2.2.2⟩
          · simp at ht
            subst ht
            refine ⟨hsr.1, by simp; omega, by push_cast; simp, fun i h1 h2 => ?_⟩
            simp at h1 h2
            by_cases h3 : (i : Int) < s.to
            · exact hsr.2.2.2 i h1 h3
            · obtain rfl : i = n := by omega
              exact hp
        · by_cases h3 : i = n
          · subst h3
            exact ⟨⟨s.fr, (i : Int) + 1⟩, by simp, by simp; omega, by simp; omega⟩
          · obtain ⟨t, t1, t2, t3⟩ := ih.cov i (by omega) hpi
            rw [hl] at t1
            rcases List.mem_append.1 t1 with t1 | t1
            · exact ⟨t, by simp [t1], t2, t3⟩
            · simp at t1
              subst t1
              exact ⟨⟨t.fr, (n : Int) + 1⟩, by simp, t2, by simp; omega⟩
        · have := ih.asc
          rw [hl, List.pairwise_append] at this
          rw [List.pairwise_append]
          refine ⟨this.1, by simp, fun a ha b hb => ?_⟩
          simp at hb
          subst hb
          exact this.2.2 a ha s (by simp)
        · rcases h with h | h
          · omega
          · simp only [Nat.add_sub_cancel] at h
            rw [hp] at h
            exact absurd h (by simp)
      · rw [if_neg (by simpa using hc)]
        have hlow := ih.low (by
          rcases Nat.eq_zero_or_pos n with h | h
          · exact .inl h
          · right
            cases h9 : p (n - 1) with
            | false => rfl
            | true => exact absurd ⟨h, h9⟩ hc)
        refine ⟨fun t ht => ?_, fun i hi hpi => ?_, ?_, fun _ _ => ⟨spV p n, _, rfl, by push_cast; rfl⟩, fun h => ?_⟩
        · rcases List.mem_append.1 ht with ht | ht
          · have := ih.rng t ht
            exact ⟨this.1, this.2.1, by push_cast; omega, this.2.2.2⟩
          · simp at ht
            subst ht
            refine ⟨by simp, by simp; omega, by push_cast; simp, fun i h1 h2 => ?_⟩
            simp at h1 h2
            obtain rfl : i = n := by omega
            exact hp
        · by_cases h3 : i = n
          · subst h3
            exact ⟨⟨i, (i : Int) + 1⟩, by simp, by simp, by simp; omega⟩
          · obtain ⟨t, t1, t2, t3⟩ := ih.cov i (by omega) hpi
            exact ⟨t, by simp [t1], t2, t3⟩
        · rw [List.pairwise_append]
          refine ⟨ih.asc, by simp, fun a ha b hb => ?_⟩
          simp at hb
          subst hb
          exact hlow a ha
        · rcases h with h | h
          · omega
          · simp only [Nat.add_sub_cancel] at h
            rw [hp] at h
            exact absurd h (by simp)
    · rw [if_neg hp]
      refine ⟨fun t ht => ?_, fun i hi hpi => ?_, ih.asc, fun _ h => ?_, fun _ s hs => ?_⟩
      · have := ih.rng t ht
        exact ⟨this.1, this.2.1, by push_cast; omega, this.2.2.2⟩
      · have h3 : i ≠ n := by
          rintro rfl
          exact hp hpi
        exact ih.cov i (by omega) hpi
      · simp only [Nat.add_sub_cancel] at h
        exact absurd h hp
      · have := ih.rng s hs
        push_cast
        omega

/-! ### dense runs -/

def orN (rows : List RowT) : Nat := rows.foldl (fun a r => a ||| r.marks.toNat) 0
def denseB (rows : List RowT) (n : Nat) : Bool := decide (orN rows = 2 ^ n - 1)

theorem foldl_or (rows : List RowT) : ∀ (a : Nat) (p : Nat), (rows.foldl (fun a r => a ||| r.marks.toNat) a).testBit p = (a.testBit p || rows.any fun r => r.marks.toNat.testBit p) := by
  induction rows with
  | nil => intro a p; simp
  | cons r rs ih => intro a p; rw [List.foldl_cons, ih, Nat.testBit_or, List.any_cons, Bool.or_assoc]

theorem orN_bit (rows : List RowT) (p : Nat) : (orN rows).testBit p = rows.any fun r => r.marks.toNat.testBit p := by
  unfold orN
  rw [foldl_or]
  simp

theorem orN_lt {rows : List RowT} {n : Nat} (h : ∀ r, r ∈ rows → r.marks.toNat < 2 ^ n) : orN rows < 2 ^ n := by
  unfold orN
  suffices ∀ (rows : List RowT) (a : Nat), a < 2 ^ n → (∀ r, r ∈ rows → r.marks.toNat < 2 ^ n) → rows.foldl (fun a r => a ||| r.marks.toNat) a < 2 ^ n from this rows 0 (Nat.two_pow_pos n) h
  intro rows
  induction rows with
  | nil => intro a h _; exact h
  | cons r rs ih =>
    intro a h h2
    rw [List.foldl_cons]
    exact ih _ (Nat.or_lt_two_pow h (h2 r (by simp))) fun x hx => h2 x (by simp [hx])

theorem dense_bits {rows : List RowT} {n : Nat} (h : ∀ r, r ∈ rows → r.marks.toNat < 2 ^ n) : denseB rows n = true ↔ ∀ p, p < n → (orN rows).testBit p = true := by
  unfold denseB
  rw [decide_eq_true_eq]
  have hlt := orN_lt h
  constructor
  · intro h1 p hp
    rw [h1, Nat.testBit_two_pow_sub_one]
    simpa using hp
  · intro h1
    apply Nat.eq_of_testBit_eq
    intro p
    rw [Nat.testBit_two_pow_sub_one]
    by_cases hp : p < n
    · rw [h1 p hp]; simpa using hp
    · rw [Nat.testBit_lt_two_pow (Nat.lt_of_lt_of_le hlt (Nat.pow_le_pow_right (by omega) (by omega)))]
      simpa using hp

def runRows (t : TableT) (s : SpanT) : List RowT := (t.rows.drop s.fr.toNat).take (s.to.toNat - s.fr.toNat)

/-- the runs that are shown -/
def intV (t : TableT) (all : Bool) : List SpanT := (runsV t).filter fun s => all || denseB (runRows t s) t.parents.toNat

theorem runsV_ok (t : TableT) : SpOk (fun i => !blankV (t.rows.getD i default)) t.rows.length (runsV t) := spV_ok _ _

theorem runsV_len (t : TableT) : (runsV t).length ≤ t.rows.length := spV_len _ _

/-- is row i at most c rows away from a shown run? -/
def nearB (l : List SpanT) (c : Int) (i : Nat) : Bool := l.any fun s => decide (s.fr - c ≤ i ∧ (i : Int) < s.to + c)

def hunksV (t : TableT) (c : Int) (all : Bool) : List SpanT := spV (nearB (intV t all) c) t.rows.length

end Go.AE

set_option maxRecDepth 20000
set_option maxHeartbeats 4000000
namespace Go.AE

theorem orN_take {rows : List RowT} {i : Nat} (h : i < rows.length) : orN (rows.take (i + 1)) = orN (rows.take i) ||| rows[i].marks.toNat := by
  unfold orN
  rw [List.take_succ_eq_append_getElem h, List.foldl_append]
  rfl

theorem orN_lt32 {rows : List RowT} (h : ∀ r, r ∈ rows → rowOk r) : orN rows < 4294967296 := by
  have : (4294967296 : Nat) = 2 ^ 32 := rfl
  rw [this]
  exact orN_lt fun r hr => by have := h r hr; unfold rowOk at this; omega

theorem ones_shr {n : Nat} (h1 : 1 ≤ n) (h2 : n ≤ 32) : (4294967295 : Int).fdiv (2 ^ min (32 - n) IntKind.u32.bits) = ((2 ^ n - 1 : Nat) : Int) := by
  have e : min (32 - n) IntKind.u32.bits = 32 - n := by simp only [IntKind.bits]; omega
  rw [e]
  have : ∀ n : _root_.Fin 33, 1 ≤ n.val → (4294967295 : Int).fdiv (2 ^ (32 - n.val)) = ((2 ^ n.val - 1 : Nat) : Int) := by decide
  exact this ⟨n, by omega⟩ h1

@[simp] def S_interest_dense : List D → Prop × D := spec2 (α := List RowT) (β := Int) (fun rows n => rows.length ≤ 1048576 ∧ (∀ r, r ∈ rows → rowOk r) ∧ 1 ≤ n ∧ n ≤ 32) (fun rows n => .bool (denseB rows n.toNat))
theorem ct_interest_dense {P : Program} {f : Nat} {G : Gam} (h : CodeOf P f 2 9 [2] x_interest_dense) (hG : GamOk P G) : Has P f S_interest_dense := h.has2 hG fun rows n hp => by
  obtain ⟨p1, p2, p3, p4⟩ := hp
  obtain ⟨n, rfl⟩ := Int.eq_ofNat_of_zero_le (show 0 ≤ n by omega)
  simp [x_interest_dense]
  refine vc_lp (σ := Nat) (fun i => i ≤ rows.length) (fun i => rows.length - i)
    (fun i => [.any, .d (.int .i64 n), .any, .d (.int .u32 (orN (rows.take i))), .any, .d (Rep.to rows), .d (.int .i64 rows.length), .d (.int .i64 i), .any]) (fun _ => []) 0 (by simp [orN]) (by simp) (by simp) ?_
  intro i hi
  by_cases h1 : i < rows.length
  · have w1 : IntKind.i64.wrap ((i : Int) + 1) = (i : Int) + 1 := wrap_in (by omega) (by omega)
    have hr := p2 _ (List.getElem_mem h1)
    have hm : rows[i].marks = ((rows[i].marks.toNat : Nat) : Int) := by have := hr.1; omega
    have hlt := orN_lt32 (rows := rows.take i) fun r hr => p2 r (List.mem_of_mem_take hr)
    have ho := orU2 hlt (show rows[i].marks.toNat < 4294967296 by have := hr.2; unfold rowOk at hr; omega)
    rw [← orN_take h1] at ho
    have ho' : IntKind.u32.wrap ((orN (rows.take i) % 2 ^ IntKind.u32.bits ||| (rows[i].marks % 2 ^ IntKind.u32.bits).toNat : Nat) : Int) = orN (rows.take (i + 1)) := by
      rw [← ho]
      congr 2
      have : (2 : Int) ^ IntKind.u32.bits = 4294967296 := rfl
      have e2 : (2 : Nat) ^ IntKind.u32.bits = 4294967296 := rfl
      rw [this, e2]
      congr 1
      have := hr.2
      omega
    simp [h1, getD_map, w1, ho']
    exact Nxt.mk (i + 1) (by omega) (by simp) (by simp) (by omega)
  · have h9 : i = rows.length := by omega
    subst h9
    have w1 : IntKind.i64.wrap (32 - (n : Int)) = ((32 - n : Nat) : Int) := by rw [wrap_in (by omega) (by omega)]; omega
    have hs := ones_shr (n := n) (by omega) (by omega)
    simp [w1, hs, denseB]
    rw [Int.ofNat_inj]

@[simp] def S_ref17_Dense : List D → Prop × D := spec2 (α := TableT) (β := SpanT) (fun t s => t.rows.length ≤ 1048576 ∧ (∀ r, r ∈ t.rows → rowOk r) ∧ 1 ≤ t.parents ∧ t.parents ≤ 32 ∧ marksB t.rows t.parents.toNat = true ∧ 0 ≤ s.fr ∧ s.fr ≤ s.to ∧ s.to ≤ t.rows.length) (fun t s => .bool (denseB (runRows t s) t.parents.toNat))
theorem ct_ref17_Dense {P : Program} {f : Nat} {G : Gam} (h : CodeOf P f 2 11 [4] x_ref17_Dense) (hG : GamOk P G) : Has P f S_ref17_Dense := h.has2 hG fun t s hp => by
  obtain ⟨p1, p2, p3, p4, p5, p6, p7, p8⟩ := hp
  obtain ⟨par, rows⟩ := t
  obtain ⟨a, b⟩ := s
  simp only at p1 p2 p3 p4 p5 p6 p7 p8
  obtain ⟨n, rfl⟩ := Int.eq_ofNat_of_zero_le (show 0 ≤ par by omega)
  obtain ⟨a, rfl⟩ := Int.eq_ofNat_of_zero_le p6
  obtain ⟨b, rfl⟩ := Int.eq_ofNat_of_zero_le (show 0 ≤ b by omega)
  have hab : a ≤ b := by omega
  have hb : b ≤ rows.length := by omega
  simp [x_ref17_Dense]
  have hrr : runRows ⟨n, rows⟩ ⟨a, b⟩ = (rows.drop a).take (b - a) := rfl
  have hmk : ∀ r, r ∈ rows → r.marks.toNat < 2 ^ n := by
    intro r hr
    rw [marksB_all, List.all_eq_true] at p5
    have := p5 r hr
    simp only [markB, Bool.and_eq_true, decide_eq_true_eq] at this
    exact this.1
  refine vc_lp (σ := Nat) (fun i => a ≤ i ∧ i ≤ b) (fun i => b - i)
    (fun i => [.any, .any, .ref 0 0 0 0, .ref 1 0 0 0, .any, .d (.int .u32 (orN ((rows.drop a).take (i - a)))), .d (.int .i64 i), .any, .any, .any, .any])
    (fun _ => [.cells 0 2 [.d (Rep.to (⟨n, rows⟩ : TableT))], .cells 0 2 [.d (Rep.to (⟨a, b⟩ : SpanT))]]) a (by simp [orN]) (by simp) (by simp; omega) ?_
  rintro i ⟨i1, i2⟩
  by_cases h1 : i < b
  · have w1 : IntKind.i64.wrap ((i : Int) + 1) = (i : Int) + 1 := wrap_in (by omega) (by omega)
    have hil : i < rows.length := by omega
    have hr := p2 _ (List.getElem_mem hil)
    have hlt := orN_lt32 (rows := (rows.drop a).take (i - a)) fun r hr => p2 r (List.mem_of_mem_drop (List.mem_of_mem_take hr))
    have ho := orU2 hlt (show rows[i].marks.toNat < 4294967296 by have := hr.2; unfold rowOk at hr; omega)
    have e9 : (rows.drop a).take (i + 1 - a) = (rows.drop a).take (i - a) ++ [rows[i]] := by
      rw [show i + 1 - a = (i - a) + 1 by omega, List.take_succ_eq_append_getElem (by simp; omega)]
      congr 2
      simp only [List.getElem_drop]
      congr 1
      omega
    have e8 : orN ((rows.drop a).take (i + 1 - a)) = orN ((rows.drop a).take (i - a)) ||| rows[i].marks.toNat := by
      rw [e9]
      unfold orN
      rw [List.foldl_append]
      rfl
    rw [← e8] at ho
    have ho' : IntKind.u32.wrap ((orN ((rows.drop a).take (i - a)) % 2 ^ IntKind.u32.bits ||| (rows[i].marks % 2 ^ IntKind.u32.bits).toNat : Nat) : Int) = orN ((rows.drop a).take (i + 1 - a)) := by
      rw [← ho]
      congr 2
      have : (2 : Int) ^ IntKind.u32.bits = 4294967296 := rfl
      have e2 : (2 : Nat) ^ IntKind.u32.bits = 4294967296 := rfl
      rw [this, e2]
      congr 1
      have := hr.1
      have := hr.2
      omega
    simp [h1, hil, getD_map, w1, ho']
    exact Nxt.mk (i + 1) (by omega) (by simp) (by simp) (by omega)
  · have h9 : i = b := by omega
    subst h9
    have hin : ∀ r, r ∈ (rows.drop a).take (i - a) → r.marks.toNat < 2 ^ n := fun r hr => hmk r (List.mem_of_mem_drop (List.mem_of_mem_take hr))
    have hdb := dense_bits hin
    have hlt := orN_lt32 (rows := (rows.drop a).take (i - a)) fun r hr => p2 r (List.mem_of_mem_drop (List.mem_of_mem_take hr))
    rw [← hrr] at hdb hlt ⊢
    obtain ⟨m, hm⟩ : ∃ m, orN (runRows ⟨n, rows⟩ ⟨a, i⟩) = m := ⟨_, rfl⟩
    rw [hm] at hdb hlt ⊢
    simp
    refine vc_lp (σ := Nat) (fun p => p ≤ n ∧ ∀ q, q < p → m.testBit q = true) (fun p => n - p)
      (fun p => [.any, .any, .ref 0 0 0 0, .any, .any, .d (.int .u32 m), .any, .d (.int .i64 p), .any, .any, .any])
      (fun _ => [.cells 0 2 [.d (Rep.to (⟨n, rows⟩ : TableT))]]) 0 (by simp) (by simp) (by simp) ?_
    rintro p ⟨q1, q2⟩
    by_cases hp : p < n
    · have w1 : IntKind.i64.wrap ((p : Int) + 1) = (p : Int) + 1 := wrap_in (by omega) (by omega)
      have e : getU m p = IntKind.u32.wrap ↑(((m : Int).fdiv (2 ^ min p IntKind.u32.bits) % 2 ^ IntKind.u32.bits).toNat &&& 1 % 2 ^ IntKind.u32.bits) := rfl
      have hg := getU_nat hlt (show p < 32 by omega)
      cases hb : m.testBit p with
      | true =>
        rw [hb, if_pos rfl] at hg
        simp [hp, w1, u64_wrap (show p < 18446744073709551616 by omega), ← e, hg]
        refine Nxt.mk (p + 1) (by omega) (by simp) (by simp) ⟨by omega, fun q hq => ?_⟩
        by_cases hqp : q < p
        · exact q2 q hqp
        · obtain rfl : q = p := by omega
          exact hb
      | false =>
        rw [hb, if_neg (by simp)] at hg
        have hd : denseB (runRows ⟨n, rows⟩ ⟨a, i⟩) n = false := by
          cases h9 : denseB (runRows ⟨n, rows⟩ ⟨a, i⟩) n with
          | false => rfl
          | true =>
            have := hdb.1 h9 p hp
            rw [hb] at this
            exact absurd this (by simp)
        simp [hp, u64_wrap (show p < 18446744073709551616 by omega), ← e, hg, hd]
    · have h9 : p = n := by omega
      subst h9
      have hd : denseB (runRows ⟨p, rows⟩ ⟨a, i⟩) p = true := hdb.2 q2
      simp [hd]

theorem intV_mem {t : TableT} {all : Bool} {s : SpanT} (h : s ∈ intV t all) : 0 ≤ s.fr ∧ s.fr < s.to ∧ s.to ≤ t.rows.length := by
  have := (runsV_ok t).rng s (List.mem_filter.1 h).1
  exact ⟨this.1, this.2.1, this.2.2.1⟩

theorem intV_len (t : TableT) (all : Bool) : (intV t all).length ≤ t.rows.length := Nat.le_trans (List.length_filter_le _ _) (runsV_len t)

/-- a table that has been looked at -/
def tabGood (t : TableT) : Prop := t.rows.length ≤ 1048576 ∧ (∀ r, r ∈ t.rows → rowOk r) ∧ 1 ≤ t.parents ∧ t.parents ≤ 32 ∧ marksB t.rows t.parents.toNat = true

theorem tabGood_of {t : TableT} (h : tabOk t) (hc : checkTab t = 0) : tabGood t := by
  unfold checkTab at hc
  split at hc
  · simp at hc
  · rename_i h1
    split at hc
    · rename_i h2
      exact ⟨h.1, h.2.1, by omega, by omega, h2⟩
    · simp at hc

@[simp] def S_interest_interesting : List D → Prop × D := spec2 (α := TableT) (β := Bool) (fun t _ => tabGood t) (fun t all => Rep.to (intV t all))
theorem ct_interest_interesting {P : Program} {f g1 g2 : Nat} {G : Gam} (h : CodeOf P f 2 11 [3] (x_interest_interesting g1 g2)) (hG : GamOk P G) (h1 : G.find g1 = some S_interest_runs) (h2 : G.find g2 = some S_interest_dense) : Has P f S_interest_interesting := h.has2 hG fun t all hp => by
  obtain ⟨p1, p2, p3, p4, p5⟩ := hp
  have hrl := runsV_len t
  simp [x_interest_interesting, h1, p1]
  refine vc_lp (σ := Nat × List SpanT) (fun x => x.1 ≤ (runsV t).length ∧ x.2.length ≤ x.1 ∧ x.2 ++ ((runsV t).drop x.1).filter (fun s => all || denseB (runRows t s) t.parents.toNat) = intV t all) (fun x => (runsV t).length - x.1)
    (fun x => [.any, .d (.bool all), .ref 0 0 0 0, .any, .gr 1 2 (x.2.map Rep.to), .any, .d (Rep.to (runsV t)), .d (.int .i64 (runsV t).length), .d (.int .i64 x.1), .any, .any])
    (fun x => [.cells 0 2 [.d (Rep.to t)], .tip x.2.length]) (0, []) (by simp) (by simp) (by simp [intV]) ?_
  rintro ⟨i, o⟩ ⟨i1, i2, i3⟩
  simp only at i1 i2 i3
  by_cases hi : i < (runsV t).length
  · have w1 : IntKind.i64.wrap ((i : Int) + 1) = (i : Int) + 1 := wrap_in (by omega) (by omega)
    have hr := (runsV_ok t).rng _ (List.getElem_mem hi)
    rw [List.drop_eq_getElem_cons hi, List.filter_cons] at i3
    generalize hs : (runsV t)[i] = s at *
    obtain ⟨a, b⟩ := s
    simp only at hr
    obtain ⟨a, rfl⟩ := Int.eq_ofNat_of_zero_le hr.1
    obtain ⟨b, rfl⟩ := Int.eq_ofNat_of_zero_le (show 0 ≤ b by omega)
    have hrr : (t.rows.drop a).take (b - a) = runRows t ⟨a, b⟩ := rfl
    have q1 : (runRows t ⟨a, b⟩).length ≤ 1048576 := by rw [← hrr]; simp; omega
    have q2 : ∀ r, r ∈ runRows t ⟨a, b⟩ → rowOk r := fun r hr => p2 r (List.mem_of_mem_drop (List.mem_of_mem_take hr))
    have q3 : (a : Int) ≤ b := by omega
    have q4 : (b : Int) ≤ t.rows.length := by omega
    have q5 : a ≤ b := by omega
    have q6 : b ≤ t.rows.length := by omega
    have hmap : ((t.rows.map Rep.to).drop a).take (b - a) = (runRows t ⟨a, b⟩).map Rep.to := by rw [← hrr, List.map_take, List.map_drop]
    have hmapD : List.take (b - a) (List.drop a (List.map (Rep.to : RowT → D) t.rows)) = (runRows t ⟨a, b⟩).map Rep.to := hmap
    cases all with
    | true =>
      simp [hi, getD_map, hs, w1]
      exact ⟨by unfold room; omega, Nxt.mk (i + 1, o ++ [⟨a, b⟩]) (by simp; omega) (by simp) (by simp) ⟨by simp; omega, by simp; omega, by rw [← i3]; simp⟩⟩
    | false =>
      cases hd : denseB (runRows t ⟨a, b⟩) t.parents.toNat with
      | true =>
        simp [hi, getD_map, hs, w1, q3, q4, q5, q6, hmapD, h2, q1, p3, p4, hd]
        have i3' : o ++ ⟨a, b⟩ :: ((runsV t).drop (i + 1)).filter (fun s => denseB (runRows t s) t.parents.toNat) = intV t false := by simpa [hd] using i3
        exact ⟨q2, by unfold room; omega, Nxt.mk (i + 1, o ++ [⟨a, b⟩]) (by simp; omega) (by simp) (by simp) ⟨by simp; omega, by simp; omega, by rw [← i3']; simp⟩⟩
      | false =>
        simp [hi, getD_map, hs, w1, q3, q4, q5, q6, hmapD, h2, q1, p3, p4, hd]
        have i3' : o ++ ((runsV t).drop (i + 1)).filter (fun s => denseB (runRows t s) t.parents.toNat) = intV t false := by simpa [hd] using i3
        exact ⟨q2, Nxt.mk (i + 1, o) (by simp; omega) (by simp) (by simp) ⟨by simp; omega, by simp; omega, by simpa using i3'⟩⟩
  · have h9 : i = (runsV t).length := by omega
    subst h9
    rw [List.drop_length] at i3
    simp at i3
    simp [i3]

def intD (t : TableT) (dense : Bool) : D := if checkTab t = 0 then .tup [Rep.to (intV t (!dense)), .int .i64 0] else .tup [.nilsl, .int .i64 (checkTab t)]

@[simp] def S_interest_Interesting : List D → Prop × D := spec2 (α := TableT) (β := Bool) (fun t _ => tabOk t) (fun t dense => intD t dense)
theorem ct_interest_Interesting {P : Program} {f g1 g2 : Nat} {G : Gam} (h : CodeOf P f 2 7 [3, 4] (x_interest_Interesting g1 g2)) (hG : GamOk P G) (h1 : G.find g1 = some S_weave_Check) (h2 : G.find g2 = some S_interest_interesting) : Has P f S_interest_Interesting := h.has2 hG fun t dense hp => by
  by_cases c : checkTab t = 0
  · have hg := tabGood_of hp c
    simp [x_interest_Interesting, h1, h2, hp, hg, c, intD]
  · simp [x_interest_Interesting, h1, hp, c, intD]

@[simp] def S_ref17_Interesting : List D → Prop × D := spec2 (α := TableT) (β := Bool) (fun t _ => tabOk t) (fun t dense => intD t dense)
theorem ct_ref17_Interesting {P : Program} {f g1 g2 : Nat} {G : Gam} (h : CodeOf P f 2 12 [3, 4] (x_ref17_Interesting g1 g2)) (hG : GamOk P G) (h1 : G.find g1 = some S_ref17_Runs) (h2 : G.find g2 = some S_ref17_Dense) : Has P f S_ref17_Interesting := h.has2 hG fun t dense hp => by
  by_cases c : checkTab t = 0
  · have hg := tabGood_of hp c
    obtain ⟨p1, p2, p3, p4, p5⟩ := hg
    have hrl := runsV_len t
    simp [x_ref17_Interesting, h1, hp, c, intD]
    refine vc_lp (σ := Nat × List SpanT) (fun x => x.1 ≤ (runsV t).length ∧ x.2.length ≤ x.1 ∧ x.2 ++ ((runsV t).drop x.1).filter (fun s => !dense || denseB (runRows t s) t.parents.toNat) = intV t (!dense)) (fun x => (runsV t).length - x.1)
      (fun x => [.any, .d (.bool dense), .ref 0 0 0 0, .any, .any, .d (Rep.to (runsV t)), .any, .gr 1 2 (x.2.map Rep.to), .d (.int .i64 x.1), .any, .any, .any])
      (fun x => [.cells 0 2 [.d (Rep.to t)], .tip x.2.length]) (0, []) (by simp) (by simp) (by simp [intV]) ?_
    rintro ⟨i, o⟩ ⟨i1, i2, i3⟩
    simp only at i1 i2 i3
    by_cases hi : i < (runsV t).length
    · have w1 : IntKind.i64.wrap ((i : Int) + 1) = (i : Int) + 1 := wrap_in (by omega) (by omega)
      have hr := (runsV_ok t).rng _ (List.getElem_mem hi)
      rw [List.drop_eq_getElem_cons hi, List.filter_cons] at i3
      generalize hs : (runsV t)[i] = s at *
      have q3 : s.fr ≤ s.to := by omega
      have q4 : s.to ≤ t.rows.length := hr.2.2.1
      cases dense with
      | false =>
        have hf : ∀ l : List SpanT, l.filter (fun _ => true) = l := fun l => List.filter_eq_self.2 (by simp)
        have i3' : o ++ s :: ((runsV t).drop (i + 1)) = intV t true := by simpa [hf] using i3
        simp [hi, getD_map, hs, w1]
        exact ⟨by unfold room; omega, Nxt.mk (i + 1, o ++ [s]) (by simp; omega) (by simp) (by simp) ⟨by simp; omega, by simp; omega, by rw [← i3']; simp [hf]⟩⟩
      | true =>
        cases hd : denseB (runRows t s) t.parents.toNat with
        | true =>
          have i3' : o ++ s :: ((runsV t).drop (i + 1)).filter (fun s => denseB (runRows t s) t.parents.toNat) = intV t false := by simpa [hd] using i3
          simp [hi, getD_map, hs, w1, h2, p1, p3, p4, p5, hr.1, q3, q4, hd]
          exact ⟨p2, by unfold room; omega, Nxt.mk (i + 1, o ++ [s]) (by simp; omega) (by simp) (by simp) ⟨by simp; omega, by simp; omega, by rw [← i3']; simp⟩⟩
        | false =>
          have i3' : o ++ ((runsV t).drop (i + 1)).filter (fun s => denseB (runRows t s) t.parents.toNat) = intV t false := by simpa [hd] using i3
          simp [hi, getD_map, hs, w1, h2, p1, p3, p4, p5, hr.1, q3, q4, hd]
          exact ⟨p2, Nxt.mk (i + 1, o) (by simp; omega) (by simp) (by simp) ⟨by simp; omega, by simp; omega, by simpa using i3'⟩⟩
    · have h9 : i = (runsV t).length := by omega
      subst h9
      rw [List.drop_length] at i3
      simp at i3
      simp [i3]
  · simp [x_ref17_Interesting, h1, hp, c, intD]

def hunksD (t : TableT) (c : Int) (dense : Bool) : D := if checkTab t = 0 then (if 0 ≤ c ∧ c ≤ 1048576 then .tup [Rep.to (hunksV t c (!dense)), .int .i64 0] else .tup [.nilsl, .int .i64 3]) else .tup [.nilsl, .int .i64 (checkTab t)]

/-- the conditions as cells -/
def boolC (n : Nat) (q : Nat → Bool) : List A := (List.range n).map fun i => .d (.bool (q i))

theorem boolC_len (n : Nat) (q : Nat → Bool) : (boolC n q).length = n := by simp [boolC]
theorem boolC_false (n : Nat) : List.replicate n (A.d (.bool false)) = boolC n fun _ => false := by
  apply List.ext_getElem
  · simp [boolC]
  · intro i h1 h2
    simp [boolC]
theorem boolC_get {n : Nat} {q : Nat → Bool} {i : Nat} (h : i < n) : (boolC n q)[i]? = some (.d (.bool (q i))) := by simp [boolC, h]
theorem boolC_set {n : Nat} {q r : Nat → Bool} {i : Nat} {b : Bool} (h : ∀ k, k < n → r k = if k = i then b else q k) : (boolC n q).set i (.d (.bool b)) = boolC n r := by
  apply List.ext_getElem
  · simp [boolC]
  · intro k h1 h2
    have hk : k < n := by simpa [boolC] using h2
    rw [List.getElem_set]
    simp only [boolC, List.getElem_map, List.getElem_range, h k hk]
    by_cases e : i = k
    · simp [e]
    · simp [e, Ne.symm e]
theorem boolC_all (n : Nat) (q : Nat → Bool) : (boolC n q).all A.isD = true ∧ (boolC n q).map A.toD = ((List.range n).map q).map Rep.to := by
  constructor
  · rw [List.all_eq_true]
    intro y hy
    obtain ⟨x, _, rfl⟩ := List.mem_map.1 hy
    rfl
  · simp [boolC, Function.comp_def, A.toD]
theorem boolC_under (n m : Nat) (q : Nat → Bool) : (boolC n q).all (A.under m) = true := by
  rw [List.all_eq_true]
  intro y hy
  obtain ⟨x, _, rfl⟩ := List.mem_map.1 hy
  rfl
theorem bor_bools (s : Store) (j v n : Nat) (q : Nat → Bool) (h : s.getD j .dead = .cells v 1 (boolC n q)) : bor s (.own j v 0 n) = (True, Rep.to ((List.range n).map q)) := by
  obtain ⟨d1, d2⟩ := boolC_all n q
  unfold bor
  simp only [h, List.drop_zero]
  rw [List.take_of_length_le (by rw [boolC_len]; exact Nat.le_refl _), d1, d2]
  simp

theorem spV_congr {p q : Nat → Bool} : ∀ n, (∀ i, i < n → p i = q i) → spV p n = spV q n
  | 0, _ => rfl
  | n + 1, h => by
    have ih := spV_congr n fun i hi => h i (by omega)
    rw [spV, spV, ih, h n (by omega)]
    by_cases h0 : 0 < n
    · rw [h (n - 1) (by omega)]
    · simp [h0]

theorem spansB_of (n : Nat) (q : Nat → Bool) : spansB ((List.range n).map q) = spV q n := by
  unfold spansB
  rw [List.length_map, List.length_range]
  exact spV_congr n fun i hi => by simp [List.getD, hi]

end Go.AE
