/-
  From a contract of a law to what its row asks.
-/
import Derived.Test.YtblhhmephhhpeaaAe2
import Derived.Carry
import Derived.Deep.Slices
import Derived.OpenShut

set_option linter.unusedSimpArgs false
set_option linter.unusedVariables false
set_option linter.unnecessarySimpa false

namespace Go.AE
open Go.ChangeShapes Go.WideShapes Go.RowKit

/-- what a measure of data must give -/
structure Bulky {H : Type} (ub : DataW H → Nat) : Prop where
  one : ∀ d, 1 ≤ ub d
  str : ∀ s, s.length + 1 ≤ ub (.lit (.string s))
  slice : ∀ e s, (e.map ub).sum + 1 ≤ ub (.slice e s)
  agg : ∀ ps, (ps.map ub).sum + 1 ≤ ub (.agg ps)

def cellsIn (w : World) : Nat → Nat → Prop := fun b j => (w.cell? ⟨b, j, none⟩).isSome = true

class Arg (α : Type) [Rep α] where
  tyB : Program → TypeId → Bool
  wf : α → Prop
  bulk : α → Nat
  pos : 0 < Rep.size α
  inh : Inhabited α
  read : ∀ {H : Type} {enc : TypeId × Value → H} {P : Program} {w : World} {t : TypeId} {fuel : Nat} {cs : List Value} {x : DataW H × List MemPlace} (ub : DataW H → Nat) (_ : Bulky ub), tyB P t = true → DataW.trod enc P w 0 (fun _ => true) true fuel t cs = some x →
    ∃ a : α, wf a ∧ bulk a ≤ ub x.1 ∧ cs.length = Rep.size α ∧ ∀ j, j < cs.length → DRep w (cellsIn w) ((Rep.to a).cells.getD j default) (cs.getD j undef)

def intOk (n : Int) : Prop := -9223372036854775808 ≤ n ∧ n ≤ 9223372036854775807

instance : Arg Int where
  tyB P t := match P.underlying t with | some (.int .i64) => true | _ => false
  wf := intOk
  bulk _ := 1
  pos := Nat.one_pos
  inh := ⟨0⟩
  read ub hub ht h := by
    split at ht
    · rename_i hu
      obtain ⟨n, h1, rfl, h2⟩ := DataW.trod_int hu h
      refine ⟨n, by simpa [intOk, Lit.wf, IntKind.min, IntKind.max, IntKind.signed, IntKind.bits] using h2, hub.one _, by rw [h1]; rfl, fun j hj => ?_⟩
      rw [h1] at hj ⊢
      obtain rfl : j = 0 := by simp at hj; omega
      exact .int _ _
    · simp at ht

instance : Arg Bool where
  tyB P t := match P.underlying t with | some .bool => true | _ => false
  wf _ := True
  bulk _ := 1
  pos := Nat.one_pos
  inh := ⟨true⟩
  read ub hub ht h := by
    split at ht
    · rename_i hu
      obtain ⟨n, h1, rfl⟩ := DataW.trod_bool hu h
      refine ⟨n, trivial, hub.one _, by rw [h1]; rfl, fun j hj => ?_⟩
      rw [h1] at hj ⊢
      obtain rfl : j = 0 := by simp at hj; omega
      exact .bool _
    · simp at ht

theorem str_rep (w : World) (I : Nat → Nat → Prop) (s : ByteArray) : DRep w I (.str s.data.toList) (.string s) := by
  have : DRep w I (.str s.data.toList) (.string ⟨s.data.toList.toArray⟩) := .str _
  simpa only [Array.toArray_toList] using this

instance : Arg (List UInt8) where
  tyB P t := match P.underlying t with | some .string => true | _ => false
  wf s := s.length ≤ maxLen
  bulk s := s.length + 1
  pos := Nat.one_pos
  inh := ⟨[]⟩
  read ub hub ht h := by
    split at ht
    · rename_i hu
      obtain ⟨n, h1, rfl, h2⟩ := DataW.trod_string hu h
      have h3 : n.data.toList.length ≤ maxLen := by
        have : n.size ≤ maxLen := h2
        rwa [ByteArray.size, ← Array.length_toList] at this
      refine ⟨n.data.toList, h3, hub.str _, by rw [h1]; rfl, fun j hj => ?_⟩
      rw [h1] at hj ⊢
      obtain rfl : j = 0 := by simp at hj; omega
      exact str_rep _ _ _
    · simp at ht

theorem sum_le {l : List Nat} {m : List Nat} (hl : l.length = m.length) (h : ∀ i (h1 : i < l.length) (h2 : i < m.length), l[i] ≤ m[i]) : l.sum ≤ m.sum := by
  induction l generalizing m with
  | nil => simp
  | cons x l ih =>
    cases m with
    | nil => simp at hl
    | cons y m =>
      have h1 := h 0 (by simp) (by simp)
      have h2 := ih (m := m) (by simpa using hl) (fun i h1 h2 => by have := h (i + 1) (by simpa using h1) (by simpa using h2); simpa only [List.getElem_cons_succ] using this)
      simp at h1 ⊢
      omega

instance {α : Type} [Rep α] [Arg α] : Arg (List α) where
  tyB P t := match P.underlying t with | some (.slice e) => Arg.tyB α P e && P.cellsOf e == Rep.size α | _ => false
  wf l := ∀ x, x ∈ l → Arg.wf x
  bulk l := (l.map Arg.bulk).sum + 1
  pos := Nat.one_pos
  inh := ⟨[]⟩
  read {H enc P w t fuel cs x} ub hub ht h := by
    split at ht
    · rename_i e hu
      simp only [Bool.and_eq_true, beq_iff_eq] at ht
      obtain ⟨ht, hc⟩ := ht
      rcases Go.Deep.open_slice hu h with ⟨rfl, rfl⟩ | ⟨a, len, cap, m, n, Dt, Pl, rfl, hb, hl, hm, hmm, rfl, hx⟩
      · refine ⟨[], by simp, by simpa using hub.one _, rfl, fun j hj => ?_⟩
        obtain rfl : j = 0 := by simp at hj; omega
        exact .sl0 _ _ _
      · have hlm : len ≤ m := by rw [hmm]; simp [hl]
        haveI : Inhabited α := Arg.inh
        obtain ⟨f, hf⟩ := Go.Deep.choose_lt (α := α × List Value) (n := len) (p := fun i y => Arg.wf y.1 ∧ Arg.bulk y.1 ≤ ub (Dt i) ∧ w.cells? 0 (a.add (i * P.cellsOf e)) (P.cellsOf e) = some y.2 ∧ y.2.length = Rep.size α ∧
            ∀ j, j < y.2.length → DRep w (cellsIn w) ((Rep.to y.1).cells.getD j default) (y.2.getD j undef)) (fun i hi => by
          obtain ⟨cs', h1, h2⟩ := hx i (by omega)
          obtain ⟨b, b1, b2, b3, b4⟩ := Arg.read ub hub ht h2
          exact ⟨(b, cs'), b1, b2, h1, b3, b4⟩)
        refine ⟨(List.range len).map fun i => (f i).1, ?_, ?_, rfl, fun j hj => ?_⟩
        · intro x hx
          obtain ⟨i, hi, rfl⟩ := List.mem_map.1 hx
          exact (hf i (by simpa using hi)).1
        · have h1 := hub.slice ((List.range len).map Dt) ((List.range (m - len)).map fun j => Dt (len + j))
          have h2 : (((List.range len).map fun i => (f i).1).map Arg.bulk).sum ≤ (((List.range len).map Dt).map ub).sum := by
            refine sum_le (by simp) (fun i h1 h2 => ?_)
            simp at h1
            simpa using (hf i h1).2.1
          simp only
          omega
        · obtain rfl : j = 0 := by simp at hj; omega
          rcases Nat.eq_zero_or_pos len with h0 | h0
          · subst h0
            exact .sl0 _ _ _
          · have hp : 0 < Rep.size α := Arg.pos
            obtain ⟨b, off, spot⟩ := a
            have cell : ∀ i j, i < len → j < Rep.size α → w.cell? ((Addr.mk b off spot).add (i * Rep.size α + j)) = some ((f i).2.getD j undef) := by
              intro i j hi hj
              obtain ⟨_, _, h1, h2, _⟩ := hf i hi
              obtain ⟨_, h3, h4⟩ := World.cells?_some h1
              have := h4 j (by omega)
              rw [Go.Deep.add_add, hc] at this
              rw [this]
              simp [List.getD, h2, hj]
            have hs : spot = none := by
              have := cell 0 0 h0 hp
              simpa [Addr.add] using World.cell?_spot this
            subst hs
            have cell' : ∀ i j, i < len → j < Rep.size α → w.cell? ⟨b, off + i * Rep.size α + j, none⟩ = some ((f i).2.getD j undef) := by
              intro i j hi hj
              have := cell i j hi hj
              rwa [add_plain, ← Nat.add_assoc] at this
            refine .sl _ _ b off len cap (fun i j => (f i).2.getD j undef) (by simp) hl (fun x hx => ?_) (fun i j hi hj => ?_) cell' (fun i j hi hj => ?_)
            · obtain ⟨y, _, rfl⟩ := List.mem_map.1 hx
              exact Rep.fits y
            · simp [cellsIn, cell' i j hi hj]
            · obtain ⟨_, _, _, h2, h3⟩ := hf i hi
              have e1 : (((List.range len).map fun i => (f i).1).map Rep.to).getD i default = Rep.to (f i).1 := by simp [List.getD, hi]
              rw [e1]
              exact h3 j (by omega)
    · simp at ht

theorem len_bulk (l : List Int) : l.length + 1 ≤ Arg.bulk l := by
  show l.length + 1 ≤ (l.map fun _ => 1).sum + 1
  induction l with
  | nil => simp
  | cons x l ih => simp at ih ⊢; omega

/-- a value of one cell, or a struct -/
theorem Arg.readV {α : Type} [Rep α] [Arg α] {H : Type} {enc : TypeId × Value → H} {P : Program} {w : World} {t : TypeId} {v : Value} {d : DataW H} {ps : List MemPlace} {r : Reach} {b0 : Nat} (ub : DataW H → Nat) (hub : Bulky ub) (ht : Arg.tyB α P t = true)
    (hone : (match P.underlying t with | some (.struct _) | some (.array _ _) => false | _ => true) = true) (hval : Value.okWide P w r b0 t v) (hto : ∀ a : α, (Rep.to a).cells = [Rep.to a])
    (h : DataW.Trod enc P w 0 (fun _ => true) true t v d ps) : ∃ a : α, Arg.wf a ∧ Arg.bulk a ≤ ub d ∧ DRep w (cellsIn w) (Rep.to a) v := by
  obtain ⟨n, h⟩ := h
  obtain ⟨a, h1, h2, h3, h4⟩ := Arg.read (α := α) ub hub ht h
  refine ⟨a, h1, h2, ?_⟩
  have hs : Rep.size α = 1 := by
    have := Rep.fits a
    simp only [D.fits, hto a, Bool.and_eq_true, beq_iff_eq] at this
    simpa using this.1.symm
  have hv : v.cells = #[v] := by
    unfold Value.okWide at hval
    cases v with
    | agg cs =>
      split at hval <;> rename_i hu <;> first | (rw [hu] at hone; simp at hone) | skip
      exfalso
      simp only [Cell.okWide, Cell.ok] at hval
      generalize P.underlying t = ud at hval hone
      cases ud with
      | none => simp at hval
      | some dd => cases dd <;> simp at hval hone
    | _ => rfl
  rw [hv] at h4
  have := h4 0 (by simp)
  rw [hto a] at this
  simpa using this

/-- a struct -/
theorem Arg.readS {α : Type} [Rep α] [Arg α] {H : Type} {enc : TypeId × Value → H} {P : Program} {w : World} {t : TypeId} {v : Value} {d : DataW H} {ps : List MemPlace} {r : Reach} {b0 : Nat} (ub : DataW H → Nat) (hub : Bulky ub) (ht : Arg.tyB α P t = true)
    (hone : (match P.underlying t with | some (.struct _) => true | _ => false) = true) (hval : Value.okWide P w r b0 t v) (hto : ∀ a : α, Rep.to a = .agg (Rep.to a).cells)
    (h : DataW.Trod enc P w 0 (fun _ => true) true t v d ps) : ∃ a : α, Arg.wf a ∧ Arg.bulk a ≤ ub d ∧ DRep w (cellsIn w) (Rep.to a) v := by
  obtain ⟨n, h⟩ := h
  obtain ⟨a, h1, h2, h3, h4⟩ := Arg.read (α := α) ub hub ht h
  refine ⟨a, h1, h2, ?_⟩
  have hf := Rep.fits a
  simp only [D.fits, Bool.and_eq_true, beq_iff_eq] at hf
  have hv : ∃ cs, v = .agg cs := by
    unfold Value.okWide at hval
    generalize P.underlying t = ud at hval hone
    cases ud with
    | none => simp at hone
    | some dd => cases dd <;> simp at hone; obtain ⟨cs, h, _⟩ := hval; exact ⟨cs, h⟩
  obtain ⟨cs, rfl⟩ := hv
  rw [hto a]
  simp only [Value.cells] at h3 h4
  refine .agg _ _ (by rw [hf.1]; simpa using h3) hf.2 (fun k hk => ?_)
  have := h4 k (by omega)
  simpa [Array.getD_eq_getD_getElem?, List.getD] using this

theorem trodAll_stays {H : Type} {enc : TypeId × Value → H} {P : Program} (hl : laidOutB P = true) {W W' : World} {sp' : Nat → Bool} : ∀ {ts : List TypeId} {vs : List Value} {ds : List (DataW H)} {ps : List MemPlace},
    (∀ t, t ∈ ts → P.readableRec t = true ∧ t < P.types.size) → DataW.TrodAll enc P W 0 (fun _ => true) true ts vs ds ps → (∀ p ∈ ps, W.sameAt W' p) → (∀ p ∈ ps, sp' p.block = true) → DataW.TrodAll enc P W' 0 sp' true ts vs ds ps
  | [], [], [], _, _, h, _, _ => h
  | t :: ts, v :: vs, d :: ds, _, hT, ⟨p, q, h1, h2, e⟩, hs, hb =>
    ⟨p, q, WideElems.Trod_stays hl (hT t (by simp)).1 (hT t (by simp)).2 h1 (fun x hx => hs x (by rw [e]; exact List.mem_append_left _ hx)) (fun x hx => hb x (by rw [e]; exact List.mem_append_left _ hx)),
      trodAll_stays hl (fun t ht => hT t (by simp [ht])) h2 (fun x hx => hs x (by rw [e]; exact List.mem_append_right _ hx)) (fun x hx => hb x (by rw [e]; exact List.mem_append_right _ hx)), e⟩

theorem params_ok {P : Program} {ts : List TypeId} (h : (ts.all fun t => P.readableRec t && decide (t < P.types.size)) = true) : ∀ t, t ∈ ts → P.readableRec t = true ∧ t < P.types.size := by
  intro t ht
  rw [List.all_eq_true] at h
  simpa using h t ht

/-- the call of a law, from its contract -/
theorem lawCalls {H : Type} {enc : TypeId × Value → H} {P : Program} {f : FuncId} {fn : Func} {s : ChangeSpec} {W : World} {args : Array Value} {ds gs : List (DataW H)} {before : List MemPlace} {tb : TypeId} {xs : List D}
    (hl : laidOutB P = true) (hpar : ∀ t, t ∈ fn.params.toList → P.readableRec t = true ∧ t < P.types.size) (hvars : s.vars = []) (hres : fn.resultTypes = #[tb]) (hb : P.underlying tb = some .bool)
    (hs : s.fn H (ds ++ gs) = { results := [.lit (.bool true)], args := ds }) (hW : DataW.Whole enc P fn.params.toList s.vars false W args.toList ds gs before)
    (hc : FCalls P f xs (.bool true)) (hlen : args.size = xs.length) (hx : ∀ k, k < xs.length → DRep W (cellsIn W) (xs.getD k default) (args.getD k undef)) :
    Calls P f args W fun e W' => ∃ v, e = .returned v ∧ s.post enc P fn false true false false W args v W' := by
  refine (hc W (cellsIn W) args (fun b j h => h) hlen hx).mono fun e W' ⟨v, he, hr, hbelow⟩ => ?_
  subst he
  cases hr
  refine ⟨_, rfl, ?_⟩
  have hW2 := hW
  obtain ⟨p, q, hA, hV, rfl, hfz, hnd⟩ := hW
  rw [hvars] at hV
  obtain ⟨rfl, rfl⟩ := trodVars_none hV
  have hlt : ∀ x, x ∈ p → x.block < W.heap.size := fun x hx => by simpa using hW2.lt x (by simpa using hx)
  have hargs : ∀ sp : Nat → Bool, (∀ x ∈ p, sp x.block = true) → DataW.TrodAll enc P W' 0 sp true fn.params.toList args.toList ds p := fun sp h => trodAll_stays hl hpar hA (fun x hx => hbelow.same (hlt x hx)) h
  have hresT : ∀ (b : Nat) (sp : Nat → Bool) (hd : Bool), DataW.TrodAll enc P W' b sp hd fn.resultTypes.toList ((Value.bool true).resultList fn.resultTypes.size) [.lit (.bool true)] [] := by
    intro b sp hd
    rw [hres]
    exact trodAll_mk1 (shut_bool hb true)
  have hvs : ∀ sp : Nat → Bool, DataW.TrodVars enc P W' sp s.vars (s.fn H (ds ++ [])).vars [] := by
    intro sp
    rw [hs, hvars]
    rfl
  refine ⟨ds, [], p ++ [], [], p, [], hW2, by rw [hs]; exact hresT _ _ _, by rw [hs]; exact hargs _ (fun x hx => by simpa using hlt x hx), hvs _, World.keptBut_mono (fun x hx => ⟨by simpa using hx, by simpa using hx⟩) (hbelow.frame (· ∈ p)), fun _ => ?_⟩
  refine ⟨ok_one hres rfl (okWide_bool_mk hb true), [.lit (.bool true)] ++ ds, _, ([] ++ p) ++ [], ⟨[] ++ p, [], ?_, hvs _, rfl, ?_, ?_⟩, ?_⟩
  · exact trodAll_append (hargs _ (fun _ _ => rfl)) (hresT _ _ _)
  · intro b off hp
    have hp2 : MemPlace.cell b off ∈ p := by simpa using hp
    have hb2 : b < W.heap.size := hlt _ hp2
    rw [hbelow.frozen (p := ⟨b, off, none⟩) hb2]
    exact hfz b off (by simpa using hp)
  · intro ha
    simp at ha
  · intro x hx _
    simpa using hx

end Go.AE
