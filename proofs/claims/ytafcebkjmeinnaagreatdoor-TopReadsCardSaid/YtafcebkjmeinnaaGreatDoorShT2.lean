/-
  The contracts of copyCheck and String at this seat.
-/
import Derived.Test.YtafcebkjmeinnaaGreatDoorShT

set_option linter.unusedSimpArgs false
set_option linter.unusedVariables false
set_option linter.unnecessarySimpa false
set_option maxRecDepth 20000
set_option maxHeartbeats 1000000
open Go Go.Proofs
namespace Go.AE.Seat
open Go.AE

theorem bu_parts {w : World} {M : Mem} {bs : Str} {v : Value} (g : Good w M (buS bs)) (h : ARep w M (buS bs) (.ref 0 0 0 0) v) :
    ∃ b c f, v = .pointer (some ⟨b, 0, none⟩) ∧ M.B 0 = some (b, 0) ∧ w.heap[b]? = some (.cells c 106 f) ∧ c.size = 2 ∧ unfrozen f 0 2 ∧ (c.getD 0 undef = .pointer none ∨ c.getD 0 undef = .pointer (some ⟨b, 0, none⟩)) ∧ ARep w M (buS bs) (.bgr 1 5 bs) (c.getD 1 undef) := by
  obtain ⟨b, o, hB, rfl⟩ := inv_ref (s := buS bs) h rfl
  have ho := g.obj 0
  have h1 : obOk w M (buS bs) 0 (.cells 0 2 [.agg [.tref 0 0 106, .bgr 1 5 bs]]) := ho
  rcases h1 with ⟨h1, _⟩ | ⟨b', o', c, E, f, h2, h3, h4, h5, h6, h7⟩
  · cases h1
  · rw [hB] at h2
    simp at h2
    obtain ⟨rfl, rfl⟩ := h2
    have r0 : ARep w M (buS bs) (.tref 0 0 106) (c.getD o undef) := by simpa using h7 0 0 (by simp) (by omega)
    have r1 : ARep w M (buS bs) (.bgr 1 5 bs) (c.getD (o + 1) undef) := by simpa using h7 0 1 (by simp) (by omega)
    cases r0 with
    | tref _ _ _ _ q1 q2 =>
      unfold trefOk at q2
      simp only [buS, List.getElem?_cons_zero] at q2
      obtain ⟨b2, k1, ⟨c2, f2, k2, k3⟩, k4⟩ := q2.2 trivial
      rw [hB] at k1
      simp at k1
      obtain ⟨rfl, rfl⟩ := k1
      rw [h3] at k2
      simp at k2
      obtain ⟨rfl, rfl, rfl⟩ := k2
      refine ⟨b, c, f, by simp, hB, h3, k3, by rw [← k3]; exact h4, k4, r1⟩

theorem ok_copyCheck : RSpec.Ok Tryz.prog 94 R___strings_Builder__copyCheck := by
  refine RF.ok (by kernel_rfl) fun bs _ => ?_
  intro w M vs hW hN g hl ha
  replace g : Good w M (buS bs) := g
  suffices hgoal : Calls Tryz.prog 94 vs w (fun e w' => ∃ v M', e = .returned v ∧ Good w' M' (buS bs) ∧ Ext w M (buS bs) w' M' (buS bs) ∧ ARep w' M' (buS bs) (.tup []) v) from hgoal
  have h0 := ha 0 (by simp)
  have hv : vs = #[vs.getD 0 undef] := by
    simp at hl
    apply Array.ext
    · simpa using hl
    · intro i h2 h3
      obtain rfl : i = 0 := by simp at h3; omega
      simp [Array.getD, h2]
  generalize vs.getD 0 undef = v at h0 hv
  subst hv
  obtain ⟨b, c, f, rfl, hB, hh, hs, hu, hc, hr⟩ := bu_parts g h0
  have c0 : w.cell? ⟨b, 0, none⟩ = some (c.getD 0 undef) := cell?_heap hh (by omega)
  have tup : ∀ (w' : World) (M' : Mem) (s : Store), ARep w' M' s (.tup []) (.tuple #[]) := fun w' M' s => .tup _ _ rfl (fun k hk => by simp at hk)
  rcases hc with hc | hc
  · rw [hc] at c0
    have hfz : w.frozen? ⟨b, 0, none⟩ = false := by
      have := hu 0 (by omega) (by omega)
      simp [World.frozen?, hh]
      simp at this
      exact this
    have hsh : w.shape? b = some (106, 2) := by simp [World.shape?, hh, hs]
    refine (Tryz.copyCheck_fresh b w c0 hsh hfz).mono ?_
    rintro e w' ⟨rfl, rfl⟩
    have hself : ARep w M (buS bs) (.tref 0 0 106) (.pointer (some ⟨b, 0, none⟩)) := by
      refine .tref _ _ _ _ rfl ?_
      unfold trefOk
      simp only [buS, List.getElem?_cons_zero]
      exact ⟨Nat.le_refl _, fun _ => ⟨b, hB, ⟨c, f, hh, hs⟩, .inr rfl⟩⟩
    obtain ⟨w', r1, M', k1, k2, k3⟩ := eStore_sound (P := Tryz.prog) g (t := 104) (n := 1) (by kernel_rfl) (p := .ref 0 0 0 0) (x := .tref 0 0 106) h0 hself (by simp [eStore, A.fits, A.cells, A.one])
    have hst : (buS bs).setAll (eStore (buS bs) 1 (.ref 0 0 0 0) (.tref 0 0 106)).fp = buS bs := by simp [eStore, Store.setAll, splice, A.cells]
    rw [hst] at k1 k2
    have hw : w' = w.setCell ⟨b, 0, none⟩ (.pointer (some ⟨b, 0, none⟩)) := by
      have : (Instr.storeAt 104 (.pointer (some ⟨b, 0, none⟩)) (.pointer (some ⟨b, 0, none⟩))).run Tryz.prog w = .ok () (w.setCell ⟨b, 0, none⟩ (.pointer (some ⟨b, 0, none⟩))) := by
        have one0 : ∀ j, j < 1 → ((Value.pointer (some ⟨b, 0, none⟩)).cells.getD j undef).oneCell' = true := fun j hj => by
          match j, hj with
          | 0, _ => rfl
        have := run_storeAt (P := Tryz.prog) (w := w) (t := 104) (n := 1) (b := b) (off := 0) (v := .pointer (some ⟨b, 0, none⟩)) (by kernel_rfl) rfl one0 hh (by omega) (fun k h4 h5 => hu k (by omega) (by omega))
        exact this
      rw [this] at r1
      cases r1
      rfl
    subst hw
    exact ⟨_, M', rfl, k1, k2, tup _ _ _⟩
  · rw [hc] at c0
    refine (Tryz.copyCheck_used b w c0).mono ?_
    rintro e w' ⟨rfl, rfl⟩
    exact ⟨_, M, rfl, g, Ext.refl _ _ _, tup _ _ _⟩

theorem freeze_heap {w : World} {g n : Nat} {c : Array Value} {E : TypeId} {f : Nat × Nat} (hn : n ≠ 0) (hg : w.heap[g]? = some (.cells c E f)) :
    ∃ f', (∀ b, (w.drew.freeze ⟨g, 0, none⟩ n).heap[b]? = if b = g then some (.cells c E f') else w.heap[b]?) ∧ (w.drew.freeze ⟨g, 0, none⟩ n).heap.size = w.heap.size := by
  obtain ⟨lo, hi⟩ := f
  refine ⟨if lo == hi then (0, 0 + n) else (min lo 0, max hi (0 + n)), fun b => ?_, ?_⟩
  · simp only [World.freeze, if_neg hn]
    rw [Array.getElem?_modify]
    by_cases hb : g = b
    · subst hb
      rw [if_pos rfl, if_pos rfl]
      have : w.drew.heap[g]? = some (.cells c E (lo, hi)) := hg
      rw [this]
      rfl
    · rw [if_neg hb, if_neg (Ne.symm hb)]
      rfl
  · simp only [World.freeze, if_neg hn, Array.size_modify]
    rfl

theorem ok_String : RSpec.Ok Tryz.prog 53 R___strings_Builder__String := by
  refine RF.ok (by kernel_rfl) fun bs hp => ?_
  intro w M vs hW hN g hl ha
  obtain ⟨hp, h63⟩ : bs ≠ [] ∧ bs.length ≤ 140737488355328 := hp
  replace g : Good w M (buS bs) := g
  suffices hgoal : Calls Tryz.prog 53 vs w (fun e w' => ∃ v M', e = .returned v ∧ Good w' M' [.dead, .dead] ∧ Ext w M (buS bs) w' M' [.dead, .dead] ∧ ARep w' M' [.dead, .dead] (.d (.str bs)) v) from hgoal
  have h0 := ha 0 (by simp)
  have hv : vs = #[vs.getD 0 undef] := by
    simp at hl
    apply Array.ext
    · simpa using hl
    · intro i h2 h3
      obtain rfl : i = 0 := by simp at h3; omega
      simp [Array.getD, h2]
  generalize vs.getD 0 undef = v at h0 hv
  subst hv
  obtain ⟨b, c, f, rfl, hB, hh, hs, hu, hc, hr⟩ := bu_parts g h0
  have c0 : w.cell? ⟨b, 1, none⟩ = some (c.getD 1 undef) := cell?_heap hh (by omega)
  generalize c.getD 1 undef = v1 at hr c0
  cases hr with
  | bgr _ _ _ _ hg hty =>
    have hpos : 0 < bs.length := List.length_pos_iff.2 hp
    have hlen : (bytD bs).length = bs.length := by simp [bytD]
    obtain ⟨b2, off, cap, u, rfl, k1, k2, k3, k4, k5⟩ := inv_slcells hg.1 (i := 0) (by rw [hlen]; exact hpos)
    rcases hty with hty | ⟨g2, n2, cap2, c2, f2, e1, e2, e3, e4⟩
    · cases hty
    · simp only [Value.slice.injEq, Option.some.injEq, Addr.mk.injEq] at e1
      obtain ⟨⟨rfl, rfl, _⟩, rfl, rfl⟩ := e1
      rw [hlen] at c0 k1
      have hcell : ∀ j x, bs[j]? = some x → w.cell? ((⟨b2, 0, none⟩ : Addr).add j) = some (.int .u8 x.toNat) := fun j x hx => by
        have hj := (List.getElem?_eq_some_iff.1 hx).1
        have a1 := k4 j 0 (by rw [hlen]; exact hj) (by omega)
        have a2 := k5 j 0 (by rw [hlen]; exact hj) (by omega)
        have a3 : (bytD bs).getD j default = .int .u8 x.toNat := by simp [bytD, List.getD, hx]
        rw [a3] at a2
        have a2 : DRep w M.I (.int .u8 x.toNat) (u j 0) := a2
        have a4 : u j 0 = .int .u8 x.toNat := by
          generalize u j 0 = z at a2
          cases a2
          rfl
        rw [a4] at a1
        rw [Addr.add_lit]
        simpa using a1
      have hsz : bs.length ≤ c2.size := by
        have a1 := hcell (bs.length - 1) _ (List.getElem?_eq_getElem (by omega))
        rw [Addr.add_lit] at a1
        simp only [World.cell?, e3] at a1
        by_cases hz : bs.length ≤ c2.size
        · exact hz
        · simp [show c2.size ≤ bs.length - 1 by omega] at a1
      have hown : ∃ o, M.B 1 = some (b2, o) := by
        unfold tipOk at e4
        simp only [buS, List.getElem?_cons_succ, List.getElem?_cons_zero] at e4
        exact e4.2 trivial
      obtain ⟨o, hown⟩ := hown
      refine (Tryz.string_row b b2 cap (c.getD 0 undef) c2 bs w hp c0 k1 (by simp [World.shape?, e3]) hsz (by omega) hcell).mono ?_
      rintro e w' ⟨rfl, rfl⟩
      obtain ⟨f', q1, q2⟩ := freeze_heap (w := w) (by omega : bs.length ≠ 0) e3
      have hos : (w.drew.freeze ⟨b2, 0, none⟩ bs.length).os = w.os ∧ (w.drew.freeze ⟨b2, 0, none⟩ bs.length).tape = w.tape ∧ (w.drew.freeze ⟨b2, 0, none⟩ bs.length).output = w.output := by
        simp only [World.freeze, if_neg (by omega : ¬ bs.length = 0)]
        exact ⟨rfl, rfl, rfl⟩
      generalize w.drew.freeze ⟨b2, 0, none⟩ bs.length = w' at q1 q2 hos
      have hce : ∀ b j, w'.cell? ⟨b, j, none⟩ = w.cell? ⟨b, j, none⟩ := fun b j => by
        by_cases hb : b = b2
        · subst hb
          have := q1 b
          rw [if_pos rfl] at this
          simp only [World.cell?, this, e3]
        · have := q1 b
          rw [if_neg hb] at this
          exact cell?_of_heap this
      have hgd : Good w' ⟨M.I, fun _ => none, M.N⟩ [.dead, .dead] := by
        refine ⟨fun b j h => by rw [hce]; exact g.imm b j h, (fun _ _ _ _ _ h => by cases h), (fun _ _ _ _ _ h => by cases h), fun l => ?_, by rw [q2]; exact g.nle, (fun _ _ _ h => by cases h)⟩
        have : ([.dead, .dead] : Store).getD l .dead = .dead := by
          match l with
          | 0 => rfl
          | 1 => rfl
          | l + 2 => rfl
        rw [this]
        rfl
      refine ⟨_, ⟨M.I, fun _ => none, M.N⟩, rfl, hgd, ?_, .d _ _ (.str _)⟩
      refine { os := hos.1, tape := hos.2.1, output := hos.2.2, size := by rw [q2]; exact Nat.le_refl _, keep := fun b _ hb => ?_, low := fun l b o j _ _ => hce b j, blk := fun l b o c E f _ h2 => ?_, imm := fun b j h => h, immNew := fun b j h => .inl h, own := fun l b o h => (by cases h), N := rfl, len := by simp, ob := fun l hl => ?_ }
      · have hne : b ≠ b2 := fun h => hb 1 o (by rw [h]; exact hown)
        have := q1 b
        rwa [if_neg hne] at this
      · by_cases hb : b = b2
        · subst hb
          have := q1 b
          rw [if_pos rfl] at this
          rw [e3] at h2
          cases h2
          exact ⟨_, _, this, rfl⟩
        · have := q1 b
          rw [if_neg hb] at this
          exact ⟨_, _, by rw [this]; exact h2, rfl⟩
      · match l, hl with
        | 0, _ => trivial
        | 1, _ => trivial
        | l + 2, hl => exact absurd hl (by simp)

end Go.AE.Seat
