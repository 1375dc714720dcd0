/-
  Contracts: the document's check of a graph, and its lists.
-/
import Derived.Test.YtjibgbmilpdanaaDoorCon1
import Derived.Test.YtjibgbmilpdanaaDoorCode1
import Derived.LoopIn
import Derived.LoopNIn
import Derived.OwnWalkIn
import Derived.RangeFuncBound
import Derived.RangeFuncCalls
import Derived.RangeFuncLeaves
import Derived.RangeFuncNested
import Derived.Shelf.Abstract
import Derived.Shelf.RegionOpen
import Derived.TacticsInMore
import Derived.WalkKit

set_option linter.unusedSimpArgs false
set_option linter.unusedVariables false
set_option linter.unnecessarySimpa false

set_option maxRecDepth 20000
set_option maxHeartbeats 4000000
namespace Go.AE

theorem reach_nil (g : List (List Int)) (i : Nat) : (reachV g []).getD i false = false := by
  cases h : (reachV g []).getD i false with
  | false => rfl
  | true => exact (reach_least (g := g) (fr := []) (fun _ => False) (fun p hp => by cases hp) (fun c hc => hc.elim) h).elim

@[simp] def S_ref23_Check : List D → Prop × D := spec1 (α := List CommitT) (fun g => GraphOk g) (fun g => .int .i64 (dagC g))
theorem ct_ref23_Check {P : Program} {f g1 g2 g3 : Nat} {G : Gam} (h : CodeOf P f 1 22 [1] (x_ref23_Check g1 g2 g3)) (hG : GamOk P G) (h1 : G.find g1 = some S_ref23_Has) (h2 : G.find g2 = some S_ref23_Reach) (h3 : G.find g3 = some S_ref21_Check) : Has P f S_ref23_Check := h.has1 hG fun g hp => by
  obtain ⟨p1, p2⟩ := hp
  by_cases c0 : (300 : Int) < g.length
  · have hd : dagC g = 1 := by
      unfold dagC limB
      rw [if_neg]
      simp
      omega
    simp [x_ref23_Check, c0, hd, show 300 < g.length by omega]
  · have c0' : ¬ 300 < g.length := by omega
    simp [x_ref23_Check, c0, c0']
    refine vc_lp (σ := Nat) (fun i => i ≤ g.length ∧ ∀ k (hk : k < g.length), k < i → g[k].parents.length ≤ 32) (fun i => g.length - i)
      (fun i => [.d (Rep.to g), .any, .d (.int .i64 i), .any, .any, .any, .any, .any, .any, .any, .any, .any, .any, .any, .any, .any, .any, .any, .any, .any, .any, .any]) (fun _ => []) 0 (by simp) (by simp) ⟨by simp, by simp⟩ ?_
    rintro i ⟨hi, hn⟩
    by_cases hil : i < g.length
    · have w1 : IntKind.i64.wrap ((i : Int) + 1) = (i : Int) + 1 := wrap_in (by omega) (by omega)
      by_cases e : (32 : Int) < g[i].parents.length
      · have hd : dagC g = 1 := by
          unfold dagC
          rw [if_neg]
          intro hl
          have := lim_par hl _ (List.getElem_mem hil)
          omega
        simp [hil, getD_map, e, show 32 < g[i].parents.length by omega, hd]
      · have hnx : ∀ k (hk : k < g.length), k < i + 1 → g[k].parents.length ≤ 32 := fun k hk hki => by
          by_cases e2 : k = i
          · subst e2; omega
          · exact hn k hk (by omega)
        simp [hil, getD_map, e, show ¬ 32 < g[i].parents.length by omega, w1]
        exact Nxt.mk (i + 1) (by omega) (by simp) (by simp) ⟨by omega, hnx⟩
    · have h9 : i = g.length := by omega
      subst h9
      have hp32 : ∀ k (hk : k < g.length), g[k].parents.length ≤ 32 := fun k hk => hn k hk hk
      have hlim : limB g = true := by
        unfold limB
        rw [Bool.and_eq_true, Bool.not_eq_true', List.any_eq_false]
        refine ⟨by simp; omega, fun c hc => ?_⟩
        obtain ⟨k, hk, rfl⟩ := List.mem_iff_getElem.1 hc
        have := hp32 k hk
        simp [conP]
        omega
      have hd1 : dagC g = if relG g = true then (if (upV (parG g)).length < g.length then 231 else if g.any rangeB = true then 3 else filesE g) else 230 := by unfold dagC; rw [if_pos hlim]
      clear hn hi hil
      simp
      refine vc_lp (σ := Nat) (fun i => i ≤ g.length ∧ ∀ k (h : k < g.length), k < i → relB g.length g[k].parents = true) (fun i => g.length - i)
        (fun i => [.d (Rep.to g), .any, .any, .d (.int .i64 i), .any, .any, .any, .any, .any, .any, .any, .any, .any, .any, .any, .any, .any, .any, .any, .any, .any, .any]) (fun _ => []) 0 (by simp) (by simp) ⟨by simp, by simp⟩ ?_
      rintro i ⟨hi, hm⟩
      by_cases hil : i < g.length
      · have w1 : IntKind.i64.wrap ((i : Int) + 1) = (i : Int) + 1 := wrap_in (by omega) (by omega)
        have hpl := hp32 i hil
        simp [hil]
        refine vc_lp (σ := Nat) (fun j => j ≤ g[i].parents.length ∧ relP g.length g[i].parents j = true) (fun j => g[i].parents.length - j)
          (fun j => [.d (Rep.to g), .any, .any, .d (.int .i64 i), .d (.int .i64 j), .any, .any, .any, .any, .any, .any, .any, .any, .any, .any, .any, .any, .any, .any, .any, .any, .any]) (fun _ => []) 0 (by simp) (by simp) ⟨by simp, by simp [relP]⟩ ?_
        rintro j ⟨hj, hr⟩
        by_cases hjl : j < g[i].parents.length
        · have w2 : IntKind.i64.wrap ((j : Int) + 1) = (j : Int) + 1 := wrap_in (by omega) (by omega)
          have hs := relP_succ (n := g.length) hjl
          rw [hr, Bool.true_and] at hs
          have hbad : relP g.length g[i].parents (j + 1) = false → dagC g = 230 := fun h => by
            have h2 := relP_le h
            rw [hd1, if_neg]
            unfold relG
            rw [List.all_eq_true]
            intro h3
            rw [h3 _ (List.getElem_mem hil)] at h2
            cases h2
          have hjle : (j : Int) ≤ g[i].parents.length := by omega
          have htl : (g[i].parents.take j).length ≤ 9223372036854775807 := by simp; omega
          by_cases q1 : g[i].parents[j] < 0
          · have hz := hbad (by rw [hs]; simp; omega)
            simp [hil, hjl, getD_map, q1, hz]
          · by_cases q2 : (g.length : Int) ≤ g[i].parents[j]
            · have hz := hbad (by rw [hs]; simp; omega)
              simp [hil, hjl, getD_map, q1, q2, hz]
            · have hmp : (g[i].parents.map Rep.to).take j = (g[i].parents.take j).map Rep.to := by rw [List.map_take]
              by_cases q3 : g[i].parents[j] ∈ g[i].parents.take j
              · have hz := hbad (by rw [hs]; simp [q3])
                simp [hil, hjl, getD_map, q1, q2, h1, hz, hjle, q3]
                omega
              · have hz : relP g.length g[i].parents (j + 1) = true := by rw [hs]; simp [q3]; omega
                simp [hil, hjl, getD_map, q1, q2, h1, q3, w2, hjle]
                exact ⟨by omega, Nxt.mk (j + 1) (by omega) (by simp) (by simp) ⟨by omega, hz⟩⟩
        · have h9 : j = g[i].parents.length := by omega
          subst h9
          have hz : relB g.length g[i].parents = true := by unfold relP at hr; rw [List.take_length] at hr; exact hr
          have hnx : ∀ k (h : k < g.length), k < i + 1 → relB g.length g[k].parents = true := fun k h hk => by
            by_cases e2 : k = i
            · subst e2; exact hz
            · exact hm k h (by omega)
          simp [hil, getD_map, w1]
          exact Nxt.mk (i + 1) (by omega) (by simp) (by simp) ⟨by omega, hnx⟩
      · have h9 : i = g.length := by omega
        subst h9
        have hrel : relG g = true := by
          unfold relG
          rw [List.all_eq_true]
          intro c hc
          obtain ⟨k, hk, rfl⟩ := List.mem_iff_getElem.1 hc
          exact hm k hk hk
        rw [if_pos hrel] at hd1
        have hok := relG_ok hrel
        have hup := up_reach hok
        have hgl := parG_len g
        rw [hgl] at hup
        have hpar : ∀ c, c ∈ g → c.parents.length ≤ 1000 := fun c hc => by
          obtain ⟨k, hk, rfl⟩ := List.mem_iff_getElem.1 hc
          have := hp32 k hk
          omega
        clear hm hi hil
        simp
        refine vc_lp (σ := Nat) (fun i => i ≤ g.length ∧ ∀ k (h : k < g.length), k < i → (reachV (parG g) g[k].parents).getD k false = false) (fun i => g.length - i)
          (fun i => [.d (Rep.to g), .any, .any, .any, .any, .any, .d (.int .i64 i), .any, .any, .any, .any, .any, .any, .any, .any, .any, .any, .any, .any, .any, .any, .any]) (fun _ => []) 0 (by simp) (by simp) ⟨by simp, by simp⟩ ?_
        rintro i ⟨hi, hm⟩
        by_cases hil : i < g.length
        · have w1 : IntKind.i64.wrap ((i : Int) + 1) = (i : Int) + 1 := wrap_in (by omega) (by omega)
          have hrl := reachV_len (parG g) g[i].parents
          rw [hgl] at hrl
          have hrng := rel_rng hrel hil
          have hpl := hp32 i hil
          have hnx : (reachV (parG g) g[i].parents).getD i false = false → ∀ k (h : k < g.length), k < i + 1 → (reachV (parG g) g[k].parents).getD k false = false := fun h k hk hki => by
            by_cases e2 : k = i
            · subst e2; exact h
            · exact hm k hk (by omega)
          by_cases e0 : (0 : Int) < g[i].parents.length
          · have e0' : 0 < g[i].parents.length := by omega
            have hgd : (reachV (parG g) g[i].parents).getD i false = (reachV (parG g) g[i].parents)[i]'(by rw [hrl]; exact hil) := by simp [List.getD, hrl, hil]
            have hpre : g.length ≤ 1000 ∧ (∀ c, c ∈ g → c.parents.length ≤ 1000) ∧ relG g = true ∧ g[i].parents.length ≤ 1048576 ∧ ∀ p, p ∈ g[i].parents → 0 ≤ p ∧ p < (g.length : Int) := ⟨p1, hpar, hrel, by omega, hrng⟩
            cases er : (reachV (parG g) g[i].parents).getD i false with
            | true =>
              have hz : dagC g = 231 := by
                rw [hd1, if_pos]
                exact hup.2 ⟨i, hil, by rw [parG_get hil]; exact er⟩
              rw [hgd] at er
              simp [hil, getD_map, e0, e0', h2, hpre, er, hrl, hz]
              exact ⟨hpar, hrng⟩
            | false =>
              have hz := hnx er
              rw [hgd] at er
              simp [hil, getD_map, e0, e0', h2, hpre, er, hrl, w1]
              exact ⟨⟨hpar, hrng⟩, Nxt.mk (i + 1) (by omega) (by simp) (by simp) ⟨by omega, by simpa using hz⟩⟩
          · have e0' : ¬ 0 < g[i].parents.length := by omega
            have hz := hnx (by
              have : g[i].parents = [] := List.length_eq_zero_iff.1 (by omega)
              rw [this]
              exact reach_nil _ _)
            simp [hil, getD_map, e0, e0', w1]
            exact Nxt.mk (i + 1) (by omega) (by simp) (by simp) ⟨by omega, hz⟩
        · have h9 : i = g.length := by omega
          subst h9
          have hnc : ¬ (upV (parG g)).length < g.length := fun h => by
            obtain ⟨c, hc, hr⟩ := hup.1 h
            rw [parG_get hc, hm c hc hc] at hr
            cases hr
          rw [if_neg hnc] at hd1
          clear hm hi hil
          simp
          refine vc_lp (σ := Nat) (fun i => i ≤ g.length ∧ ∀ k (h : k < g.length), k < i → rangeB g[k] = false) (fun i => g.length - i)
            (fun i => [.d (Rep.to g), .any, .any, .any, .any, .any, .any, .d (.int .i64 i), .any, .any, .any, .any, .any, .any, .any, .any, .any, .any, .any, .any, .any, .any]) (fun _ => []) 0 (by simp) (by simp) ⟨by simp, by simp⟩ ?_
          rintro i ⟨hi, hm⟩
          by_cases hil : i < g.length
          · have w1 : IntKind.i64.wrap ((i : Int) + 1) = (i : Int) + 1 := wrap_in (by omega) (by omega)
            have hbad : rangeB g[i] = true → dagC g = 3 := fun h => by
              rw [hd1, if_pos]
              exact List.any_eq_true.2 ⟨_, List.getElem_mem hil, h⟩
            by_cases q1 : g[i].date < 0
            · have hz := hbad (by simp [rangeB, q1])
              simp [hil, getD_map, q1, hz]
            · by_cases q2 : 2147483647 < g[i].date
              · have hz := hbad (by simp [rangeB, q2])
                simp [hil, getD_map, q1, q2, hz]
              · have hnx : ∀ k (h : k < g.length), k < i + 1 → rangeB g[k] = false := fun k hk hki => by
                  by_cases e2 : k = i
                  · subst e2; simp [rangeB]; omega
                  · exact hm k hk (by omega)
                simp [hil, getD_map, q1, q2, w1]
                exact Nxt.mk (i + 1) (by omega) (by simp) (by simp) ⟨by omega, hnx⟩
          · have h9 : i = g.length := by omega
            subst h9
            have hnr : g.any rangeB = false := by
              rw [List.any_eq_false]
              intro c hc
              obtain ⟨k, hk, rfl⟩ := List.mem_iff_getElem.1 hc
              rw [hm k hk hk]
              simp
            rw [hnr, if_neg (by simp)] at hd1
            clear hm hi hil
            simp
            refine vc_lp (σ := Nat) (fun i => i ≤ g.length ∧ ∀ k (hk : k < g.length), k < i → treeE g[k].files = 0) (fun i => g.length - i)
              (fun i => [.d (Rep.to g), .any, .any, .any, .any, .any, .any, .any, .d (.int .i64 i), .any, .any, .any, .any, .any, .any, .any, .any, .any, .any, .any, .any, .any]) (fun _ => []) 0 (by simp) (by simp) ⟨by simp, by simp⟩ ?_
            rintro i ⟨hi, hn⟩
            by_cases hil : i < g.length
            · have w1 : IntKind.i64.wrap ((i : Int) + 1) = (i : Int) + 1 := wrap_in (by omega) (by omega)
              have hf := (p2 _ (List.getElem_mem hil)).2
              by_cases e : treeE g[i].files = 0
              · have hnx : ∀ k (hk : k < g.length), k < i + 1 → treeE g[k].files = 0 := fun k hk hki => by
                  by_cases e2 : k = i
                  · subst e2; exact e
                  · exact hn k hk (by omega)
                simp [hil, getD_map, h3, hf, e, w1]
                exact Nxt.mk (i + 1) (by omega) (by simp) (by simp) ⟨by omega, hnx⟩
              · have hz := filesE_some hil e hn
                rw [hz] at hd1
                simp [hil, getD_map, h3, hf, e, hd1]
            · have hz := filesE_none fun k hk => hn k hk (by omega)
              rw [hz] at hd1
              simp [hil, hd1]

end Go.AE

set_option maxRecDepth 20000
set_option maxHeartbeats 4000000
namespace Go.AE

@[simp] def S_ref23_Kids : List D → Prop × D := spec2 (α := List CommitT) (β := Int) (fun g _ => GraphOk g) (fun g c => Rep.to (kidsV g c g.length))
theorem ct_ref23_Kids {P : Program} {f g1 : Nat} {G : Gam} (h : CodeOf P f 2 7 [2] (x_ref23_Kids g1)) (hG : GamOk P G) (h1 : G.find g1 = some S_ref23_Has) : Has P f S_ref23_Kids := h.has2 hG fun g c hp => by
  obtain ⟨p1, p2⟩ := hp
  simp [x_ref23_Kids, kidsV]
  generalize hq : kidB g c = q at *
  refine vc_lp (σ := Nat) (fun i => i ≤ g.length) (fun i => g.length - i)
    (fun i => [.d (Rep.to g), .d (.int .i64 c), .any, .gr 0 1 ((whereV q i).map Rep.to), .d (.int .i64 i), .any, .any])
    (fun i => [.tip (whereV q i).length]) 0 (by simp [whereV]) (by simp [whereV]) (by simp) ?_
  intro i hi
  have hkl := whereV_len q i
  by_cases hil : i < g.length
  · have w1 : IntKind.i64.wrap ((i : Int) + 1) = (i : Int) + 1 := wrap_in (by omega) (by omega)
    have hs := whereV_succ q i
    have hpl : g[i].parents.length ≤ 9223372036854775807 := by have := (p2 _ (List.getElem_mem hil)).1; omega
    have hqi : decide (c ∈ g[i].parents) = q i := by rw [← hq]; unfold kidB; simp [List.getD, hil]
    cases hk : q i with
    | true =>
      rw [hk] at hqi
      rw [hk, if_pos rfl] at hs
      simp at hqi
      simp [hil, getD_map, h1, hpl, hqi, w1]
      exact ⟨by unfold room; omega, Nxt.mk (i + 1) (by omega) (by simp [hs]) (by simp [hs]) (by omega)⟩
    | false =>
      rw [hk] at hqi
      rw [hk, if_neg (by simp), List.append_nil] at hs
      simp at hqi
      simp [hil, getD_map, h1, hpl, hqi, w1]
      exact Nxt.mk (i + 1) (by omega) (by simp [hs]) (by simp [hs]) (by omega)
  · have h9 : i = g.length := by omega
    subst h9
    simp

@[simp] def S_ref23_Children : List D → Prop × D := spec2 (α := List CommitT) (β := Int) (fun g _ => GraphOk g) (fun g c => kidsD g c)
theorem ct_ref23_Children {P : Program} {f g1 g2 : Nat} {G : Gam} (h : CodeOf P f 2 7 [2, 3] (x_ref23_Children g1 g2)) (hG : GamOk P G) (h1 : G.find g1 = some S_ref23_Check) (h2 : G.find g2 = some S_ref23_Kids) : Has P f S_ref23_Children := h.has2 hG fun g c hp => by
  by_cases c0 : dagC g = 0
  · by_cases c1 : c < 0
    · simp [x_ref23_Children, h1, hp, c0, c1, kidsD, show ¬ (0 ≤ c) by omega]
    · by_cases c2 : (g.length : Int) ≤ c
      · simp [x_ref23_Children, h1, hp, c0, c1, c2, kidsD, show ¬ c < (g.length : Int) by omega]
      · simp [x_ref23_Children, h1, h2, hp, c0, c1, c2, kidsD, show 0 ≤ c by omega, show c < (g.length : Int) by omega]
  · simp [x_ref23_Children, h1, hp, c0, kidsD]

@[simp] def S_ref23_Roots : List D → Prop × D := spec1 (α := List CommitT) (fun g => GraphOk g) (fun g => rootsD g)
theorem ct_ref23_Roots {P : Program} {f g1 : Nat} {G : Gam} (h : CodeOf P f 1 9 [1, 2] (x_ref23_Roots g1)) (hG : GamOk P G) (h1 : G.find g1 = some S_ref23_Check) : Has P f S_ref23_Roots := h.has1 hG fun g hp => by
  have hp' := hp
  obtain ⟨p1, p2⟩ := hp
  by_cases c0 : dagC g = 0
  · have hrd : rootsD g = .tup [Rep.to (whereV (rootB g) g.length), .int .i64 0] := by unfold rootsD rootsV; rw [if_pos c0]
    rw [hrd]
    simp [x_ref23_Roots, h1, hp', c0]
    generalize hq : rootB g = q at *
    refine vc_lp (σ := Nat) (fun i => i ≤ g.length) (fun i => g.length - i)
      (fun i => [.d (Rep.to g), .any, .any, .any, .gr 0 1 ((whereV q i).map Rep.to), .d (.int .i64 i), .any, .any, .any])
      (fun i => [.tip (whereV q i).length]) 0 (by simp [whereV]) (by simp [whereV]) (by simp) ?_
    intro i hi
    have hkl := whereV_len q i
    by_cases hil : i < g.length
    · have w1 : IntKind.i64.wrap ((i : Int) + 1) = (i : Int) + 1 := wrap_in (by omega) (by omega)
      have hs := whereV_succ q i
      have hqi : decide (g[i].parents = []) = q i := by rw [← hq]; unfold rootB; simp [List.getD, hil]
      cases hk : q i with
      | true =>
        rw [hk] at hqi
        rw [hk, if_pos rfl] at hs
        simp at hqi
        simp [hil, getD_map, hqi, w1]
        exact ⟨by unfold room; omega, Nxt.mk (i + 1) (by omega) (by simp [hs]) (by simp [hs]) (by omega)⟩
      | false =>
        rw [hk] at hqi
        rw [hk, if_neg (by simp), List.append_nil] at hs
        simp at hqi
        simp [hil, getD_map, hqi, w1]
        exact Nxt.mk (i + 1) (by omega) (by simp [hs]) (by simp [hs]) (by omega)
    · have h9 : i = g.length := by omega
      subst h9
      simp
  · simp [x_ref23_Roots, h1, hp', c0, rootsD]

@[simp] def S_ref23_Heads : List D → Prop × D := spec1 (α := List CommitT) (fun g => GraphOk g) (fun g => headsD g)
theorem ct_ref23_Heads {P : Program} {f g1 g2 : Nat} {G : Gam} (h : CodeOf P f 1 9 [1, 2] (x_ref23_Heads g1 g2)) (hG : GamOk P G) (h1 : G.find g1 = some S_ref23_Check) (h2 : G.find g2 = some S_ref23_Kids) : Has P f S_ref23_Heads := h.has1 hG fun g hp => by
  have hp' := hp
  obtain ⟨p1, p2⟩ := hp
  by_cases c0 : dagC g = 0
  · have hrd : headsD g = .tup [Rep.to (whereV (headB g) g.length), .int .i64 0] := by unfold headsD headsV; rw [if_pos c0]
    rw [hrd]
    simp [x_ref23_Heads, h1, hp', c0]
    generalize hq : headB g = q at *
    refine vc_lp (σ := Nat) (fun i => i ≤ g.length) (fun i => g.length - i)
      (fun i => [.d (Rep.to g), .any, .any, .any, .gr 0 1 ((whereV q i).map Rep.to), .d (.int .i64 i), .any, .any, .any])
      (fun i => [.tip (whereV q i).length]) 0 (by simp [whereV]) (by simp [whereV]) (by simp) ?_
    intro i hi
    have hkl := whereV_len q i
    by_cases hil : i < g.length
    · have w1 : IntKind.i64.wrap ((i : Int) + 1) = (i : Int) + 1 := wrap_in (by omega) (by omega)
      have hs := whereV_succ q i
      have hqi : decide (kidsV g (i : Int) g.length = []) = q i := by rw [← hq]; rfl
      cases hk : q i with
      | true =>
        rw [hk] at hqi
        rw [hk, if_pos rfl] at hs
        simp at hqi
        simp [hil, h2, hp', hqi, w1]
        exact ⟨by unfold room; omega, Nxt.mk (i + 1) (by omega) (by simp [hs]) (by simp [hs]) (by omega)⟩
      | false =>
        rw [hk] at hqi
        rw [hk, if_neg (by simp), List.append_nil] at hs
        simp at hqi
        simp [hil, h2, hp', hqi, w1]
        exact Nxt.mk (i + 1) (by omega) (by simp [hs]) (by simp [hs]) (by omega)
    · have h9 : i = g.length := by omega
      subst h9
      simp
  · simp [x_ref23_Heads, h1, hp', c0, headsD]

end Go.AE

set_option maxRecDepth 20000
set_option maxHeartbeats 2000000
namespace Go.AE

end Go.AE

set_option maxRecDepth 20000
set_option maxHeartbeats 4000000
namespace Go.AE

end Go.AE

set_option maxRecDepth 20000
set_option maxHeartbeats 4000000
namespace Go.AE

end Go.AE

set_option maxRecDepth 20000
set_option maxHeartbeats 8000000
namespace Go.AE

theorem aw23a : dagC [⟨[1], 0, []⟩, ⟨[0], 0, []⟩] = 231 := by decide +kernel
theorem aw23b : dagC [⟨[0], 0, []⟩] = 231 := by decide +kernel
theorem aw23c : dagC [⟨[], 0, []⟩, ⟨[0], 0, []⟩] = 0 := by decide +kernel
theorem aw23d : kidsV [⟨[], 0, []⟩, ⟨[0], 0, []⟩] 0 2 = [1] := by decide +kernel

theorem graphOk_small {g : List CommitT} (h : g.length ≤ 1000) (h2 : ∀ c, c ∈ g → c.parents.length ≤ 1000 ∧ c.files = []) : GraphOk g :=
  ⟨h, fun c hc => ⟨by have := (h2 c hc).1; omega, by rw [(h2 c hc).2]; exact ⟨by simp, by simp⟩⟩⟩

@[simp] def S_law23_awake : List D → Prop × D := spec0 True (.bool true)
theorem ct_law23_awake {P : Program} {f g1 g2 g3 : Nat} {G : Gam} (h : CodeOf P f 0 5 [0] (x_law23_awake g1 g2 g3)) (hG : GamOk P G) (h1 : G.find g1 = some S_dag_Children) (h2 : G.find g2 = some S_dag_Check) (h3 : G.find g3 = some S_gen_Ints) : Has P f S_law23_awake := h.has0 hG fun _ => by
  have e1 : ofAll (Rep.of (α := CommitT)) [.agg [.sl 1 [.int .i64 1], .int .i64 0, .nilsl], .agg [.sl 1 [.int .i64 0], .int .i64 0, .nilsl]] = some [⟨[1], 0, []⟩, ⟨[0], 0, []⟩] := rfl
  have e2 : ofAll (Rep.of (α := CommitT)) [.agg [.sl 1 [.int .i64 0], .int .i64 0, .nilsl]] = some [⟨[0], 0, []⟩] := rfl
  have e3 : ofAll (Rep.of (α := CommitT)) [.agg [.nilsl, .int .i64 0, .nilsl], .agg [.sl 1 [.int .i64 0], .int .i64 0, .nilsl]] = some [⟨[], 0, []⟩, ⟨[0], 0, []⟩] := rfl
  have e4 : ofAll (Rep.of (α := Int)) [.int .i64 1] = some [1] := rfl
  have o1 : GraphOk [⟨[1], 0, []⟩, ⟨[0], 0, []⟩] := graphOk_small (by simp) (by simp)
  have o2 : GraphOk [⟨[0], 0, []⟩] := graphOk_small (by simp) (by simp)
  have o3 : GraphOk [⟨[], 0, []⟩, ⟨[0], 0, []⟩] := graphOk_small (by simp) (by simp)
  have k1 : kidsD [⟨[], 0, []⟩, ⟨[0], 0, []⟩] 0 = .tup [.sl 1 [.int .i64 1], .int .i64 0] := by
    unfold kidsD
    rw [if_pos aw23c, if_pos (by simp)]
    show D.tup [Rep.to (kidsV [⟨[], 0, []⟩, ⟨[0], 0, []⟩] 0 2), _] = _
    rw [aw23d]
    rfl
  simp [x_law23_awake, h1, h2, h3, e1, e2, e3, e4, k1, aw23a, aw23b, aw23c, o1, o2, o3]

/-! ### loose graphs -/

def looseP (raw : List Int) (n : Int) (c k : Nat) : List Int := (List.range k).map fun (p : Nat) => modV (atV raw (40 + 5 * c + p)) n
theorem looseP_succ (raw : List Int) (n : Int) (c k : Nat) : looseP raw n c (k + 1) = looseP raw n c k ++ [modV (atV raw (40 + 5 * c + k)) n] := by simp [looseP, List.range_succ]
def looseC (raw : List Int) (n : Int) (c : Nat) : CommitT := ⟨looseP raw n c (modV (atV raw (20 + c)) 3).toNat, modV (atV raw c) 4, []⟩
def looseG (raw : List Int) (n : Int) (k : Nat) : List CommitT := (List.range k).map (looseC raw n)
def looseV (raw : List Int) (n : Int) : List CommitT := looseG raw (modV n 8) (modV n 8).toNat

def looseD (raw : List Int) (n : Int) (c : Nat) : D := .agg [.sl 1 ((looseP raw n c (modV (atV raw (20 + c)) 3).toNat).map Rep.to), .int .i64 (modV (atV raw c) 4), .nilsl]
def looseE (raw : List Int) (n : Int) (k : Nat) : List D := (List.range k).map (looseD raw n)
theorem looseE_succ (raw : List Int) (n : Int) (k : Nat) : looseE raw n (k + 1) = looseE raw n k ++ [looseD raw n k] := by simp [looseE, List.range_succ]
theorem loose_of (raw : List Int) (n : Int) : ∀ k, ofAll (Rep.of (α := CommitT)) (looseE raw n k) = some (looseG raw n k) := by
  have h : ∀ l : List Nat, ofAll (Rep.of (α := CommitT)) (l.map (looseD raw n)) = some (l.map (looseC raw n)) := by
    intro l
    induction l with
    | nil => rfl
    | cons c l ih =>
      simp only [List.map_cons, ofAll]
      rw [ih]
      have : Rep.of (α := CommitT) (looseD raw n c) = some (looseC raw n c) := by
        unfold looseD looseC
        rw [of_Commit]
        rw [show Rep.of (α := List Int) (D.sl 1 ((looseP raw n c (modV (atV raw (20 + c)) 3).toNat).map Rep.to)) = some (looseP raw n c (modV (atV raw (20 + c)) 3).toNat) from Rep.of_to _]
        rfl
      rw [this]
  intro k
  exact h _

theorem loose_ok (raw : List Int) (n : Int) : GraphOk (looseV raw n) := by
  have hm := modV_lt n (n := 8) (by omega)
  refine graphOk_small (by simp [looseV, looseG]; omega) fun c hc => ?_
  unfold looseV looseG at hc
  rw [List.mem_map] at hc
  obtain ⟨k, _, rfl⟩ := hc
  have := modV_lt (atV raw (20 + k)) (n := 3) (by omega)
  exact ⟨by simp [looseC, looseP]; omega, rfl⟩

@[simp] def S_law23_loose : List D → Prop × D := spec2 (α := List Int) (β := Int) (fun raw _ => raw.length ≤ 1048576) (fun raw n => .sl 3 (looseE raw (modV n 8) (modV n 8).toNat))
theorem ct_law23_loose {P : Program} {f g1 g2 : Nat} {G : Gam} (h : CodeOf P f 2 9 [2] (x_law23_loose g1 g2)) (hG : GamOk P G) (h1 : G.find g1 = some S_gen_Mod) (h2 : G.find g2 = some S_gen_At) : Has P f S_law23_loose := h.has2 hG fun raw n hp => by
  have q2 : raw.length ≤ 9223372036854775807 := by omega
  obtain ⟨m1, m2⟩ := modV_lt n (n := 8) (by omega)
  simp [x_law23_loose, h1]
  obtain ⟨m, hm⟩ := Int.eq_ofNat_of_zero_le m1
  rw [hm] at m2 ⊢
  simp only [Int.toNat_natCast]
  refine vc_lp (σ := Nat) (fun c => c ≤ m) (fun c => m - c)
    (fun c => [.d (Rep.to raw), .d (.int .i64 m), .any, .gr 0 3 (looseE raw m c), .d (.int .i64 c), .any, .any, .any, .any])
    (fun c => [.tip c]) 0 (by simp [looseE]) (by simp) (by simp) ?_
  intro c hc
  have hgl : (looseE raw m c).length = c := by simp [looseE]
  by_cases hcm : c < m
  · have w1 : IntKind.i64.wrap ((c : Int) + 1) = (c : Int) + 1 := wrap_in (by omega) (by omega)
    have w2 : IntKind.i64.wrap (20 + (c : Int)) = 20 + c := wrap_in (by omega) (by omega)
    have w3 : IntKind.i64.wrap (5 * (c : Int)) = 5 * c := wrap_in (by omega) (by omega)
    have w4 : IntKind.i64.wrap (40 + 5 * (c : Int)) = 40 + 5 * c := wrap_in (by omega) (by omega)
    have r1 : 0 ≤ (c : Int) ∧ (c : Int) < 9223372036854775807 := by omega
    have r2 : 0 ≤ 20 + (c : Int) ∧ 20 + (c : Int) < 9223372036854775807 := by omega
    have r3 : 1 ≤ (m : Int) ∧ (m : Int) ≤ 9223372036854775807 := by omega
    have hgs := looseE_succ raw m c
    unfold looseD at hgs
    obtain ⟨k1, k2⟩ := modV_lt (atV raw (20 + c)) (n := 3) (by omega)
    simp [hcm, show (c : Int) < m by omega, h1, h2, q2, r1]
    generalize modV (atV raw c) 4 = dt at *
    generalize hkk : modV (atV raw (20 + c)) 3 = kk at *
    obtain ⟨k, rfl⟩ := Int.eq_ofNat_of_zero_le k1
    simp only [Int.toNat_natCast] at hgs
    refine vc_lpR (σ := Nat) (fun p => p ≤ k) (fun p => k - p)
      (fun p => [.d (Rep.to raw), .d (.int .i64 m), .any, .gr 0 3 (looseE raw m c), .d (.int .i64 c), .ref 1 0 0 0, .d (.int .i64 p), .any, .any])
      (fun p => [.tip c, .cells 0 3 [.agg [.gr 2 1 ((looseP raw m c p).map Rep.to), .d (.int .i64 dt), .d .nilsl]], .tip p]) 0 ?_ (by simp) ?_
    · refine Re.weak (k := [.tip 0]) (s' := [.tip c, .cells 0 3 [.agg [.gr 2 1 [], .d (.int .i64 dt), .d .nilsl]]]) (by simp) (by simp) (by simp) ⟨.inl rfl, .cellsL ⟨⟨rfl, ?_⟩, trivial⟩, trivial⟩
      exact ⟨Wk.fresh 2 [.tip 0] 1 0 rfl, Wk.refl _ _ _, Wk.refl _ _ _, trivial⟩
    intro p hp
    have hpl : (looseP raw m c p).length = p := by simp [looseP]
    by_cases hpk : p < k
    · have v1 : IntKind.i64.wrap ((p : Int) + 1) = (p : Int) + 1 := wrap_in (by omega) (by omega)
      have v2 : IntKind.i64.wrap (40 + 5 * (c : Int) + p) = 40 + 5 * c + p := wrap_in (by omega) (by omega)
      have v3 : 0 ≤ 40 + 5 * (c : Int) + p ∧ 40 + 5 * (c : Int) + p < 9223372036854775807 := by omega
      have hs := looseP_succ raw m c p
      simp [hpk, show (p : Int) < k by omega, h1, h2, q2, w2, w3, w4, v2, v3, r2, r3, hkk, hpl, v1]
      exact ⟨by unfold room; omega, Nxt.mk (p + 1) (by omega) (by simp) (by simp [hs]) (by omega)⟩
    · have h9 : p = k := by omega
      subst h9
      simp [h1, h2, q2, w2, r2, hkk, hgl, w1]
      exact ⟨by unfold room; omega, Nxt.mk (c + 1) (by omega) (by simp [hgs]) (by simp) (by omega)⟩
  · have h9 : c = m := by omega
    subst h9
    simp

/-! ### lists and errors -/

def LE (d : D) : Prop := ∃ (l : D) (ls : List Int) (e : Int), d = .tup [l, .int .i64 e] ∧ Rep.of (α := List Int) l = some ls ∧ ls.length ≤ 9223372036854775807
theorem LE.ok {l : List Int} {e : Int} (h : l.length ≤ 9223372036854775807) : LE (.tup [Rep.to l, .int .i64 e]) := ⟨_, l, e, rfl, Rep.of_to l, h⟩
theorem LE.nil {e : Int} : LE (.tup [.nilsl, .int .i64 e]) := ⟨_, [], e, rfl, rfl, by simp⟩
theorem LE.kids {g : List CommitT} (h : g.length ≤ 1000) (c : Int) : LE (kidsD g c) := by
  unfold kidsD
  split
  · split
    · exact LE.ok (by have := whereV_len (kidB g c) g.length; unfold kidsV; omega)
    · exact LE.nil
  · exact LE.nil
theorem LE.roots {g : List CommitT} (h : g.length ≤ 1000) : LE (rootsD g) := by
  unfold rootsD
  split
  · exact LE.ok (by have := whereV_len (rootB g) g.length; unfold rootsV; omega)
  · exact LE.nil
theorem LE.heads {g : List CommitT} (h : g.length ≤ 1000) : LE (headsD g) := by
  unfold headsD
  split
  · exact LE.ok (by have := whereV_len (headB g) g.length; unfold headsV; omega)
  · exact LE.nil

theorem graphV_ok (raw : List Int) {n lines : Int} (hn : 0 ≤ n) (hn2 : n ≤ 10) (hl : 0 ≤ lines) (h : (lines.toNat + 1) * 2 ^ n.toNat ≤ 2048) : dagC (graphV raw n lines) = 0 ∧ GraphOk (graphV raw n lines) := by
  obtain ⟨m, hm, hb⟩ := graphV_B raw hn hl h
  exact graphB_ok (by omega) (by omega) hb

@[simp] def S_law23_DagLists : List D → Prop × D := spec3 (α := List Int) (β := Int) (γ := Int) (fun raw _ _ => raw.length ≤ 1048576) (fun _ _ _ => .bool true)
theorem ct_law23_DagLists {P : Program} {f g1 g2 g3 g4 g5 g6 g7 g8 g9 g10 g11 : Nat} {G : Gam} (h : CodeOf P f 3 26 [3] (x_law23_DagLists g1 g2 g3 g4 g5 g6 g7 g8 g9 g10 g11)) (hG : GamOk P G) (h1 : G.find g1 = some S_gen_Graph) (h2 : G.find g2 = some S_law23_loose) (h3 : G.find g3 = some S_dag_Children) (h4 : G.find g4 = some S_ref23_Children) (h5 : G.find g5 = some S_gen_Mod) (h6 : G.find g6 = some S_dag_Roots) (h7 : G.find g7 = some S_ref23_Roots) (h8 : G.find g8 = some S_dag_Heads) (h9 : G.find g9 = some S_ref23_Heads) (h10 : G.find g10 = some S_gen_Ints) (h11 : G.find g11 = some S_law23_awake) : Has P f S_law23_DagLists := h.has3 hG fun raw n c hp => by
  have key : ∀ g : List CommitT, GraphOk g → ∃ k, k = modV c ((g.length : Int) + 1) ∧ IntKind.i64.wrap ((g.length : Int) + 1) = (g.length : Int) + 1 ∧ (1 ≤ (g.length : Int) + 1 ∧ (g.length : Int) + 1 ≤ 9223372036854775807) := fun g hg => ⟨_, rfl, wrap_in (by omega) (by have := hg.1; omega), by have := hg.1; omega⟩
  simp [x_law23_DagLists]
  refine vc_lp (σ := Nat) (fun i => i ≤ 2) (fun i => 2 - i)
    (fun i => [.d (Rep.to raw), .d (.int .i64 n), .d (.int .i64 c), .any, .d (.int .i64 i), .any, .any, .any, .any, .any, .any, .any, .any, .any, .any, .any, .any, .any, .any, .any, .any, .any, .any, .any, .any, .any]) (fun _ => []) 0 (by simp) (by simp) (by simp) ?_
  intro i hi
  by_cases hi2 : i < 2
  · have w1 : IntKind.i64.wrap ((i : Int) + 1) = (i : Int) + 1 := wrap_in (by omega) (by omega)
    have o1 := (graphV_ok raw (n := 8) (lines := 1) (by omega) (by omega) (by omega) (by decide)).2
    have o2 := loose_ok raw n
    by_cases e : i = 0
    · subst e
      generalize hg : graphV raw 8 1 = g at *
      obtain ⟨k, hk, w2, w3⟩ := key g o1
      obtain ⟨l1, s1, e1, k1, f1, b1⟩ := LE.kids o1.1 c
      obtain ⟨l2, s2, e2, k2, f2, b2⟩ := LE.kids o1.1 k
      obtain ⟨l3, s3, e3, k3, f3, b3⟩ := LE.roots o1.1
      obtain ⟨l4, s4, e4, k4, f4, b4⟩ := LE.heads o1.1
      simp [h1, h2, h3, h4, h5, h6, h7, h8, h9, h10, hp, hg, o1, w2, w3, ← hk, k1, k2, k3, k4, f1, f2, f3, f4, b1, b2, b3, b4]
      exact Nxt.mk 1 (by omega) (by simp; rfl) (by simp) (by omega)
    · have e : i = 1 := by omega
      subst e
      have hof := loose_of raw (modV n 8) (modV n 8).toNat
      rw [show looseG raw (modV n 8) (modV n 8).toNat = looseV raw n from rfl] at hof
      generalize hg : looseV raw n = g at *
      have hxl : (looseE raw (modV n 8) (modV n 8).toNat).length = g.length := by rw [← hg]; simp [looseE, looseV, looseG]
      generalize hxx : looseE raw (modV n 8) (modV n 8).toNat = xx at *
      obtain ⟨k, hk, w2, w3⟩ := key g o2
      obtain ⟨l1, s1, e1, k1, f1, b1⟩ := LE.kids o2.1 c
      obtain ⟨l2, s2, e2, k2, f2, b2⟩ := LE.kids o2.1 k
      obtain ⟨l3, s3, e3, k3, f3, b3⟩ := LE.roots o2.1
      obtain ⟨l4, s4, e4, k4, f4, b4⟩ := LE.heads o2.1
      simp [h1, h2, h3, h4, h5, h6, h7, h8, h9, h10, hp, hxx, hof, hxl, o2, w2, w3, ← hk, k1, k2, k3, k4, f1, f2, f3, f4, b1, b2, b3, b4]
      exact Nxt.mk 2 (by omega) (by simp; rfl) (by simp) (by omega)
  · have e : i = 2 := by omega
    subst e
    simp [h11]

theorem law23_DagLists_pre (raw : List Int) (n c : Int) (w0 : Arg.wf raw) (_ : Arg.wf n) (_ : Arg.wf c) (hb : Arg.bulk raw + (Arg.bulk n + (Arg.bulk c + 0)) ≤ 1048576) : raw.length ≤ 1048576 := by
  have := len_bulk raw
  omega

end Go.AE

namespace Go.AE
open Go Go.Proofs Go.RowKit

/-- what the iterator gfn is to do, at whatever the caller keeps (J while the rounds go on, Jx once one has left), where it may write the cell 'own' between two rounds -/
def SeqW {α : Type} (n : Nat) (P : Program) (gfn : Nat) (caps : Array Value) (encs : α → Array Value) (n₀ own : Nat) (xs : List α) (w0 : World) : Prop :=
  ∀ (l : Nat) (J Jx : List α → World → Prop) (W : World), Below n₀ w0 W → (∀ pre A v, J pre A → J pre (A.setCell ⟨own, 0, none⟩ v)) →
    (∀ pre x A, J pre A → pre.length < xs.length → YieldAt Fence.wide (n - 1) P l (encs x) A fun e B =>
      (e = .returned (.bool true) ∧ J (pre ++ [x]) B ∧ Below n₀ A B) ∨ (e = .returned (.bool false) ∧ Jx (pre ++ [x]) B)) →
    J [] W → CallsIn Fence.wide n P gfn (#[.func (.yield l) #[] #[]] ++ caps) W fun e B => (∃ v, e = .returned v) ∧ (J xs B ∨ ∃ pre, pre <+: xs ∧ Jx pre B)

/-- how a round's body is left -/
def roundW {α : Type} (n₀ : Nat) (I Ix : List α → World → Prop) (xs : List α) (A : World) : Exit → Act → World → Prop
  | .normal, _, B => KeepsOthers A B ∧ Below n₀ A B ∧ I xs B
  | .ret, _, B => KeepsOthers A B ∧ Ix xs B
  | _, _, _ => False

variable {n : Nat} {P : Program}

theorem rangeW {α : Type} {g : Operand} {ps : Array Tmp} {assign body : Code} {Q : Exit → Act → World → Prop} {a : Act} {w : World}
    (h1 : 1 ≤ n) {gfn : Nat} {caps : Array Value} (hg : a.eval g = .func (.func gfn) #[] caps) (eg : ∀ args w, (callFunc gfn args).run P w = .ok (.enter gfn args) w)
    {encs : α → Array Value} {own : Nat} (hown : own < w.heap.size) {xs : List α} (hseq : SeqW (n - 1) P gfn caps encs w.heap.size own xs w) (hps : ∀ x, (encs x).size = ps.size)
    (I Ix : List α → World → Prop)
    (hI1 : ∀ pre A o, w.heap.size ≤ A.heap.size → I pre A → I pre (A.alloc o)) (hI2 : ∀ pre A l o, w.heap.size ≤ l → I pre A → I pre (A.putObj l o)) (hI3 : ∀ pre A v, I pre A → I pre (A.setCell ⟨own, 0, none⟩ v))
    (hX2 : ∀ pre A l o, w.heap.size ≤ l → Ix pre A → Ix pre (A.putObj l o))
    (h0 : I [] w) (a₁ : α → Act)
    (hassign : ∀ (l : Nat) (x : α) (A : World) (K : Act → World → Prop), K (a₁ x) A →
      assign.wpIn (Fence.wide.inRound l) (n - 1 - 1) P (Exit.then K (fun _ _ _ => False)) { tmps := (ps.zip (encs x)).foldl (fun t (p, v) => t.setIfInBounds p v) a.tmps, defers := [] } A)
    (hbody : ∀ (l : Nat) (pre : List α) (x : α) (A : World), I pre A → pre.length < xs.length → body.wpIn (Fence.wide.inRound l) (n - 1 - 1) P (roundW w.heap.size I Ix (pre ++ [x]) A) (a₁ x) A)
    (hdone : ∀ (D : Nat) (B : World), w.heap.size ≤ D → I xs B → B.heap[D]? = some (.deferred (some [])) → Q .normal { a with defers := { target := .collected D, args := #[] } :: a.defers } B)
    (hstop : ∀ (D : Nat) (pre : List α) (B : World), w.heap.size ≤ D → pre <+: xs → Ix pre B → B.heap[D]? = some (.deferred (some [])) → Code.ret.wpIn Fence.wide n P Q { a with defers := { target := .collected D, args := #[] } :: a.defers } B) :
    (Code.rangeFunc g ps assign body).wpIn Fence.wide n P Q a w := by
  refine wpIn_rangeFunc ?_
  intro fn hfn
  show ∃ _, _
  rw [show Fence.wide.round = none from rfl]
  obtain ⟨lp, hlp⟩ : ∃ lp : LoopState → Option Code → Loop, lp = fun st pe => { state := st, pending := pe, fn, tmps := a.tmps, params := ps, assign, body, defers := w.heap.size } := ⟨_, rfl⟩
  obtain ⟨V, hV⟩ : ∃ V, (w.alloc (.deferred (some []))).alloc (.loop (lp .ready none)) = V := ⟨_, rfl⟩
  have rL : V.heap[w.heap.size + 1]? = some (.loop (lp .ready none)) := by
    have := World.alloc_heap_new (w.alloc (.deferred (some []))) (.loop (lp .ready none))
    rw [World.size_alloc, hV] at this
    exact this
  have rD : V.heap[w.heap.size]? = some (.deferred (some [])) := by
    rw [← hV]
    exact (Below.heap_alloc _ _ _ (by simp)).trans (World.alloc_heap_new w _)
  have rI : I [] V := by
    rw [← hV]
    exact hI1 _ _ _ (by simp) (hI1 _ _ _ (Nat.le_refl _) h0)
  have rB : Below w.heap.size w V := by
    rw [← hV]
    exact ((Below.refl _ w).alloc (Nat.le_refl _) _).alloc (by simp) _
  refine ⟨w.heap.size + 1, [{ target := .collected w.heap.size, args := #[] }], V, { target := .fn (.func gfn) caps, args := #[.func (.yield (w.heap.size + 1)) #[] #[]] }, V, gfn,
    #[.func (.yield (w.heap.size + 1)) #[] #[]] ++ caps, V, ?_, ?_, ?_, ?_, fun _ => h1, ?_⟩
  · rw [← hV, hlp]
    exact run_enterLoop_outer _ _ _ _ _
  · simp only [resolve, hg]
    simp [go_sem]
  · intro f' hf'
    trivial
  · simp [invoke, go_sem, eg]
  have key := hseq (w.heap.size + 1)
    (fun pre A => I pre A ∧ A.heap[w.heap.size + 1]? = some (.loop (lp .ready none)) ∧ A.heap[w.heap.size]? = some (.deferred (some [])))
    (fun pre A => Ix pre A ∧ A.heap[w.heap.size + 1]? = some (.loop (lp .done (some .ret))) ∧ A.heap[w.heap.size]? = some (.deferred (some [])))
    V rB ?_ ?_ ⟨rI, rL, rD⟩
  · refine key.mono ?_
    rintro e B ⟨⟨v, rfl⟩, (⟨hi, hl, hk⟩ | ⟨pre, hpre, hi, hl, hk⟩)⟩
    · have hr := run_endLoop (P := P) hl (by rw [hlp]; simp)
      rw [hlp] at hr
      exact ⟨none, _, hr, hdone _ _ (Nat.le_refl _) (hI2 _ _ _ _ (by omega) hi) ((World.putObj_heap_other (by omega)).trans hk)⟩
    · have hr := run_endLoop (P := P) hl (by rw [hlp]; simp)
      rw [hlp] at hr
      exact ⟨some .ret, _, hr, hstop _ pre _ (Nat.le_refl _) hpre (hX2 _ _ _ _ (by omega) hi) ((World.putObj_heap_other (by omega)).trans hk)⟩
  · rintro pre A v ⟨hi, hl, hk⟩
    refine ⟨hI3 _ _ _ hi, ?_, ?_⟩
    · rw [Below.heap_setCell _ _ _ _ (by show w.heap.size + 1 ≠ own; omega)]; exact hl
    · rw [Below.heap_setCell _ _ _ _ (by show w.heap.size ≠ own; omega)]; exact hk
  · rintro pre x A ⟨hi, hl, hk⟩ hlen
    have hlt : w.heap.size + 1 < A.heap.size := (Array.getElem?_eq_some_iff.1 hl).1
    have hy := run_yield (P := P) (args := encs x) hl (by rw [hlp]; exact hps x)
    rw [hlp] at hy
    refine ⟨fn, _, assign, body, hy, roundIn_of_wpIn hfn (hassign _ x A _ ⟨_, run_beginRound hl (by rw [hlp]), ?_⟩)⟩
    have hl2 : (A.putObj (w.heap.size + 1) (.loop { lp .ready none with state := .busy })).heap[w.heap.size + 1]? = some (.loop { lp .ready none with state := .busy }) := World.putObj_heap_same hlt
    have hk2 : (A.putObj (w.heap.size + 1) (.loop { lp .ready none with state := .busy })).heap[w.heap.size]? = some (.deferred (some [])) := (World.putObj_heap_other (by omega)).trans hk
    have hb2 : Below w.heap.size A (A.putObj (w.heap.size + 1) (.loop { lp .ready none with state := .busy })) := belowK_b (Nat.le_refl _) _ _ _ _ (by omega) hl rfl rfl
    refine wpIn_mono (hbody _ pre x _ (hI2 _ _ _ _ (by omega) hi) hlen) ?_
    have fin : ∀ (jump : Option Code) (B : World), KeepsOthers (A.putObj (w.heap.size + 1) (.loop { lp .ready none with state := .busy })) B →
        (Instr.endRound (w.heap.size + 1) jump).run P B = .ok (.bool jump.isNone) (B.putObj (w.heap.size + 1) (.loop (lp (if jump.isNone then .ready else .done) jump))) ∧
        B.heap[w.heap.size + 1]? = some (.loop { lp .ready none with state := .busy }) ∧
        (B.putObj (w.heap.size + 1) (.loop (lp (if jump.isNone then .ready else .done) jump))).heap[w.heap.size + 1]? = some (.loop (lp (if jump.isNone then .ready else .done) jump)) ∧
        (B.putObj (w.heap.size + 1) (.loop (lp (if jump.isNone then .ready else .done) jump))).heap[w.heap.size]? = some (.deferred (some [])) := fun jump B hk3 => by
      have hl3 := hk3.same _ _ hl2 rfl
      have := run_endRound (P := P) jump hl3
      rw [hlp] at this ⊢
      exact ⟨this, by rw [hlp] at hl3; exact hl3, World.putObj_heap_same (Array.getElem?_eq_some_iff.1 hl3).1, (World.putObj_heap_other (by omega)).trans (hk3.same _ _ hk2 rfl)⟩
    rintro e a3 B hp
    cases e with
    | normal =>
      obtain ⟨hk3, hb3, hi3⟩ := hp
      obtain ⟨hr, hl3, hl4, hk4⟩ := fin none B hk3
      exact ⟨_, _, hr, .inl ⟨rfl, ⟨hI2 _ _ _ _ (by omega) hi3, hl4, hk4⟩, (hb2.trans hb3).trans (belowK_b (Nat.le_refl _) _ _ _ _ (by omega) hl3 rfl rfl)⟩⟩
    | ret =>
      obtain ⟨hk3, hi3⟩ := hp
      obtain ⟨hr, hl3, hl4, hk4⟩ := fin (some .ret) B hk3
      exact ⟨_, _, hr, .inr ⟨rfl, hX2 _ _ _ _ (by omega) hi3, hl4, hk4⟩⟩
    | exit id => exact hp.elim
    | goto t => exact hp.elim
    | panic ch => exact hp.elim
    | outgrown => exact hp.elim

end Go.AE
