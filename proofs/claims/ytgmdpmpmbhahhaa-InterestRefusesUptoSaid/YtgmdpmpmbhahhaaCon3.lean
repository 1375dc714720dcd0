/-
  Contracts: the rows that are shown.
-/
import Derived.Test.YtgmdpmpmbhahhaaCon2
import Derived.Test.YtgmdpmpmbhahhaaCode1
import Derived.Test.YtgmdpmpmbhahhaaCon1

set_option linter.unusedSimpArgs false
set_option linter.unusedVariables false
set_option linter.unnecessarySimpa false

set_option maxRecDepth 20000
set_option maxHeartbeats 4000000
namespace Go.AE

theorem borFp_own2 (s : Store) (l v o n : Nat) : borFp s (.own l v o n) = [(l, s.getD l .dead)] := by first | exact (rfl) | rfl

theorem near_take {l : List SpanT} {k : Nat} (h : k < l.length) (c : Int) (i : Nat) : nearB (l.take (k + 1)) c i = (nearB (l.take k) c i || decide (l[k].fr - c ≤ i ∧ (i : Int) < l[k].to + c)) := by
  unfold nearB
  rw [List.take_succ_eq_append_getElem h, List.any_append]
  simp

theorem intV_asc (t : TableT) (all : Bool) : (intV t all).Pairwise fun s u => s.to < u.fr := List.Pairwise.filter _ (runsV_ok t).asc

def shP (l : List SpanT) (c : Int) (i : Nat) : Nat → Bool := fun j => decide (j < i) && nearB l c j
def shQ (l : List SpanT) (c : Int) (i k : Nat) : Nat → Bool := fun j => if j = i then nearB (l.take k) c j else decide (j < i) && nearB l c j

@[simp] def S_ref17_Hunks : List D → Prop × D := spec3 (α := TableT) (β := Int) (γ := Bool) (fun t _ _ => tabOk t) (fun t c dense => hunksD t c dense)
theorem ct_ref17_Hunks {P : Program} {f g1 g2 : Nat} {G : Gam} (h : CodeOf P f 3 15 [4, 5] (x_ref17_Hunks g1 g2)) (hG : GamOk P G) (h1 : G.find g1 = some S_ref17_Interesting) (h2 : G.find g2 = some S_ref17_spans) : Has P f S_ref17_Hunks := h.has3 hG fun t c dense hp => by
  by_cases ck : checkTab t = 0
  · by_cases c1 : c < 0
    · have c9 : ¬ 0 ≤ c := by omega
      simp [x_ref17_Hunks, h1, hp, intD, ck, c1, hunksD, c9]
    by_cases c2 : 1048576 < c
    · have c9 : ¬ c ≤ 1048576 := by omega
      simp [x_ref17_Hunks, h1, hp, intD, ck, c1, c2, hunksD, c9]
    have c3 : 0 ≤ c := by omega
    have c4 : c ≤ 1048576 := by omega
    have hn := hp.1
    have hil := intV_len t (!dense)
    have him := fun s h => intV_mem (t := t) (all := !dense) (s := s) h
    obtain ⟨l, hl⟩ : ∃ l, intV t (!dense) = l := ⟨_, rfl⟩
    rw [hl] at hil him
    obtain ⟨n, hnl⟩ : ∃ n, t.rows.length = n := ⟨_, rfl⟩
    rw [hnl] at hn hil him
    simp [x_ref17_Hunks, h1, hp, intD, ck, c1, c2, hunksD, c3, c4, hl, hnl]
    rw [boolC_false]
    refine ⟨⟨by unfold room; omega, by omega⟩, ?_⟩
    refine vc_lp (σ := Nat) (fun i => i ≤ n) (fun i => n - i)
      (fun i => [.any, .d (.int .i64 c), .d (.bool dense), .any, .any, .any, .d (Rep.to l), .any, .own 1 0 0 n, .d (.int .i64 i), .any, .any, .any, .any, .any])
      (fun i => [.cells 0 2 [.d (Rep.to t)], .cells 0 1 (boolC n (shP l c i))]) 0 (by simp) (by simp [show shP l c 0 = (fun _ => false) from funext fun j => by simp [shP]]) (by simp) ?_
    intro i hi
    by_cases hin : i < n
    · have w1 : IntKind.i64.wrap ((i : Int) + 1) = (i : Int) + 1 := wrap_in (by omega) (by omega)
      simp [hin]
      refine vc_lp (σ := Nat) (fun k => k ≤ l.length) (fun k => l.length - k)
        (fun k => [.any, .d (.int .i64 c), .d (.bool dense), .any, .any, .any, .d (Rep.to l), .any, .own 1 0 0 n, .d (.int .i64 i), .d (.int .i64 k), .any, .any, .any, .any])
        (fun k => [.cells 0 2 [.d (Rep.to t)], .cells 0 1 (boolC n (shQ l c i k))]) 0 (by simp) ?_ (by simp) ?_
      · have e : boolC n (shP l c i) = boolC n (shQ l c i 0) := by
          congr 1
          funext j
          unfold shP shQ
          by_cases hj : j = i
          · subst hj; simp [nearB]
          · simp [hj]
        simp [e]
      intro k hk
      by_cases hkl : k < l.length
      · have w2 : IntKind.i64.wrap ((k : Int) + 1) = (k : Int) + 1 := wrap_in (by omega) (by omega)
        obtain ⟨m1, m2, m3⟩ := him _ (List.getElem_mem hkl)
        have wa : IntKind.i64.wrap (l[k].fr - c) = l[k].fr - c := wrap_in (by omega) (by omega)
        have wb : IntKind.i64.wrap (l[k].to + c) = l[k].to + c := wrap_in (by omega) (by omega)
        have hg := boolC_get (q := shQ l c i k) hin
        rw [show shQ l c i k i = nearB (l.take k) c i by simp [shQ]] at hg
        have hnt := near_take hkl c i
        have hset : ∀ b, b = nearB (l.take (k + 1)) c i → (boolC n (shQ l c i k)).set i (.d (.bool b)) = boolC n (shQ l c i (k + 1)) := by
          rintro b rfl
          refine boolC_set fun j hj => ?_
          unfold shQ
          by_cases e : j = i
          · subst e; simp
          · simp [e]
        have hlen := boolC_len n (shQ l c i k)
        generalize boolC n (shQ l c i k) = q at *
        cases hb : nearB (l.take k) c i with
        | true =>
          rw [hb] at hg hnt
          have hg2 : ∀ (h : i < q.length), q[i]'h = A.d (.bool true) := fun h => by obtain ⟨_, h9⟩ := List.getElem?_eq_some_iff.1 hg; exact h9
          have hs := hset true (by rw [hnt]; rfl)
          simp [hkl, getD_map, hin, hlen, hg, hg2, w2, hs]
          exact Nxt.mk (k + 1) (by omega) (by simp) (by simp) (by omega)
        | false =>
          rw [hb] at hg hnt
          have hg2 : ∀ (h : i < q.length), q[i]'h = A.d (.bool false) := fun h => by obtain ⟨_, h9⟩ := List.getElem?_eq_some_iff.1 hg; exact h9
          by_cases q1 : l[k].fr - c ≤ i
          · by_cases q2 : (i : Int) < l[k].to + c
            · have hs := hset true (by rw [hnt]; simp [q1, q2])
              simp [hkl, getD_map, hin, hlen, hg, hg2, w2, wa, wb, q1, q2, hs]
              exact Nxt.mk (k + 1) (by omega) (by simp) (by simp) (by omega)
            · have hs := hset false (by rw [hnt]; simp [q2])
              simp [hkl, getD_map, hin, hlen, hg, hg2, w2, wa, wb, q1, q2, hs]
              exact Nxt.mk (k + 1) (by omega) (by simp) (by simp) (by omega)
          · have hs := hset false (by rw [hnt]; simp [q1])
            simp [hkl, getD_map, hin, hlen, hg, hg2, w2, wa, wb, q1, hs]
            exact Nxt.mk (k + 1) (by omega) (by simp) (by simp) (by omega)
      · have h9 : k = l.length := by omega
        subst h9
        have e : boolC n (shQ l c i l.length) = boolC n (shP l c (i + 1)) := by
          congr 1
          funext j
          unfold shP shQ
          by_cases hj : j = i
          · subst hj; simp
          · have : decide (j < i + 1) = decide (j < i) := by simp; omega
            rw [if_neg hj, this]
        simp [w1, e]
        exact Nxt.mk (i + 1) (by omega) (by simp) (by simp) (by omega)
    · have h9 : i = n := by omega
      subst h9
      have hh : spansB ((List.range i).map (shP l c i)) = hunksV t c (!dense) := by
        rw [spansB_of]
        unfold hunksV
        rw [hl, hnl]
        exact spV_congr i fun j hj => by simp [hj, shP]
      obtain ⟨d1, d2⟩ := boolC_all i (shP l c i)
      have hcl := boolC_len i (shP l c i)
      have hbl : ((List.range i).map (shP l c i)).length = i := by simp
      generalize (List.range i).map (shP l c i) = bl at d2 hh hbl
      generalize boolC i (shP l c i) = bc at d1 d2 hcl
      have hbn : bl.length ≤ 1048576 := by omega
      simp
      refine Hint.of (T' := [.any, .d (.int .i64 c), .d (.bool dense), .any, .any, .any, .any, .any, .d (Rep.to bl), .any, .any, .any, .any, .any, .any]) (s' := [.cells 0 2 [.d (Rep.to t)], .dead]) (Re.freeze 1 0 1 bc rfl ?_ ⟨rfl, ?_⟩ rfl) ?_
      · have hf := Fz.own 1 0 1 0 i bc (by rw [List.drop_zero, List.take_of_length_le (by omega)]; exact d1)
        rw [List.drop_zero, List.take_of_length_le (by omega), d2] at hf
        simp
        simpa using hf
      · intro k hk h0
        simp at hk
        obtain rfl : k = 0 := by omega
        exact .inl rfl
      · simp [h2, hbn, hh]
  · simp [x_ref17_Hunks, h1, hp, intD, ck, hunksD]

theorem near_step {t : TableT} {all : Bool} {c : Int} {k : Nat} (hk : k < (intV t all).length) (hc : 0 ≤ c) {e : Int} (he : e = if k = 0 then 0 else min (((intV t all).getD (k - 1) default).to + c) t.rows.length) {x : Nat} (hx : x < t.rows.length) :
    nearB ((intV t all).take (k + 1)) c x = (nearB ((intV t all).take k) c x || decide (max ((intV t all)[k].fr - c) e ≤ x ∧ (x : Int) < min ((intV t all)[k].to + c) t.rows.length)) := by
  rw [near_take hk]
  by_cases h1 : (intV t all)[k].fr - c ≤ x ∧ (x : Int) < (intV t all)[k].to + c
  · by_cases h2 : e ≤ (x : Int)
    · have : decide (max ((intV t all)[k].fr - c) e ≤ x ∧ (x : Int) < min ((intV t all)[k].to + c) t.rows.length) = true := by simp; omega
      rw [this]
      simp [h1]
    · have hk0 : k ≠ 0 := by rintro rfl; simp at he; omega
      rw [if_neg hk0] at he
      have hk1 : k - 1 < (intV t all).length := by omega
      have hg : (intV t all).getD (k - 1) default = (intV t all)[k - 1] := by simp [List.getD, hk1]
      rw [hg] at he
      have hasc := List.pairwise_iff_getElem.1 (intV_asc t all) (k - 1) k hk1 hk (by omega)
      have hm := intV_mem (List.getElem_mem hk1)
      have : nearB ((intV t all).take k) c x = true := by
        unfold nearB
        rw [List.any_eq_true]
        refine ⟨(intV t all)[k - 1], List.mem_take_iff_getElem.2 ⟨k - 1, by omega, rfl⟩, ?_⟩
        simp
        omega
      simp [this]
  · have h3 : decide ((intV t all)[k].fr - c ≤ x ∧ (x : Int) < (intV t all)[k].to + c) = false := by simpa using h1
    have h4 : decide (max ((intV t all)[k].fr - c) e ≤ x ∧ (x : Int) < min ((intV t all)[k].to + c) t.rows.length) = false := by
      rw [decide_eq_false_iff_not]
      omega
    rw [h3, h4]

def hQ (l : List SpanT) (c : Int) (k : Nat) (a j : Int) : Nat → Bool := fun x => nearB (l.take k) c x || decide (a ≤ x ∧ (x : Int) < j)

theorem boolC_congr {n : Nat} {q r : Nat → Bool} (h : ∀ x, x < n → q x = r x) : boolC n q = boolC n r := by
  unfold boolC
  exact List.map_congr_left fun x hx => by rw [h x (by simpa using hx)]

def eV (l : List SpanT) (c : Int) (n k : Nat) : Int := if k = 0 then 0 else min ((l.getD (k - 1) default).to + c) n

@[simp] def S_interest_Hunks : List D → Prop × D := spec3 (α := TableT) (β := Int) (γ := Bool) (fun t _ _ => tabOk t) (fun t c dense => hunksD t c dense)
theorem ct_interest_Hunks {P : Program} {f g1 g2 g3 g4 g5 : Nat} {G : Gam} (h : CodeOf P f 3 19 [4, 5] (x_interest_Hunks g1 g2 g3 g4)) (hG : GamOk P G) (h1 : G.find g1 = some S_weave_Check) (h2 : G.find g2 = some S_interest_interesting) (h3 : G.findR g3 = some (R_interest_spans g5 g4)) (hne : decide (g4 = g5) = false) : Has P f S_interest_Hunks := h.has3 hG fun t c dense hp => by
  have hne : g4 ≠ g5 := of_decide_eq_false hne
  by_cases ck : checkTab t = 0
  · by_cases c1 : c < 0
    · have c9 : ¬ 0 ≤ c := by omega
      simp [x_interest_Hunks, h1, hp, ck, c1, hunksD, c9]
    by_cases c2 : 1048576 < c
    · have c9 : ¬ c ≤ 1048576 := by omega
      simp [x_interest_Hunks, h1, hp, ck, c1, c2, hunksD, c9]
    have c3 : 0 ≤ c := by omega
    have c4 : c ≤ 1048576 := by omega
    have hgood := tabGood_of hp ck
    have hn := hp.1
    have hil := intV_len t (!dense)
    have him := fun s h => intV_mem (t := t) (all := !dense) (s := s) h
    have hstep := fun k hk e he x hx => near_step (t := t) (all := !dense) (c := c) (k := k) hk c3 (e := e) he (x := x) hx
    have hhv : hunksV t c (!dense) = spV (nearB (intV t (!dense)) c) t.rows.length := rfl
    generalize hl : intV t (!dense) = l at hil him hstep hhv
    generalize hnl : t.rows.length = n at hn hil him hstep hhv
    simp [x_interest_Hunks, h1, h2, hp, hgood, ck, c1, c2, hunksD, c3, c4, hl, hnl]
    rw [boolC_false]
    refine ⟨⟨by unfold room; omega, by omega⟩, ?_⟩
    refine vc_lp (σ := Nat) (fun k => k ≤ l.length) (fun k => l.length - k)
      (fun k => [.any, .d (.int .i64 c), .any, .any, .any, .any, .any, .ref 2 0 0 0, .d (.int .i64 (eV l c n k)), .any, .any, .any, .any, .any, .d (Rep.to l), .d (.int .i64 l.length), .d (.int .i64 k), .any, .any])
      (fun k => [.cells 0 2 [.d (Rep.to t)], .cells 0 1 (boolC n (nearB (l.take k) c)), .cells 0 1 [.own 1 0 0 n]]) 0 (by simp [eV]) ?_ (by simp) ?_
    · have e : (boolC n fun _ => false) = boolC n (nearB (l.take 0) c) := boolC_congr fun x _ => by simp [nearB]
      simp only [to_Table, SbS_cons, SbO_refl, true_and, SbS_nil, and_true]
      rw [e]
      simp
    intro k hk
    by_cases hkl : k < l.length
    · have w1 : IntKind.i64.wrap ((k : Int) + 1) = (k : Int) + 1 := wrap_in (by omega) (by omega)
      obtain ⟨m1, m2, m3⟩ := him _ (List.getElem_mem hkl)
      have wa : IntKind.i64.wrap (l[k].fr - c) = l[k].fr - c := wrap_in (by omega) (by omega)
      have wb : IntKind.i64.wrap (l[k].to + c) = l[k].to + c := wrap_in (by omega) (by omega)
      have e0 : 0 ≤ eV l c n k := by
        unfold eV
        split
        · omega
        · have hk1 : k - 1 < l.length := by omega
          have hg : l.getD (k - 1) default = l[k - 1] := by simp [List.getD, hk1]
          have := him _ (List.getElem_mem hk1)
          rw [hg]
          omega
      have e1 : eV l c n (k + 1) = min (l[k].to + c) n := by
        unfold eV
        rw [if_neg (by omega)]
        simp [List.getD, hkl]
      have hns := fun x hx => hstep k hkl (eV l c n k) rfl x hx
      obtain ⟨a, ha⟩ : ∃ a : Nat, max (l[k].fr - c) (eV l c n k) = a := ⟨(max (l[k].fr - c) (eV l c n k)).toNat, by omega⟩
      obtain ⟨b, hb⟩ : ∃ b : Nat, min (l[k].to + c) (n : Int) = b := ⟨(min (l[k].to + c) (n : Int)).toNat, by omega⟩
      rw [ha, hb] at hns
      have hbn : b ≤ n := by omega
      have hln := boolC_len n (nearB (l.take k) c)
      simp [hkl, getD_map, wa, wb, ha, hb]
      refine vc_lp (σ := Nat) (fun j => a ≤ j ∧ (j ≤ b ∨ j = a)) (fun j => b - j)
        (fun j => [.any, .d (.int .i64 c), .any, .any, .any, .any, .any, .ref 2 0 0 0, .d (.int .i64 b), .any, .any, .d (.int .i64 j), .any, .any, .d (Rep.to l), .d (.int .i64 l.length), .d (.int .i64 k), .any, .any])
        (fun j => [.cells 0 2 [.d (Rep.to t)], .cells 0 1 (boolC n (hQ l c k a j)), .cells 0 1 [.own 1 0 0 n]]) a (by simp) ?_ (by simp) ?_ (hc := .inr ⟨by simp, by simpa using boolC_under n 3 (hQ l c k a a)⟩)
      · have e : boolC n (nearB (l.take k) c) = boolC n (hQ l c k a a) := boolC_congr fun x _ => by
          unfold hQ
          have : decide ((a : Int) ≤ x ∧ (x : Int) < a) = false := by rw [decide_eq_false_iff_not]; omega
          rw [this, Bool.or_false]
        rw [e]
        simp
      rintro j ⟨j1, j2⟩
      have hlen := boolC_len n (hQ l c k a j)
      by_cases hj : j < b
      · have w2 : IntKind.i64.wrap ((j : Int) + 1) = (j : Int) + 1 := wrap_in (by omega) (by omega)
        have hjn : j < n := by omega
        have hset : (boolC n (hQ l c k a j)).set j (.d (.bool true)) = boolC n (hQ l c k a ((j + 1 : Nat) : Int)) := boolC_set fun x hx => by
          unfold hQ
          by_cases e : x = j
          · subst e
            have : decide ((a : Int) ≤ x ∧ (x : Int) < ((x + 1 : Nat) : Int)) = true := by simp; omega
            rw [this]
            simp
          · have : decide ((a : Int) ≤ x ∧ (x : Int) < ((j + 1 : Nat) : Int)) = decide ((a : Int) ≤ x ∧ (x : Int) < j) := by
              rw [decide_eq_decide]
              omega
            rw [this, if_neg e]
        simp [hj, hjn, hlen, w2, hset]
        exact Nxt.mk (j + 1) (by omega) (by simp) (by simp) ⟨by omega, by omega⟩
      · have e : boolC n (hQ l c k a j) = boolC n (nearB (l.take (k + 1)) c) := boolC_congr fun x hx => by
          rw [hns x hx]
          unfold hQ
          congr 1
          rw [decide_eq_decide]
          omega
        simp [hj, w1, e]
        exact Nxt.mk (k + 1) (by omega) (by simp [e1, hb]) (by simp) (by omega)
    · have h9 : k = l.length := by omega
      subst h9
      obtain ⟨d1, d2⟩ := boolC_all n (nearB l c)
      have hcl := boolC_len n (nearB l c)
      have hbl : ((List.range n).map (nearB l c)).length = n := by simp
      have hh : spansB ((List.range n).map (nearB l c)) = hunksV t c (!dense) := by rw [spansB_of, hhv]
      have htk : l.take l.length = l := List.take_length
      rw [htk]
      generalize (List.range n).map (nearB l c) = bl at d2 hh hbl
      generalize boolC n (nearB l c) = bc at d1 d2 hcl ⊢
      have hbn : bl.length ≤ 1048576 := by omega
      simp
      refine Hint.of (T' := [.any, .d (.int .i64 c), .any, .any, .any, .any, .any, .ref 2 0 0 0, .any, .any, .any, .any, .any, .any, .any, .any, .any, .any, .any]) (s' := [.cells 0 2 [.d (Rep.to t)], .dead, .cells 0 1 [.d (Rep.to bl)]]) (Re.freeze 1 0 1 bc rfl ?_ ⟨rfl, ?_⟩ rfl) ?_
      · simp
      · have hf := Fz.own 1 0 1 0 n bc (by rw [List.drop_zero, List.take_of_length_le (by omega)]; exact d1)
        rw [List.drop_zero, List.take_of_length_le (by omega), d2] at hf
        intro k hk h0
        simp at hk
        match k, hk, h0 with
        | 0, _, _ => exact .inl rfl
        | 2, _, _ => exact .inr ⟨0, 1, _, _, rfl, rfl, rfl, fun i hi => by
            simp at hi
            subst hi
            exact ⟨rfl, hf, trivial⟩⟩
      · have hsp : ∀ (tb : TableT) (v : Nat), spV (spansP ⟨bl.length, false, tb, bl, v⟩) bl.length = hunksV t c (!dense) := fun _ _ => hh
        simp [h3, eRCall, hne, spansL, hbn, hsp]
  · simp [x_interest_Hunks, h1, hp, ck, hunksD]

end Go.AE

set_option maxRecDepth 20000
set_option maxHeartbeats 4000000
namespace Go.AE

@[simp] def S_gen_Spans : List D → Prop × D := spec2 (α := List SpanT) (β := List SpanT) (fun a _ => a.length ≤ 9223372036854775807) (fun a b => Rep.to (decide (a = b)))

theorem span_ext {a b : SpanT} : a = b ↔ a.fr = b.fr ∧ a.to = b.to := by
  constructor
  · rintro rfl; exact ⟨rfl, rfl⟩
  · rintro ⟨h1, h2⟩
    cases a; cases b
    simp_all

theorem ct_gen_Spans {P : Program} {f : Nat} {G : Gam} (h : CodeOf P f 2 7 [2] x_gen_Spans) (hG : GamOk P G) : Has P f S_gen_Spans := h.has2 hG fun a b h => by
  simp [x_gen_Spans]
  refine ⟨fun h1 h2 => h1 (by rw [h2]), fun h1 => ?_⟩
  have h1 : a.length = b.length := by omega
  refine vc_ghost (σ := Nat) [true, true, false, true] 0 (fun i => i ≤ a.length ∧ ∀ k (h : k < a.length) (h2 : k < b.length), k < i → a[k] = b[k]) (fun i => a.length - i) (fun i => [.d (Rep.to a), .d (Rep.to b), .any, .d (.int .i64 i), .any, .any, .any]) (fun _ => []) 0 (Nat.le_refl _) (by simp) (by simp) ?_
  rintro i ⟨hm, hi⟩
  simp
  refine ⟨fun h2 => ?_, fun h2 => ?_⟩
  · have h3 : i < b.length := by omega
    have key : a[i] = b[i] ↔ a[i].fr = b[i].fr ∧ a[i].to = b[i].to := span_ext
    simp [getD_map, h2, h3, add1 h2 h, pairsOk, eSeq, cellsEq, cellEq]
    refine ⟨fun h4 h5 => ?_, fun q1 q2 => ⟨i + 1, by omega, by simp, by omega, fun k k1 k2 k3 => ?_⟩⟩
    · have := key.1 (by simp only [h5])
      omega
    · rcases Nat.lt_or_ge k i with k4 | k4
      · exact hi k k1 k2 k4
      · have : k = i := by omega
        subst this
        exact key.2 ⟨q1, q2⟩
  · exact List.ext_getElem h1 fun k k1 k2 => hi k k1 k2 (by omega)

theorem aw17a : checkTab ⟨2, [⟨false, 0, [97, 10]⟩, ⟨true, 1, [98, 10]⟩, ⟨false, 1, [99, 10]⟩]⟩ = 0 := by decide
theorem aw17b : runsV ⟨2, [⟨false, 0, [97, 10]⟩, ⟨true, 1, [98, 10]⟩, ⟨false, 1, [99, 10]⟩]⟩ = [⟨1, 3⟩] := by decide
theorem aw17c : intV ⟨2, [⟨false, 0, [97, 10]⟩, ⟨true, 1, [98, 10]⟩, ⟨false, 1, [99, 10]⟩]⟩ false = [] := by decide

@[simp] def S_law17_awake : List D → Prop × D := spec0 True (.bool true)

theorem ct_law17_awake {P : Program} {f g1 g2 g3 : Nat} {G : Gam} (h : CodeOf P f 0 6 [0] (x_law17_awake g1 g2 g3)) (hG : GamOk P G) (h1 : G.find g1 = some S_interest_Runs) (h2 : G.find g2 = some S_interest_Interesting) (h3 : G.find g3 = some S_gen_Spans) : Has P f S_law17_awake := h.has0 hG fun _ => by
  have hok : tabOk ⟨2, [⟨false, 0, [97, 10]⟩, ⟨true, 1, [98, 10]⟩, ⟨false, 1, [99, 10]⟩]⟩ := by
    refine ⟨by simp, ?_, by decide⟩
    intro r hr
    simp at hr
    rcases hr with rfl | rfl | rfl <;> simp [rowOk]
  have e1 : ofAll (Rep.of (α := RowT)) [.agg [.bool false, .int .u32 0, .str [97, 10]], .agg [.bool true, .int .u32 1, .str [98, 10]], .agg [.bool false, .int .u32 1, .str [99, 10]]] = some [⟨false, 0, [97, 10]⟩, ⟨true, 1, [98, 10]⟩, ⟨false, 1, [99, 10]⟩] := rfl
  simp [x_law17_awake, h1, h2, h3, hok, aw17a, aw17b, aw17c, intD]

@[simp] def S_law17_InterestRefuses : List D → Prop × D := spec3 (α := TableT) (β := Int) (γ := Bool) (fun t _ _ => tabOk t) (fun _ _ _ => .bool true)

theorem ct_law17_InterestRefuses {P : Program} {f g1 g2 g3 g4 g5 : Nat} {G : Gam} (h : CodeOf P f 3 12 [4] (x_law17_InterestRefuses g1 g2 g3 g4 g5)) (hG : GamOk P G) (h1 : G.find g1 = some S_law17_awake) (h2 : G.find g2 = some S_ref16_Check) (h3 : G.find g3 = some S_interest_Runs) (h4 : G.find g4 = some S_interest_Interesting) (h5 : G.find g5 = some S_interest_Hunks) : Has P f S_law17_InterestRefuses := h.has3 hG fun t c dense hp => by
  by_cases hl : 12 < (t.rows.length : Int)
  · simp [x_law17_InterestRefuses, h1, hl]
  · by_cases ck : checkTab t = 0
    · simp [x_law17_InterestRefuses, h1, h2, hl, hp, ck]
    · simp [x_law17_InterestRefuses, h1, h2, h3, h4, h5, hl, hp, ck, intD, hunksD]

theorem flen_bulk : ∀ l : List Str, flen l + l.length ≤ Arg.bulk l
  | [] => by simp [flen]
  | x :: r => by
    have ih := flen_bulk r
    have e : Arg.bulk (x :: r) = (x.length + 1) + Arg.bulk r := by
      simp [Arg.bulk]
      omega
    rw [e]
    unfold flen at *
    rw [List.flatten_cons, List.length_append, List.length_cons]
    omega

theorem law17_InterestRefuses_pre (t : TableT) (c : Int) (d : Bool) (h1 : Arg.wf t) (_ : Arg.wf c) (_ : Arg.wf d) (h : Arg.bulk t + (Arg.bulk c + (Arg.bulk d + 0)) ≤ 1048576) : tabOk t := by
  have e : Arg.bulk t.rows ≤ Arg.bulk t := by
    show Arg.bulk t.rows ≤ _ + Arg.bulk t.rows + _
    omega
  have hr : ∀ rows : List RowT, flen (rows.map RowT.text) + rows.length ≤ Arg.bulk rows := by
    intro rows
    induction rows with
    | nil => simp [flen]
    | cons x r ih =>
      have e2 : Arg.bulk (x :: r) = (1 + 1 + (x.text.length + 1) + 1) + Arg.bulk r := by
        simp [Arg.bulk]
        omega
      rw [e2]
      unfold flen at *
      rw [List.map_cons, List.flatten_cons, List.length_append, List.length_cons]
      omega
  have := hr t.rows
  refine ⟨by omega, fun r hr => ?_, by omega⟩
  have h2 : Arg.wf t.rows := h1.2
  have h3 := h2 r hr
  have h4 : 0 ≤ r.marks ∧ r.marks ≤ 4294967295 := h3.2.1
  exact ⟨h4.1, by omega⟩

end Go.AE
