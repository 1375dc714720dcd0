/-
  Commits in an order in which each one comes before its parents, plainly.
-/
import Derived.Test.YtjibgbmilpdanaaDoorAe3
import Derived.Test.YtjibgbmilpdanaaDoorCode1
import Derived.Lib.Bytealg
import Derived.Lib.IndexLaws
import Derived.Lib.Join
import Derived.Lib.Split
import Derived.Lib.SplitLaws
import Derived.Lib.Strings

set_option linter.unusedSimpArgs false
set_option linter.unusedVariables false
set_option linter.unnecessarySimpa false

set_option maxRecDepth 20000
set_option maxHeartbeats 1000000
namespace Go.AE

/-- a sum over the numbers below n -/
def sumN (f : Nat → Nat) (n : Nat) : Nat := ((List.range n).map f).sum
theorem sumN_succ (f : Nat → Nat) (n : Nat) : sumN f (n + 1) = sumN f n + f n := by simp [sumN, List.range_succ]
theorem sumN_congr {f g : Nat → Nat} : ∀ n, (∀ c, c < n → f c = g c) → sumN f n = sumN g n
  | 0, _ => rfl
  | n + 1, h => by rw [sumN_succ, sumN_succ, sumN_congr n fun c hc => h c (by omega), h n (by omega)]
theorem sumN_step {f g : Nat → Nat} {c0 : Nat} {x : Nat} : ∀ n, c0 < n → f c0 = g c0 + x → (∀ c, c < n → c ≠ c0 → f c = g c) → sumN f n = sumN g n + x
  | 0, h, _, _ => by omega
  | n + 1, h, h1, h2 => by
    rw [sumN_succ, sumN_succ]
    by_cases e : c0 = n
    · subst e
      rw [sumN_congr c0 fun c hc => h2 c (by omega) (by omega), h1]
      omega
    · rw [sumN_step n (by omega) h1 fun c hc hne => h2 c (by omega) hne, h2 n (by omega) (by omega)]
      omega
theorem sumN_zero {f : Nat → Nat} : ∀ n, sumN f n = 0 ↔ ∀ c, c < n → f c = 0
  | 0 => by simp [sumN]
  | n + 1 => by
    rw [sumN_succ, Nat.add_eq_zero_iff, sumN_zero n]
    constructor
    · rintro ⟨h1, h2⟩ c hc
      by_cases e : c = n
      · subst e; exact h2
      · exact h1 c (by omega)
    · intro h
      exact ⟨fun c hc => h c (by omega), h n (by omega)⟩

/-- the parents of commit c -/
def parV (g : List (List Int)) (c : Nat) : List Int := g.getD c []
/-- how often i is a parent of commits, the first d c parents of commit c left out -/
def remV (g : List (List Int)) (d : Nat → Nat) (i : Int) : Nat := sumN (fun c => ((parV g c).drop (d c)).count i) g.length

structure DagOk (g : List (List Int)) : Prop where
  rng : ∀ c, c < g.length → ∀ p, p ∈ parV g c → 0 ≤ p ∧ p < g.length

/-- how many parents of a commit have been seen: k commits of the list, and j parents of the next one -/
def seenV (g : List (List Int)) (out : List Int) (k j c : Nat) : Nat := if (c : Int) ∈ out.take k then (parV g c).length else if out[k]? = some (c : Int) then j else 0

structure UpInv (g : List (List Int)) (cnt : List Int) (out : List Int) (k j : Nat) : Prop where
  len : cnt.length = g.length
  nd : out.Nodup
  rng : ∀ i, i ∈ out → 0 ≤ i ∧ i < g.length
  cv : ∀ i : Nat, i < g.length → cnt.getD i 0 = remV g (seenV g out k j) i
  zero : ∀ i : Nat, i < g.length → ((i : Int) ∈ out ↔ remV g (seenV g out k j) i = 0)
  ord : ∀ a, (h : a < out.length) → ∀ c : Nat, c < g.length → out[a] ∈ parV g c → ∃ b, b < a ∧ b < k + 1 ∧ out[b]? = some (c : Int)

theorem count_drop_succ {l : List Int} {j : Nat} (h : j < l.length) (i : Int) : (l.drop j).count i = (l.drop (j + 1)).count i + (if l[j] = i then 1 else 0) := by
  rw [List.drop_eq_getElem_cons h, List.count_cons]
  simp

theorem take_fresh {out : List Int} {k : Nat} (hk : k < out.length) (hn : out.Nodup) : out[k] ∉ out.take k := by
  intro h
  obtain ⟨a, ha, e⟩ := List.mem_take_iff_getElem.1 h
  have := (List.nodup_iff_pairwise_ne.1 hn)
  have h2 := List.pairwise_iff_getElem.1 this a k (by omega) hk (by omega)
  exact h2 e

/-- a parent more has been seen -/
theorem remV_step {g : List (List Int)} {out out' : List Int} {k j : Nat} {c : Nat} (hk : out[k]? = some (c : Int)) (hk' : out'[k]? = some (c : Int)) (htk : out'.take k = out.take k) (hc : c < g.length) (hnm : (c : Int) ∉ out.take k) (hj : j < (parV g c).length) (i : Int) :
    remV g (seenV g out k j) i = remV g (seenV g out' k (j + 1)) i + (if (parV g c)[j] = i then 1 else 0) := by
  unfold remV
  refine sumN_step (c0 := c) _ hc ?_ fun c' hc' hne => ?_
  · have e1 : seenV g out k j c = j := by unfold seenV; rw [if_neg hnm, if_pos hk]
    have e2 : seenV g out' k (j + 1) c = j + 1 := by unfold seenV; rw [htk, if_neg hnm, if_pos hk']
    rw [e1, e2]
    exact count_drop_succ hj i
  · have e : seenV g out k j c' = seenV g out' k (j + 1) c' := by
      unfold seenV
      rw [htk, hk, hk']
      have : ¬ (some (c : Int) = some (c' : Int)) := by simp; omega
      rw [if_neg this, if_neg this]
    rw [e]

theorem remV_zero {g : List (List Int)} {d : Nat → Nat} {i : Int} : remV g d i = 0 ↔ ∀ c, c < g.length → i ∉ (parV g c).drop (d c) := by
  unfold remV
  rw [sumN_zero]
  constructor
  · intro h c hc
    exact List.count_eq_zero.1 (h c hc)
  · intro h c hc
    exact List.count_eq_zero.2 (h c hc)

/-- one parent more: the count is lowered; at zero the parent is listed -/
theorem UpInv.step {g : List (List Int)} {cnt out : List Int} {k j : Nat} (h : UpInv g cnt out k j) (hg : DagOk g) {c : Nat} (hk : out[k]? = some (c : Int)) (hj : j < (parV g c).length) {p : Nat} (hp : (parV g c)[j] = (p : Int)) :
    p < g.length ∧ 1 ≤ cnt.getD p 0 ∧ (cnt.getD p 0 - 1 = 0 → UpInv g (cnt.set p (cnt.getD p 0 - 1)) (out ++ [(p : Int)]) k (j + 1)) ∧ (cnt.getD p 0 - 1 ≠ 0 → UpInv g (cnt.set p (cnt.getD p 0 - 1)) out k (j + 1)) := by
  have hkl : k < out.length := by
    rcases Nat.lt_or_ge k out.length with h' | h'
    · exact h'
    · rw [List.getElem?_eq_none (by omega)] at hk; cases hk
  have hck : out[k] = (c : Int) := by rw [List.getElem?_eq_getElem hkl] at hk; exact Option.some.inj hk
  have hcm : (c : Int) ∈ out := hck ▸ List.getElem_mem hkl
  have hc : c < g.length := by have := h.rng _ hcm; omega
  have hnm : (c : Int) ∉ out.take k := hck ▸ take_fresh hkl h.nd
  have hpm : (p : Int) ∈ parV g c := hp ▸ List.getElem_mem hj
  have hpl : p < g.length := by have := hg.rng c hc _ hpm; omega
  have hst : ∀ out' : List Int, out'[k]? = some (c : Int) → out'.take k = out.take k → ∀ i : Int, remV g (seenV g out k j) i = remV g (seenV g out' k (j + 1)) i + (if (parV g c)[j] = i then 1 else 0) := fun out' h1 h2 i => remV_step hk h1 h2 hc hnm hj i
  have hcp := h.cv p hpl
  have hsame := hst out hk rfl
  have hp1 : remV g (seenV g out k j) p = remV g (seenV g out k (j + 1)) p + 1 := by rw [hsame p, if_pos hp]
  have hoth : ∀ i : Nat, i ≠ p → remV g (seenV g out k j) i = remV g (seenV g out k (j + 1)) i := fun i hi => by
    rw [hsame i, if_neg (by rw [hp]; omega)]
    rfl
  have hpn : (p : Int) ∉ out := fun hm => by
    have := (h.zero p hpl).1 hm
    omega
  have hcv : ∀ i : Nat, i < g.length → (cnt.set p (cnt.getD p 0 - 1)).getD i 0 = remV g (seenV g out k (j + 1)) i := fun i hi => by
    by_cases e : i = p
    · subst e
      have hlc : i < cnt.length := by rw [h.len]; exact hi
      rw [List.getD, List.getElem?_set_self hlc]
      simp only [Option.getD_some]
      omega
    · rw [List.getD, List.getElem?_set_ne (by omega), ← List.getD, h.cv i hi, hoth i e]
  refine ⟨hpl, by omega, fun hz => ?_, fun hz => ?_⟩
  · have hapk : (out ++ [(p : Int)])[k]? = some (c : Int) := by rw [List.getElem?_append_left hkl]; exact hk
    have hapt : (out ++ [(p : Int)]).take k = out.take k := List.take_append_of_le_length (by omega)
    have hse : seenV g (out ++ [(p : Int)]) k (j + 1) = seenV g out k (j + 1) := by
      funext c'
      unfold seenV
      rw [hapt, hapk, hk]
    have hrz : remV g (seenV g out k (j + 1)) p = 0 := by omega
    refine ⟨by simp [h.len], ?_, ?_, fun i hi => ?_, fun i hi => ?_, ?_⟩
    · rw [List.nodup_append]
      refine ⟨h.nd, by simp, ?_⟩
      intro a ha b hb e
      simp at hb
      subst hb
      subst e
      exact hpn ha
    · intro i hi
      rcases List.mem_append.1 hi with hi | hi
      · exact h.rng i hi
      · simp at hi
        subst hi
        omega
    · rw [hse]
      exact hcv i hi
    · rw [hse, List.mem_append, h.zero i hi]
      by_cases e : i = p
      · subst e
        simp [hrz]
      · rw [hoth i e]
        simp
        omega
    · intro a ha c' hc' hm
      rcases Nat.lt_or_ge a out.length with h1 | h1
      · rw [List.getElem_append_left h1] at hm
        obtain ⟨b, b1, b2, b3⟩ := h.ord a h1 c' hc' hm
        exact ⟨b, b1, b2, by rw [List.getElem?_append_left (by omega)]; exact b3⟩
      · have ha' : a = out.length := by simp at ha; omega
        subst ha'
        simp at hm
        have h0 := (remV_zero.1 hrz) c' hc'
        have hs0 : seenV g out k (j + 1) c' ≠ 0 := fun e => by
          rw [e] at h0
          exact h0 (by simpa using hm)
        unfold seenV at hs0
        split at hs0
        · rename_i h7
          obtain ⟨b, hb, e⟩ := List.mem_take_iff_getElem.1 h7
          exact ⟨b, by omega, by omega, by rw [List.getElem?_append_left (by omega), List.getElem?_eq_getElem (by omega), e]⟩
        · split at hs0
          · rename_i h7
            exact ⟨k, hkl, by omega, by rw [List.getElem?_append_left hkl]; exact h7⟩
          · exact absurd rfl hs0
  · refine ⟨by simp [h.len], h.nd, h.rng, hcv, fun i hi => ?_, fun a ha c' hc' hm => h.ord a ha c' hc' hm⟩
    rw [h.zero i hi]
    by_cases e : i = p
    · subst e
      omega
    · rw [hoth i e]

/-- the next commit -/
theorem UpInv.next {g : List (List Int)} {cnt out : List Int} {k j : Nat} (h : UpInv g cnt out k j) {c : Nat} (hk : out[k]? = some (c : Int)) (hj : (parV g c).length ≤ j) : UpInv g cnt out (k + 1) 0 := by
  have hkl : k < out.length := by
    rcases Nat.lt_or_ge k out.length with h' | h'
    · exact h'
    · rw [List.getElem?_eq_none (by omega)] at hk; cases hk
  have hck : out[k] = (c : Int) := by rw [List.getElem?_eq_getElem hkl] at hk; exact Option.some.inj hk
  have hr : ∀ i : Int, remV g (seenV g out (k + 1) 0) i = remV g (seenV g out k j) i := fun i => by
    unfold remV
    refine sumN_congr _ fun c' _ => ?_
    unfold seenV
    rw [List.take_succ_eq_append_getElem hkl, hck, hk]
    by_cases e : c' = c
    · subst e
      rw [if_pos (by simp)]
      split
      · rfl
      · rw [if_pos rfl, List.drop_eq_nil_of_le hj, List.drop_eq_nil_of_le (Nat.le_refl _)]
    · have e2 : ((c' : Int) ∈ out.take k ++ [(c : Int)]) = ((c' : Int) ∈ out.take k) := by
        rw [eq_iff_iff, List.mem_append]
        simp
        omega
      simp only [e2]
      split
      · rfl
      · have : ¬ (some (c : Int) = some (c' : Int)) := by simp; omega
        rw [if_neg this]
        split <;> rfl
  exact ⟨h.len, h.nd, h.rng, fun i hi => by rw [hr]; exact h.cv i hi, fun i hi => by rw [hr]; exact h.zero i hi, fun a ha c' hc' hm => by
    obtain ⟨b, b1, b2, b3⟩ := h.ord a ha c' hc' hm
    exact ⟨b, b1, by omega, b3⟩⟩

/-- a list without repetition of numbers below n is not longer than n -/
theorem nodup_le : ∀ (n : Nat) (l : List Int), l.Nodup → (∀ i, i ∈ l → 0 ≤ i ∧ i < (n : Int)) → l.length ≤ n
  | 0, l, _, h => by
    cases l with
    | nil => simp
    | cons x l => have := h x (by simp); omega
  | n + 1, l, hn, h => by
    have h1 : (l.filter fun i => decide (i ≠ (n : Int))).length ≤ n := nodup_le n _ (hn.filter _) fun i hi => by
      obtain ⟨h2, h3⟩ := List.mem_filter.1 hi
      have := h i h2
      simp at h3
      omega
    have h4 : l.length ≤ (l.filter fun i => decide (i ≠ (n : Int))).length + 1 := by
      have key : ∀ l : List Int, l.Nodup → l.length ≤ (l.filter fun i => decide (i ≠ (n : Int))).length + 1 := by
        intro l
        induction l with
        | nil => simp
        | cons x l ih =>
          intro hn
          obtain ⟨h5, h6⟩ := List.nodup_cons.1 hn
          by_cases e : x = (n : Int)
          · subst e
            have : l.filter (fun i => decide (i ≠ (n : Int))) = l := List.filter_eq_self.2 fun y hy => by
              simp
              rintro rfl
              exact h5 hy
            rw [List.filter_cons, if_neg (by simp), this]
            simp
          · have := ih h6
            rw [List.filter_cons, if_pos (by simp [e])]
            simp only [List.length_cons]
            omega
      exact key l hn
    omega

theorem UpInv.le {g : List (List Int)} {cnt out : List Int} {k j : Nat} (h : UpInv g cnt out k j) : out.length ≤ g.length := nodup_le _ _ h.nd h.rng

end Go.AE

set_option maxRecDepth 20000
set_option maxHeartbeats 1000000
namespace Go.AE

/-- a parent's count is lowered; at zero it is listed -/
def decP (st : List Int × List Int) (p : Int) : List Int × List Int :=
  (st.1.set p.toNat (st.1.getD p.toNat 0 - 1), if st.1.getD p.toNat 0 - 1 = 0 then st.2 ++ [p] else st.2)

def upGo (g : List (List Int)) : Nat → List Int × List Int → Nat → List Int × List Int
  | 0, st, _ => st
  | f + 1, st, k => match st.2[k]? with
    | none => st
    | some c => upGo g f ((parV g c.toNat).foldl decP st) (k + 1)

def cnt0 (g : List (List Int)) : List Int := (List.range g.length).map fun (i : Nat) => ((remV g (fun _ => 0) (i : Int) : Nat) : Int)
def out0 (g : List (List Int)) (n : Nat) : List Int := ((List.range n).filter fun (i : Nat) => decide (remV g (fun _ => 0) (i : Int) = 0)).map fun (i : Nat) => (i : Int)
def upV (g : List (List Int)) : List Int := (upGo g (g.length + 1) (cnt0 g, out0 g g.length) 0).2

theorem out0_mem {g : List (List Int)} {n : Nat} (i : Nat) : (i : Int) ∈ out0 g n ↔ i < n ∧ remV g (fun _ => 0) i = 0 := by
  unfold out0
  rw [List.mem_map]
  constructor
  · rintro ⟨j, hj, e⟩
    have : j = i := by omega
    subst this
    simpa using List.mem_filter.1 hj
  · rintro ⟨h1, h2⟩
    exact ⟨i, List.mem_filter.2 ⟨by simpa using h1, by simpa using h2⟩, rfl⟩

theorem out0_inv (g : List (List Int)) : UpInv g (cnt0 g) (out0 g g.length) 0 0 := by
  have hs : seenV g (out0 g g.length) 0 0 = fun _ => 0 := by
    funext c
    unfold seenV
    simp
  refine ⟨by simp [cnt0], ?_, ?_, ?_, ?_, ?_⟩
  · unfold out0
    have h1 : ((List.range g.length).filter fun (i : Nat) => decide (remV g (fun _ => 0) (i : Int) = 0)).Nodup := List.nodup_range.filter _
    exact List.pairwise_map.2 (List.Pairwise.imp (fun h e => h (by omega)) h1)
  · intro i hi
    unfold out0 at hi
    obtain ⟨j, hj, rfl⟩ := List.mem_map.1 hi
    have := (List.mem_filter.1 hj).1
    simp at this
    omega
  · intro i hi
    rw [hs]
    simp [cnt0, List.getD, hi]
  · intro i hi
    rw [hs, out0_mem]
    simp [hi]
  · intro a ha c hc hm
    exfalso
    have hmem := List.getElem_mem ha
    generalize (out0 g g.length)[a] = x at hm hmem
    unfold out0 at hmem
    obtain ⟨j, hj, rfl⟩ := List.mem_map.1 hmem
    have h0 := (List.mem_filter.1 hj).2
    simp at h0
    have := (remV_zero.1 h0) c hc
    simp at this
    exact this hm

theorem up_fold {g : List (List Int)} (hg : DagOk g) {c k : Nat} : ∀ (d j : Nat) (st : List Int × List Int), UpInv g st.1 st.2 k j → st.2[k]? = some (c : Int) → j + d = (parV g c).length →
    UpInv g (((parV g c).drop j).foldl decP st).1 (((parV g c).drop j).foldl decP st).2 k (parV g c).length ∧ (((parV g c).drop j).foldl decP st).2[k]? = some (c : Int)
  | 0, j, st, h, hk, hd => by
    have : j = (parV g c).length := by omega
    subst this
    rw [List.drop_length]
    exact ⟨h, hk⟩
  | d + 1, j, st, h, hk, hd => by
    have hj : j < (parV g c).length := by omega
    have hkl : k < st.2.length := by
      rcases Nat.lt_or_ge k st.2.length with h' | h'
      · exact h'
      · rw [List.getElem?_eq_none (by omega)] at hk; cases hk
    have hcm : (c : Int) ∈ st.2 := by
      rw [List.getElem?_eq_getElem hkl] at hk
      rw [← Option.some.inj hk]
      exact List.getElem_mem _
    have hc : c < g.length := by have := h.rng _ hcm; omega
    obtain ⟨p, hp⟩ := Int.eq_ofNat_of_zero_le (hg.rng c hc _ (List.getElem_mem hj)).1
    obtain ⟨_, _, s1, s2⟩ := h.step hg hk hj hp
    rw [List.drop_eq_getElem_cons hj, List.foldl_cons]
    refine up_fold hg d (j + 1) _ ?_ ?_ (by omega)
    · unfold decP
      rw [hp, Int.toNat_natCast]
      by_cases hz : st.1.getD p 0 - 1 = 0
      · rw [if_pos hz]; exact s1 hz
      · rw [if_neg hz]; exact s2 hz
    · unfold decP
      simp only
      split
      · rw [List.getElem?_append_left hkl]; exact hk
      · exact hk

theorem upGo_inv {g : List (List Int)} (hg : DagOk g) : ∀ (f k : Nat) (st : List Int × List Int), UpInv g st.1 st.2 k 0 → f + k = g.length + 1 → k ≤ st.2.length →
    UpInv g (upGo g f st k).1 (upGo g f st k).2 (upGo g f st k).2.length 0
  | 0, k, st, h, hf, hk => by
    have := h.le
    omega
  | f + 1, k, st, h, hf, hk => by
    unfold upGo
    cases hc : st.2[k]? with
    | none =>
      have : k = st.2.length := by
        rcases Nat.lt_or_ge k st.2.length with h' | h'
        · rw [List.getElem?_eq_getElem h'] at hc; cases hc
        · omega
      subst this
      exact h
    | some x =>
      have hkl : k < st.2.length := by
        rcases Nat.lt_or_ge k st.2.length with h' | h'
        · exact h'
        · rw [List.getElem?_eq_none (by omega)] at hc; cases hc
      have hxm : x ∈ st.2 := by
        rw [List.getElem?_eq_getElem hkl] at hc
        rw [← Option.some.inj hc]
        exact List.getElem_mem _
      obtain ⟨c, rfl⟩ := Int.eq_ofNat_of_zero_le (h.rng _ hxm).1
      have := up_fold hg (c := c) (k := k) (parV g c).length 0 st h hc (by omega)
      rw [List.drop_zero] at this
      simp only [Int.toNat_natCast]
      have h2 := this.1.next this.2 (Nat.le_refl _)
      refine upGo_inv hg f (k + 1) _ h2 (by omega) ?_
      rcases Nat.lt_or_ge k ((parV g c).foldl decP st).2.length with h' | h'
      · exact h'
      · have h3 := this.2
        rw [List.getElem?_eq_none (by omega)] at h3
        cases h3

theorem up_inv {g : List (List Int)} (hg : DagOk g) : ∃ cnt, UpInv g cnt (upV g) (upV g).length 0 := ⟨_, upGo_inv hg _ _ _ (out0_inv g) (by omega) (by omega)⟩

theorem all_le : ∀ (n : Nat) (l : List Int), (∀ i : Nat, i < n → (i : Int) ∈ l) → n ≤ l.length
  | 0, _, _ => by omega
  | n + 1, l, h => by
    have h1 := all_le n (l.filter fun i => decide (i ≠ (n : Int))) fun i hi => List.mem_filter.2 ⟨h i (by omega), by simp; omega⟩
    have h2 : (l.filter fun i => decide (i ≠ (n : Int))).length < l.length := by
      have hm := h n (by omega)
      have key : ∀ l : List Int, (n : Int) ∈ l → (l.filter fun i => decide (i ≠ (n : Int))).length < l.length := by
        intro l
        induction l with
        | nil => simp
        | cons x l ih =>
          intro hx
          by_cases e : x = (n : Int)
          · have := List.length_filter_le (fun i => decide (i ≠ (n : Int))) l
            rw [List.filter_cons, if_neg (by simp [e])]
            simp only [List.length_cons]
            omega
          · have := ih (by
              rcases List.mem_cons.1 hx with h' | h'
              · exact absurd h'.symm e
              · exact h')
            rw [List.filter_cons, if_pos (by simp [e])]
            simp only [List.length_cons]
            omega
      exact key l hm
    omega

/-- what is not listed has a child that is not listed -/
theorem up_left {g : List (List Int)} (hg : DagOk g) {i : Nat} (hi : i < g.length) (hn : (i : Int) ∉ upV g) : ∃ c : Nat, c < g.length ∧ (i : Int) ∈ parV g c ∧ (c : Int) ∉ upV g := by
  obtain ⟨cnt, h⟩ := up_inv hg
  have h1 : remV g (seenV g (upV g) (upV g).length 0) i ≠ 0 := fun e => hn ((h.zero i hi).2 e)
  have : ¬ ∀ c, c < g.length → (i : Int) ∉ (parV g c).drop (seenV g (upV g) (upV g).length 0 c) := fun h2 => h1 (remV_zero.2 h2)
  by_cases h3 : ∃ c : Nat, c < g.length ∧ (i : Int) ∈ (parV g c).drop (seenV g (upV g) (upV g).length 0 c)
  · obtain ⟨c, c1, c2⟩ := h3
    refine ⟨c, c1, List.mem_of_mem_drop c2, fun hc => ?_⟩
    have : seenV g (upV g) (upV g).length 0 c = (parV g c).length := by unfold seenV; rw [List.take_length, if_pos hc]
    rw [this, List.drop_length] at c2
    cases c2
  · exact absurd (fun c hc hm => h3 ⟨c, hc, hm⟩) this

/-- every parent has a lesser number: all are listed -/
theorem up_full {g : List (List Int)} (hg : DagOk g) (h : ∀ c, c < g.length → ∀ p, p ∈ parV g c → p < (c : Int)) : (upV g).length = g.length := by
  obtain ⟨cnt, hi⟩ := up_inv hg
  have hle := hi.le
  have hall : ∀ d i : Nat, i < g.length → g.length - i ≤ d → (i : Int) ∈ upV g := by
    intro d
    induction d with
    | zero => intro i h1 h2; omega
    | succ d ih =>
      intro i h1 h2
      by_cases hm : (i : Int) ∈ upV g
      · exact hm
      · obtain ⟨c, c1, c2, c3⟩ := up_left hg h1 hm
        have := h c c1 _ c2
        exact absurd (ih c c1 (by omega)) c3
  have := all_le g.length (upV g) fun i hi => hall _ i hi (Nat.le_refl _)
  omega

/-- a cycle: not all are listed -/
theorem up_cycle {g : List (List Int)} (hg : DagOk g) (C : Nat → Prop) {i0 : Nat} (h0 : C i0) (hin : ∀ i, C i → i < g.length) (h : ∀ i, C i → ∃ c, C c ∧ (i : Int) ∈ parV g c) : (upV g).length < g.length := by
  obtain ⟨cnt, hi⟩ := up_inv hg
  have hno : ∀ a, (ha : a < (upV g).length) → ∀ i : Nat, (upV g)[a] = (i : Int) → ¬ C i := by
    intro a
    induction a using Nat.strongRecOn with
    | _ a ih =>
      intro ha i e hc
      obtain ⟨c, c1, c2⟩ := h i hc
      rw [← e] at c2
      obtain ⟨b, b1, _, b2⟩ := hi.ord a ha c (hin c c1) c2
      have hb : b < (upV g).length := by omega
      rw [List.getElem?_eq_getElem hb] at b2
      exact ih b b1 hb c (Option.some.inj b2) c1
  have hnm : (i0 : Int) ∉ upV g := fun hm => by
    obtain ⟨a, ha, e⟩ := List.mem_iff_getElem.1 hm
    exact hno a ha i0 e h0
  have := nodup_le g.length (upV g ++ [(i0 : Int)]) (by
    rw [List.nodup_append]
    refine ⟨hi.nd, by simp, fun a ha b hb e => ?_⟩
    simp at hb
    subst hb
    subst e
    exact hnm ha) fun i hm => by
    rcases List.mem_append.1 hm with hm | hm
    · exact hi.rng i hm
    · simp at hm
      subst hm
      have := hin i0 h0
      omega
  simp at this
  omega

end Go.AE

namespace Go.AE

end Go.AE

namespace Go.AE

def dist : List Int → List Int → Nat
  | [], b => b.length
  | x :: a, [] => a.length + 1
  | x :: a, y :: b => if x = y then dist a b else 1 + min (dist a (y :: b)) (dist (x :: a) b)
termination_by a b => a.length + b.length

theorem dist_nil (b : List Int) : dist [] b = b.length := by rw [dist]
theorem dist_nil' (a : List Int) : dist a [] = a.length := by cases a <;> rw [dist] <;> rfl
theorem dist_eq (x : Int) (a b : List Int) : dist (x :: a) (x :: b) = dist a b := by rw [dist]; simp
theorem dist_ne {x y : Int} (h : x ≠ y) (a b : List Int) : dist (x :: a) (y :: b) = 1 + min (dist a (y :: b)) (dist (x :: a) b) := by rw [dist]; simp [h]

theorem dist_comm : ∀ a b : List Int, dist a b = dist b a
  | [], b => by rw [dist_nil, dist_nil']
  | x :: a, [] => by rw [dist_nil, dist_nil']
  | x :: a, y :: b => by
    by_cases h : x = y
    · subst h
      rw [dist_eq, dist_eq, dist_comm a b]
    · rw [dist_ne h, dist_ne (Ne.symm h), dist_comm a (y :: b), dist_comm (x :: a) b, Nat.min_comm]
termination_by a b => a.length + b.length

theorem dist_steps : ∀ (n : Nat) (a b : List Int), a.length + b.length ≤ n → (∀ x, dist (x :: a) b ≤ dist a b + 1) ∧ (∀ y, dist a b ≤ dist a (y :: b) + 1) := by
  intro n
  induction n with
  | zero =>
    intro a b h
    have ha : a = [] := List.eq_nil_of_length_eq_zero (by omega)
    have hb : b = [] := List.eq_nil_of_length_eq_zero (by omega)
    subst ha hb
    exact ⟨fun x => by rw [dist_nil', dist_nil]; simp, fun y => by rw [dist_nil]; simp⟩
  | succ n ih =>
    intro a b h
    have L : ∀ y, dist a b ≤ dist a (y :: b) + 1 := by
      intro y
      cases a with
      | nil => rw [dist_nil, dist_nil]; simp; omega
      | cons x a =>
        simp only [List.length_cons] at h
        have u := (ih a b (by omega)).1 x
        have l := (ih a b (by omega)).2 y
        by_cases hxy : x = y
        · subst hxy
          rw [dist_eq]
          exact u
        · rw [dist_ne hxy]
          omega
    refine ⟨fun x => ?_, L⟩
    cases b with
    | nil => rw [dist_nil', dist_nil']; simp
    | cons y b =>
      simp only [List.length_cons] at h
      by_cases hxy : x = y
      · subst hxy
        rw [dist_eq]
        exact (ih a b (by omega)).2 x
      · rw [dist_ne hxy]
        omega

theorem dist_del (x : Int) (a b : List Int) : dist (x :: a) b ≤ dist a b + 1 := (dist_steps _ a b (Nat.le_refl _)).1 x
theorem dist_ins (y : Int) (a b : List Int) : dist a (y :: b) ≤ dist a b + 1 := by rw [dist_comm a, dist_comm a]; exact dist_del y b a

/-- a way from one list to another one -/
inductive Ed : List Int → List Int → Nat → Prop where
  | nil : Ed [] [] 0
  | del (x : Int) {a b : List Int} {n : Nat} (h : Ed a b n) : Ed (x :: a) b (n + 1)
  | ins (y : Int) {a b : List Int} {n : Nat} (h : Ed a b n) : Ed a (y :: b) (n + 1)
  | keep (x : Int) {a b : List Int} {n : Nat} (h : Ed a b n) : Ed (x :: a) (x :: b) n

theorem Ed.le {a b : List Int} {n : Nat} (h : Ed a b n) : dist a b ≤ n := by
  induction h with
  | nil => rw [dist_nil]; simp
  | del x h ih => exact Nat.le_trans (dist_del _ _ _) (by omega)
  | ins y h ih => exact Nat.le_trans (dist_ins _ _ _) (by omega)
  | keep x h ih => rw [dist_eq]; exact ih

theorem Ed.trans {a b : List Int} {n : Nat} (h : Ed a b n) : ∀ {c : List Int} {m : Nat}, Ed b c m → ∃ k, k ≤ n + m ∧ Ed a c k := by
  induction h with
  | nil => intro c m k; exact ⟨m, by omega, k⟩
  | del x h ih =>
    intro c m k
    obtain ⟨j, h1, h2⟩ := ih k
    exact ⟨j + 1, by omega, .del x h2⟩
  | @ins y a b n h ih =>
    intro c m k
    generalize hb : y :: b = b' at k
    induction k with
    | nil => simp at hb
    | del z k _ =>
      simp at hb
      obtain ⟨rfl, rfl⟩ := hb
      obtain ⟨j, h1, h2⟩ := ih k
      exact ⟨j, by omega, h2⟩
    | ins z k ih2 =>
      obtain ⟨j, h1, h2⟩ := ih2 hb
      exact ⟨j + 1, by omega, .ins z h2⟩
    | keep z k _ =>
      simp at hb
      obtain ⟨rfl, rfl⟩ := hb
      obtain ⟨j, h1, h2⟩ := ih k
      exact ⟨j + 1, by omega, .ins y h2⟩
  | @keep x a b n h ih =>
    intro c m k
    generalize hb : x :: b = b' at k
    induction k with
    | nil => simp at hb
    | del z k _ =>
      simp at hb
      obtain ⟨rfl, rfl⟩ := hb
      obtain ⟨j, h1, h2⟩ := ih k
      exact ⟨j + 1, by omega, .del x h2⟩
    | ins z k ih2 =>
      obtain ⟨j, h1, h2⟩ := ih2 hb
      exact ⟨j + 1, by omega, .ins z h2⟩
    | keep z k _ =>
      simp at hb
      obtain ⟨rfl, rfl⟩ := hb
      obtain ⟨j, h1, h2⟩ := ih k
      exact ⟨j, by omega, .keep x h2⟩

theorem Ed.len {a b : List Int} {n : Nat} (h : Ed a b n) : a.length ≤ b.length + n ∧ b.length ≤ a.length + n ∧ n ≤ a.length + b.length ∧ (a.length + b.length - n) % 2 = 0 := by
  induction h with
  | nil => simp
  | del x h ih => simp only [List.length_cons]; omega
  | ins y h ih => simp only [List.length_cons]; omega
  | keep x h ih => simp only [List.length_cons]; omega

theorem Ed.zero {a b : List Int} {n : Nat} (h : Ed a b n) : n = 0 → a = b := by
  induction h with
  | nil => intro _; rfl
  | del x h ih => intro h; omega
  | ins y h ih => intro h; omega
  | keep x h ih => intro h; rw [ih h]

end Go.AE

namespace Go.AE

end Go.AE

namespace Go.AE

end Go.AE

namespace Go.AE

def longV (a b : List Int) : Prop := ¬ (a.length ≤ 4096 ∧ b.length ≤ 4096)
instance (a b : List Int) : Decidable (longV a b) := inferInstanceAs (Decidable (¬ _))

end Go.AE

namespace Go.AE


def modV (a n : Int) : Int := (a % 18446744073709551616) % n

theorem modV_lt (a : Int) {n : Int} (h : 1 ≤ n) : 0 ≤ modV a n ∧ modV a n < n := ⟨Int.emod_nonneg _ (by omega), Int.emod_lt_of_pos _ (by omega)⟩

@[simp] def S_gen_Mod : List D → Prop × D := spec2 (α := Int) (β := Int) (fun _ n => 1 ≤ n ∧ n ≤ 9223372036854775807) (fun a n => Rep.to (modV a n))

theorem ct_gen_Mod {P : Program} {f : Nat} {G : Gam} (h : CodeOf P f 2 3 [2] x_gen_Mod) (hG : GamOk P G) : Has P f S_gen_Mod := h.has2 hG fun a n hp => by
  obtain ⟨h, h2⟩ := hp
  simp [x_gen_Mod]
  have e1 : IntKind.u64.wrap n = n := by simp [IntKind.wrap, IntKind.bits, IntKind.signed]; omega
  have e2 : IntKind.u64.wrap a = a % 18446744073709551616 := by simp [IntKind.wrap, IntKind.bits, IntKind.signed]
  rw [e1, e2]
  refine ⟨by omega, ?_⟩
  have e3 : (a % 18446744073709551616).tmod n = modV a n := by
    rw [Int.tmod_eq_emod_of_nonneg (by omega)]; rfl
  have := modV_lt a h
  rw [e3, wrap_in] <;> omega

@[simp] def S_gen_Ints : List D → Prop × D := spec2 (α := List Int) (β := List Int) (fun a _ => a.length ≤ 9223372036854775807) (fun a b => Rep.to (decide (a = b)))

theorem ct_gen_Ints {P : Program} {f : Nat} {G : Gam} (h : CodeOf P f 2 7 [2] x_gen_Ints) (hG : GamOk P G) : Has P f S_gen_Ints := h.has2 hG fun a b h => by
  simp [x_gen_Ints]
  refine ⟨fun h1 h2 => h1 (by rw [h2]), fun h1 => ?_⟩
  have h1 : a.length = b.length := by omega
  refine vc_loop _ _ _ _ _ [true, true, false, true] 0 (fun m T s => ∃ i : Nat, i + m = a.length ∧ s = [] ∧ T = [.d (Rep.to a), .d (Rep.to b), .any, .d (.int .i64 i), .any, .any, .any] ∧ ∀ k (h : k < a.length) (h2 : k < b.length), k < i → a[k] = b[k]) _ (Nat.le_refl _) (by simp) ⟨a.length, 0, by simp⟩ ?_
  rintro m T s ⟨i, hm, rfl, rfl, hi⟩
  simp
  refine ⟨fun h2 => ?_, fun h2 => ?_⟩
  · have h3 : i < b.length := by omega
    simp [getD_map, h2, h3, add1 h2 h, pairsOk]
    refine ⟨fun h4 h5 => h4 (by simp only [h5]), fun h4 => ⟨m - 1, by omega, i + 1, by omega, by simp, fun k k1 k2 k3 => ?_⟩⟩
    rcases Nat.lt_or_ge k i with k4 | k4
    · exact hi k k1 k2 k4
    · have : k = i := by omega
      subst this
      exact h4
  · exact List.ext_getElem h1 fun k k1 k2 => hi k k1 k2 (by omega)

def lines : List Str := [[97], [98], [99], [97, 98], [98, 97], [], [97, 97], [98, 32, 97], [120, 43, 121], [92]]
def xorV (a b : Int) : Int := IntKind.u64.wrap ((a % 2 ^ IntKind.u64.bits).toNat ^^^ (b % 2 ^ IntKind.u64.bits).toNat : Nat)
def hashV (x : Int) : Int := IntKind.u64.wrap (xorV x (x.fdiv (2 ^ min 31 IntKind.u64.bits)) * 13787848793156543929)
def finV (x : Int) : Int := IntKind.i64.wrap ((xorV x (x.fdiv (2 ^ min 29 IntKind.u64.bits))).fdiv (2 ^ min 1 IntKind.u64.bits))

theorem lockT : (fun _ : Int => True) = (fun x : Int => x = x) := funext fun _ => propext ⟨fun _ => rfl, fun _ => trivial⟩

/-- a number that the kernel does not look into -/
def lock (v : Int) : Int := (cast (congrArg Subtype lockT) (⟨v, trivial⟩ : {_x : Int // True}) : {x : Int // x = x}).1

theorem lock_gen {p q : Int → Prop} (h : p = q) (v : Int) (hv : p v) : (cast (congrArg Subtype h) (⟨v, hv⟩ : Subtype p) : Subtype q).1 = v := by subst h; rfl

theorem lock_eq (v : Int) : lock v = v := lock_gen lockT v trivial

/-- the k-th of the endless list that begins with raw numbers -/
def atU (raw : List Int) (k : Int) : Int :=
  let x0 := IntKind.u64.wrap (IntKind.u64.wrap (IntKind.i64.wrap (k + 1)) * 11400714819323198485)
  finV (hashV (if raw = [] then x0 else xorV x0 (IntKind.u64.wrap (raw.getD (k.toNat % raw.length) 0))))

def atV (raw : List Int) (k : Int) : Int := lock (atU raw k)

theorem atV_eq (raw : List Int) (k : Int) : atV raw k = atU raw k := lock_eq _

@[simp] def S_gen_At : List D → Prop × D := spec2 (α := List Int) (β := Int) (fun raw k => 0 ≤ k ∧ k < 9223372036854775807 ∧ raw.length ≤ 9223372036854775807) (fun raw k => Rep.to (atV raw k))

theorem ct_gen_At {P : Program} {f : Nat} {G : Gam} (h : CodeOf P f 2 5 [2] x_gen_At) (hG : GamOk P G) : Has P f S_gen_At := h.has2 hG fun raw k hp => by
  obtain ⟨h1, h2, h3⟩ := hp
  obtain ⟨n, rfl⟩ := Int.eq_ofNat_of_zero_le h1
  simp [x_gen_At]
  refine ⟨fun h4 => ?_, fun h4 => ?_⟩
  · have e : (n : Int).tmod raw.length = ((n % raw.length : Nat) : Int) := by rw [Int.tmod_eq_emod_of_nonneg (by omega)]; simp
    have h5 : n % raw.length < raw.length := Nat.mod_lt _ h4
    have h6 : raw ≠ [] := by intro h; simp [h] at h4
    have ha : atV raw n = finV (hashV (xorV (IntKind.u64.wrap (IntKind.u64.wrap (IntKind.i64.wrap (n + 1)) * 11400714819323198485)) (IntKind.u64.wrap raw[n % raw.length]))) := by
      simp [atV_eq, atU, h6, List.getD, h5]
    rw [e, ha]
    generalize n % raw.length = q at h5
    simp [h5, h6, getD_map]
    rfl
  · rw [atV_eq]
    unfold atU
    simp only [h4, if_true]
    rfl

end Go.AE

namespace Go.AE

end Go.AE

set_option maxRecDepth 20000
namespace Go.AE

end Go.AE

set_option maxRecDepth 20000
namespace Go.AE

end Go.AE

set_option maxRecDepth 20000
namespace Go.AE

end Go.AE

set_option maxRecDepth 20000
namespace Go.AE

end Go.AE

set_option maxRecDepth 20000
namespace Go.AE

end Go.AE

set_option maxRecDepth 20000
namespace Go.AE

end Go.AE

set_option maxRecDepth 20000
namespace Go.AE

end Go.AE

set_option maxRecDepth 20000
namespace Go.AE

end Go.AE

set_option maxRecDepth 20000
namespace Go.AE

end Go.AE

set_option maxRecDepth 20000
namespace Go.AE

end Go.AE

set_option maxRecDepth 20000
namespace Go.AE

end Go.AE

namespace Go.AE

/-- the different strings, in the order of their first places -/
def addV (out : List Str) (x : Str) : List Str := if x ∈ out then out else out ++ [x]
def part (l : List (List Str)) (i j : Nat) : List Str := ((l.take i).flatten ++ (l.getD i []).take j).foldl addV []

def okId (names : List Str) (i : Int) : Prop := 0 ≤ i ∧ i < names.length
instance (names : List Str) (i : Int) : Decidable (okId names i) := inferInstanceAs (Decidable (_ ∧ _))
end Go.AE

namespace Go.AE

end Go.AE

namespace Go.AE

end Go.AE

namespace Go.AE

end Go.AE

set_option maxRecDepth 20000
namespace Go.AE

end Go.AE

set_option maxRecDepth 20000
set_option maxHeartbeats 1000000
namespace Go.AE

/-! what the library's functions answer -/

end Go.AE

set_option maxRecDepth 20000
set_option maxHeartbeats 1000000
namespace Go.AE

end Go.AE

set_option maxRecDepth 20000
namespace Go.AE

end Go.AE

set_option maxRecDepth 20000
namespace Go.AE

end Go.AE

set_option maxRecDepth 20000
set_option maxHeartbeats 2000000
namespace Go.AE

end Go.AE

set_option maxRecDepth 20000
set_option maxHeartbeats 2000000
namespace Go.AE

/-- bytes as data -/
def bytesD (s : Str) : List D := s.map fun c => .int .u8 c.toNat

theorem u8s_bytes (s : Str) : u8s (bytesD s) = s := by
  unfold u8s bytesD
  rw [List.map_map]
  refine (List.map_congr_left fun c _ => ?_).trans (List.map_id s)
  simp

theorem allU8_bytes (s : Str) : allU8 (bytesD s) := by
  intro x hx
  unfold bytesD at hx
  obtain ⟨c, _, rfl⟩ := List.mem_map.1 hx
  exact ⟨_, rfl⟩

@[simp] theorem src_str (s : Store) (t : Str) : src s 1 (.d (.str t)) = (True, bytesD t) := by simp [src, bytesD]

@[simp] theorem eB2s_gr (s : Store) (l : Nat) (t : Str) : eB2s s (.gr l 1 (bytesD t)) = ⟨True, [], .d (.str t)⟩ := by
  unfold eB2s
  simp [A.notStr, src, borFp, u8s_bytes, allU8_bytes]
end Go.AE

namespace Go.AE

/-- b is a border of the first k bytes -/
def Bd (s : Str) (k b : Nat) : Prop := b < k ∧ ∀ i, i < b → s.getD i 0 = s.getD (k - b + i) 0

theorem Bd.zero (s : Str) {k : Nat} (h : 0 < k) : Bd s k 0 := ⟨h, fun i hi => absurd hi (by omega)⟩

theorem Bd.trans {s : Str} {k b c : Nat} (h : Bd s k b) (h2 : Bd s b c) : Bd s k c := by
  refine ⟨by have := h.1; have := h2.1; omega, fun i hi => ?_⟩
  have h3 := h.1
  have h4 := h2.1
  rw [h2.2 i hi, h.2 (b - c + i) (by omega)]
  congr 1
  omega

theorem Bd.succ {s : Str} {k c : Nat} : Bd s (k + 1) (c + 1) ↔ (Bd s k c ∧ s.getD c 0 = s.getD k 0) ∨ False := by
  constructor
  · rintro ⟨h1, h2⟩
    refine .inl ⟨⟨by omega, fun i hi => ?_⟩, ?_⟩
    · have := h2 i (by omega)
      rw [this]
      congr 1
      omega
    · have := h2 c (by omega)
      rw [this]
      congr 1
      omega
  · rintro (⟨⟨h1, h2⟩, h3⟩ | h)
    · refine ⟨by omega, fun i hi => ?_⟩
      rcases Nat.lt_or_ge i c with h4 | h4
      · rw [h2 i h4]
        congr 1
        omega
      · have : i = c := by omega
        subst this
        rw [h3]
        congr 1
        omega
    · exact h.elim

end Go.AE

set_option maxRecDepth 20000
namespace Go.AE

end Go.AE

set_option maxRecDepth 20000
namespace Go.AE

end Go.AE

set_option maxRecDepth 20000
set_option maxHeartbeats 2000000
namespace Go.AE

end Go.AE

set_option maxRecDepth 20000
namespace Go.AE

end Go.AE

set_option maxRecDepth 20000
set_option maxHeartbeats 2000000
namespace Go.AE

/-- data that may lie part by part -/
def A.gvd (α : Type) [Rep α] [Inhabited α] (x : A) : α := (Rep.of x.toD).getD default
attribute [simp] A.gvd

end Go.AE

set_option maxRecDepth 20000
set_option maxHeartbeats 4000000
namespace Go.AE

end Go.AE

set_option maxRecDepth 20000
set_option maxHeartbeats 4000000
namespace Go.AE

end Go.AE

set_option maxRecDepth 20000
set_option maxHeartbeats 4000000
namespace Go.AE

def A.gfn : A → Nat
  | .fn (.func g) _ _ => g
  | _ => 0
attribute [simp] A.gfn

theorem FinR.drop {rs : List Nat} {o : Ob} {r : D} {T : List A} (h : resOf rs T [o, .dead] = .d r) (ho : o.under 1 = true) (hp : resPre rs T [o, .dead]) : FinR rs [o] (.d r) [o] .ret T [o, .dead] := by
  refine FinR.done (by simp) ?_ rfl h.symm ?_ rfl hp
  · simp
  · simpa using ho

end Go.AE

set_option maxRecDepth 20000
set_option maxHeartbeats 4000000
namespace Go.AE

def idxV (l : List Int) (x : Int) : Int := match l.findIdx? (· == x) with | some i => (i : Int) | none => -1

@[simp] def S_slices_Index_int_int : List D → Prop × D := spec2 (α := List Int) (β := Int) (fun l _ => l.length ≤ 9223372036854775807) (fun l x => Rep.to (idxV l x))
theorem ct_slices_Index_int_int {P : Program} {f : Nat} {G : Gam} (h : CodeOf P f 2 8 [2] x_slices_Index_int_int) (hG : GamOk P G) : Has P f S_slices_Index_int_int := h.has2 hG fun l x hp => by
  simp [x_slices_Index_int_int]
  refine vc_lp (σ := Nat) (fun i => i ≤ l.length ∧ ∀ k (h : k < l.length), k < i → l[k] ≠ x) (fun i => l.length - i)
    (fun i => [.d (Rep.to l), .d (.int .i64 x), .any, .any, .d (.int .i64 l.length), .d (.int .i64 i), .any, .any]) (fun _ => []) 0 (by simp) (by simp) ⟨by simp, by simp⟩ ?_
  rintro i ⟨hi, hn⟩
  by_cases hil : i < l.length
  · have w1 : IntKind.i64.wrap ((i : Int) + 1) = (i : Int) + 1 := wrap_in (by omega) (by omega)
    by_cases e : l[i] = x
    · have hf : l.findIdx? (· == x) = some i := by
        rw [List.findIdx?_eq_some_iff_getElem]
        exact ⟨hil, by simpa using e, fun j hj => by simpa using hn j (by omega) hj⟩
      have hv : idxV l x = i := by unfold idxV; rw [hf]
      simp [hil, getD_map, e, hv]
    · have hnx : ∀ k (h : k < l.length), k < i + 1 → l[k] ≠ x := fun k h hk => by
        by_cases e2 : k = i
        · subst e2; exact e
        · exact hn k h (by omega)
      simp [hil, getD_map, e, fun h : x = l[i] => e h.symm, w1, show ¬ x = l[i] from fun h => e h.symm]
      exact Nxt.mk (i + 1) (by omega) (by simp) (by simp) ⟨by omega, hnx⟩
  · have h9 : i = l.length := by omega
    subst h9
    have hf : l.findIdx? (· == x) = none := by
      rw [List.findIdx?_eq_none_iff]
      intro y hy
      obtain ⟨k, hk, rfl⟩ := List.mem_iff_getElem.1 hy
      simpa using hn k hk hk
    have hv : idxV l x = -1 := by unfold idxV; rw [hf]
    simp [hv]

theorem idxV_mem (l : List Int) (x : Int) : 0 ≤ idxV l x ↔ x ∈ l := by
  unfold idxV
  cases h : l.findIdx? (· == x) with
  | none =>
    rw [List.findIdx?_eq_none_iff] at h
    simp
    intro hx
    have := h x hx
    simp at this
  | some i =>
    rw [List.findIdx?_eq_some_iff_getElem] at h
    obtain ⟨h1, h2, _⟩ := h
    simp at h2
    simp
    rw [← h2]
    exact List.getElem_mem _

@[simp] def S_slices_Contains_int_int : List D → Prop × D := spec2 (α := List Int) (β := Int) (fun l _ => l.length ≤ 9223372036854775807) (fun l x => .bool (decide (x ∈ l)))
theorem ct_slices_Contains_int_int {P : Program} {f g1 : Nat} {G : Gam} (h : CodeOf P f 2 3 [2] (x_slices_Contains_int_int g1)) (hG : GamOk P G) (h1 : G.find g1 = some S_slices_Index_int_int) : Has P f S_slices_Contains_int_int := h.has2 hG fun l x hp => by
  simp [x_slices_Contains_int_int, h1, hp, idxV_mem]

/-! ### functions of a commit -/

structure ComX where
  c : CommitT

@[simp] def F_dag_limited_1 : RF ComX where
  new := 0
  view a _ := ⟨(a.getD 0 .any).gvd CommitT⟩
  args x := [.d (Rep.to x.c)]
  st _ := []
  pre _ := True
  res x := .d (.bool (decide (32 < (x.c.parents.length : Int))))
  st' _ := []
abbrev R_dag_limited_1 : RSpec := F_dag_limited_1.spec
theorem ct_dag_limited_1 {P : Program} {f : Nat} {G : Gam} (hc : CodeOf P f 1 3 [2] x_dag_limited_1) (hG : GamOk P G) : RSpec.Ok P f R_dag_limited_1 := by
  refine RF.ok hc.call fun x _ => hc.rcalls hG rfl ?_
  obtain ⟨⟨ps, d, fs⟩⟩ := x
  simp [x_dag_limited_1, startA]
  exact FinR.done (by simp) (by simp) rfl rfl (by simp) (by simp)

def rangeB (c : CommitT) : Bool := decide (c.date < 0 ∨ 2147483647 < c.date)
@[simp] def F_dag_Check_1 : RF ComX where
  new := 0
  view a _ := ⟨(a.getD 0 .any).gvd CommitT⟩
  args x := [.d (Rep.to x.c)]
  st _ := []
  pre _ := True
  res x := .d (.bool (rangeB x.c))
  st' _ := []
abbrev R_dag_Check_1 : RSpec := F_dag_Check_1.spec
theorem ct_dag_Check_1 {P : Program} {f : Nat} {G : Gam} (hc : CodeOf P f 1 3 [2] x_dag_Check_1) (hG : GamOk P G) : RSpec.Ok P f R_dag_Check_1 := by
  refine RF.ok hc.call fun x _ => hc.rcalls hG rfl ?_
  obtain ⟨⟨ps, d, fs⟩⟩ := x
  by_cases c1 : d < 0
  · simp [x_dag_Check_1, startA, c1, rangeB]
    exact FinR.done (by simp) (by simp) rfl (by simp [resOf, resE]) (by simp) (by simp)
  · simp [x_dag_Check_1, startA, c1, rangeB]
    exact FinR.done (by simp) (by simp) rfl (by simp [resOf, resE]) (by simp) (by simp)

structure ConX where
  l : List CommitT
  b : Bool

def conP (b : Bool) (c : CommitT) : Bool := if b then decide (32 < (c.parents.length : Int)) else rangeB c

@[simp] def F_slices_IndexFunc_Commit_Commit (g1 g2 : Nat) : RF ConX where
  new := 0
  view a _ := ⟨(a.getD 0 .any).gl CommitT, decide ((a.getD 1 .any).gfn = g1)⟩
  args x := [.d (Rep.to x.l), .fn (.func (if x.b then g1 else g2)) [] []]
  st _ := []
  pre x := x.l.length ≤ 1000 ∧ g1 ≠ g2
  res x := .d (.int .i64 (match x.l.findIdx? (conP x.b) with | some i => (i : Int) | none => -1))
  st' _ := []
abbrev R_slices_IndexFunc_Commit_Commit (g1 g2 : Nat) : RSpec := (F_slices_IndexFunc_Commit_Commit g1 g2).spec

theorem ct_slices_IndexFunc_Commit_Commit {P : Program} {f g1 g2 : Nat} {G : Gam} (hc : CodeOf P f 2 8 [2] x_slices_IndexFunc_Commit_Commit) (hG : GamOk P G) (h1 : G.findR g1 = some R_dag_limited_1) (h2 : G.findR g2 = some R_dag_Check_1) : RSpec.Ok P f (R_slices_IndexFunc_Commit_Commit g1 g2) := by
  refine RF.ok hc.call fun x hx => hc.rcalls hG rfl ?_
  obtain ⟨l, b⟩ := x
  obtain ⟨hl, hne⟩ := hx
  simp only at hl
  have hcall : ∀ c : CommitT, eCallv G [] 0 [.d (Rep.to c)] (.fn (.func (if b then g1 else g2)) [] []) = ⟨True, [], .d (.bool (conP b c))⟩ := fun c => by
    cases b
    · simp [eCallv, eRCall, h2, conP]
    · simp [eCallv, eRCall, h1, conP]
  obtain ⟨ff, hff⟩ : ∃ ff, ff = A.fn (.func (if b then g1 else g2)) [] [] := ⟨_, rfl⟩
  have hfu : ∀ n, A.under n ff = true := fun n => by rw [hff]; rfl
  simp [x_slices_IndexFunc_Commit_Commit, startA]
  rw [← hff] at hcall ⊢
  refine vc_lp (σ := Nat) (fun i => i ≤ l.length ∧ ∀ k (h : k < l.length), k < i → conP b l[k] = false) (fun i => l.length - i)
    (fun i => [.d (Rep.to l), ff, .any, .any, .d (.int .i64 l.length), .d (.int .i64 i), .any, .any]) (fun _ => []) 0 (by simp) (by simp) ⟨by simp, by simp⟩ ?_
  rintro i ⟨hi, hn⟩
  by_cases hil : i < l.length
  · have w1 : IntKind.i64.wrap ((i : Int) + 1) = (i : Int) + 1 := wrap_in (by omega) (by omega)
    have hc1 := hcall l[i]
    simp at hc1
    cases e : conP b l[i] with
    | true =>
      have hf : l.findIdx? (conP b) = some i := by
        rw [List.findIdx?_eq_some_iff_getElem]
        exact ⟨hil, e, fun j hj => by simpa using hn j (by omega) hj⟩
      simp [hil, getD_map, hc1, e, hf]
      exact FinR.done (by simp) (by simp) rfl rfl (by simp) (by simp)
    | false =>
      have hnx : ∀ k (h : k < l.length), k < i + 1 → conP b l[k] = false := fun k h hk => by
        by_cases e2 : k = i
        · subst e2; exact e
        · exact hn k h (by omega)
      simp [hil, getD_map, hc1, e, w1]
      exact Nxt.mk (i + 1) (by omega) (by simp) (by simp) ⟨by omega, hnx⟩
  · have h9 : i = l.length := by omega
    subst h9
    have hf : l.findIdx? (conP b) = none := by
      rw [List.findIdx?_eq_none_iff]
      intro y hy
      obtain ⟨k, hk, rfl⟩ := List.mem_iff_getElem.1 hy
      exact hn k hk hk
    simp [hf]
    exact FinR.done (by simp) (by simp) rfl rfl (by simp) (by simp)

theorem findIdx_any {α : Type} (l : List α) (p : α → Bool) : decide (0 ≤ (match l.findIdx? p with | some i => (i : Int) | none => -1)) = l.any p := by
  cases h : l.findIdx? p with
  | none =>
    rw [List.findIdx?_eq_none_iff] at h
    have : l.any p = false := by rw [List.any_eq_false]; intro x hx; rw [h x hx]; simp
    rw [this]
    rfl
  | some i =>
    rw [List.findIdx?_eq_some_iff_getElem] at h
    obtain ⟨h1, h2, _⟩ := h
    have : l.any p = true := by rw [List.any_eq_true]; exact ⟨_, List.getElem_mem h1, h2⟩
    rw [this]
    simp

@[simp] def F_slices_ContainsFunc_Commit_Commit (g1 g2 : Nat) : RF ConX where
  new := 0
  view a _ := ⟨(a.getD 0 .any).gl CommitT, decide ((a.getD 1 .any).gfn = g1)⟩
  args x := [.d (Rep.to x.l), .fn (.func (if x.b then g1 else g2)) [] []]
  st _ := []
  pre x := x.l.length ≤ 1000 ∧ g1 ≠ g2
  res x := .d (.bool (x.l.any (conP x.b)))
  st' _ := []
abbrev R_slices_ContainsFunc_Commit_Commit (g1 g2 : Nat) : RSpec := (F_slices_ContainsFunc_Commit_Commit g1 g2).spec

theorem ct_slices_ContainsFunc_Commit_Commit {P : Program} {f g1 g2 g3 : Nat} {G : Gam} (hc : CodeOf P f 2 3 [2] (x_slices_ContainsFunc_Commit_Commit g3)) (hG : GamOk P G) (h1 : G.findR g1 = some R_dag_limited_1) (h2 : G.findR g2 = some R_dag_Check_1) (h3 : G.findR g3 = some (R_slices_IndexFunc_Commit_Commit g1 g2)) : RSpec.Ok P f (R_slices_ContainsFunc_Commit_Commit g1 g2) := by
  refine RF.ok hc.call fun x hx => hc.rcalls hG rfl ?_
  obtain ⟨l, b⟩ := x
  obtain ⟨hl, hne⟩ := hx
  simp only at hl
  have hfa := findIdx_any l (conP b)
  have hcall : eRCall G [] 0 g3 [.d (Rep.to l), .fn (.func (if b then g1 else g2)) [] []] = ⟨True, [], .d (.int .i64 (match l.findIdx? (conP b) with | some i => (i : Int) | none => -1))⟩ := by
    cases b
    · simp [eRCall, h3, hl, hne, hne.symm]
    · simp [eRCall, h3, hl, hne]
  simp at hcall
  simp [x_slices_ContainsFunc_Commit_Commit, startA, hcall]
  exact FinR.done (by simp) (by simp) rfl (by simp [resOf, resE, hfa]) (by simp) (by simp)

def limB (g : List CommitT) : Bool := decide (g.length ≤ 300) && !(g.any (conP true))
@[simp] def S_dag_limited : List D → Prop × D := spec1 (α := List CommitT) (fun g => g.length ≤ 1000) (fun g => .bool (limB g))
theorem ct_dag_limited {P : Program} {f g1 g2 g3 : Nat} {G : Gam} (h : CodeOf P f 1 2 [1] (x_dag_limited g1 g2)) (hG : GamOk P G) (h1 : G.findR g1 = some (R_slices_ContainsFunc_Commit_Commit g2 g3)) (hne : decide (g2 = g3) = false) : Has P f S_dag_limited := h.has1 hG fun g hp => by
  have hne : g2 ≠ g3 := of_decide_eq_false hne
  by_cases c : (g.length : Int) ≤ 300
  · simp [x_dag_limited, h1, eRCall, c, hp, hne, limB, show g.length ≤ 300 by omega]
  · simp [x_dag_limited, c, limB, show ¬ g.length ≤ 300 by omega]

/-- are all parents commits, and different? -/
def relB (n : Nat) (ps : List Int) : Bool := ps.all (fun p => decide (0 ≤ p ∧ p < (n : Int))) && decide ps.Nodup
def relG (g : List CommitT) : Bool := g.all fun c => relB g.length c.parents
def relP (n : Nat) (ps : List Int) (j : Nat) : Bool := (ps.take j).all (fun p => decide (0 ≤ p ∧ p < (n : Int))) && decide (ps.take j).Nodup

theorem relP_succ {n : Nat} {ps : List Int} {j : Nat} (h : j < ps.length) : relP n ps (j + 1) = (relP n ps j && decide (0 ≤ ps[j] ∧ ps[j] < (n : Int)) && !decide (ps[j] ∈ ps.take j)) := by
  unfold relP
  rw [List.take_succ_eq_append_getElem h, List.all_append]
  have e : decide ((ps.take j ++ [ps[j]]).Nodup) = (decide (ps.take j).Nodup && !decide (ps[j] ∈ ps.take j)) := by
    rw [Bool.eq_iff_iff, Bool.and_eq_true, decide_eq_true_eq, decide_eq_true_eq, List.nodup_append, Bool.not_eq_true', decide_eq_false_iff_not]
    constructor
    · rintro ⟨h1, _, h3⟩
      exact ⟨h1, fun hm => h3 _ hm _ (by simp) rfl⟩
    · rintro ⟨h1, h2⟩
      refine ⟨h1, by simp, fun a ha b hb e => ?_⟩
      simp at hb
      subst hb
      subst e
      exact h2 ha
  rw [e]
  simp only [List.all_cons, List.all_nil, Bool.and_true]
  cases (ps.take j).all (fun p => decide (0 ≤ p ∧ p < (n : Int))) <;> cases decide (ps.take j).Nodup <;> cases decide (0 ≤ ps[j] ∧ ps[j] < (n : Int)) <;> rfl

theorem relP_le {n : Nat} {ps : List Int} {j : Nat} (h : relP n ps j = false) : relB n ps = false := by
  cases hb : relB n ps with
  | false => rfl
  | true =>
    unfold relB at hb
    unfold relP at h
    rw [Bool.and_eq_true, List.all_eq_true, decide_eq_true_eq] at hb
    have h1 : (ps.take j).all (fun p => decide (0 ≤ p ∧ p < (n : Int))) = true := List.all_eq_true.2 fun p hp => hb.1 p (List.mem_of_mem_take hp)
    have h2 : (ps.take j).Nodup := hb.2.sublist (List.take_sublist _ _)
    rw [h1] at h
    simp [h2] at h

@[simp] def S_dag_related : List D → Prop × D := spec1 (α := List CommitT) (fun g => g.length ≤ 1000 ∧ ∀ c, c ∈ g → c.parents.length ≤ 1000000) (fun g => .bool (relG g))
theorem ct_dag_related {P : Program} {f g1 : Nat} {G : Gam} (h : CodeOf P f 1 14 [1] (x_dag_related g1)) (hG : GamOk P G) (h1 : G.find g1 = some S_slices_Contains_int_int) : Has P f S_dag_related := h.has1 hG fun g hp => by
  obtain ⟨p1, p2⟩ := hp
  simp [x_dag_related]
  refine vc_lp (σ := Nat) (fun i => i ≤ g.length ∧ ∀ k (h : k < g.length), k < i → relB g.length g[k].parents = true) (fun i => g.length - i)
    (fun i => [.d (Rep.to g), .any, .any, .any, .any, .d (Rep.to g), .d (.int .i64 g.length), .d (.int .i64 i), .any, .any, .any, .any, .any, .any]) (fun _ => []) 0 (by simp) (by simp) ⟨by simp, by simp⟩ ?_
  rintro i ⟨hi, hm⟩
  by_cases hil : i < g.length
  · have w1 : IntKind.i64.wrap ((i : Int) + 1) = (i : Int) + 1 := wrap_in (by omega) (by omega)
    have hpl := p2 _ (List.getElem_mem hil)
    obtain ⟨ps, dt, fs⟩ : CommitT := g[i]
    generalize hci : g[i] = ci at *
    obtain ⟨ps, dt, fs⟩ := ci
    simp only at hpl
    simp [hil, getD_map, hci]
    refine vc_lp (σ := Nat) (fun j => j ≤ ps.length ∧ relP g.length ps j = true) (fun j => ps.length - j)
      (fun j => [.d (Rep.to g), .any, .ref 0 0 0 0, .any, .any, .d (Rep.to g), .d (.int .i64 g.length), .d (.int .i64 i), .any, .d (Rep.to ps), .d (.int .i64 ps.length), .d (.int .i64 j), .any, .any]) (fun _ => [.cells 0 3 [.d (Rep.to (⟨ps, dt, fs⟩ : CommitT))]]) 0 (by simp) (by simp) ⟨by simp, by simp [relP]⟩ ?_
    rintro j ⟨hj, hr⟩
    by_cases hjl : j < ps.length
    · have w2 : IntKind.i64.wrap ((j : Int) + 1) = (j : Int) + 1 := wrap_in (by omega) (by omega)
      have hs := relP_succ (n := g.length) hjl
      rw [hr, Bool.true_and] at hs
      have hbad : relP g.length ps (j + 1) = false → relG g = false := fun h => by
        have h2 := relP_le h
        unfold relG
        rw [List.all_eq_false]
        refine ⟨g[i], List.getElem_mem hil, ?_⟩
        rw [hci, h2]
        simp
      by_cases q1 : ps[j] < 0
      · have hz := hbad (by rw [hs]; simp; omega)
        simp [hjl, getD_map, q1, hz]
      · by_cases q2 : (g.length : Int) ≤ ps[j]
        · have hz := hbad (by rw [hs]; simp; omega)
          simp [hjl, getD_map, q1, q2, hz]
        · by_cases q3 : ps[j] ∈ ps.take j
          · have hz := hbad (by rw [hs]; simp [q3])
            simp [hjl, getD_map, q1, q2, h1, hz]
            exact ⟨by omega, by omega, fun h => absurd q3 h⟩
          · have hz : relP g.length ps (j + 1) = true := by rw [hs]; simp [q3]; omega
            simp [hjl, getD_map, q1, q2, h1, q3, w2]
            exact ⟨by omega, by omega, Nxt.mk (j + 1) (by omega) (by simp) (by simp) ⟨by omega, hz⟩⟩
    · have h9 : j = ps.length := by omega
      subst h9
      have hz : relB g.length ps = true := by unfold relP at hr; rw [List.take_length] at hr; exact hr
      have hnx : ∀ k (h : k < g.length), k < i + 1 → relB g.length g[k].parents = true := fun k h hk => by
        by_cases e2 : k = i
        · subst e2; rw [hci]; exact hz
        · exact hm k h (by omega)
      simp [w1]
      exact Nxt.mk (i + 1) (by omega) (by simp) (by simp) ⟨by omega, hnx⟩
  · have h9 : i = g.length := by omega
    subst h9
    have hz : relG g = true := by
      unfold relG
      rw [List.all_eq_true]
      intro c hc
      obtain ⟨k, hk, rfl⟩ := List.mem_iff_getElem.1 hc
      exact hm k hk hk
    simp [hz]

end Go.AE

set_option maxRecDepth 20000
set_option maxHeartbeats 4000000
namespace Go.AE

def parG (g : List CommitT) : List (List Int) := g.map CommitT.parents
theorem parG_len (g : List CommitT) : (parG g).length = g.length := by simp [parG]
theorem parG_get {g : List CommitT} {c : Nat} (h : c < g.length) : parV (parG g) c = g[c].parents := by simp [parV, parG, List.getD, h]

theorem relG_ok {g : List CommitT} (h : relG g = true) : DagOk (parG g) := by
  refine ⟨fun c hc p hp => ?_⟩
  rw [parG_len] at hc ⊢
  rw [parG_get hc] at hp
  unfold relG at h
  rw [List.all_eq_true] at h
  have := h _ (List.getElem_mem hc)
  unfold relB at this
  rw [Bool.and_eq_true, List.all_eq_true] at this
  simpa using this.1 p hp

/-- counts as cells -/
def cntC (l : List Int) : List A := l.map fun x => .d (.int .i64 x)
theorem cntC_len (l : List Int) : (cntC l).length = l.length := by simp [cntC]
theorem cntC_get {l : List Int} {i : Nat} (h : i < l.length) : (cntC l)[i]? = some (.d (.int .i64 l[i])) := by simp [cntC, h]
theorem cntC_set (l : List Int) (i : Nat) (x : Int) : (cntC l).set i (.d (.int .i64 x)) = cntC (l.set i x) := by simp [cntC, List.map_set]
theorem cntC_under (l : List Int) (n : Nat) : ∀ x, x ∈ cntC l → A.under n x = true := by
  intro x hx
  obtain ⟨y, _, rfl⟩ := List.mem_map.1 hx
  rfl

/-- how often i is a parent of the first a commits and of j parents of the next one -/
def cntA (g : List (List Int)) (a j : Nat) (i : Int) : Nat := sumN (fun c => (parV g c).count i) a + ((parV g a).take j).count i
def cntL2 (g : List (List Int)) (a j : Nat) : List Int := (List.range g.length).map fun (i : Nat) => ((cntA g a j (i : Int) : Nat) : Int)

theorem cntL2_len (g : List (List Int)) (a j : Nat) : (cntL2 g a j).length = g.length := by simp [cntL2]
theorem cntA_succ {g : List (List Int)} {a j : Nat} (h : j < (parV g a).length) (i : Int) : cntA g a (j + 1) i = cntA g a j i + if (parV g a)[j] = i then 1 else 0 := by
  unfold cntA
  rw [List.take_succ_eq_append_getElem h, List.count_append]
  simp [List.count_cons]
  omega
theorem cntL2_step {g : List (List Int)} {a j : Nat} (h : j < (parV g a).length) {p : Nat} (hp : (parV g a)[j] = (p : Int)) (hpl : p < g.length) : (cntL2 g a j).set p ((cntA g a j p : Int) + 1) = cntL2 g a (j + 1) := by
  apply List.ext_getElem
  · simp [cntL2]
  · intro i h1 h2
    simp [cntL2] at h2
    simp only [cntL2, List.getElem_set, List.getElem_map, List.getElem_range]
    rw [cntA_succ h]
    by_cases e : p = i
    · subst e
      rw [if_pos rfl, if_pos hp]
      push_cast
      rfl
    · rw [if_neg e, if_neg (by rw [hp]; omega)]
      simp
theorem cntL2_next (g : List (List Int)) (a : Nat) : cntL2 g a (parV g a).length = cntL2 g (a + 1) 0 := by
  unfold cntL2 cntA
  refine List.map_congr_left fun i _ => ?_
  rw [List.take_length, sumN_succ]
  simp
theorem cntL2_zero (g : List (List Int)) : cntL2 g 0 0 = List.replicate g.length 0 := by
  unfold cntL2 cntA
  apply List.ext_getElem
  · simp
  · intro i h1 h2
    simp [sumN]
theorem cntL2_end (g : List (List Int)) : cntL2 g g.length 0 = cnt0 g := by
  unfold cntL2 cnt0 cntA remV
  refine List.map_congr_left fun i _ => ?_
  simp
theorem cntA_le (g : List (List Int)) {B : Nat} (hB : ∀ c, (parV g c).length ≤ B) (a j : Nat) (i : Int) : cntA g a j i ≤ B * a + B := by
  have h1 : ∀ a, sumN (fun c => (parV g c).count i) a ≤ B * a := by
    intro a
    induction a with
    | zero => simp [sumN]
    | succ a ih =>
      rw [sumN_succ, Nat.mul_succ]
      have := Nat.le_trans (List.count_le_length (a := i) (l := parV g a)) (hB a)
      omega
  unfold cntA
  have h2 : ((parV g a).take j).count i ≤ B := Nat.le_trans List.count_le_length (Nat.le_trans (by simp; omega) (hB a))
  have := h1 a
  omega

theorem out0_succ (g : List (List Int)) (n : Nat) : out0 g (n + 1) = out0 g n ++ (if remV g (fun _ => 0) (n : Int) = 0 then [(n : Int)] else []) := by
  unfold out0
  rw [List.range_succ, List.filter_append, List.map_append, List.filter_cons, List.filter_nil]
  congr 1
  by_cases h : remV g (fun _ => 0) (n : Int) = 0 <;> simp [h]
theorem out0_len (g : List (List Int)) : ∀ n, (out0 g n).length ≤ n
  | 0 => by simp [out0]
  | n + 1 => by
    have := out0_len g n
    rw [out0_succ, List.length_append]
    split <;> simp <;> omega

@[simp] def S_dag_Upward : List D → Prop × D := spec1 (α := List CommitT) (fun g => g.length ≤ 1000 ∧ (∀ c, c ∈ g → c.parents.length ≤ 1000) ∧ relG g = true) (fun g => Rep.to (upV (parG g)))
theorem ct_dag_Upward {P : Program} {f : Nat} {G : Gam} (h : CodeOf P f 1 29 [1] x_dag_Upward) (hG : GamOk P G) : Has P f S_dag_Upward := h.has1 hG fun g hp => by
  obtain ⟨p1, p2, p3⟩ := hp
  have hok := relG_ok p3
  have hgl := parG_len g
  have hpg := fun c (h : c < g.length) => parG_get h
  have hB : ∀ c, (parV (parG g) c).length ≤ 1000 := fun c => by
    rcases Nat.lt_or_ge c g.length with h | h
    · rw [hpg c h]; exact p2 _ (List.getElem_mem h)
    · unfold parV; rw [List.getD, List.getElem?_eq_none (by rw [hgl]; omega)]; simp
  generalize hGP : parG g = gp at *
  simp [x_dag_Upward]
  refine ⟨⟨by unfold room; omega, by omega⟩, ?_⟩
  refine vc_lp (σ := Nat) (fun a => a ≤ g.length) (fun a => g.length - a)
    (fun a => [.d (Rep.to g), .any, .own 0 0 0 g.length, .any, .any, .any, .any, .any, .any, .any, .d (Rep.to g), .d (.int .i64 g.length), .d (.int .i64 a), .any, .any, .any, .any, .any, .any, .any, .any, .any, .any, .any, .any, .any, .any, .any, .any])
    (fun a => [.cells 0 1 (cntC (cntL2 gp a 0))]) 0 (by simp) ?_ (by simp) ?_ (hc := .inr ⟨by simp, by simpa using cntC_under _ _⟩)
  · rw [cntL2_zero, hgl]
    simp [cntC]
  intro a ha
  by_cases hal : a < g.length
  · have w1 : IntKind.i64.wrap ((a : Int) + 1) = (a : Int) + 1 := wrap_in (by omega) (by omega)
    have hpa := hpg a hal
    have hpsl := p2 _ (List.getElem_mem hal)
    generalize hca : g[a] = ca at *
    obtain ⟨ps, dt, fs⟩ := ca
    simp only at hpa hpsl
    simp [hal, getD_map, hca]
    refine vc_lp (σ := Nat) (fun j => j ≤ ps.length) (fun j => ps.length - j)
      (fun j => [.d (Rep.to g), .any, .own 0 0 0 g.length, .any, .any, .any, .any, .any, .any, .any, .d (Rep.to g), .d (.int .i64 g.length), .d (.int .i64 a), .any, .d (Rep.to ps), .d (.int .i64 ps.length), .d (.int .i64 j), .any, .any, .any, .any, .any, .any, .any, .any, .any, .any, .any, .any])
      (fun j => [.cells 0 1 (cntC (cntL2 gp a j))]) 0 (by simp) (by simp) (by simp) ?_ (hc := .inr ⟨by simp, by simpa using cntC_under _ _⟩)
    intro j hj
    by_cases hjl : j < ps.length
    · have w2 : IntKind.i64.wrap ((j : Int) + 1) = (j : Int) + 1 := wrap_in (by omega) (by omega)
      have hjp : j < (parV gp a).length := by rw [hpa]; exact hjl
      have hin := hok.rng a (by omega) ps[j] (by rw [hpa]; exact List.getElem_mem hjl)
      obtain ⟨p, hp⟩ := Int.eq_ofNat_of_zero_le hin.1
      have hpl : p < gp.length := by omega
      have hle := cntA_le gp hB a j p
      have hmul : 1000 * a ≤ 1000000 := by omega
      have hst := cntL2_step hjp (p := p) (by simp only [hpa]; exact hp) hpl
      have hlen := cntL2_len gp a j
      have hgv : (cntL2 gp a j)[p]? = some ((cntA gp a j p : Nat) : Int) := by simp [cntL2, hpl]
      have hcl := cntC_len (cntL2 gp a j)
      have hcg : (cntC (cntL2 gp a j))[p]? = some (.d (.int .i64 (cntA gp a j p))) := by simp [cntC, hgv]
      have hcs := cntC_set (cntL2 gp a j) p ((cntA gp a j p : Int) + 1)
      rw [hst] at hcs
      have w3 : IntKind.i64.wrap ((cntA gp a j p : Int) + 1) = (cntA gp a j p : Int) + 1 := wrap_in (by omega) (by omega)
      have hcg2 : ∀ h : p < (cntC (cntL2 gp a j)).length, (cntC (cntL2 gp a j))[p]'h = .d (.int .i64 (cntA gp a j p)) := fun h => by obtain ⟨_, h9⟩ := List.getElem?_eq_some_iff.1 hcg; exact h9
      have hpg' : p < g.length := by omega
      simp [hjl, getD_map, hp, hpg', hcl, hlen, hgl, hcg, hcg2, w2, w3, hcs]
      exact Nxt.mk (j + 1) (by omega) (by simp) (by simp) (by omega) (by simp) (.inl (by simp))
    · have h9 : j = ps.length := by omega
      subst h9
      have hnx := cntL2_next gp a
      rw [hpa] at hnx
      rw [hnx]
      simp [w1]
      exact Nxt.mk (a + 1) (by omega) (by simp) (by simp) (by omega) (by simp) (.inl (by simp))
  · have h9 : a = g.length := by omega
    subst h9
    have he := cntL2_end gp
    rw [hgl] at he
    rw [he]
    simp
    refine vc_lp (σ := Nat) (fun i => i ≤ g.length) (fun i => g.length - i)
      (fun i => [.d (Rep.to g), .any, .own 0 0 0 g.length, .any, .any, .gr 1 1 ((out0 gp i).map Rep.to), .any, .any, .any, .any, .any, .any, .any, .any, .any, .any, .any, .any, .own 0 0 0 g.length, .d (.int .i64 g.length), .d (.int .i64 i), .any, .any, .any, .any, .any, .any, .any, .any])
      (fun i => [.cells 0 1 (cntC (cnt0 gp)), .tip (out0 gp i).length]) 0 (by simp [out0]) (by simp [out0]) (by simp) ?_ (hc := .inl (by simp))
    intro i hi
    by_cases hil : i < g.length
    · have w1 : IntKind.i64.wrap ((i : Int) + 1) = (i : Int) + 1 := wrap_in (by omega) (by omega)
      have hcl := cntC_len (cnt0 gp)
      have hc0 : (cnt0 gp).length = gp.length := by simp [cnt0]
      have hgv : (cnt0 gp)[i]? = some ((remV gp (fun _ => 0) (i : Int) : Nat) : Int) := by simp [cnt0, show i < gp.length by omega]
      have hcg : (cntC (cnt0 gp))[i]? = some (.d (.int .i64 ((remV gp (fun _ => 0) (i : Int) : Nat) : Int))) := by simp [cntC, hgv]
      have hcg2 : ∀ h : i < (cntC (cnt0 gp)).length, (cntC (cnt0 gp))[i]'h = .d (.int .i64 ((remV gp (fun _ => 0) (i : Int) : Nat) : Int)) := fun h => by obtain ⟨_, h9⟩ := List.getElem?_eq_some_iff.1 hcg; exact h9
      have hs := out0_succ gp i
      have hol := out0_len gp i
      have hcu := cntC_under (cnt0 gp) 2
      by_cases hz : remV gp (fun _ => 0) (i : Int) = 0
      · rw [if_pos hz] at hs
        simp [hil, hcl, hc0, hgl, hcg, hcg2, hz, w1]
        exact ⟨by unfold room; omega, Nxt.mk (i + 1) (by omega) (by simp [hs]) (by simp [hs]) (by omega) (by simp) (.inr ⟨by simp, by simpa using hcu⟩)⟩
      · rw [if_neg hz, List.append_nil] at hs
        simp [hil, hcl, hc0, hgl, hcg, hcg2, hz, w1]
        exact Nxt.mk (i + 1) (by omega) (by simp [hs]) (by simp [hs]) (by omega) (by simp) (.inl (by simp))
    · have h9 : i = g.length := by omega
      subst h9
      have hinv0 := out0_inv gp
      rw [hgl] at hinv0
      have hup : (upGo gp (g.length + 1) (cnt0 gp, out0 gp g.length) 0).2 = upV gp := by unfold upV; rw [hgl]
      simp
      refine vc_lp (σ := (List Int × List Int) × Nat × Nat) (fun x => UpInv gp x.1.1 x.1.2 x.2.1 0 ∧ x.2.1 ≤ x.1.2.length ∧ x.2.2 + x.2.1 = g.length + 1 ∧ (upGo gp x.2.2 x.1 x.2.1).2 = upV gp) (fun x => g.length + 1 - x.2.1)
        (fun x => [.d (Rep.to g), .any, .own 0 0 0 g.length, .any, .any, .gr 1 1 (x.1.2.map Rep.to), .any, .any, .d (.int .i64 x.2.1), .any, .any, .any, .any, .any, .any, .any, .any, .any, .any, .any, .any, .any, .any, .any, .any, .any, .any, .any, .any])
        (fun x => [.cells 0 1 (cntC x.1.1), .tip x.1.2.length]) ((cnt0 gp, out0 gp g.length), 0, g.length + 1) (by simp) (by simp) ⟨hinv0, by simp, by simp, hup⟩ ?_ (hc := .inl (by simp))
      rintro ⟨⟨cnt, out⟩, k, fu⟩ ⟨hinv, hko, hfu, hgo⟩
      simp only at hinv hko hfu hgo
      have hle := hinv.le
      by_cases hkl : k < out.length
      · have w1 : IntKind.i64.wrap ((k : Int) + 1) = (k : Int) + 1 := wrap_in (by omega) (by omega)
        obtain ⟨fu, rfl⟩ : ∃ q, fu = q + 1 := ⟨fu - 1, by omega⟩
        have hkr := hinv.rng _ (List.getElem_mem hkl)
        obtain ⟨c, hc⟩ := Int.eq_ofNat_of_zero_le hkr.1
        have hcl : c < g.length := by omega
        have hk? : out[k]? = some (c : Int) := by rw [List.getElem?_eq_getElem hkl, hc]
        have hpa := hpg c hcl
        have hpsl := p2 _ (List.getElem_mem hcl)
        rw [upGo, hk?] at hgo
        simp only [Int.toNat_natCast] at hgo
        rw [hpa] at hgo
        simp [hkl, getD_map, hc, hcl]
        generalize hps : g[c].parents = ps at *
        refine vc_lp (σ := (List Int × List Int) × Nat) (fun x => UpInv gp x.1.1 x.1.2 k x.2 ∧ x.1.2[k]? = some (c : Int) ∧ x.2 ≤ ps.length ∧ (ps.drop x.2).foldl decP x.1 = ps.foldl decP (cnt, out)) (fun x => ps.length - x.2)
          (fun x => [.d (Rep.to g), .any, .own 0 0 0 g.length, .any, .any, .gr 1 1 (x.1.2.map Rep.to), .any, .any, .d (.int .i64 k), .any, .any, .any, .any, .any, .any, .any, .any, .any, .any, .any, .any, .any, .any, .any, .d (Rep.to ps), .d (.int .i64 ps.length), .d (.int .i64 x.2), .any, .any])
          (fun x => [.cells 0 1 (cntC x.1.1), .tip x.1.2.length]) ((cnt, out), 0) (by simp) (by simp) ⟨hinv, hk?, by simp, by simp⟩ ?_ (hc := .inl (by simp))
        rintro ⟨⟨cn, ou⟩, j⟩ ⟨hi2, hk2, hj, hfold⟩
        simp only at hi2 hk2 hj hfold
        have hle2 := hi2.le
        have hcnl := hi2.len
        by_cases hjl : j < ps.length
        · have w2 : IntKind.i64.wrap ((j : Int) + 1) = (j : Int) + 1 := wrap_in (by omega) (by omega)
          have hjp : j < (parV gp c).length := by rw [hpa]; exact hjl
          have hin := hok.rng c (by omega) ps[j] (by rw [hpa]; exact List.getElem_mem hjl)
          obtain ⟨p, hp⟩ := Int.eq_ofNat_of_zero_le hin.1
          obtain ⟨s1, s2, s3, s4⟩ := hi2.step hok hk2 hjp (p := p) (by simp only [hpa]; exact hp)
          have hpn : p < cn.length := by omega
          have hgp' : cn.getD p 0 = cn[p] := by simp [List.getD, hpn]
          have hcv := hi2.cv p s1
          have hmx : remV gp (seenV gp ou k j) p ≤ 1000 * gp.length := by
            unfold remV
            have : ∀ n, sumN (fun c => ((parV gp c).drop (seenV gp ou k j c)).count (p : Int)) n ≤ 1000 * n := by
              intro n
              induction n with
              | zero => simp [sumN]
              | succ n ih =>
                rw [sumN_succ, Nat.mul_succ]
                have h8 := List.count_le_length (a := (p : Int)) (l := (parV gp n).drop (seenV gp ou k j n))
                have h9 := hB n
                simp only [List.length_drop] at h8
                omega
            exact this _
          rw [hgp'] at s2 s3 s4 hcv
          have w3 : IntKind.i64.wrap (cn[p] - 1) = cn[p] - 1 := wrap_in (by omega) (by omega)
          have hcl2 := cntC_len cn
          have hcg := cntC_get hpn
          have hcg2 : ∀ h : p < (cntC cn).length, (cntC cn)[p]'h = .d (.int .i64 cn[p]) := fun h => by obtain ⟨_, h9⟩ := List.getElem?_eq_some_iff.1 hcg; exact h9
          have hcs := cntC_set cn p (cn[p] - 1)
          have hsg : (cntC (cn.set p (cn[p] - 1)))[p]? = some (.d (.int .i64 (cn[p] - 1))) := by simp [cntC, hpn]
          have hcl3 := cntC_len (cn.set p (cn[p] - 1))
          have hsg2 : ∀ h : p < (cntC (cn.set p (cn[p] - 1))).length, (cntC (cn.set p (cn[p] - 1)))[p]'h = .d (.int .i64 (cn[p] - 1)) := fun h => by obtain ⟨_, h9⟩ := List.getElem?_eq_some_iff.1 hsg; exact h9
          have hdec : decP (cn, ou) (p : Int) = (cn.set p (cn[p] - 1), if cn[p] - 1 = 0 then ou ++ [(p : Int)] else ou) := by
            unfold decP
            simp only [Int.toNat_natCast]
            rw [hgp']
          rw [List.drop_eq_getElem_cons hjl, List.foldl_cons, hp, hdec] at hfold
          have hpg' : p < g.length := by omega
          have hkou : k < ou.length := by
            rcases Nat.lt_or_ge k ou.length with h' | h'
            · exact h'
            · rw [List.getElem?_eq_none (by omega)] at hk2; cases hk2
          by_cases hz : cn[p] - 1 = 0
          · rw [if_pos hz] at hfold
            have hi3 := s3 hz
            rw [hz] at hi3 hfold hcs
            have w0 : IntKind.i64.wrap 0 = 0 := rfl
            have hcl0 := cntC_len (cn.set p 0)
            have hsg0 : (cntC (cn.set p 0))[p]? = some (.d (.int .i64 0)) := by simp [cntC, hpn]
            have hsg3 : ∀ h : p < (cntC (cn.set p 0)).length, (cntC (cn.set p 0))[p]'h = .d (.int .i64 0) := fun h => by obtain ⟨_, h9⟩ := List.getElem?_eq_some_iff.1 hsg0; exact h9
            simp [hjl, getD_map, hp, hpg', hpn, hcl2, hcg, hcg2, w2, w0, hcs, hsg0, hsg3, hcl0, hz]
            exact ⟨by unfold room; omega, Nxt.mk ((cn.set p 0, ou ++ [(p : Int)]), j + 1) (by simp only; omega) (by simp) (by simp) ⟨hi3, by simp only; rw [List.getElem?_append_left hkou]; exact hk2, by simp only; omega, hfold⟩ (by simp) (.inr ⟨by simp, by simpa using cntC_under (cn.set p 0) 2⟩)⟩
          · rw [if_neg hz] at hfold
            have hi3 := s4 hz
            simp [hjl, getD_map, hp, hpg', hpn, hcl2, hcg, hcg2, w2, w3, hcs, hsg, hsg2, hcl3, hz]
            exact Nxt.mk ((cn.set p (cn[p] - 1), ou), j + 1) (by simp only; omega) (by simp) (by simp) ⟨hi3, hk2, by simp only; omega, hfold⟩ (by simp) (.inl (by simp))
        · have h9 : j = ps.length := by omega
          subst h9
          rw [List.drop_length, List.foldl_nil] at hfold
          have hi3 := hi2.next hk2 (by rw [hpa]; exact Nat.le_refl _)
          have hkou : k < ou.length := by
            rcases Nat.lt_or_ge k ou.length with h' | h'
            · exact h'
            · rw [List.getElem?_eq_none (by omega)] at hk2; cases hk2
          rw [← hfold] at hgo
          simp [w1]
          exact Nxt.mk ((cn, ou), k + 1, fu) (by simp only; omega) (by simp) (by simp) ⟨hi3, by simp only; omega, by simp only; omega, hgo⟩ (by simp) (.inl (by simp))
      · have h9 : k = out.length := by omega
        subst h9
        have : upGo gp fu (cnt, out) out.length = (cnt, out) := by
          cases fu with
          | zero => rfl
          | succ fu => unfold upGo; simp
        rw [this] at hgo
        simp only at hgo
        simp [hgo]

end Go.AE

set_option maxRecDepth 20000
set_option maxHeartbeats 4000000
namespace Go.AE

structure NoFX where
  f : Nat

@[simp] def F_slices_IndexFunc_File_File : RF NoFX where
  new := 0
  view a _ := ⟨(a.getD 1 .any).gfn⟩
  args x := [.d (.sl 2 []), .fn (.func x.f) [] []]
  st _ := []
  pre _ := True
  res _ := .d (.int .i64 (-1))
  st' _ := []
abbrev R_slices_IndexFunc_File_File : RSpec := F_slices_IndexFunc_File_File.spec
theorem ct_slices_IndexFunc_File_File {P : Program} {f : Nat} {G : Gam} (hc : CodeOf P f 2 8 [2] x_slices_IndexFunc_File_File) (hG : GamOk P G) : RSpec.Ok P f R_slices_IndexFunc_File_File := by
  refine RF.ok hc.call fun x _ => hc.rcalls hG rfl ?_
  obtain ⟨fn⟩ := x
  simp [x_slices_IndexFunc_File_File, startA]
  refine vc_lp (σ := Unit) (fun _ => True) (fun _ => 0)
    (fun _ => [.d (.sl 2 []), .any, .any, .any, .d (.int .i64 0), .d (.int .i64 0), .any, .any]) (fun _ => []) () (by simp) (by simp) trivial ?_
  intro _ _
  simp
  exact FinR.done (by simp) (by simp) rfl rfl (by simp) (by simp)

@[simp] def F_slices_ContainsFunc_File_File : RF NoFX where
  new := 0
  view a _ := ⟨(a.getD 1 .any).gfn⟩
  args x := [.d (.sl 2 []), .fn (.func x.f) [] []]
  st _ := []
  pre _ := True
  res _ := .d (.bool false)
  st' _ := []
abbrev R_slices_ContainsFunc_File_File : RSpec := F_slices_ContainsFunc_File_File.spec
theorem ct_slices_ContainsFunc_File_File {P : Program} {f g1 : Nat} {G : Gam} (hc : CodeOf P f 2 3 [2] (x_slices_ContainsFunc_File_File g1)) (hG : GamOk P G) (h1 : G.findR g1 = some R_slices_IndexFunc_File_File) : RSpec.Ok P f R_slices_ContainsFunc_File_File := by
  refine RF.ok hc.call fun x _ => hc.rcalls hG rfl ?_
  obtain ⟨fn⟩ := x
  simp [x_slices_ContainsFunc_File_File, startA, h1, eRCall]
  exact FinR.done (by simp) (by simp) rfl rfl (by simp) (by simp)

structure UnitX where
  u : Unit

@[simp] def F_tree_blobs : RF UnitX where
  new := 1
  view _ _ := ⟨()⟩
  args _ := [.d (.sl 2 [])]
  st _ := [.res]
  pre _ := True
  res _ := .mp 0
  st' _ := [.map []]
abbrev R_tree_blobs : RSpec := F_tree_blobs.spec
theorem ct_tree_blobs {P : Program} {f : Nat} {G : Gam} (hc : CodeOf P f 1 8 [1] x_tree_blobs) (hG : GamOk P G) : RSpec.Ok P f R_tree_blobs := by
  refine RF.ok hc.call fun x _ => hc.rcalls hG rfl ?_
  simp [x_tree_blobs, startA]
  refine vc_lp (σ := Unit) (fun _ => True) (fun _ => 0)
    (fun _ => [.any, .any, .mp 1, .any, .d (.sl 2 []), .d (.int .i64 0), .d (.int .i64 0), .any]) (fun _ => [.res, .map []]) () (by simp) (by simp) trivial ?_
  intro _ _
  simp
  refine ⟨by simp [resPre, resE], [1], rfl, ⟨by decide, by simp, rfl⟩, fun k hk => ?_, rfl, by simp [resOf, resE, A.ren, idxIn] <;> rfl, rfl⟩
  match k, hk with
  | 0, _ => exact .inr rfl

@[simp] def S_tree_ordered : List D → Prop × D := spec1 (α := List FileT) (fun l => l = []) (fun _ => .bool true)
theorem ct_tree_ordered {P : Program} {f g1 g2 : Nat} {G : Gam} (h : CodeOf P f 1 10 [1] (x_tree_ordered g1 g2)) (hG : GamOk P G) (h1 : G.findR g1 = some R_tree_blobs) (_ : g2 = g2) : Has P f S_tree_ordered := h.has1 hG fun l hp => by
  subst hp
  simp [x_tree_ordered, h1, eRCall]
  refine vc_lp (σ := Unit) (fun _ => True) (fun _ => 0)
    (fun _ => [.any, .any, .any, .any, .any, .d (.sl 2 []), .d (.int .i64 0), .d (.int .i64 0), .any, .any]) (fun _ => []) () (by simp) (by simp) trivial ?_
  intro _ _
  simp

@[simp] def S_tree_Check : List D → Prop × D := spec1 (α := List FileT) (fun l => l = []) (fun _ => .int .i64 0)
theorem ct_tree_Check {P : Program} {f g1 g2 g3 g4 : Nat} {G : Gam} (h : CodeOf P f 1 6 [1] (x_tree_Check g1 g2 g3 g4)) (hG : GamOk P G) (h1 : G.find g1 = some S_tree_ordered) (h2 : G.findR g2 = some R_slices_ContainsFunc_File_File) (_ : g3 = g3) (_ : g4 = g4) : Has P f S_tree_Check := h.has1 hG fun l hp => by
  subst hp
  simp [x_tree_Check, h1, h2, eRCall]

def dagC (g : List CommitT) : Int := if limB g = true then (if relG g = true then (if (upV (parG g)).length < g.length then 231 else if g.any rangeB = true then 3 else 0) else 230) else 1

@[simp] def S_dag_Check : List D → Prop × D := spec1 (α := List CommitT) (fun g => g.length ≤ 1000 ∧ ∀ c, c ∈ g → c.parents.length ≤ 1000 ∧ c.files = []) (fun g => .int .i64 (dagC g))
theorem ct_dag_Check {P : Program} {f g1 g2 g3 g4 g5 g6 g7 : Nat} {G : Gam} (h : CodeOf P f 1 13 [1] (x_dag_Check g1 g2 g3 g4 g5 g6)) (hG : GamOk P G) (h1 : G.find g1 = some S_dag_limited) (h2 : G.find g2 = some S_dag_related) (h3 : G.find g3 = some S_dag_Upward) (h4 : G.find g4 = some S_tree_Check) (h5 : G.findR g5 = some (R_slices_ContainsFunc_Commit_Commit g7 g6)) (hne : decide (g7 = g6) = false) : Has P f S_dag_Check := h.has1 hG fun g hp => by
  obtain ⟨p1, p2⟩ := hp
  have hne : g7 ≠ g6 := of_decide_eq_false hne
  have q1 : ∀ c, c ∈ g → c.parents.length ≤ 1000000 := fun c hc => by have := (p2 c hc).1; omega
  have q2 : ∀ c, c ∈ g → c.parents.length ≤ 1000 := fun c hc => (p2 c hc).1
  cases c1 : limB g with
  | false => simp [x_dag_Check, h1, p1, c1, dagC]
  | true =>
    cases c2 : relG g with
    | false => simp [x_dag_Check, h1, h2, p1, c1, c2, dagC]; exact q1
    | true =>
      by_cases c3 : (upV (parG g)).length < g.length
      · simp [x_dag_Check, h1, h2, h3, p1, c1, c2, c3, dagC]; exact ⟨q1, q2⟩
      · cases c4 : g.any rangeB with
        | true =>
          have e4 : g.any (conP false) = true := c4
          simp [x_dag_Check, h1, h2, h3, h5, eRCall, p1, c1, c2, c3, c4, e4, hne, hne.symm, dagC]
          exact ⟨q1, q2⟩
        | false =>
          have e4 : g.any (conP false) = false := c4
          simp [x_dag_Check, h1, h2, h3, h5, eRCall, p1, c1, c2, c3, c4, e4, hne, hne.symm, dagC]
          refine ⟨q1, q2, ?_⟩
          refine vc_lp (σ := Nat) (fun i => i ≤ g.length) (fun i => g.length - i)
            (fun i => [.any, .any, .any, .any, .any, .any, .any, .any, .d (Rep.to g), .d (.int .i64 g.length), .d (.int .i64 i), .any, .any]) (fun _ => []) 0 (by simp) (by simp) (by simp) ?_
          intro i hi
          by_cases hil : i < g.length
          · have w1 : IntKind.i64.wrap ((i : Int) + 1) = (i : Int) + 1 := wrap_in (by omega) (by omega)
            have hf := (p2 _ (List.getElem_mem hil)).2
            simp [hil, getD_map, h4, hf, w1]
            exact Nxt.mk (i + 1) (by omega) (by simp) (by simp) (by omega)
          · simp [show ¬ i < g.length from hil]

end Go.AE

set_option maxRecDepth 20000
set_option maxHeartbeats 4000000
namespace Go.AE

structure KidX where
  g : List CommitT
  c : Int
  i : Nat
  v : Nat
  w : Nat

def kidB (g : List CommitT) (c : Int) (i : Nat) : Bool := decide (c ∈ (g.getD i default).parents)
def kidsV (g : List CommitT) (c : Int) (n : Nat) : List Int := ((List.range n).filter (kidB g c)).map fun (i : Nat) => (i : Int)
theorem kidsV_succ (g : List CommitT) (c : Int) (n : Nat) : kidsV g c (n + 1) = kidsV g c n ++ (if kidB g c n = true then [(n : Int)] else []) := by
  unfold kidsV
  rw [List.range_succ, List.filter_append, List.map_append, List.filter_cons, List.filter_nil]
  congr 1
  by_cases h : kidB g c n = true <;> simp [h]
theorem kidsV_len (g : List CommitT) (c : Int) (n : Nat) : (kidsV g c n).length ≤ n := by
  unfold kidsV
  rw [List.length_map]
  exact Nat.le_trans (List.length_filter_le _ _) (by simp)

@[simp] def F_dag_Children_1 : RF KidX where
  new := 0
  view a s := ⟨((s.getD 0 .dead).at 0 0).gl CommitT, ((s.getD 1 .dead).at 0 0).gi, (a.getD 0 .any).gi.toNat, (s.getD 0 .dead).ver, (s.getD 1 .dead).ver⟩
  args x := [.d (.int .i64 x.i), .ref 0 x.v 0 0, .ref 1 x.w 0 0]
  st x := [.cells x.v 1 [.d (Rep.to x.g)], .cells x.w 1 [.d (.int .i64 x.c)]]
  pre x := x.i < x.g.length ∧ ∀ c, c ∈ x.g → c.parents.length ≤ 1000
  res x := .d (.bool (kidB x.g x.c x.i))
  st' x := [.cells x.v 1 [.d (Rep.to x.g)], .cells x.w 1 [.d (.int .i64 x.c)]]
abbrev R_dag_Children_1 : RSpec := F_dag_Children_1.spec

theorem ct_dag_Children_1 {P : Program} {f g1 : Nat} {G : Gam} (hc : CodeOf P f 3 4 [3] (x_dag_Children_1 g1)) (hG : GamOk P G) (h1 : G.find g1 = some S_slices_Contains_int_int) : RSpec.Ok P f R_dag_Children_1 := by
  refine RF.ok hc.call fun x hx => hc.rcalls hG rfl ?_
  obtain ⟨g, c, i, v, w⟩ := x
  obtain ⟨hi, hl⟩ := hx
  simp only at hi hl
  have hpl := hl _ (List.getElem_mem hi)
  have hk : kidB g c i = decide (c ∈ g[i].parents) := by unfold kidB; simp [List.getD, hi]
  simp [x_dag_Children_1, startA, h1, hi, getD_map, hk, show g[i].parents.length ≤ 9223372036854775807 by omega]
  exact FinR.done (by simp) (by simp) rfl rfl (by simp) (by simp)

@[simp] def F_dag_where (g1 : Nat) : RF KidX where
  new := 0
  view a s := ⟨((s.getD 0 .dead).at 0 0).gl CommitT, ((s.getD 1 .dead).at 0 0).gi, 0, (s.getD 0 .dead).ver, (s.getD 1 .dead).ver⟩
  args x := [.d (Rep.to x.g), .fn (.func g1) [] [.ref 0 x.v 0 0, .ref 1 x.w 0 0]]
  st x := [.cells x.v 1 [.d (Rep.to x.g)], .cells x.w 1 [.d (.int .i64 x.c)]]
  pre x := x.g.length ≤ 1000 ∧ ∀ c, c ∈ x.g → c.parents.length ≤ 1000
  res x := .d (Rep.to (kidsV x.g x.c x.g.length))
  st' x := [.cells x.v 1 [.d (Rep.to x.g)], .cells x.w 1 [.d (.int .i64 x.c)]]
abbrev R_dag_where (g1 : Nat) : RSpec := (F_dag_where g1).spec

theorem ct_dag_where {P : Program} {f g1 : Nat} {G : Gam} (hc : CodeOf P f 2 9 [2] x_dag_where) (hG : GamOk P G) (h1 : G.findR g1 = some R_dag_Children_1) : RSpec.Ok P f (R_dag_where g1) := by
  refine RF.ok hc.call fun x hx => hc.rcalls hG rfl ?_
  obtain ⟨g, c, i0, v, w⟩ := x
  obtain ⟨hn, hl⟩ := hx
  simp only at hn hl
  simp [x_dag_where, startA]
  refine vc_lp (σ := Nat) (fun i => i ≤ g.length) (fun i => g.length - i)
    (fun i => [.any, .fn (.func g1) [] [.ref 0 v 0 0, .ref 1 w 0 0], .any, .gr 2 1 ((kidsV g c i).map Rep.to), .any, .d (.int .i64 g.length), .d (.int .i64 i), .any, .any])
    (fun i => [.cells v 1 [.d (Rep.to g)], .cells w 1 [.d (.int .i64 c)], .tip (kidsV g c i).length]) 0 ?_ (by simp [kidsV]) (by simp) ?_
  · simp [kidsV, Sb]
  intro i hi
  have hkl := kidsV_len g c i
  by_cases hil : i < g.length
  · have w1 : IntKind.i64.wrap ((i : Int) + 1) = (i : Int) + 1 := wrap_in (by omega) (by omega)
    have hs := kidsV_succ g c i
    cases hk : kidB g c i with
    | true =>
      rw [hk, if_pos rfl] at hs
      simp [hil, eCallv, eRCall, h1, hl, hk, w1, getD_map]
      exact ⟨hl, by unfold room; omega, Nxt.mk (i + 1) (by omega) (by simp [hs, Sb]) (by simp [hs]) (by omega)⟩
    | false =>
      rw [hk, if_neg (by simp), List.append_nil] at hs
      simp [hil, eCallv, eRCall, h1, hl, hk, w1, getD_map]
      exact ⟨hl, Nxt.mk (i + 1) (by omega) (by simp [hs, Sb]) (by simp [hs]) (by omega)⟩
  · have h9 : i = g.length := by omega
    subst h9
    simp
    refine Hint.of (T' := [.any, .any, .any, .d (Rep.to (kidsV g c g.length)), .any, .any, .any, .any, .any]) (s' := [.cells v 1 [.d (Rep.to g)], .cells w 1 [.d (.int .i64 c)]]) (Sub.re ⟨by simp, by simp, by simp, .inr ⟨by simp, by simp⟩⟩) ?_
    simp
    exact FinR.done (by simp) (by simp) rfl rfl (by simp) (by simp)

@[simp] def S_dag_Is : List D → Prop × D := spec2 (α := List CommitT) (β := Int) (fun _ _ => True) (fun g c => .bool (decide (0 ≤ c ∧ c < (g.length : Int))))
theorem ct_dag_Is {P : Program} {f : Nat} {G : Gam} (h : CodeOf P f 2 3 [2] x_dag_Is) (hG : GamOk P G) : Has P f S_dag_Is := h.has2 hG fun g c _ => by
  by_cases c1 : 0 ≤ c
  · simp [x_dag_Is, c1]
  · simp [x_dag_Is, c1]

def kidsD (g : List CommitT) (c : Int) : D := if dagC g = 0 then (if 0 ≤ c ∧ c < (g.length : Int) then .tup [Rep.to (kidsV g c g.length), .int .i64 0] else .tup [.nilsl, .int .i64 5]) else .tup [.nilsl, .int .i64 (dagC g)]

@[simp] def S_dag_Children : List D → Prop × D := spec2 (α := List CommitT) (β := Int) (fun g _ => g.length ≤ 1000 ∧ ∀ c, c ∈ g → c.parents.length ≤ 1000 ∧ c.files = []) (fun g c => kidsD g c)
theorem ct_dag_Children {P : Program} {f g1 g2 g3 g4 : Nat} {G : Gam} (h : CodeOf P f 2 9 [4, 5] (x_dag_Children g1 g2 g3 g4)) (hG : GamOk P G) (h1 : G.find g1 = some S_dag_Check) (h2 : G.find g2 = some S_dag_Is) (h3 : G.findR g3 = some (R_dag_where g4)) (_ : G.findR g4 = some R_dag_Children_1) : Has P f S_dag_Children := h.has2 hG fun g c hp => by
  obtain ⟨p1, p2⟩ := hp
  have q2 : ∀ c, c ∈ g → c.parents.length ≤ 1000 := fun c hc => (p2 c hc).1
  by_cases c0 : dagC g = 0
  · by_cases c1 : 0 ≤ c ∧ c < (g.length : Int)
    · simp [x_dag_Children, h1, h2, h3, eRCall, p1, c0, c1, kidsD]
      exact ⟨p2, q2⟩
    · simp [x_dag_Children, h1, h2, p1, c0, c1, kidsD]
      exact p2
  · simp [x_dag_Children, h1, p1, c0, kidsD]
    exact p2

end Go.AE

set_option maxRecDepth 20000
set_option maxHeartbeats 2000000
namespace Go.AE

end Go.AE

set_option maxRecDepth 20000
set_option maxHeartbeats 4000000
namespace Go.AE

end Go.AE

set_option maxRecDepth 20000
set_option maxHeartbeats 4000000
namespace Go.AE

theorem vc_mid {G : Gam} {lo : Nat} {a b : XC} {Q : XE → List A → Store → Prop} {T : List A} {s : Store} (T' : List A) (s' : Store) (h : vc G lo a (fun e T s => e = .normal ∧ T = T' ∧ s = s') T s) (k : vc G lo b Q T' s') : vc G lo (.seq a b) Q T s := by
  rw [vc_seq]
  refine vc_mono _ _ _ _ _ (fun e T s h => ?_) h
  obtain ⟨rfl, rfl, rfl⟩ := h
  exact k

end Go.AE

set_option maxRecDepth 20000
set_option maxHeartbeats 4000000
namespace Go.AE

theorem aw23a : dagC [⟨[1], 0, []⟩, ⟨[0], 0, []⟩] = 231 := by decide +kernel
theorem aw23b : dagC [⟨[0], 0, []⟩] = 231 := by decide +kernel
theorem aw23c : dagC [⟨[], 0, []⟩, ⟨[0], 0, []⟩] = 0 := by decide +kernel
theorem aw23d : kidsV [⟨[], 0, []⟩, ⟨[0], 0, []⟩] 0 2 = [1] := by decide +kernel

@[simp] def S_law23_awake : List D → Prop × D := spec0 True (.bool true)
theorem ct_law23_awake {P : Program} {f g1 g2 g3 : Nat} {G : Gam} (h : CodeOf P f 0 5 [0] (x_law23_awake g1 g2 g3)) (hG : GamOk P G) (h1 : G.find g1 = some S_dag_Children) (h2 : G.find g2 = some S_dag_Check) (h3 : G.find g3 = some S_gen_Ints) : Has P f S_law23_awake := h.has0 hG fun _ => by
  have e1 : ofAll (Rep.of (α := CommitT)) [.agg [.sl 1 [.int .i64 1], .int .i64 0, .nilsl], .agg [.sl 1 [.int .i64 0], .int .i64 0, .nilsl]] = some [⟨[1], 0, []⟩, ⟨[0], 0, []⟩] := rfl
  have e2 : ofAll (Rep.of (α := CommitT)) [.agg [.sl 1 [.int .i64 0], .int .i64 0, .nilsl]] = some [⟨[0], 0, []⟩] := rfl
  have e3 : ofAll (Rep.of (α := CommitT)) [.agg [.nilsl, .int .i64 0, .nilsl], .agg [.sl 1 [.int .i64 0], .int .i64 0, .nilsl]] = some [⟨[], 0, []⟩, ⟨[0], 0, []⟩] := rfl
  have e4 : ofAll (Rep.of (α := Int)) [.int .i64 1] = some [1] := rfl
  have k1 : kidsD [⟨[], 0, []⟩, ⟨[0], 0, []⟩] 0 = .tup [.sl 1 [.int .i64 1], .int .i64 0] := by
    unfold kidsD
    rw [if_pos aw23c, if_pos (by simp)]
    show D.tup [Rep.to (kidsV [⟨[], 0, []⟩, ⟨[0], 0, []⟩] 0 2), _] = _
    rw [aw23d]
    rfl
  simp [x_law23_awake, h1, h2, h3, e1, e2, e3, e4, k1, aw23a, aw23b, aw23c]

/-! ### the limits -/

theorem ofAll_ext {α : Type} {f : D → Option α} : ∀ (l : List D) (m : List α), l.length = m.length → (∀ i (h1 : i < l.length) (h2 : i < m.length), f l[i] = some m[i]) → ofAll f l = some m
  | [], [], _, _ => rfl
  | x :: l, y :: m, h, hf => by
    have h0 := hf 0 (by simp) (by simp)
    simp only [List.getElem_cons_zero] at h0
    have ih := ofAll_ext l m (by simpa using h) fun i h1 h2 => by
      have := hf (i + 1) (by simpa using h1) (by simpa using h2)
      simpa using this
    simp only [ofAll]
    rw [h0, ih]
  | [], _ :: _, h, _ => by cases h
  | _ :: _, [], h, _ => by cases h

end Go.AE

set_option maxRecDepth 20000
set_option maxHeartbeats 4000000
namespace Go.AE

/-- the parent of commit k -/
def parO (raw : List Int) (k : Nat) : Nat := (modV (atV raw k) k).toNat
theorem parO_lt (raw : List Int) {k : Nat} (h : 0 < k) : parO raw k < k ∧ ((parO raw k : Nat) : Int) = modV (atV raw k) k := by
  have := modV_lt (atV raw k) (n := (k : Int)) (by omega)
  unfold parO
  omega

def comD (raw : List Int) (k : Nat) : D := if k = 0 then .agg [.nilsl, .int .i64 0, .nilsl] else .agg [.sl 1 [.int .i64 (parO raw k)], .int .i64 0, .nilsl]
def comG (raw : List Int) (k : Nat) : CommitT := if k = 0 then ⟨[], 0, []⟩ else ⟨[(parO raw k : Int)], 0, []⟩
def cycC (raw : List Int) (n : Nat) : List A := (List.range n).map fun k => .d (comD raw k)
def cycG (raw : List Int) (n : Nat) : List CommitT := (List.range n).map (comG raw)
theorem cycC_succ (raw : List Int) (n : Nat) : cycC raw (n + 1) = cycC raw n ++ [.d (comD raw n)] := by simp [cycC, List.range_succ]
theorem cycC_len (raw : List Int) (n : Nat) : (cycC raw n).length = n := by simp [cycC]
theorem cycG_len (raw : List Int) (n : Nat) : (cycG raw n).length = n := by simp [cycG]
theorem cycC_get (raw : List Int) {n k : Nat} (h : k < n) : (cycC raw n)[k]? = some (.d (comD raw k)) := by simp [cycC, h]
theorem cycG_get (raw : List Int) {n k : Nat} (h : k < n) : (cycG raw n)[k]'(by rw [cycG_len]; exact h) = comG raw k := by simp [cycG]
theorem comD_of (raw : List Int) (k : Nat) : Rep.of (α := CommitT) (comD raw k) = some (comG raw k) := by
  unfold comD comG
  by_cases h : k = 0
  · rw [if_pos h, if_pos h]; rfl
  · rw [if_neg h, if_neg h]; rfl
theorem cycC_isD (raw : List Int) (n : Nat) : (cycC raw n).all A.isD = true := by
  rw [List.all_eq_true]
  intro x hx
  obtain ⟨k, _, rfl⟩ := List.mem_map.1 hx
  rfl
theorem cycC_under (raw : List Int) (n N : Nat) : ∀ x, x ∈ cycC raw n → A.under N x = true := by
  intro x hx
  obtain ⟨k, _, rfl⟩ := List.mem_map.1 hx
  rfl
theorem cycC_of (raw : List Int) (n : Nat) : ofAll (Rep.of (α := CommitT)) ((cycC raw n).map A.toD) = some (cycG raw n) := by
  refine ofAll_ext _ _ (by simp [cycC, cycG]) fun i h1 h2 => ?_
  simp [cycC, cycG, A.toD, comD_of]

theorem comG_par (raw : List Int) (k : Nat) : (comG raw k).parents = if k = 0 then [] else [(parO raw k : Int)] := by
  unfold comG
  split <;> rfl

theorem cycG_C (raw : List Int) {n : Nat} (hn : n ≤ 9) : dagC (cycG raw n) = 0 := by
  have hl := cycG_len raw n
  have hmem : ∀ c, c ∈ cycG raw n → ∃ k, k < n ∧ c = comG raw k := fun c hc => by
    obtain ⟨k, hk, rfl⟩ := List.mem_map.1 hc
    exact ⟨k, by simpa using hk, rfl⟩
  have hlim : limB (cycG raw n) = true := by
    unfold limB
    rw [hl, Bool.and_eq_true]
    refine ⟨by simp; omega, ?_⟩
    rw [Bool.not_eq_true', List.any_eq_false]
    intro c hc
    obtain ⟨k, hk, rfl⟩ := hmem c hc
    simp only [conP, if_true, comG_par]
    split <;> simp
  have hrel : relG (cycG raw n) = true := by
    unfold relG
    rw [List.all_eq_true]
    intro c hc
    obtain ⟨k, hk, rfl⟩ := hmem c hc
    rw [comG_par, hl]
    by_cases h : k = 0
    · rw [if_pos h]; simp [relB]
    · rw [if_neg h]
      have := (parO_lt raw (k := k) (by omega)).1
      simp [relB]
      omega
  have hup : (upV (parG (cycG raw n))).length = (cycG raw n).length := by
    rw [up_full (relG_ok hrel), parG_len]
    intro c hc x hx
    rw [parG_len, hl] at hc
    rw [parG_get (by rw [hl]; exact hc), cycG_get raw hc, comG_par] at hx
    by_cases h : c = 0
    · rw [if_pos h] at hx; cases hx
    · rw [if_neg h] at hx
      simp at hx
      have := (parO_lt raw (k := c) (by omega)).1
      omega
  have hrg : (cycG raw n).any rangeB = false := by
    rw [List.any_eq_false]
    intro c hc
    obtain ⟨k, hk, rfl⟩ := hmem c hc
    unfold comG
    split <;> simp [rangeB]
  unfold dagC
  rw [if_pos hlim, if_pos hrel, if_neg (by omega), hrg]
  rfl

/-- an arc from a commit to one of its descendants -/
def arcG (raw : List Int) (n top c : Nat) : List CommitT := (cycG raw n).set top ⟨(comG raw top).parents ++ [(c : Int)], 0, []⟩

theorem arcG_C (raw : List Int) {n top c : Nat} (hn : n ≤ 9) (ht : top ≤ c) (hc : c < n) (C : Nat → Prop) (h0 : C c) (h1 : C top) (hin : ∀ i, C i → i < n) (hch : ∀ i, C i → i ≠ c → ∃ j, C j ∧ (i : Int) ∈ (comG raw j).parents) : dagC (arcG raw n top c) = 231 := by
  have hl : (arcG raw n top c).length = n := by simp [arcG, cycG]
  have hget : ∀ i (h : i < n), (arcG raw n top c)[i]'(by rw [hl]; exact h) = if i = top then ⟨(comG raw top).parents ++ [(c : Int)], 0, []⟩ else comG raw i := fun i h => by
    unfold arcG
    rw [List.getElem_set]
    by_cases e : top = i
    · rw [if_pos e, if_pos e.symm]
    · rw [if_neg e, if_neg (fun h => e h.symm), cycG_get raw h]
  have hpar : ∀ i (h : i < n), ((arcG raw n top c)[i]'(by rw [hl]; exact h)).parents = (comG raw i).parents ++ (if i = top then [(c : Int)] else []) := fun i h => by
    rw [hget i h]
    by_cases e : i = top
    · subst e; rw [if_pos rfl, if_pos rfl]
    · rw [if_neg e, if_neg e, List.append_nil]
  have hlim : limB (arcG raw n top c) = true := by
    unfold limB
    rw [hl, Bool.and_eq_true]
    refine ⟨by simp; omega, ?_⟩
    rw [Bool.not_eq_true', List.any_eq_false]
    intro x hx
    obtain ⟨i, hi, rfl⟩ := List.mem_iff_getElem.1 hx
    simp only [conP, if_true]
    rw [hpar i (by omega), comG_par]
    split <;> split <;> simp
  have hrel : relG (arcG raw n top c) = true := by
    unfold relG
    rw [List.all_eq_true]
    intro x hx
    obtain ⟨i, hi, rfl⟩ := List.mem_iff_getElem.1 hx
    rw [hpar i (by omega), hl, comG_par]
    by_cases e1 : i = 0
    · rw [if_pos e1]
      by_cases e2 : i = top
      · rw [if_pos e2]; simp [relB]; omega
      · rw [if_neg e2]; simp [relB]
    · rw [if_neg e1]
      have hp := (parO_lt raw (k := i) (by omega)).1
      by_cases e2 : i = top
      · rw [if_pos e2]; simp [relB]; omega
      · rw [if_neg e2]; simp [relB]; omega
  have hup : (upV (parG (arcG raw n top c))).length < (arcG raw n top c).length := by
    have := up_cycle (g := parG (arcG raw n top c)) (relG_ok hrel) C h0 (fun i hi => by rw [parG_len, hl]; exact hin i hi) fun i hi => ?_
    · rw [parG_len] at this; exact this
    · by_cases e : i = c
      · subst e
        refine ⟨top, h1, ?_⟩
        rw [parG_get (by rw [hl]; exact hin top h1), hpar top (hin top h1), if_pos rfl]
        simp
      · obtain ⟨j, j1, j2⟩ := hch i hi e
        refine ⟨j, j1, ?_⟩
        rw [parG_get (by rw [hl]; exact hin j j1), hpar j (hin j j1)]
        exact List.mem_append_left _ j2
  unfold dagC
  rw [if_pos hlim, if_pos hrel, if_pos hup]

end Go.AE

set_option maxRecDepth 20000
set_option maxHeartbeats 4000000
namespace Go.AE

def cycN (raw1 : Int) : Nat := (2 + modV raw1 8).toNat
theorem cycN_le (x : Int) : 2 ≤ cycN x ∧ cycN x ≤ 9 ∧ 2 + modV x 8 = ((cycN x : Nat) : Int) := by
  have := modV_lt x (n := 8) (by omega)
  unfold cycN
  omega

@[simp] def S_law23_DagCycles : List D → Prop × D := spec4 (α := List Int) (β := Int) (γ := Int) (δ := List Int) (fun raw _ _ st => raw.length ≤ 1048576 ∧ st.length ≤ 1048576) (fun _ _ _ _ => .bool true)

theorem comD_zero (raw : List Int) {k : Nat} (h : ¬ 0 < k) : comD raw k = .agg [.nilsl, .int .i64 0, .nilsl] := by unfold comD; rw [if_pos (by omega)]
theorem comD_pos (raw : List Int) {k : Nat} (h : 0 < k) : comD raw k = .agg [.sl 1 [.int .i64 (parO raw k)], .int .i64 0, .nilsl] := by unfold comD; rw [if_neg (by omega)]

theorem dagCyc_loop1 {G : Gam} {g1 g2 g3 g4 : Nat} (h1 : G.find g1 = some S_gen_Mod) (h2 : G.find g2 = some S_gen_At) (raw : List Int) (hr : raw.length ≤ 1048576) (N : Nat) (hN : N ≤ 9) (d2 d3 : D) (Q : XE → List A → Store → Prop)
    (hQ : Q .normal [.d (Rep.to raw), .d (.int .i64 N), .d d2, .d d3, .d (.bool false), .own 0 N 0 N, .d (.int .i64 N), .any, .any, .any, .d (.bool false), .any, .any, .any, .any] [.cells N 3 (cycC raw N)]) :
    ∀ xc, (∃ a b c e, x_law23_DagCycles g1 g2 g3 g4 = .seq a (.seq b (.seq c (.seq xc e)))) → vc G 0 xc Q [.d (Rep.to raw), .d (.int .i64 N), .d d2, .d d3, .d (.bool false), .d .nilsl, .any, .any, .any, .any, .any, .any, .any, .any, .any] [] := by
  rintro xc ⟨a, b, c, e, hx⟩
  simp only [x_law23_DagCycles, XC.seq.injEq] at hx
  obtain ⟨-, -, -, rfl, -⟩ := hx
  simp
  refine vc_lpR (σ := Nat) (fun k => k ≤ N) (fun k => N - k)
    (fun k => [.d (Rep.to raw), .d (.int .i64 N), .d d2, .d d3, .d (.bool false), .own 0 k 0 k, .d (.int .i64 k), .any, .any, .any, .any, .any, .any, .any, .any])
    (fun k => [.cells k 3 (cycC raw k)]) 0 ?_ (by simp) ?_
  · refine Re.weak (k := [.cells 0 3 []]) (s' := []) (by simp) (by simp) ?_ (by simp)
    simp
    exact Wk.freshO 0 [.cells 0 3 []] 3 0 rfl
  intro k hk
  by_cases hkN : k < N
  · have w1 : IntKind.i64.wrap ((k : Int) + 1) = (k : Int) + 1 := wrap_in (by omega) (by omega)
    have hl := cycC_len raw k
    have hs := cycC_succ raw k
    have hu := cycC_under raw (k + 1) 1
    have hrm : room (k + 1) 56 := by unfold room; omega
    by_cases hk0 : 0 < k
    · have hm := (parO_lt raw hk0).2
      have hc := comD_pos raw hk0
      simp [h1, h2, hkN, w1, hl, hk0]
      rw [← hm, ← hc, ← hs]
      exact ⟨by omega, by omega, hrm, Nxt.mk (k + 1) (by omega) (by simp) (by simp) (by omega) (by simp) (.inr ⟨by simp, by simpa using hu⟩)⟩
    · have hc := comD_zero raw hk0
      simp [h1, h2, hkN, w1, hl, hk0]
      rw [← hc, ← hs]
      exact ⟨hrm, Nxt.mk (k + 1) (by omega) (by simp) (by simp) (by omega) (by simp) (.inr ⟨by simp, by simpa using hu⟩)⟩
  · have : k = N := by omega
    subst this
    simp [hkN]
    exact hQ

/-- the cells of the graph with the arc -/
def arcC (raw : List Int) (n top c : Nat) : List A := (cycC raw n).set top (.agg [.gr 1 1 (((comG raw top).parents ++ [(c : Int)]).map Rep.to), .d (.int .i64 0), .d .nilsl])
theorem arcC_len (raw : List Int) (n top c : Nat) : (arcC raw n top c).length = n := by simp [arcC, cycC]
theorem arcC_isD (raw : List Int) (n top c : Nat) : (arcC raw n top c).all A.isD = true := by
  rw [List.all_eq_true]
  intro x hx
  rcases List.mem_or_eq_of_mem_set hx with h | h
  · obtain ⟨k, _, rfl⟩ := List.mem_map.1 h
    rfl
  · subst h; rfl
theorem arcC_of (raw : List Int) {n top c : Nat} : ofAll (Rep.of (α := CommitT)) ((arcC raw n top c).map A.toD) = some (arcG raw n top c) := by
  refine ofAll_ext _ _ (by simp [arcC, arcG, cycC, cycG]) fun i h1 h2 => ?_
  have hi : i < n := by simpa [arcG, cycG] using h2
  rw [List.getElem_map]
  have e1 : (arcC raw n top c)[i]'(by rw [arcC_len]; exact hi) = if top = i then (.agg [.gr 1 1 (((comG raw top).parents ++ [(c : Int)]).map Rep.to), .d (.int .i64 0), .d .nilsl]) else (cycC raw n)[i]'(by rw [cycC_len]; exact hi) := by
    unfold arcC
    rw [List.getElem_set]
  have e2 : (arcG raw n top c)[i]'h2 = if top = i then ⟨(comG raw top).parents ++ [(c : Int)], 0, []⟩ else (cycG raw n)[i]'(by rw [cycG_len]; exact hi) := by
    simp only [arcG, List.getElem_set]
  rw [e1, e2]
  by_cases e : top = i
  · rw [if_pos e, if_pos e]
    have e3 := ofAll_to (α := Int) ((comG raw top).parents ++ [(c : Int)])
    simp [A.toD, A.toDs] at e3 ⊢
    rw [e3]
  · rw [if_neg e, if_neg e]
    simp [cycC, cycG, A.toD, comD_of]
theorem arcC_get (raw : List Int) {n top c : Nat} (h : top < n) : (arcC raw n top c)[top]? = some (.agg [.gr 1 1 (((comG raw top).parents ++ [(c : Int)]).map Rep.to), .d (.int .i64 0), .d .nilsl]) := by
  unfold arcC
  rw [List.getElem?_set_self (by rw [cycC_len]; exact h)]

def Pth (raw : List Int) (c top : Nat) : Prop := top ≤ c ∧ ∃ C : Nat → Prop, C c ∧ C top ∧ (∀ i, C i → i ≤ c) ∧ ∀ i, C i → i ≠ c → ∃ j, C j ∧ (i : Int) ∈ (comG raw j).parents
theorem Pth.zero (raw : List Int) (c : Nat) : Pth raw c c := ⟨Nat.le_refl _, fun i => i = c, rfl, rfl, fun i h => by omega, fun i h e => absurd h e⟩
theorem Pth.step {raw : List Int} {c top : Nat} (h : Pth raw c top) (h0 : 0 < top) : Pth raw c (parO raw top) := by
  obtain ⟨h1, C, c1, c2, c3, c4⟩ := h
  have hp := (parO_lt raw h0).1
  refine ⟨by omega, fun i => C i ∨ i = parO raw top, .inl c1, .inr rfl, fun i hi => ?_, fun i hi e => ?_⟩
  · rcases hi with hi | hi
    · exact c3 i hi
    · omega
  · rcases hi with hi | hi
    · obtain ⟨j, j1, j2⟩ := c4 i hi e
      exact ⟨j, .inl j1, j2⟩
    · refine ⟨top, .inl c2, ?_⟩
      rw [comG_par, if_neg (by omega), hi]
      simp

theorem dagCyc_tail {G : Gam} {g1 g2 g3 g4 : Nat} (h1 : G.find g1 = some S_gen_Mod) (h3 : G.find g3 = some S_dag_Check) (h4 : G.find g4 = some S_law23_awake) (raw st : List Int) (hst : st.length ≤ 1048576) (N : Nat) (hN1 : 2 ≤ N) (hN : N ≤ 9) (d0 : D) (x2 : Int) :
    ∀ xc, (∃ a b c e, x_law23_DagCycles g1 g2 g3 g4 = .seq a (.seq b (.seq c (.seq e xc)))) → vc G 0 xc (Fin [4] (.bool true)) [.d d0, .d (.int .i64 N), .d (.int .i64 x2), .d (Rep.to st), .d (.bool false), .own 0 N 0 N, .d (.int .i64 N), .any, .any, .any, .d (.bool false), .any, .any, .any, .any] [.cells N 3 (cycC raw N)] := by
  rintro xc ⟨a, b, c, e, hx⟩
  simp only [x_law23_DagCycles, XC.seq.injEq] at hx
  obtain ⟨-, -, -, -, rfl⟩ := hx
  obtain ⟨c, hc⟩ : ∃ c : Nat, modV x2 N = c := Int.eq_ofNat_of_zero_le (modV_lt x2 (by omega)).1
  have hcN : c < N := by have := (modV_lt x2 (n := (N : Int)) (by omega)).2; omega
  have hlen := cycC_len raw N
  have hgl := cycG_len raw N
  have hbor : bor [.cells N 3 (cycC raw N)] (.own 0 N 0 N) = (True, .sl 3 ((cycC raw N).map A.toD)) := by
    have e1 : ((cycC raw N).drop 0).take N = cycC raw N := by rw [List.drop_zero]; exact List.take_of_length_le (by omega)
    show ((N = N ∧ (((cycC raw N).drop 0).take N).all A.isD = true), D.sl 3 ((((cycC raw N).drop 0).take N).map A.toD)) = _
    rw [e1, cycC_isD]
    simp
  have hbf : borFp [.cells N 3 (cycC raw N)] (.own 0 N 0 N) = [(0, .cells N 3 (cycC raw N))] := rfl
  have hof := cycC_of raw N
  have hC := cycG_C raw hN
  have hfl : ∀ c, c ∈ cycG raw N → c.parents.length ≤ 1000 ∧ c.files = [] := fun c hc => by
    obtain ⟨i, _, rfl⟩ := List.mem_map.1 hc
    unfold comG
    split <;> simp
  simp [h1, h3, hbor, hbf, hof, hC, hgl, hc, show N ≤ 1000 by omega]
  refine ⟨hfl, by omega, ?_⟩
  clear hbor hbf hof hfl
  have hfin : ∀ (top m : Nat), Pth raw c top → top < N →
      bor [.cells N 3 (arcC raw N top c), .tip m, .res, .res] (.own 0 N 0 N) = (True, .sl 3 ((arcC raw N top c).map A.toD)) ∧
      borFp [.cells N 3 (arcC raw N top c), .tip m, .res, .res] (.own 0 N 0 N) = [(0, .cells N 3 (arcC raw N top c))] ∧
      dagC (arcG raw N top c) = 231 ∧ (arcG raw N top c).length = N ∧ (∀ c', c' ∈ arcG raw N top c → c'.parents.length ≤ 1000 ∧ c'.files = []) := fun top m hp htN => by
    have hal := arcC_len raw N top c
    refine ⟨?_, rfl, ?_, by simp [arcG, cycG], fun x hx => ?_⟩
    · have e1 : ((arcC raw N top c).drop 0).take N = arcC raw N top c := by rw [List.drop_zero]; exact List.take_of_length_le (by omega)
      show ((N = N ∧ (((arcC raw N top c).drop 0).take N).all A.isD = true), D.sl 3 ((((arcC raw N top c).drop 0).take N).map A.toD)) = _
      rw [e1, arcC_isD]
      simp
    · obtain ⟨h1, C, c1, c2, c3, c4⟩ := hp
      exact arcG_C raw hN h1 hcN C c1 c2 (fun i hi => by have := c3 i hi; omega) c4
    · have hcl : ∀ k, (comG raw k).parents.length ≤ 1 := fun k => by rw [comG_par]; split <;> simp
      rcases List.mem_or_eq_of_mem_set hx with h | h
      · obtain ⟨i, _, rfl⟩ := List.mem_map.1 h
        have := hcl i
        refine ⟨by omega, ?_⟩
        unfold comG
        split <;> rfl
      · subst h
        have := hcl top
        simp
        omega
  refine vc_lp (σ := Nat × List Int) (fun x => Pth raw c x.1 ∧ x.2.length ≤ 1048576) (fun x => x.2.length)
    (fun x => [.d d0, .d (.int .i64 N), .d (.int .i64 c), .d (Rep.to x.2), .d (.bool false), .own 0 N 0 N, .d (.int .i64 N), .any, .d (.int .i64 x.1), .any, .any, .any, .any, .any, .any])
    (fun _ => [.cells N 3 (cycC raw N)]) (c, st) (by simp) (by simp) ⟨Pth.zero raw c, hst⟩ ?_
  rintro ⟨top, st⟩ ⟨hp, hst⟩
  have hpc := hp.1
  have hg := cycC_get raw (n := N) (k := top) (by simp at hpc; omega)
  simp only at hp hst hpc
  have htN : top < N := by omega
  have hg2 : ∀ h : top < (cycC raw N).length, (cycC raw N)[top]'h = .d (comD raw top) := fun h => by obtain ⟨_, h9⟩ := List.getElem?_eq_some_iff.1 hg; exact h9
  obtain ⟨f1, f2, f3, f4, f5⟩ := hfin top ((comG raw top).parents.length + 1) hp htN
  have f6 := arcC_of raw (n := N) (top := top) (c := c)
  have f7 := arcC_get raw (c := c) htN
  have f8 : ∀ h : top < (arcC raw N top c).length, (arcC raw N top c)[top]'h = .agg [.gr 1 1 (((comG raw top).parents ++ [(c : Int)]).map Rep.to), .d (.int .i64 0), .d .nilsl] := fun h => by obtain ⟨_, h9⟩ := List.getElem?_eq_some_iff.1 f7; exact h9
  have f9 := arcC_len raw N top c
  by_cases h0 : 0 < top
  · have hpl : (comG raw top).parents = [(parO raw top : Int)] := by rw [comG_par, if_neg (by omega)]
    have hp1 := (parO_lt raw h0).1
    have f0 : (cycC raw N).set top (.agg [.gr 1 1 [.int .i64 (parO raw top), .int .i64 c], .d (.int .i64 0), .d .nilsl]) = arcC raw N top c := by
      unfold arcC
      rw [hpl]
      rfl
    rw [hpl] at f1 f2 f7 f8
    rw [comD_pos raw h0] at hg
    rw [comD_pos raw h0] at hg2
    cases st with
    | cons s0 st =>
      have ht : List.take st.length (List.map Rep.to st) = List.map Rep.to st := List.take_of_length_le (by simp)
      simp [h0, htN, hlen, hg, hg2, ht]
      simp at hst
      refine ⟨by omega, Nxt.mk (parO raw top, st) (by simp) (by simp) (by simp) ⟨hp.step h0, by simp; omega⟩ (by simp) (.inr ⟨by simp, by simpa using cycC_under raw N 1⟩)⟩
    | nil =>
      have hne : ((parO raw top : Nat) : Int) ≠ (c : Int) := by omega
      simp at f1 f2 f7 f8
      simp [h0, htN, hlen, hg, hg2, f0]
      refine ⟨by unfold room; omega, by unfold room; omega, ?_⟩
      simp [h3, h4, f1, f2, f3, f4, f5, f6, f7, f8, f9, htN, hne, show N ≤ 1000 by omega]
      exact f5
  · have hpl : (comG raw top).parents = [] := by rw [comG_par, if_pos (by omega)]
    have f0 : (cycC raw N).set top (.agg [.gr 1 1 [.int .i64 c], .d (.int .i64 0), .d .nilsl]) = arcC raw N top c := by
      unfold arcC
      rw [hpl]
      rfl
    rw [hpl] at f1 f2 f7 f8
    rw [comD_zero raw h0] at hg
    rw [comD_zero raw h0] at hg2
    simp at f1 f2 f7 f8
    simp [h0, htN, hlen, hg, hg2, f0]
    refine ⟨by unfold room; omega, ?_⟩
    simp [h3, h4, f1, f2, f3, f4, f5, f6, f7, f8, f9, htN, show N ≤ 1000 by omega]
    exact ⟨by unfold room; omega, f5⟩

theorem ct_law23_DagCycles {P : Program} {f g1 g2 g3 g4 : Nat} {G : Gam} (h : CodeOf P f 4 15 [4] (x_law23_DagCycles g1 g2 g3 g4)) (hG : GamOk P G) (h1 : G.find g1 = some S_gen_Mod) (h2 : G.find g2 = some S_gen_At) (h3 : G.find g3 = some S_dag_Check) (h4 : G.find g4 = some S_law23_awake) : Has P f S_law23_DagCycles := h.has4 hG fun raw x1 x2 st hp => by
  obtain ⟨q1, q2, q3⟩ := cycN_le x1
  have w1 : IntKind.i64.wrap (2 + modV x1 8) = ((cycN x1 : Nat) : Int) := by rw [q3]; exact wrap_in (by omega) (by omega)
  refine vc_mid [.d (Rep.to raw), .d (.int .i64 x1), .d (.int .i64 x2), .d (Rep.to st), .d (.bool false), .any, .any, .any, .any, .any, .any, .any, .any, .any, .any] [] (by simp)
    (vc_mid [.d (Rep.to raw), .d (.int .i64 (cycN x1)), .d (.int .i64 x2), .d (Rep.to st), .d (.bool false), .any, .any, .any, .any, .any, .any, .any, .any, .any, .any] [] (by simp [h1, w1])
    (vc_mid [.d (Rep.to raw), .d (.int .i64 (cycN x1)), .d (.int .i64 x2), .d (Rep.to st), .d (.bool false), .d .nilsl, .any, .any, .any, .any, .any, .any, .any, .any, .any] [] (by simp) ?_))
  rw [vc_seq]
  refine dagCyc_loop1 (g3 := g3) (g4 := g4) h1 h2 raw hp.1 (cycN x1) q2 (.int .i64 x2) (Rep.to st) _ ?_ _ ⟨_, _, _, _, rfl⟩
  exact dagCyc_tail (g2 := g2) h1 h3 h4 raw st hp.2 (cycN x1) q1 q2 (Rep.to raw) x2 _ ⟨_, _, _, _, rfl⟩

theorem law23_DagCycles_pre (raw : List Int) (a b : Int) (st : List Int) (_ : Arg.wf raw) (_ : Arg.wf a) (_ : Arg.wf b) (_ : Arg.wf st) (h : Arg.bulk raw + (Arg.bulk a + (Arg.bulk b + (Arg.bulk st + 0))) ≤ 1048576) : raw.length ≤ 1048576 ∧ st.length ≤ 1048576 := by
  have h1 := len_bulk raw
  have h2 := len_bulk st
  omega

end Go.AE
