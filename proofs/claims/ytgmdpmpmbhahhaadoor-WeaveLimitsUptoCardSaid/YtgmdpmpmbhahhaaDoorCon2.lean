/-
  The table of a result and its parents, projected on its columns, plainly.
-/
import Derived.Test.YtgmdpmpmbhahhaaDoorCon1
import Derived.Test.YtgmdpmpmbhahhaaDoorCode1

set_option linter.unusedSimpArgs false
set_option linter.unusedVariables false
set_option linter.unnecessarySimpa false

set_option maxRecDepth 20000
set_option maxHeartbeats 1000000
namespace Go.AE

/-- what f gives from j on, d times -/
def totF {α : Type} (f : Nat → List α) : Nat → Nat → List α
  | _, 0 => []
  | j, d + 1 => f j ++ totF f (j + 1) d

theorem totF_succ {α : Type} (f : Nat → List α) (j d : Nat) : totF f j (d + 1) = f j ++ totF f (j + 1) d := rfl
theorem totF_add {α : Type} (f : Nat → List α) : ∀ (a b j : Nat), totF f j (a + b) = totF f j a ++ totF f (j + a) b
  | 0, b, j => by simp [totF]
  | a + 1, b, j => by
    rw [Nat.add_right_comm, totF, totF, totF_add f a b (j + 1), List.append_assoc, show j + 1 + a = j + (a + 1) by omega]
theorem totF_congr {α : Type} {f g : Nat → List α} : ∀ (d j : Nat), (∀ k, j ≤ k → k < j + d → f k = g k) → totF f j d = totF g j d
  | 0, _, _ => rfl
  | d + 1, j, h => by
    rw [totF, totF, h j (by omega) (by omega), totF_congr d (j + 1) fun k h1 h2 => h k (by omega) (by omega)]
theorem totF_range {α : Type} (f : Nat → List α) : ∀ m, (List.range m).flatMap f = totF f 0 m
  | 0 => by simp [totF]
  | m + 1 => by
    rw [List.range_succ, List.flatMap_append, totF_range f m, totF_add f m 1 0]
    simp [totF]
theorem totF_nil {α : Type} {f : Nat → List α} (d j : Nat) (h : ∀ k, j ≤ k → k < j + d → f k = []) : totF f j d = [] := by
  rw [totF_congr (g := fun _ => []) d j h]
  have : ∀ (d j : Nat), totF (fun _ => ([] : List α)) j d = [] := by
    intro d
    induction d with
    | zero => intro j; rfl
    | succ d ih => intro j; rw [totF, ih]; rfl
  exact this d j

theorem drop_cons {x : List Int} {i : Nat} (h : i < x.length) : x.drop i = x.getD i 0 :: x.drop (i + 1) := by
  rw [List.drop_eq_getElem_cons h]
  simp [List.getD, h]

theorem run_ok (x y : List Int) : ∀ (d i j : Nat), i + d ≤ x.length → (∀ t, t < d → x.getD (i + t) 0 = y.getD (j + t) 0) → totF (fun k => [y.getD k 0]) j d = (x.drop i).take d
  | 0, i, j, _, _ => by simp [totF]
  | d + 1, i, j, h, ht => by
    have h0 := ht 0 (by omega)
    simp only [Nat.add_zero] at h0
    rw [totF, run_ok x y d (i + 1) (j + 1) (by omega) fun t htd => by rw [Nat.add_right_comm, Nat.add_right_comm j, Nat.add_assoc, Nat.add_assoc j]; exact ht (t + 1) (by omega), drop_cons (i := i) (by omega), List.take_succ_cons, h0]
    rfl

theorem gapS_fold_none (x : List Int) (k : Nat) : ∀ (l : List ChangeT) (acc : List Int), (∀ d, d ∈ l → d.new ≠ (k : Int)) → l.foldl (fun acc c => if c.new = (k : Int) then (x.drop c.old.toNat).take c.oldLen.toNat else acc) acc = acc
  | [], _, _ => rfl
  | c :: l, acc, h => by
    rw [List.foldl_cons, if_neg (h c (by simp))]
    exact gapS_fold_none x k l acc fun d hd => h d (by simp [hd])
theorem gapS_none {x : List Int} {l : List ChangeT} {k : Nat} (h : ∀ d, d ∈ l → d.new ≠ (k : Int)) : gapS x l k = [] := gapS_fold_none x k l [] h
theorem gapS_hit {x : List Int} {c : ChangeT} {l : List ChangeT} {k : Nat} (hc : c.new = (k : Int)) (h : ∀ d, d ∈ l → d.new ≠ (k : Int)) : gapS x (c :: l) k = (x.drop c.old.toNat).take c.oldLen.toNat := by
  unfold gapS
  rw [List.foldl_cons, if_pos hc, gapS_fold_none x k l _ h]
theorem gapS_miss {x : List Int} {c : ChangeT} {l : List ChangeT} {k : Nat} (hc : c.new ≠ (k : Int)) : gapS x (c :: l) k = gapS x l k := by
  unfold gapS
  rw [List.foldl_cons, if_neg hc]

theorem okV_lt {l : List ChangeT} {i j m n : Int} (h : okV l i j false m n = true) : ∀ c, c ∈ l → j < c.new := by
  cases l with
  | nil => simp
  | cons c l =>
    simp only [okV, Bool.and_eq_true] at h
    have h2 := stepV_true h.1
    have h3 := okV_new _ _ _ _ _ _ h.2
    intro d hd
    have := h2.2.2.2.2.2.2.2 rfl
    rcases List.mem_cons.1 hd with rfl | hd
    · omega
    · have := h3.2 d hd
      omega

/-- what a parent sees of gap k and of the line behind it -/
def pieceK (x y : List Int) (s : List ChangeT) (k : Nat) : List Int := gapS x s k ++ if k < y.length ∧ insB s k = false then [y.getD k 0] else []

theorem proj_ok (x y : List Int) : ∀ (l : List ChangeT) (i j : Nat) (fst : Bool), okV l i j fst x.length y.length = true → (∀ s, s ∈ matV l i j x.length → x.getD s.fr.toNat 0 = y.getD s.to.toNat 0) →
    totF (pieceK x y l) j (y.length + 1 - j) = x.drop i
  | [], i, j, fst, h, hm => by
    simp only [okV, Bool.and_eq_true, decide_eq_true_eq] at h
    have hd : y.length + 1 - j = (x.length - i) + 1 := by omega
    rw [hd, totF_add, totF_nil (f := pieceK x y []) 1 (j + (x.length - i)), List.append_nil,
      totF_congr (g := fun k => [y.getD k 0]), run_ok x y (x.length - i) i j (by omega), List.take_of_length_le (by simp)]
    · intro t ht
      have := hm ⟨(i : Int) + t, (j : Int) + t⟩ ((runN_mem _ _ _ _).2 ⟨t, by omega, rfl⟩)
      simp only at this
      rw [show ((i : Int) + t).toNat = i + t by omega, show ((j : Int) + t).toNat = j + t by omega] at this
      exact this
    · intro k h1 h2
      unfold pieceK
      rw [if_pos ⟨by omega, rfl⟩]
      rfl
    · intro k h1 h2
      unfold pieceK
      rw [if_neg (by omega)]
      rfl
  | c :: l, i, j, fst, h, hm => by
    simp only [okV, Bool.and_eq_true] at h
    have h2 := stepV_true h.1
    have hn := okV_new _ _ _ _ _ _ h.2
    have hlt := okV_lt h.2
    obtain ⟨o, ho⟩ := Int.eq_ofNat_of_zero_le h2.1.1
    obtain ⟨ol, hol⟩ := Int.eq_ofNat_of_zero_le h2.2.1.1
    obtain ⟨nw, hnw⟩ := Int.eq_ofNat_of_zero_le h2.2.2.1.1
    obtain ⟨nl, hnl⟩ := Int.eq_ofNat_of_zero_le h2.2.2.2.1.1
    have hle := okV_le _ _ _ _ _ _ h.2
    rw [hnw, hnl] at hlt
    rw [ho, hol, hnw, hnl] at h hn hle
    have hoi : i ≤ o := by omega
    have hji : j ≤ nw := by omega
    have hlen : o - i = nw - j := by omega
    have ih := proj_ok x y l (o + ol) (nw + nl) false (by push_cast; exact h.2) fun s hs => hm s (by
      rw [matV, List.mem_append, ho, hol, hnw, hnl]
      right
      push_cast at hs
      exact hs)
    have hins : ∀ k, insB (c :: l) k = (decide (c.new ≤ (k : Int) ∧ (k : Int) < c.new + c.newLen) || insB l k) := fun k => by simp [insB]
    have hlow : ∀ k : Nat, (k : Int) < (nw + nl : Nat) → insB l k = false := fun k hk => insB_low h.2 (by push_cast at hk; exact hk)
    have hge : ∀ k, nw + nl ≤ k → k ≠ nw → pieceK x y (c :: l) k = pieceK x y l k := fun k hk hne => by
      unfold pieceK
      rw [gapS_miss (by rw [hnw]; omega), hins k]
      have : decide (c.new ≤ (k : Int) ∧ (k : Int) < c.new + c.newLen) = false := by rw [hnw, hnl, decide_eq_false_iff_not]; omega
      rw [this, Bool.false_or]
    have hgl : ∀ k : Nat, k ≤ nw + nl → ∀ d, d ∈ l → d.new ≠ (k : Int) := fun k hk d hd => by
      have := hlt d hd
      omega
    have hfirst : totF (pieceK x y (c :: l)) j (nw - j) = (x.drop i).take (o - i) := by
      rw [totF_congr (g := fun k => [y.getD k 0]), ← hlen, run_ok x y (o - i) i j (by omega)]
      · intro t ht
        have := hm ⟨(i : Int) + t, (j : Int) + t⟩ (by
          rw [matV, List.mem_append, ho]
          exact .inl ((runN_mem _ _ _ _).2 ⟨t, by omega, rfl⟩))
        simp only at this
        rw [show ((i : Int) + t).toNat = i + t by omega, show ((j : Int) + t).toNat = j + t by omega] at this
        exact this
      · intro k h3 h4
        unfold pieceK
        rw [gapS_miss (by rw [hnw]; omega), gapS_none (hgl k (by omega)), hins k, hlow k (by push_cast; omega)]
        have : decide (c.new ≤ (k : Int) ∧ (k : Int) < c.new + c.newLen) = false := by rw [hnw, decide_eq_false_iff_not]; omega
        rw [this, if_pos ⟨by omega, rfl⟩]
        rfl
    have hhit : gapS x (c :: l) nw = (x.drop o).take ol := by
      rw [gapS_hit hnw (hgl nw (by omega)), ho, hol]
      simp
    have hsecond : totF (pieceK x y (c :: l)) nw (y.length + 1 - nw) = (x.drop o).take ol ++ x.drop (o + ol) := by
      rw [← ih]
      rcases Nat.eq_zero_or_pos nl with h0 | h0
      · subst h0
        show _ = _ ++ totF (pieceK x y l) nw (y.length + 1 - nw)
        rw [show y.length + 1 - nw = (y.length - nw) + 1 by omega, totF_succ (pieceK x y (c :: l)), totF_succ (pieceK x y l), totF_congr (g := pieceK x y l) _ _ fun k h3 h4 => hge k (by omega) (by omega), ← List.append_assoc]
        congr 1
        unfold pieceK
        rw [hhit, gapS_none (hgl nw (by omega)), hins nw]
        have : decide (c.new ≤ (nw : Int) ∧ (nw : Int) < c.new + c.newLen) = false := by rw [hnw, hnl, decide_eq_false_iff_not]; omega
        rw [this, Bool.false_or, List.nil_append]
      · rw [show y.length + 1 - nw = 1 + ((nl - 1) + (y.length + 1 - (nw + nl))) by omega, totF_add, totF_add, show nw + 1 + (nl - 1) = nw + nl by omega]
        rw [totF_congr (g := pieceK x y l) _ (nw + nl) fun k h3 h4 => hge k (by omega) (by omega)]
        rw [totF_nil (nl - 1) (nw + 1), List.nil_append]
        · congr 1
          rw [totF, totF, List.append_nil]
          unfold pieceK
          rw [hhit, hins nw]
          have : decide (c.new ≤ (nw : Int) ∧ (nw : Int) < c.new + c.newLen) = true := by rw [hnw, hnl, decide_eq_true_eq]; omega
          rw [this, if_neg (by simp), List.append_nil]
        · intro k h3 h4
          unfold pieceK
          rw [gapS_miss (by rw [hnw]; omega), gapS_none (hgl k (by omega)), hins k]
          have : decide (c.new ≤ (k : Int) ∧ (k : Int) < c.new + c.newLen) = true := by rw [hnw, hnl, decide_eq_true_eq]; omega
          rw [this, if_neg (by simp)]
          rfl
    rw [show y.length + 1 - j = (nw - j) + (y.length + 1 - nw) by omega, totF_add, hfirst, show j + (nw - j) = nw by omega, hsecond]
    have e1 : (x.drop o).take ol ++ x.drop (o + ol) = x.drop o := by rw [← List.drop_drop, List.take_append_drop]
    have e2 : x.drop o = (x.drop i).drop (o - i) := by rw [List.drop_drop]; congr 1; omega
    rw [e1, e2, List.take_append_drop]

/-- a parent's lines, out of the gaps and the lines that it has -/
theorem proj_all {x y : List Int} (hx : x.length ≤ 4096) (hy : y.length ≤ 4096) : (List.range (y.length + 1)).flatMap (pieceK x y (scriptV x y)) = x := by
  have hf := script_fits hx hy
  simp only [fitsV, checkV, Bool.and_eq_true, List.all_eq_true, decide_eq_true_eq] at hf
  have := proj_ok x y (scriptV x y) 0 0 true hf.1.2 fun s hs => hf.2 s hs
  rw [totF_range]
  simpa using this

/-! ### the columns -/

theorem markN_bit (I : List (List Int)) (k : Nat) : ∀ (n p : Nat), (markN I k n).testBit p = (decide (p < n) && insB (scrV I p) k)
  | 0, p => by simp [markN]
  | n + 1, p => by
    unfold markN
    have ih := markN_bit I k n p
    cases hb : insB (scrV I n) k with
    | true =>
      rw [if_pos rfl, Nat.testBit_or, Nat.testBit_two_pow, ih]
      by_cases e : p = n
      · subst e; simp [hb]
      · have : decide (n = p) = false := by simpa using fun h => e h.symm
        have h2 : decide (p < n + 1) = decide (p < n) := by rw [decide_eq_decide]; omega
        rw [this, h2, Bool.or_false]
    | false =>
      rw [if_neg (by simp), ih]
      by_cases e : p = n
      · subst e; simp [hb]
      · have h2 : decide (p < n + 1) = decide (p < n) := by rw [decide_eq_decide]; omega
        rw [h2]

def nmV (N : List Str) (x : Int) : Str := N.getD x.toNat []

theorem vis_lost (N : List Str) (m : MergedT) {p : Nat} (hp : p < 32) : visB (lostRow N m) p = hasV p m := by
  unfold visB hasV lostRow
  rw [if_neg (by omega), if_neg (by omega)]
  simp

theorem vis_kept (N : List Str) (I : List (List Int)) {n p : Nat} (hn : n ≤ 32) (hp : p < n) (k : Nat) : visB (keptRow N I n k) p = !insB (scrV I p) k := by
  unfold visB keptRow
  rw [if_neg (by omega), if_neg (by omega)]
  have hlt : markN I k n < 4294967296 := Nat.lt_of_lt_of_le (markN_lt I k n) (pow_le hn)
  simp only [getU_nat hlt (show p < 32 by omega), markN_bit]
  cases insB (scrV I p) k <;> simp [hp]

theorem col_app (a b : List RowT) (c : Int) : colV (a ++ b) c = colV a c ++ colV b c := by simp [colV]
theorem col_lost (N : List Str) (ml : List MergedT) {p : Nat} (hp : p < 32) : colV (ml.map (lostRow N)) p = (prB p ml).map (nmV N) := by
  unfold colV prB mlinesV
  rw [List.filter_map, List.map_map, List.map_map]
  have e : ((fun r => visB r (p : Int)) ∘ lostRow N) = hasV p := funext fun m => vis_lost N m hp
  rw [e]
  rfl

theorem col_gap {N : List Str} {I : List (List Int)} {n B p : Nat} (h : ∀ p, p < n → (I.getD (p + 1) []).length ≤ B) (hn : n ≤ 32) (hB : B * n ≤ 4096) (hp : p < n) (k : Nat) :
    colV (gapRows N I n k) p = (pieceK (I.getD (p + 1) []) (I.getD 0 []) (scrV I p) k).map (nmV N) := by
  have h1 := sumL_gap h k
  obtain ⟨_, h2⟩ := merged_ok (xs := gapV I n k) (by rw [gapV_len]; exact hn) (by omega)
  have h3 := h2.pr p (by rw [gapV_len]; exact hp)
  have h4 : (gapV I n k)[p]'(by rw [gapV_len]; exact hp) = gapS (I.getD (p + 1) []) (scrV I p) k := by simp [gapV]
  rw [h4] at h3
  unfold gapRows pieceK
  rw [col_app, col_lost N _ (by omega), h3, List.map_append]
  congr 1
  by_cases hk : k < (I.getD 0 []).length
  · rw [if_pos hk]
    have hv := vis_kept N I hn hp k
    unfold colV
    cases hb : insB (scrV I p) k with
    | true => rw [hb] at hv; rw [if_neg (by simp)]; simp [hv]
    | false =>
      rw [hb] at hv
      rw [if_pos ⟨hk, rfl⟩, List.filter_cons, hv]
      rfl
  · rw [if_neg hk, if_neg (by omega)]
    rfl

theorem col_flat (c : Int) (f : Nat → List RowT) : ∀ l : List Nat, colV (l.flatMap f) c = l.flatMap fun k => colV (f k) c
  | [] => rfl
  | a :: l => by rw [List.flatMap_cons, List.flatMap_cons, col_app, col_flat c f l]

theorem map_flat {α β : Type} (g : α → β) (f : Nat → List α) : ∀ l : List Nat, (l.flatMap f).map g = l.flatMap fun k => (f k).map g
  | [] => rfl
  | a :: l => by rw [List.flatMap_cons, List.flatMap_cons, List.map_append, map_flat g f l]

/-- a parent's column has its numbers' names -/
theorem col_parent {N : List Str} {I : List (List Int)} {n B p : Nat} (h : ∀ p, p < n → (I.getD (p + 1) []).length ≤ B) (hn : n ≤ 32) (hB : B * n ≤ 4096) (hp : p < n) (h0 : (I.getD 0 []).length ≤ 4096) :
    colV (rowsTo N I n ((I.getD 0 []).length + 1)) p = (I.getD (p + 1) []).map (nmV N) := by
  have hx := h p hp
  have hB2 : (I.getD (p + 1) []).length ≤ 4096 := by
    have : B ≤ B * n := Nat.le_mul_of_pos_right B (by omega)
    omega
  have := proj_all hB2 h0
  unfold rowsTo
  rw [col_flat]
  have e : (fun k => colV (gapRows N I n k) (p : Int)) = fun k => (pieceK (I.getD (p + 1) []) (I.getD 0 []) (scrV I p) k).map (nmV N) := funext fun k => col_gap h hn hB hp k
  rw [e, ← map_flat]
  congr 1

theorem col_res0 (N : List Str) (I : List (List Int)) (n k : Nat) : colV (gapRows N I n k) (-1) = if k < (I.getD 0 []).length then [nmV N ((I.getD 0 []).getD k 0)] else [] := by
  unfold gapRows
  rw [col_app]
  have e1 : colV ((mergedV (gapV I n k)).map (lostRow N)) (-1) = [] := by
    unfold colV
    rw [List.filter_eq_nil_iff.2]
    · rfl
    · intro r hr
      obtain ⟨m, _, rfl⟩ := List.mem_map.1 hr
      simp [vis_res, lostRow]
  rw [e1, List.nil_append]
  by_cases hk : k < (I.getD 0 []).length
  · rw [if_pos hk, if_pos hk]
    simp [colV, vis_res, keptRow, nmV]
  · rw [if_neg hk, if_neg hk]
    rfl

theorem col_res (N : List Str) (I : List (List Int)) (n : Nat) : colV (rowsTo N I n ((I.getD 0 []).length + 1)) (-1) = (I.getD 0 []).map (nmV N) := by
  unfold rowsTo
  rw [col_flat]
  generalize hy : I.getD 0 [] = y
  have e : ∀ k, colV (gapRows N I n k) (-1) = if k < y.length then [nmV N (y.getD k 0)] else [] := fun k => by rw [col_res0, hy]
  rw [funext e, totF_range, totF_add, totF_nil 1, List.append_nil, totF_congr (g := fun k => ([y.getD k 0]).map (nmV N))]
  · have : ∀ (d j : Nat), totF (fun k => ([y.getD k 0]).map (nmV N)) j d = (totF (fun k => [y.getD k 0]) j d).map (nmV N) := by
      intro d
      induction d with
      | zero => intro j; rfl
      | succ d ih => intro j; rw [totF, totF, ih, List.map_append]
    rw [this, run_ok y y y.length 0 0 (by omega) (fun _ _ => rfl)]
    simp
  · intro k _ hk
    rw [if_pos (by omega)]
    rfl
  · intro k hk _
    rw [if_neg (by omega)]

end Go.AE

set_option maxRecDepth 20000
set_option maxHeartbeats 4000000
namespace Go.AE

theorem aw17a : checkTab ⟨2, [⟨false, 0, [97, 10]⟩, ⟨true, 1, [98, 10]⟩, ⟨false, 1, [99, 10]⟩]⟩ = 0 := by decide
end Go.AE

set_option maxRecDepth 20000
set_option maxHeartbeats 2000000
namespace Go.AE

end Go.AE

set_option maxRecDepth 20000
set_option maxHeartbeats 4000000
namespace Go.AE

end Go.AE

set_option maxRecDepth 20000
set_option maxHeartbeats 1000000
namespace Go.AE

theorem linesV_le {s : Str} {B : Nat} (h : s.length ≤ B) : (linesV s).length ≤ B + 1 := by
  have hc : s.count 10 ≤ s.length := List.count_le_length
  rw [linesV_len]
  split <;> omega

structure Small (r : Str) (ps : List Str) (B : Nat) : Prop where
  hr : r.length ≤ B
  hp : ∀ p, p ∈ ps → p.length ≤ B
  n1 : 1 ≤ ps.length
  n2 : ps.length ≤ 32
  b1 : B ≤ 100
  b2 : (B + 1) * ps.length ≤ 4096

theorem Small.ids {r : Str} {ps : List Str} {B : Nat} (h : Small r ps B) : ∀ p, p < ps.length → ((idsV (filesV r ps)).getD (p + 1) []).length ≤ B + 1 := fun p hp => by
  rw [idsV_getD (by rw [filesV_len]; omega), List.length_map, filesV_succ r ps hp]
  exact linesV_le (h.hp _ (List.getElem_mem hp))
theorem Small.ids0 {r : Str} {ps : List Str} {B : Nat} (h : Small r ps B) : ((idsV (filesV r ps)).getD 0 []).length ≤ B + 1 := by
  rw [ids0_len]
  exact linesV_le h.hr

theorem nm_place {N : List Str} {y : Str} (h : y ∈ N) : nmV N (placeV N y) = y := by
  obtain ⟨k, hk, h1, h2⟩ := placeV_mem h
  unfold nmV
  rw [h1]
  simp [List.getD, hk, h2]

theorem nm_ids {r : Str} {ps : List Str} {p : Nat} (hp : p < (filesV r ps).length) : ((idsV (filesV r ps)).getD p []).map (nmV (namesV (filesV r ps))) = (filesV r ps)[p] := by
  rw [idsV_getD hp, List.map_map]
  have : ∀ l : List Str, (∀ y, y ∈ l → y ∈ namesV (filesV r ps)) → l.map (nmV (namesV (filesV r ps)) ∘ placeV (namesV (filesV r ps))) = l := fun l hl => by
    rw [List.map_congr_left fun y hy => show (nmV (namesV (filesV r ps)) ∘ placeV (namesV (filesV r ps))) y = y from nm_place (hl y hy)]
    exact List.map_id' l
  exact this _ fun y hy => mem_names.2 ⟨_, List.getElem_mem hp, hy⟩

/-- the columns of the table that is made -/
theorem make_col {r : Str} {ps : List Str} {B : Nat} (h : Small r ps B) {p : Nat} (hp : p < ps.length) : colV (makeV r ps).rows p = linesV ps[p] := by
  have h0 := h.ids0
  have := col_parent (N := namesV (filesV r ps)) h.ids h.n2 h.b2 hp (by have := h.b1; omega)
  unfold makeV
  simp only
  rw [← ids0_len r ps, this, nm_ids (by rw [filesV_len]; omega), filesV_succ r ps hp]
theorem make_res {r : Str} {ps : List Str} : colV (makeV r ps).rows (-1) = linesV r := by
  unfold makeV
  simp only
  rw [← ids0_len r ps, col_res, nm_ids (by rw [filesV_len]; omega), filesV_zero]

/-- a row of the table is lost or kept -/
theorem make_row {r : Str} {ps : List Str} {x : RowT} (hx : x ∈ (makeV r ps).rows) :
    (∃ k m, m ∈ mergedV (gapV (idsV (filesV r ps)) ps.length k) ∧ x = lostRow (namesV (filesV r ps)) m) ∨ ∃ k, ∃ h : k < (linesV r).length, x = ⟨false, markN (idsV (filesV r ps)) k ps.length, (linesV r)[k]⟩ := by
  unfold makeV rowsTo at hx
  simp only [List.mem_flatMap, List.mem_range] at hx
  obtain ⟨k, hk, hx⟩ := hx
  unfold gapRows at hx
  rcases List.mem_append.1 hx with hx | hx
  · obtain ⟨m, hm, rfl⟩ := List.mem_map.1 hx
    exact .inl ⟨k, m, hm, rfl⟩
  · rw [ids0_len] at hx
    split at hx
    · rename_i hkl
      simp only [List.mem_singleton] at hx
      subst hx
      refine .inr ⟨k, hkl, ?_⟩
      unfold keptRow
      rw [(kept_text r ps hkl).1]
    · cases hx

theorem listV_okL {l : List Str} (h : listV l = true) {x : Str} (hx : x ∈ l) : okL x = true := by
  rw [listV_last, Bool.and_eq_true, List.all_eq_true] at h
  exact h.1 x hx

theorem lost_text {r : Str} {ps : List Str} {B : Nat} (h : Small r ps B) {k : Nat} {m : MergedT} (hm : m ∈ mergedV (gapV (idsV (filesV r ps)) ps.length k)) : ∃ p, p ∈ ps ∧ (lostRow (namesV (filesV r ps)) m).text ∈ linesV p := by
  obtain ⟨p, hp, hl⟩ := merged_line h.ids h.n2 h.b2 hm
  have hp1 : p + 1 < (filesV r ps).length := by rw [filesV_len]; omega
  obtain ⟨j, h1, h2, y, h3, h4, h5⟩ := id_name hp1 hl
  refine ⟨ps[p], List.getElem_mem hp, ?_⟩
  rw [filesV_succ r ps hp] at h3
  have : (lostRow (namesV (filesV r ps)) m).text = y := by
    unfold lostRow
    rw [h1, Int.toNat_natCast]
    exact h4
  rw [this]
  exact h3

theorem lines_ok {s x : Str} (h : x ∈ linesV s) : okL x = true ∧ x.length ≤ s.length := by
  have h1 : listV (linesV s) = true := listV_lines s [] (by simp)
  refine ⟨listV_okL h1 h, ?_⟩
  obtain ⟨i, hi, rfl⟩ := List.mem_iff_getElem.1 h
  have h2 := mem_flat_le hi
  have h3 : (linesV s).flatten.length = s.length := by rw [lines_flat]
  omega

theorem make_marks {r : Str} {ps : List Str} {B : Nat} (h : Small r ps B) {x : RowT} (hx : x ∈ (makeV r ps).rows) : ∃ k : Nat, x.marks = k ∧ k < 2 ^ ps.length ∧ (x.lost = true → 0 < k) := by
  rcases make_row hx with ⟨k, m, hm, rfl⟩ | ⟨k, hk, rfl⟩
  · obtain ⟨_, h2⟩ := merged_ok (xs := gapV (idsV (filesV r ps)) ps.length k) (by rw [gapV_len]; exact h.n2) (by have := sumL_gap h.ids k; have := h.b2; omega)
    obtain ⟨q, q1, q2, q3⟩ := h2.ok m hm
    rw [gapV_len] at q3
    exact ⟨q, q1, q3, fun _ => q2⟩
  · exact ⟨_, rfl, markN_lt _ _ _, fun h => by cases h⟩

theorem make_text {r : Str} {ps : List Str} {B : Nat} (h : Small r ps B) {x : RowT} (hx : x ∈ (makeV r ps).rows) : okL x.text = true ∧ x.text.length ≤ B := by
  rcases make_row hx with ⟨k, m, hm, rfl⟩ | ⟨k, hk, rfl⟩
  · obtain ⟨p, hp, h2⟩ := lost_text h hm
    obtain ⟨h3, h4⟩ := lines_ok h2
    exact ⟨h3, Nat.le_trans h4 (h.hp p hp)⟩
  · obtain ⟨h3, h4⟩ := lines_ok (List.getElem_mem hk)
    exact ⟨h3, Nat.le_trans h4 h.hr⟩

/-- the table is valid -/
theorem make_valid {r : Str} {ps : List Str} {B : Nat} (h : Small r ps B) : checkTab (makeV r ps) = 0 := by
  have hn1 := h.n1
  have hn2 := h.n2
  have hp : (makeV r ps).parents = (ps.length : Int) := rfl
  have hm : marksB (makeV r ps).rows (makeV r ps).parents.toNat = true := by
    rw [hp, Int.toNat_natCast, marksB_all, List.all_eq_true]
    intro x hx
    obtain ⟨k, h1, h2, h3⟩ := make_marks h hx
    unfold markB
    rw [h1]
    cases hl : x.lost with
    | false => simp [h2]
    | true =>
      have := h3 hl
      simp [h2]
      omega
  have ht : textsB (makeV r ps).rows (makeV r ps).parents.toNat = true := by
    rw [hp, Int.toNat_natCast]
    unfold textsB
    rw [Bool.and_eq_true, List.all_eq_true, List.all_eq_true]
    refine ⟨fun x hx => (make_text h hx).1, fun c hc => ?_⟩
    rw [List.mem_range] at hc
    rcases Nat.eq_zero_or_pos c with h0 | h0
    · subst h0
      rw [show ((0 : Nat) : Int) - 1 = -1 from rfl, make_res]
      exact listV_lines r [] (by simp)
    · rw [show (c : Int) - 1 = ((c - 1 : Nat) : Int) by omega, make_col h (by omega)]
      exact listV_lines _ [] (by simp)
  unfold checkTab
  rw [if_neg (by rw [hp]; omega), if_pos hm, if_pos ht]

theorem rows_len2 {N : List Str} {I : List (List Int)} {n B : Nat} (h : ∀ p, p < n → (I.getD (p + 1) []).length ≤ B) (hn : n ≤ 32) (hB : B * n ≤ 4096) : ∀ k, (rowsTo N I n k).length ≤ (B * n + 1) * k
  | 0 => by simp [rowsTo]
  | k + 1 => by
    rw [rowsTo_succ, List.length_append, Nat.mul_succ]
    have h0 := rows_len2 (N := N) h hn hB k
    have h1 := sumL_gap h k
    obtain ⟨_, h2⟩ := merged_ok (xs := gapV I n k) (by rw [gapV_len]; exact hn) (by omega)
    have h3 := h2.len
    have h4 : (gapRows N I n k).length ≤ B * n + 1 := by
      unfold gapRows
      rw [List.length_append, List.length_map]
      split <;> simp <;> omega
    omega

theorem flen_le {B : Nat} : ∀ rows : List RowT, (∀ x, x ∈ rows → x.text.length ≤ B) → flen (rows.map RowT.text) ≤ B * rows.length
  | [], _ => by simp [flen]
  | x :: r, h => by
    have h1 := flen_le r fun y hy => h y (by simp [hy])
    have h2 := h x (by simp)
    unfold flen at *
    rw [List.map_cons, List.flatten_cons, List.length_append, List.length_cons, Nat.mul_succ]
    omega

theorem make_len {r : Str} {ps : List Str} {B : Nat} (h : Small r ps B) : (makeV r ps).rows.length ≤ ((B + 1) * ps.length + 1) * (B + 2) := by
  have h1 := rows_len2 (N := namesV (filesV r ps)) h.ids h.n2 h.b2 ((linesV r).length + 1)
  have h2 := linesV_le h.hr
  exact Nat.le_trans h1 (Nat.mul_le_mul_left _ (by omega))

theorem make_tabOk {r : Str} {ps : List Str} {B : Nat} (h : Small r ps B) (hB : B * (((B + 1) * ps.length + 1) * (B + 2)) ≤ 4194304) : tabOk (makeV r ps) := by
  have hl := make_len h
  refine ⟨?_, fun x hx => ?_, ?_⟩
  · have h1 : (B + 1) * ps.length + 1 ≤ 4097 := by have := h.b2; omega
    have h2 : B + 2 ≤ 102 := by have := h.b1; omega
    have := Nat.mul_le_mul h1 h2
    omega
  · obtain ⟨k, h1, h2, _⟩ := make_marks h hx
    have h3 := pow_le h.n2
    unfold rowOk
    rw [h1]
    omega
  · have h1 := flen_le (B := B) (makeV r ps).rows fun x hx => (make_text h hx).2
    exact Nat.le_trans h1 (Nat.le_trans (Nat.mul_le_mul_left _ hl) hB)

/-! ### free tables -/

end Go.AE

set_option maxRecDepth 20000
set_option maxHeartbeats 4000000
namespace Go.AE

theorem gapC_snoc (n k : Nat) : gapC n k k ++ [.own (k + 4) 0 0 n] = gapC n (k + 1) (k + 1) := by
  unfold gapC
  rw [List.range_succ, List.map_append]
  congr 1
  · exact List.map_congr_left fun j hj => by
      have hj : j < k := by simpa using hj
      rw [if_pos hj, if_pos (by omega)]
  · simp

theorem split_small {s : Str} (h : s.length ≤ 100) : splitD s = .tup [Rep.to (linesV s), .int .i64 0] := by
  have ck : checkT s = 0 := check_of (by omega) (by have : s.count 10 ≤ s.length := List.count_le_length; omega)
  unfold splitD
  rw [if_pos ck]

theorem marksC_ren (L : Nat) (q : Nat → Nat) (f : Nat → Nat) : (marksC L q).map (A.ren f) = marksC L q := by
  unfold marksC
  rw [List.map_map]
  rfl
def tkF (F : List (List Str)) (i : Nat) : List (List Str) := F.take i
theorem tkF_succ {F : List (List Str)} {i : Nat} (h : i < F.length) : tkF F (i + 1) = tkF F i ++ [F[i]] := List.take_succ_eq_append_getElem h
theorem tkF_len {F : List (List Str)} {i : Nat} (h : i ≤ F.length) : (tkF F i).length = i := by simp [tkF]; omega
def allC (l : List Str) : List A := l.map fun x => .d (.str x)
theorem allC_len (l : List Str) : (allC l).length = l.length := by simp [allC]
theorem allC_under (l : List Str) (n : Nat) : ∀ x, x ∈ allC l → A.under n x = true := by
  intro x hx
  obtain ⟨y, _, rfl⟩ := List.mem_map.1 hx
  rfl
theorem allC_get {l : List Str} {i : Nat} (h : i < l.length) : (allC l)[i]? = some (.d (.str l[i])) := by simp [allC, h]

def loomK (N : List Str) (i0 : List Int) (n L k : Nat) : Store :=
  boxO :: .cells 0 6 [.agg [.d (Rep.to N), .d (Rep.to i0), .own 2 0 0 L, .own 3 k 0 k, .d (.int .i64 n), .d .nilsl]] :: .cells 0 1 (marksC L fun _ => 0) :: .cells k 1 (gapC n k k) :: rowsO n (fun _ _ => .nilsl) k
theorem loomK_len (N : List Str) (i0 : List Int) (n L k : Nat) : (loomK N i0 n L k).length = k + 4 := by simp [loomK, rowsO_len]
theorem loomK_under (N : List Str) (i0 : List Int) (n L k : Nat) : (loomK N i0 n L k).all (Ob.under (k + 4)) = true := by
  have h1 := marksC_under L (fun _ => 0) (k + 4)
  have h2 := gapC_under n k k (N := k + 4) (by omega)
  have h3 := rowsO_under n (fun _ _ => .nilsl) k (k + 4)
  unfold loomK
  rw [List.all_cons, List.all_cons, List.all_cons, List.all_cons, h3]
  simp only [Ob.under, h1, h2, Bool.and_true]
  simp [boxO]

theorem flat_congr {α : Type} {f g : Nat → List α} : ∀ l : List Nat, (∀ k, k ∈ l → f k = g k) → l.flatMap f = l.flatMap g
  | [], _ => rfl
  | a :: l, h => by rw [List.flatMap_cons, List.flatMap_cons, h a (by simp), flat_congr l fun k hk => h k (by simp [hk])]

@[simp] def S_weave_Make : List D → Prop × D := spec2 (α := Str) (β := List Str) (fun r ps => r.length ≤ 100 ∧ ∀ p, p ∈ ps → p.length ≤ 100) (fun r ps => makeD r ps)

theorem ct_weave_Make {P : Program} {f g1 g2 g3 g4 g5 : Nat} {G : Gam} (h : CodeOf P f 2 28 [22002, 3] (x_weave_Make g1 g2 g3 g4 g5)) (hG : GamOk P G) (h1 : G.find g1 = some S_text_Split) (h2 : G.find g2 = some S_intern_Ids) (h3 : G.find g3 = some S_intern_Names) (h4 : G.findR g4 = some R_weave_loom_add) (h5 : G.findR g5 = some R_weave_loom_weave) : Has P f S_weave_Make := h.has2 hG fun r ps hp => by
  obtain ⟨p1, p2⟩ := hp
  by_cases c1 : (ps.length : Int) < 1
  · have : makeD r ps = .tup [Rep.to (⟨0, []⟩ : TableT), .int .i64 2] := by unfold makeD; rw [if_pos (by omega)]
    simp [x_weave_Make, c1, this]
  by_cases c2 : 32 < (ps.length : Int)
  · have : makeD r ps = .tup [Rep.to (⟨0, []⟩ : TableT), .int .i64 2] := by unfold makeD; rw [if_pos (by omega)]
    simp [x_weave_Make, c1, c2, this]
  have hmk : makeD r ps = .tup [Rep.to (makeV r ps), .int .i64 0] := by unfold makeD; rw [if_neg (by omega)]
  rw [hmk]
  have hsmall : Small r ps 100 := ⟨p1, p2, by omega, by omega, by omega, by omega⟩
  have hIl := hsmall.ids
  have hI0l := hsmall.ids0
  have hFl := filesV_len r ps
  have hIlen : (idsV (filesV r ps)).length = (filesV r ps).length := by simp [idsV]
  have hall : ∀ p, p ∈ r :: ps → p.length ≤ 100 := fun p hp => by
    rcases List.mem_cons.1 hp with rfl | hp
    · exact p1
    · exact p2 p hp
  have hsm : smallL (filesV r ps) := by
    refine ⟨by omega, ?_⟩
    have key : ∀ l : List (List Str), (∀ x, x ∈ l → x.length ≤ 101) → l.flatten.length ≤ 101 * l.length := by
      intro l
      induction l with
      | nil => simp
      | cons x r ih =>
        intro hx
        have := hx x (by simp)
        have := ih fun y hy => hx y (by simp [hy])
        simp
        simp at this
        omega
    have := key (filesV r ps) fun x hx => by
      obtain ⟨y, hy, rfl⟩ := List.mem_map.1 hx
      exact linesV_le (hall y hy)
    omega
  have hps : ps ≠ [] := by rintro rfl; simp at c1
  simp [x_weave_Make, c1, c2, hps]
  have hn1 : 0 < ps.length := by omega
  refine ⟨by unfold room; omega, ?_⟩
  refine vc_lp (σ := Nat) (fun i => i ≤ ps.length + 1) (fun i => ps.length + 1 - i)
    (fun i => [.any, .any, .ref 0 0 0 0, .any, .d (.int .i64 ps.length), .gr 1 1 ((tkF (filesV r ps) i).map Rep.to), .any, .any, .any, .any, .any, .any, .any, .any, .any, .own 2 1 0 (ps.length + 1), .d (.int .i64 ((ps.length : Int) + 1)), .d (.int .i64 i), .any, .any, .any, .any, .any, .any, .any, .any, .any, .any])
    (fun i => [.cells 0 2 [.d (.agg [.int .i64 0, .nilsl])], .tip i, .cells 1 1 (allC (r :: ps))]) 0 (by simp [tkF]; omega) (by simp [allC]) (by simp) ?_ (hc := .inr ⟨by simp, by simpa using allC_under _ _⟩)
  intro i hi
  by_cases hk : i < ps.length + 1
  · have w1 : IntKind.i64.wrap ((i : Int) + 1) = (i : Int) + 1 := wrap_in (by omega) (by omega)
    have hil : i < (r :: ps).length := by simpa using hk
    have hpi := hall _ (List.getElem_mem hil)
    have hsp := split_small hpi
    have hag := allC_get hil
    have hal : (allC (r :: ps)).length = ps.length + 1 := by simp [allC_len]
    have hiF : i < (filesV r ps).length := by omega
    have hs := tkF_succ hiF
    have hFi : (filesV r ps)[i] = linesV (r :: ps)[i] := List.getElem_map _
    rw [hFi] at hs
    clear hFi
    generalize hx : (r :: ps)[i] = x at *
    have hag2 : ∀ h : i < (allC (r :: ps)).length, (allC (r :: ps))[i]'h = .d (.str x) := fun h => by obtain ⟨_, h9⟩ := List.getElem?_eq_some_iff.1 hag; exact h9
    have hfl : (tkF (filesV r ps) i).length = i := tkF_len (by omega)
    simp [show (i : Int) < (ps.length : Int) + 1 by omega, hag, hag2, hal, hk, h1, hsp, w1, hfl, show x.length ≤ 4194304 by omega]
    exact ⟨by unfold room; omega, Nxt.mk (i + 1) (by omega) (by simp [hs]) (by simp) (by omega) (by simp) (.inr ⟨by simp, by simpa using allC_under _ _⟩)⟩
  · have h9 : i = ps.length + 1 := by omega
    subst h9
    have htk : tkF (filesV r ps) (ps.length + 1) = filesV r ps := List.take_of_length_le (by omega)
    rw [htk]
    have hkt := fun k hk => kept_text r ps (k := k) hk
    have hL : ((idsV (filesV r ps)).getD 0 []).length = (linesV r).length := ids0_len r ps
    have hIm : ∀ p, p < ps.length → ∀ x, x ∈ (idsV (filesV r ps)).getD (p + 1) [] → ∃ k : Nat, x = k ∧ k < (namesV (filesV r ps)).length := fun p hp x hx => by
      obtain ⟨k, e1, e2, _⟩ := id_name (files := filesV r ps) (p := p + 1) (by rw [hFl]; omega) hx
      exact ⟨k, e1, e2⟩
    have hIm0 : ∀ x, x ∈ (idsV (filesV r ps)).getD 0 [] → ∃ k : Nat, x = k ∧ k < (namesV (filesV r ps)).length := fun x hx => by
      obtain ⟨k, e1, e2, _⟩ := id_name (files := filesV r ps) (p := 0) (by rw [hFl]; omega) hx
      exact ⟨k, e1, e2⟩
    clear hkt
    have hmv : makeV r ps = ⟨ps.length, rowsTo (namesV (filesV r ps)) (idsV (filesV r ps)) ps.length ((linesV r).length + 1)⟩ := rfl
    rw [hmv, ← hL]
    generalize hI : idsV (filesV r ps) = I at *
    generalize hN : namesV (filesV r ps) = N at *
    generalize filesV r ps = F at *
    generalize hn : ps.length = n at *
    have hI0 : 0 < I.length := by omega
    have hgI : I.getD 0 [] = I[0] := by simp [List.getD, hI0]
    rw [hgI] at hI0l hIm0 ⊢
    obtain ⟨i0, hi0⟩ : ∃ i0, I[0] = i0 := ⟨_, rfl⟩
    rw [hi0] at hI0l hIm0 ⊢
    obtain ⟨L, hLL⟩ : ∃ L, i0.length = L := ⟨_, rfl⟩
    rw [hLL] at hI0l ⊢
    have wL : IntKind.i64.wrap ((L : Int) + 1) = (L : Int) + 1 := wrap_in (by omega) (by omega)
    simp [h2, h3, hsm, hI, hN, hI0, getD_map, hi0, hLL, wL]
    refine ⟨⟨by unfold room; omega, by omega⟩, ?_⟩
    refine vc_lpR (σ := Nat) (fun k => k ≤ L + 1) (fun k => L + 1 - k)
      (fun k => [.any, .any, .ref 0 0 0 0, .any, .d (.int .i64 n), .any, .any, .any, .any, .d (Rep.to I), .ref 1 0 0 0, .any, .any, .any, .any, .any, .any, .any, .any, .any, .d (.int .i64 ((L : Int) + 1)), .d (.int .i64 k), .any, .any, .any, .any, .any, .any])
      (fun k => boxO :: .cells 0 6 [.agg [.d (Rep.to N), .d (Rep.to i0), .own 2 0 0 L, .own 3 k 0 k, .d (.int .i64 n), .d .nilsl]] :: .cells 0 1 (marksC L fun _ => 0) :: .cells k 1 (gapC n k k) :: rowsO n (fun _ _ => .nilsl) k) 0 ?_ (by simp) ?_
    · have e1 : List.replicate L (A.d (D.int .u32 0)) = marksC L fun _ => 0 := by
        apply List.ext_getElem
        · simp [marksC]
        · intro a b c; simp [marksC]
      rw [e1]
      refine Re.norm (s' := [boxO, .cells 0 6 [.agg [.d (Rep.to N), .d (Rep.to i0), .own 2 0 0 L, .own 3 0 0 0, .d (.int .i64 n), .d .nilsl]], .cells 0 1 (marksC L fun _ => 0)]) [false, false, true, false, true, false, false, false, false, true, true, false, false, false, false, false, false, false, false, false, true, true] [0, 4, 3] [.cells 0 1 []] (by simp) ⟨by decide, by simp, ?_⟩ (by decide) (by simp) ?_ ?_ ?_ ?_
      · simp [pickS]
        intro x hx
        obtain ⟨k, _, rfl⟩ := List.mem_map.1 hx
        rfl
      · simp
      · simp
      · simp [pickS]
        rw [marksC_ren]
        refine ⟨.inl rfl, .cellsL ?_, .inl rfl⟩
        simp
        exact Wk.freshO 3 [.cells 0 1 []] 1 0 rfl
      · simp [rowsO, gapC]
    intro k hk
    by_cases hkl : k < L + 1
    · have w1 : IntKind.i64.wrap ((k : Int) + 1) = (k : Int) + 1 := wrap_in (by omega) (by omega)
      have hgl := gapC_len n k k
      have hrl := rowsO_len n (fun _ _ => .nilsl) k
      have hgs := gapC_snoc n k
      have hrs := rowsO_succ n (fun _ _ => .nilsl) k
      have hrg : rowG n (fun _ _ => .nilsl) k = List.replicate n (A.d D.nilsl) := by
        apply List.ext_getElem
        · simp [rowG]
        · intro a b c; simp [rowG]
      rw [hrg] at hrs
      simp [show (k : Int) < (L : Int) + 1 by omega, w1, hgl, hrl, hgs, boxO]
      refine ⟨⟨by unfold room; omega, by omega⟩, by unfold room; omega, Nxt.mk (k + 1) (by omega) (by simp) ?_ (by omega) (by simp) (.inr ⟨by simp, ?_⟩)⟩
      · have e : ∀ x y z : Ob, rowsO n (fun _ _ => .nilsl) k ++ [x, y, z] = (rowsO n (fun _ _ => .nilsl) k ++ [x]) ++ [y, z] := fun x y z => by simp
        rw [e, ← hrs]
        simp [SbS_app, boxO]
      · have hl : ∀ s' : Store, s' = loomK N i0 n L (k + 1) → s'.all (Ob.under s'.length) = true := fun s' h => by
          subst h
          rw [loomK_len]
          exact loomK_under _ _ _ _ _
        exact hl _ rfl
    · have h9 : k = L + 1 := by omega
      subst h9
      have hls : ∀ s', s' = loomS N i0 n L (fun k => markN I k 0) (dAt I 0 0) (L + 1) n → (boxO :: .cells 0 6 [.agg [.d (Rep.to N), .d (Rep.to i0), .own 2 0 0 L, .own 3 (L + 1) 0 (L + 1), .d (.int .i64 n), .d .nilsl]] :: .cells 0 1 (marksC L fun _ => 0) :: .cells (L + 1) 1 (gapC n (L + 1) (L + 1)) :: rowsO n (fun _ _ => .nilsl) (L + 1)) = s' := fun s' h => by
        subst h
        unfold loomS loomO
        rw [marksC_congr (q := fun k => markN I k 0) (r := fun _ => 0) fun k _ => rfl, rowsO_congr2 (d := dAt I 0 0) (e := fun _ _ => .nilsl) fun q j _ _ => dAt_start I q j]
      rw [hls _ rfl]
      simp
      refine vc_lp (σ := Nat) (fun p => p ≤ n) (fun p => n - p)
        (fun p => [.any, .any, .ref 0 0 0 0, .any, .d (.int .i64 n), .any, .any, .any, .any, .d (Rep.to I), .ref 1 0 0 0, .any, .any, .any, .any, .any, .any, .any, .any, .any, .any, .any, .any, .d (.int .i64 n), .d (.int .i64 p), .any, .any, .any])
        (fun p => loomS N i0 n L (fun k => markN I k p) (dAt I p 0) (L + 1) n) 0 (by simp) (by simp) (by simp) ?_ (hc := .inl (by simp))
      intro p hp
      by_cases hpn : p < n
      · have w1 : IntKind.i64.wrap ((p : Int) + 1) = (p : Int) + 1 := wrap_in (by omega) (by omega)
        have hpI : p + 1 < I.length := by omega
        have hgp : I.getD (p + 1) [] = I[p + 1] := by simp [List.getD, hpI]
        have hxl : I[p + 1].length ≤ 4096 := by
          have := hIl p hpn
          rw [hgp] at this
          omega
        have hscr : scriptV I[p + 1] i0 = scrV I p := by unfold scrV; rw [hgp, hgI, hi0]
        have hcall := eR_loom_add (f := g4) h4 (names := N) (i0 := i0) (n := n) (L := L) (q := fun k => markN I k p) (d := dAt I p 0) (vg := L + 1) (pn := n) (p := p) (x := I[p + 1]) hxl hLL (by omega) hpn (by omega) (fun k _ => Nat.lt_of_lt_of_le (markN_lt I k p) (pow_le (by omega))) fun k _ => by
          unfold dAt
          rw [if_neg (by omega), if_pos rfl, List.take_zero]
          rfl
        have hnext : loomS N i0 n L (addQ (scriptV I[p + 1] i0) p fun k => markN I k p) (addD I[p + 1] (scriptV I[p + 1] i0) p (dAt I p 0)) (L + 1) n = loomS N i0 n L (fun k => markN I k (p + 1)) (dAt I (p + 1) 0) (L + 1) n := by
          rw [hscr]
          refine loomS_congr (fun k _ => ?_) fun r k _ _ => ?_
          · unfold addQ
            rw [markN]
          · unfold addD dAt
            by_cases h : r = p
            · subst h
              rw [if_pos rfl, if_pos (by omega), hgp]
            · rw [if_neg h]
              by_cases h2 : r < p
              · rw [if_pos h2, if_pos (by omega)]
              · rw [if_neg h2, if_neg h, if_neg (by omega)]
                split <;> rfl
        rw [hnext] at hcall
        simp [show (p : Int) < n by omega, w1, hpI, getD_map, hcall]
        exact ⟨by omega, Nxt.mk (p + 1) (by omega) (by simp) (by simp) (by omega) (by simp) (.inl (by simp))⟩
      · have h9 : p = n := by omega
        subst h9
        simp
        refine Hint.of (T' := [.any, .any, .ref 0 0 0 0, .any, .d (.int .i64 p), .any, .any, .any, .any, .d (Rep.to I), .ref 1 0 0 0, .any, .any, .any, .any, .any, .any, .any, .any, .any, .any, .any, .any, .any, .any, .any, .any, .any]) (s' := [boxO, loomD N i0 (marksT L fun k => markN I k p) (rowsD p (dAt I p 0) (L + 1)) p]) (Re.trans (Sub.re (T' := [.any, .any, .ref 0 0 0 0, .any, .d (.int .i64 p), .any, .any, .any, .any, .d (Rep.to I), .ref 1 0 0 0, .any, .any, .any, .any, .any, .any, .any, .any, .any, .any, .any, .any, .any, .any, .any, .any, .any]) ⟨by simp, by simp, by simp, .inl rfl⟩) (freezeLoom (by omega) (by simp) N i0 p L (fun k => markN I k p) (dAt I p 0) (L + 1) p)) ?_
        have hBn : (100 + 1) * p ≤ 4096 := by omega
        have hp32 : p ≤ 32 := by omega
        have hof := fun k => rowD_of I p k
        have hwv : weaveTo N i0 (marksT L fun k => markN I k p) (rowsD p (dAt I p 0) (L + 1)) (L + 1) = rowsTo N I p (L + 1) := by
          unfold weaveTo rowsTo
          refine flat_congr _ fun k hk => ?_
          have hk : k < L + 1 := by simpa using hk
          have hgd : (rowsD p (dAt I p 0) (L + 1)).getD k .nilsl = .sl 1 (rowD p (dAt I p 0) k) := by
            have := rowsD_get (n := p) (d := dAt I p 0) (m := L + 1) (k := k) hk
            simp [List.getD, this]
          have hdd : ofDD (.sl 1 (rowD p (dAt I p 0) k)) = gapV I p k := by
            show (if 1 = 1 then ofAll (Rep.of (α := List Int)) (rowD p (dAt I p 0) k) else none).getD [] = _
            rw [if_pos rfl, hof k]
            rfl
          unfold weaveRow gapRows
          rw [hgd, hdd, hgI, hi0, hLL]
          congr 1
          by_cases hkL : k < L
          · rw [if_pos hkL, if_pos hkL]
            unfold keptRow
            have : (marksT L fun k => markN I k p).getD k default = ⟨markN I k p⟩ := by simp [marksT, List.getD, hkL]
            rw [this, hgI, hi0]
          · rw [if_neg hkL, if_neg hkL]
        have hok : WeaveOk ⟨N, i0, marksT L fun k => markN I k p, rowsD p (dAt I p 0) (L + 1), p, 0⟩ := by
          refine ⟨by simp [rowsD, hLL], by simp [marksT, hLL], by simp only; omega, fun k hk => ?_, fun k hk => ?_⟩
          · simp only [rowsD, List.length_map, List.length_range] at hk
            refine ⟨rowD p (dAt I p 0) k, gapV I p k, by simp [rowsD], hof k, by rw [gapV_len]; exact hp32, Nat.le_trans (sumL_gap hIl k) hBn, fun m hm => ?_⟩
            obtain ⟨b, hb, hbm⟩ := merged_line hIl hp32 hBn hm
            exact hIm b hb _ hbm
          · exact hIm0 _ (List.getElem_mem _)
        have hml : (marksT L fun k => markN I k p).length = L := by simp [marksT]
        generalize (marksT L fun k => markN I k p) = mt at *
        generalize rowsD p (dAt I p 0) (L + 1) = gd at *
        simp [loomD, boxO, h5, eRCall, hLL, hok, hwv]

end Go.AE

set_option maxRecDepth 20000
set_option maxHeartbeats 4000000
namespace Go.AE

theorem row_ext {a b : RowT} : a = b ↔ a.lost = b.lost ∧ a.marks = b.marks ∧ a.text = b.text := by
  constructor
  · rintro rfl; exact ⟨rfl, rfl, rfl⟩
  · rintro ⟨h1, h2, h3⟩
    cases a; cases b
    simp_all

@[simp] def S_gen_Rows : List D → Prop × D := spec2 (α := List RowT) (β := List RowT) (fun a _ => a.length ≤ 9223372036854775807) (fun a b => .bool (decide (a = b)))
theorem ct_gen_Rows {P : Program} {f : Nat} {G : Gam} (h : CodeOf P f 2 7 [2] x_gen_Rows) (hG : GamOk P G) : Has P f S_gen_Rows := h.has2 hG fun a b h => by
  by_cases hl : a.length = b.length
  · simp [x_gen_Rows, hl]
    refine vc_lp (σ := Nat) (fun i => i ≤ a.length ∧ ∀ k (h : k < a.length) (h2 : k < b.length), k < i → a[k] = b[k]) (fun i => a.length - i) (fun i => [.d (Rep.to a), .d (Rep.to b), .any, .d (.int .i64 i), .any, .any, .any]) (fun _ => []) 0 (by simp) (by simp) ⟨by simp, by simp⟩ ?_
    rintro i ⟨hi, hm⟩
    by_cases hia : i < a.length
    · have hib : i < b.length := by omega
      have w1 : IntKind.i64.wrap ((i : Int) + 1) = (i : Int) + 1 := wrap_in (by omega) (by omega)
      by_cases e : a[i] = b[i]
      · obtain ⟨e1, e2, e3⟩ := row_ext.1 e
        have hnx : ∀ k (h : k < a.length) (h2 : k < b.length), k < i + 1 → a[k] = b[k] := fun k h h2 hk => by
          by_cases hki : k = i
          · subst hki; exact e
          · exact hm k h h2 (by omega)
        simp [hia, hib, show i < b.length from hib, getD_map, pairsOk, eSeq, cellsEq, cellEq, e, w1]
        exact Nxt.mk (i + 1) (by omega) (by simp) (by simp) ⟨by omega, hnx⟩
      · have hne : ¬ (a = b) := fun h => e (by simp only [h])
        have hc : ¬ (a[i].lost = b[i].lost ∧ a[i].marks = b[i].marks ∧ a[i].text = b[i].text) := fun h => e (row_ext.2 h)
        simp [hia, hib, getD_map, pairsOk, eSeq, cellsEq, cellEq, hne]
        exact fun x y z => absurd ⟨x, y, z⟩ hc
    · have h9 : i = a.length := by omega
      subst h9
      have : a = b := List.ext_getElem hl fun k k1 k2 => hm k k1 k2 k1
      simp [hl, this]
  · have hne : ¬ (a = b) := fun h => hl (by rw [h])
    simp [x_gen_Rows, show ¬ ((a.length : Int) = b.length) by omega, hne]

@[simp] def S_gen_Table : List D → Prop × D := spec2 (α := TableT) (β := TableT) (fun a _ => a.rows.length ≤ 9223372036854775807) (fun a b => .bool (decide (a = b)))
theorem ct_gen_Table {P : Program} {f g1 : Nat} {G : Gam} (h : CodeOf P f 2 5 [4] (x_gen_Table g1)) (hG : GamOk P G) (h1 : G.find g1 = some S_gen_Rows) : Has P f S_gen_Table := h.has2 hG fun a b h => by
  obtain ⟨pa, ra⟩ := a
  obtain ⟨pb, rb⟩ := b
  have h : ra.length ≤ 9223372036854775807 := h
  have e : (TableT.mk pa ra = TableT.mk pb rb) = (pa = pb ∧ ra = rb) := by simp
  by_cases hp : pa = pb
  · simp [x_gen_Table, h1, h, hp]
  · simp [x_gen_Table, h1, h, hp]

theorem aw16a : makeV [97, 10, 99, 10] [[97, 10, 98, 10], [97, 10, 99, 10]] = ⟨2, [⟨false, 0, [97, 10]⟩, ⟨true, 1, [98, 10]⟩, ⟨false, 1, [99, 10]⟩]⟩ := by decide +kernel

@[simp] def S_law16_awake : List D → Prop × D := spec0 True (.bool true)
theorem ct_law16_awake {P : Program} {f g1 g2 g3 : Nat} {G : Gam} (h : CodeOf P f 0 3 [0] (x_law16_awake g1 g2 g3)) (hG : GamOk P G) (h1 : G.find g1 = some S_weave_Make) (h2 : G.find g2 = some S_gen_Table) (h3 : G.find g3 = some S_weave_Check) : Has P f S_law16_awake := h.has0 hG fun _ => by
  have hmk : makeD [97, 10, 99, 10] [[97, 10, 98, 10], [97, 10, 99, 10]] = .tup [Rep.to (⟨2, [⟨false, 0, [97, 10]⟩, ⟨true, 1, [98, 10]⟩, ⟨false, 1, [99, 10]⟩]⟩ : TableT), .int .i64 0] := by
    rw [← aw16a]
    rfl
  have hok : tabOk ⟨2, [⟨false, 0, [97, 10]⟩, ⟨true, 1, [98, 10]⟩, ⟨false, 1, [99, 10]⟩]⟩ := by
    refine ⟨by simp, ?_, by decide⟩
    intro r hr
    simp at hr
    rcases hr with rfl | rfl | rfl <;> simp [rowOk]
  have e1 : ofAll (Rep.of (α := RowT)) [.agg [.bool false, .int .u32 0, .str [97, 10]], .agg [.bool true, .int .u32 1, .str [98, 10]], .agg [.bool false, .int .u32 1, .str [99, 10]]] = some [⟨false, 0, [97, 10]⟩, ⟨true, 1, [98, 10]⟩, ⟨false, 1, [99, 10]⟩] := rfl
  have e2 : ofAll (Rep.of (α := Str)) [.str [97, 10, 98, 10], .str [97, 10, 99, 10]] = some [[97, 10, 98, 10], [97, 10, 99, 10]] := rfl
  simp [x_law16_awake, h1, h2, h3, hmk, hok, aw17a, e1, e2]

end Go.AE

set_option maxRecDepth 20000
set_option maxHeartbeats 4000000
namespace Go.AE

theorem small_make {r : Str} {ps : List Str} {B : Nat} (h : Small r ps B) : makeD r ps = .tup [Rep.to (makeV r ps), .int .i64 0] := by
  have := h.n1
  have := h.n2
  unfold makeD
  rw [if_neg (by omega)]

def limL (raw : List Int) (k : Nat) : List Str := (List.range k).map fun (i : Nat) => lineV (atV raw (i : Int)) ++ [10]
theorem limL_succ (raw : List Int) (k : Nat) : limL raw (k + 1) = limL raw k ++ [lineV (atV raw k) ++ [10]] := by simp [limL, List.range_succ]

@[simp] def S_law16_WeaveLimits : List D → Prop × D := spec2 (α := Int) (β := List Int) (fun _ raw => raw.length ≤ 1048576) (fun _ _ => .bool true)
theorem ct_law16_WeaveLimits {P : Program} {f g1 g2 g3 g4 g5 g6 : Nat} {G : Gam} (h : CodeOf P f 2 9 [2] (x_law16_WeaveLimits g1 g2 g3 g4 g5 g6)) (hG : GamOk P G) (h1 : G.find g1 = some S_gen_Mod) (h2 : G.find g2 = some S_gen_At) (h3 : G.find g3 = some S_gen_Line) (h4 : G.find g4 = some S_weave_Make) (h5 : G.find g5 = some S_law16_awake) (h6 : G.find g6 = some S_weave_Check) : Has P f S_law16_WeaveLimits := h.has2 hG fun n raw p1 => by
  obtain ⟨a1, a2⟩ := modV_lt n (n := 3) (by omega)
  obtain ⟨b1, b2⟩ := modV_lt n (n := 2) (by omega)
  obtain ⟨N, hN⟩ : ∃ N : Nat, modV n 3 * 32 + modV n 2 = N := ⟨(modV n 3 * 32 + modV n 2).toNat, by omega⟩
  have w1 : IntKind.i64.wrap (modV n 3 * 32) = modV n 3 * 32 := wrap_in (by omega) (by omega)
  have w2 : IntKind.i64.wrap (modV n 3 * 32 + modV n 2) = N := by rw [hN]; exact wrap_in (by omega) (by omega)
  have q2 : raw.length ≤ 9223372036854775807 := by omega
  simp [x_law16_WeaveLimits, h1, w1, w2]
  refine vc_lp (σ := Nat) (fun i => i ≤ N) (fun i => N - i)
    (fun i => [.d (.int .i64 N), .d (Rep.to raw), .any, .gr 0 1 ((limL raw i).map Rep.to), .d (.int .i64 i), .any, .any, .any, .any]) (fun i => [.tip i]) 0 (by simp [limL]) (by simp) (by simp) ?_
  intro i hi
  have hll : (limL raw i).length = i := by simp [limL]
  by_cases hiN : i < N
  · have w3 : IntKind.i64.wrap ((i : Int) + 1) = (i : Int) + 1 := wrap_in (by omega) (by omega)
    obtain ⟨l1, _⟩ := lineV_good (atV raw i)
    have hs := limL_succ raw i
    simp [hiN, h2, h3, q2, show (i : Int) < 9223372036854775807 by omega, w3, hll]
    exact ⟨by omega, by unfold room; omega, Nxt.mk (i + 1) (by omega) (by simp [hs]) (by simp) (by omega)⟩
  · have h9 : i = N := by omega
    subst h9
    have hpre : ∀ p, p ∈ limL raw i → p.length ≤ 4 := fun p hp => by
      obtain ⟨k, _, rfl⟩ := List.mem_map.1 hp
      obtain ⟨l1, _⟩ := lineV_good (atV raw k)
      simp
      omega
    have hpre2 : ∀ p, p ∈ limL raw i → p.length ≤ 100 := fun p hp => by have := hpre p hp; omega
    generalize limL raw i = l at *
    by_cases c1 : i < 1
    · have hmk : makeD [97, 10] l = .tup [Rep.to (⟨0, []⟩ : TableT), .int .i64 2] := by unfold makeD; rw [if_pos (by omega)]
      simp [h4, h5, hmk, show (i : Int) < 1 by omega]
      exact hpre2
    · by_cases c2 : 32 < i
      · have hmk : makeD [97, 10] l = .tup [Rep.to (⟨0, []⟩ : TableT), .int .i64 2] := by unfold makeD; rw [if_pos (by omega)]
        simp [h4, h5, hmk, show ¬ (i : Int) < 1 by omega, show 32 < (i : Int) by omega]
        exact hpre2
      · have hsm : Small [97, 10] l 4 := ⟨by simp, hpre, by omega, by omega, by omega, by omega⟩
        have hmk := small_make hsm
        have hv := make_valid hsm
        have hok := make_tabOk hsm (by
          have h3 : (4 + 1) * l.length + 1 ≤ 161 := by omega
          have h4 := Nat.mul_le_mul h3 (Nat.le_refl (4 + 2))
          omega)
        have hpar : (makeV [97, 10] l).parents = (l.length : Int) := rfl
        generalize makeV [97, 10] l = t at *
        obtain ⟨par, rows⟩ := t
        simp only at hpar
        subst hpar
        simp [h4, h5, h6, hmk, hv, hok, hll, show ¬ (i : Int) < 1 by omega, show ¬ 32 < (i : Int) by omega]
        rw [← hll]
        exact ⟨hpre2, hok, hv⟩

theorem law16_WeaveLimits_pre (n : Int) (raw : List Int) (_ : Arg.wf n) (_ : Arg.wf raw) (h : Arg.bulk n + (Arg.bulk raw + 0) ≤ 1048576) : raw.length ≤ 1048576 := by
  have := len_bulk raw
  omega

end Go.AE
