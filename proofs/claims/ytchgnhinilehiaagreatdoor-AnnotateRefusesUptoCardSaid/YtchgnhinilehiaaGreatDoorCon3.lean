/-
  Contracts: where lines come from (the program's).
-/
import Derived.Test.YtchgnhinilehiaaGreatDoorCon2
import Derived.Test.YtchgnhinilehiaaGreatDoorCode1
import Derived.LoopIn
import Derived.LoopNIn
import Derived.OwnWalkIn
import Derived.RangeFuncBound
import Derived.RangeFuncCalls
import Derived.RangeFuncLeaves
import Derived.RangeFuncNested
import Derived.Shelf.Abstract
import Derived.Shelf.RegionOpen
import Derived.TacticsInMore
import Derived.WalkKit

set_option linter.unusedSimpArgs false
set_option linter.unusedVariables false
set_option linter.unnecessarySimpa false

set_option maxRecDepth 20000
set_option maxHeartbeats 4000000
namespace Go.AE

theorem ids_pair (a b : Str) : ∃ i0 i1, idsV [linesV a, linesV b] = [i0, i1] ∧ i0.length = (linesV a).length ∧ i1.length = (linesV b).length ∧ scriptV i0 i1 = scr a b :=
  ⟨(ids2 a b).getD 0 [], (ids2 a b).getD 1 [], rfl, ids2_l0 a b, ids2_l1 a b, rfl⟩
theorem small_pair {a b : Str} (ha : checkT a = 0) (hb : checkT b = 0) : smallL [linesV a, linesV b] := by
  have := checkT_lines ha
  have := checkT_lines hb
  refine ⟨by simp, ?_⟩
  simp
  omega

@[simp] def S_annotate_partners : List D → Prop × D := spec2 (α := Str) (β := Str) (fun a b => checkT a = 0 ∧ checkT b = 0) (fun a b => Rep.to (partsV a b))
theorem ct_annotate_partners {P : Program} {f g1 g2 g3 g4 : Nat} {G : Gam} (h : CodeOf P f 2 18 [2] (x_annotate_partners g1 g2 g3 g4)) (hG : GamOk P G) (h1 : G.find g1 = some S_text_Split) (h2 : G.find g2 = some S_intern_Ids) (h3 : G.find g3 = some S_shortest_Script) (h4 : G.find g4 = some S_script_Pairs) : Has P f S_annotate_partners := h.has2 hG fun a b hp => by
  obtain ⟨ca, cb⟩ := hp
  have la := check_len ca
  have lb := check_len cb
  have na := checkT_lines ca
  have nb := checkT_lines cb
  have hsm := small_pair ca cb
  obtain ⟨i0, i1, hid, n0, n1, hsc⟩ := ids_pair a b
  obtain ⟨hck, hmat⟩ := scr_ok ca cb
  have hnl : ¬ longV i0 i1 := by unfold longV; omega
  have hasc := pairs_asc a b
  have hrg := asc_mem _ _ _ _ _ hasc
  have hplen : (pairsS a b).length ≤ 4096 := by have := check_asc hck; rw [hmat] at this; exact this.2.2.2
  have hk0 : partsK a b 0 = List.replicate (linesV b).length (-1) := by
    unfold partsK
    apply List.ext_getElem
    · simp
    · intro i h1 h2
      simp [partL]
  have hka := partsK_all a b
  have hkl := partsK_len a b
  have hks := fun k (h : k < (pairsS a b).length) => partsK_succ h
  simp [x_annotate_partners, h1, splitD_ok ca, splitD_ok cb, show a.length ≤ 4194304 by omega, show b.length ≤ 4194304 by omega, h2, hsm, hid, h3, n0, n1, show (linesV a).length ≤ 1048576 by omega, show (linesV b).length ≤ 1048576 by omega, hnl, hsc, h4, hck, hmat]
  generalize hN : (linesV b).length = N at *
  generalize pairsS a b = p at *
  generalize linesV a = x at *
  generalize linesV b = y at *
  refine ⟨by unfold room; omega, ?_⟩
  refine vc_lp (σ := Nat) (fun i => i ≤ N) (fun i => N - i)
    (fun i => [.d (.str a), .d (.str b), .any, .any, .any, .any, .any, .d (Rep.to p), .own 0 0 0 N, .any, .any, .d (.int .i64 N), .d (.int .i64 i), .any, .any, .any, .any, .any])
    (fun i => [.cells 0 1 (cntC (List.replicate i (-1) ++ List.replicate (N - i) 0))]) 0 (by simp) (by simp [cntC]) (by simp) ?_
  intro i hi
  by_cases hil : i < N
  · have w1 : IntKind.i64.wrap ((i : Int) + 1) = (i : Int) + 1 := wrap_in (by omega) (by omega)
    have hset := fillT_set hil
    have hbl := fillT_len hi
    generalize cntC (List.replicate i (-1) ++ List.replicate (N - i) 0) = bc at *
    simp [hil, hbl, hset, w1]
    exact Nxt.mk (i + 1) (by omega) (by simp) (by simp) (by omega)
  · have h9 : i = N := by omega
    rw [h9]
    clear hi hil h9 i
    simp only [Nat.sub_self, List.replicate_zero, List.append_nil]
    rw [← hk0]
    simp
    refine vc_lp (σ := Nat) (fun k => k ≤ p.length) (fun k => p.length - k)
      (fun k => [.d (.str a), .d (.str b), .any, .any, .any, .any, .any, .any, .own 0 0 0 N, .any, .any, .any, .any, .any, .d (Rep.to p), .d (.int .i64 p.length), .d (.int .i64 k), .any])
      (fun k => [.cells 0 1 (cntC (partsK a b k))]) 0 (by simp) (by simp) (by simp) ?_
    intro k hk
    have hkl' := hkl k
    have hbl := cntC_len (partsK a b k)
    rw [hkl'] at hbl
    by_cases hkp : k < p.length
    · have w1 : IntKind.i64.wrap ((k : Int) + 1) = (k : Int) + 1 := wrap_in (by omega) (by omega)
      have hs := hks k hkp
      have hr := hrg _ (List.getElem_mem hkp)
      have hset := cntC_set (partsK a b k) p[k].to.toNat p[k].fr
      rw [← hs] at hset
      generalize hg : p[k] = q at *
      generalize hbc : cntC (partsK a b k) = bc at *
      simp [hkp, getD_map, hg, w1, hbl, hset, hr]
      exact Nxt.mk (k + 1) (by omega) (by simp) (by simp) (by omega)
    · have h9 : k = p.length := by omega
      subst h9
      rw [hka] at hkl'
      have hb := bor_ints [.cells 0 1 (cntC (partsV a b))] 0 0 (partsV a b) rfl
      rw [hkl'] at hb
      simp [hka, hb]

/-! ### the sources of a commit -/

def srcTab (g : List CommitT) (path : Str) (ks : List Nat) : List (D × D) := ks.map fun (c : Nat) => ((D.int .i64 (c : Int)), Rep.to (srcV g path c))
def addK (ks : List Nat) (c : Nat) : List Nat := if c ∈ ks then ks else ks ++ [c]
def Ob.mkeys : Ob → List Nat
  | .map es => es.map fun e => match e.1 with | .int _ n => n.toNat | _ => 0
  | _ => []
@[simp] theorem mkeys_src (g : List CommitT) (path : Str) (ks : List Nat) : Ob.mkeys (.map (srcTab g path ks)) = ks := by
  simp only [Ob.mkeys, srcTab, List.map_map]
  rw [List.map_congr_left (g := id)]
  · simp
  · intro c _; simp
theorem mlook_src (g : List CommitT) (path : Str) (c : Nat) : ∀ ks : List Nat, mlook (.int .i64 c) (srcTab g path ks) = if c ∈ ks then some (Rep.to (srcV g path c)) else none
  | [] => rfl
  | k :: ks => by
    have ih := mlook_src g path c ks
    unfold srcTab at ih ⊢
    rw [List.map_cons, mlook]
    by_cases e : c = k
    · subst e; simp [keyEq]
    · have : ¬ (c : Int) = (k : Int) := by omega
      simp only [keyEq, decide_eq_true_eq, this, if_false, ih, List.mem_cons, e, false_or]
theorem mset_src {g : List CommitT} {path : Str} {c : Nat} (v : D) : ∀ ks : List Nat, c ∉ ks → mset (.int .i64 c) v (srcTab g path ks) = srcTab g path ks ++ [(.int .i64 c, v)]
  | [], _ => rfl
  | k :: ks, h => by
    simp only [List.mem_cons, not_or] at h
    have ih := mset_src (g := g) (path := path) v ks h.2
    have : ¬ (c : Int) = (k : Int) := by omega
    unfold srcTab at ih ⊢
    rw [List.map_cons, mset, if_neg (by simp [keyEq, this]), ih]
    rfl
theorem srcTab_app (g : List CommitT) (path : Str) (ks : List Nat) (c : Nat) : srcTab g path ks ++ [(.int .i64 c, Rep.to (srcV g path c))] = srcTab g path (ks ++ [c]) := by simp [srcTab]
theorem keys_src (g : List CommitT) (path : Str) (c : Nat) (ks : List Nat) : keysOk 0 (.int .i64 c) (srcTab g path ks) := by
  refine ⟨rfl, ?_⟩
  intro e he
  unfold srcTab at he
  rw [List.mem_map] at he
  obtain ⟨k, _, rfl⟩ := he
  exact ⟨rfl, rfl⟩

structure SoX where
  g : List CommitT
  path : Str
  ks : List Nat
  c : Nat

@[simp] def soS (g : List CommitT) (path : Str) (ks : List Nat) : Store := [.cells 0 3 [.agg [.d (Rep.to g), .d (.str path), .mp 1]], .map (srcTab g path ks)]
@[simp] def F_annotate_finder_sources : RF SoX where
  new := 0
  view a s := ⟨((s.getD 0 .dead).at 0 0).gl CommitT, ((s.getD 0 .dead).at 0 1).gs, (s.getD 1 .dead).mkeys, (a.getD 1 .any).gi.toNat⟩
  args x := [.ref 0 0 0 0, .d (.int .i64 x.c)]
  st x := soS x.g x.path x.ks
  pre x := GV x.g ∧ x.c < x.g.length
  res x := .d (Rep.to (srcV x.g x.path x.c))
  st' x := soS x.g x.path (addK x.ks x.c)
abbrev R_annotate_finder_sources : RSpec := F_annotate_finder_sources.spec

theorem srcL_len (g : List CommitT) (path now : Str) : ∀ ps, (srcL g path now ps).length ≤ ps.length
  | [] => Nat.le_refl _
  | p :: ps => by
    have := srcL_len g path now ps
    rw [srcL]
    split
    · simp; omega
    · simp; omega

theorem ct_annotate_finder_sources {P : Program} {f g1 g2 : Nat} {G : Gam} (hc : CodeOf P f 2 16 [2] (x_annotate_finder_sources g1 g2)) (hG : GamOk P G) (h1 : G.find g1 = some S_tree_Find) (h2 : G.find g2 = some S_annotate_partners) : RSpec.Ok P f R_annotate_finder_sources := by
  refine RF.ok hc.call fun x hx => hc.rcalls hG rfl ?_
  obtain ⟨g, path, ks, c⟩ := x
  obtain ⟨hg, hcl⟩ := hx
  simp only at hg hcl
  have hkey := keys_src g path c ks
  have hlook := mlook_src g path c ks
  by_cases hk : c ∈ ks
  · rw [if_pos hk] at hlook
    simp only [F_annotate_finder_sources, soS, addK, if_pos hk]
    generalize srcTab g path ks = tab at *
    simp [x_annotate_finder_sources, startA, hkey, hlook]
    exact FinR.done (by simp) (by simp) rfl (by simp [resOf, resE]) (by simp) (by simp)
  · rw [if_neg hk] at hlook
    have hset := fun v => mset_src (g := g) (path := path) (c := c) v ks hk
    have happ := srcTab_app g path ks c
    simp only [F_annotate_finder_sources, soS, addK, if_neg hk]
    have hgl := hg.ok.1
    have hfl := (hg.files _ (List.getElem_mem hcl)).1
    have hpl := hg.par _ (List.getElem_mem hcl)
    have hrg := hg.prng hcl
    have hnow : blobF g[c].files path = blobG g path c := by unfold blobG; simp [List.getD, hcl]
    have hbc := hg.blob hcl path
    have hsv : srcV g path c = srcL g path (blobG g path c) g[c].parents := by unfold srcV; simp [List.getD, hcl]
    rw [hsv] at happ
    rw [hsv, ← happ]
    clear happ hsv
    generalize srcTab g path ks = tab at *
    generalize hnw : blobG g path c = now at *
    generalize hps : g[c].parents = ps at *
    simp [x_annotate_finder_sources, startA, hkey, hlook, hcl, getD_map, h1, show g[c].files.length ≤ 1048576 by omega, hps, hnow]
    refine vc_lp (σ := Nat) (fun i => i ≤ ps.length) (fun i => ps.length - i)
      (fun i => [.ref 0 0 0 0, .d (.int .i64 c), .any, .any, .any, .d (.str now), .gr 2 2 ((srcL g path now (ps.take i)).map Rep.to), .any, .any, .any, .any, .d (Rep.to ps), .d (.int .i64 ps.length), .d (.int .i64 i), .any, .any])
      (fun i => [.cells 0 3 [.agg [.d (Rep.to g), .d (.str path), .mp 1]], .map tab, .tip (srcL g path now (ps.take i)).length]) 0 (by simp [srcL]) (by simp [srcL]) (by simp) ?_
    intro i hi
    by_cases hil : i < ps.length
    · have w1 : IntKind.i64.wrap ((i : Int) + 1) = (i : Int) + 1 := wrap_in (by omega) (by omega)
      obtain ⟨r1, r2⟩ := hrg _ (List.getElem_mem hil)
      obtain ⟨q, hq⟩ := Int.eq_ofNat_of_zero_le r1
      have hql : q < g.length := by omega
      have hqf := (hg.files _ (List.getElem_mem hql)).1
      have hqb := hg.blob hql path
      have e1 : blobF g[q].files path = blobG g path q := by unfold blobG; simp [List.getD, hql]
      have e2 : inB g[q].files path = hasF g path q := by unfold hasF; simp [List.getD, hql]
      have hs : srcL g path now (ps.take (i + 1)) = srcL g path now (ps.take i) ++ (if hasF g path q = true then [⟨(q : Int), partsV (blobG g path q) now⟩] else []) := by
        rw [List.take_succ_eq_append_getElem hil, srcL_app, srcL, hq, srcL]
        rfl
      have hsl := srcL_len g path now (ps.take i)
      have : (ps.take i).length ≤ 32 := by simp; omega
      generalize srcL g path now (ps.take i) = out at *
      cases hf : hasF g path q with
      | true =>
        rw [if_pos hf] at hs
        simp [hil, getD_map, hq, hql, h1, h2, show g[q].files.length ≤ 1048576 by omega, e1, e2, hf, hqb, hbc, w1]
        exact ⟨by unfold room; omega, Nxt.mk (i + 1) (by omega) (by simp [hs]) (by simp [hs]) (by omega)⟩
      | false =>
        rw [if_neg (by rw [hf]; simp)] at hs
        simp [hil, getD_map, hq, hql, h1, show g[q].files.length ≤ 1048576 by omega, e1, e2, hf, w1]
        exact Nxt.mk (i + 1) (by omega) (by simp [hs]) (by simp [hs]) (by omega)
    · have h9 : i = ps.length := by omega
      subst h9
      rw [List.take_length]
      generalize srcL g path now ps = out at *
      simp
      refine Hint.of (T' := [.ref 0 0 0 0, .d (.int .i64 c), .any, .any, .any, .any, .d (Rep.to out), .any, .any, .any, .any, .any, .any, .any, .any, .any]) (s' := [.cells 0 3 [.agg [.d (Rep.to g), .d (.str path), .mp 1]], .map tab]) (Sub.re ⟨by simp, by simp, by simp, .inr ⟨by simp, by simp⟩⟩) ?_
      simp [hkey, hset]
      exact FinR.done (by simp) (by simp) rfl (by simp [resOf, resE]) (by simp) (by simp)

/-! ### where a line comes from -/

structure StX where
  g : List CommitT
  path : Str
  ks : List Nat
  at_ : OriginT

/-- an origin, if there is one -/
def origO (o : Option OriginT) : OriginT := o.getD ⟨0, 0⟩
def origA (o : Option OriginT) : A := .agg [.d (.int .i64 (origO o).commit), .d (.int .i64 (origO o).line)]
@[simp] def F_annotate_finder_step : RF StX where
  new := 0
  view a s := ⟨((s.getD 0 .dead).at 0 0).gl CommitT, ((s.getD 0 .dead).at 0 1).gs, (s.getD 1 .dead).mkeys, ⟨((a.getD 1 .any).cells.getD 0 .any).gi, ((a.getD 1 .any).cells.getD 1 .any).gi⟩⟩
  args x := [.ref 0 0 0 0, .agg [.d (.int .i64 x.at_.commit), .d (.int .i64 x.at_.line)]]
  st x := soS x.g x.path x.ks
  pre x := GV x.g ∧ GoodO x.g x.path x.at_
  res x := .tup [origA (fromV x.g x.path x.at_.commit.toNat x.at_.line), .d (.bool (fromV x.g x.path x.at_.commit.toNat x.at_.line).isSome)]
  st' x := soS x.g x.path (addK x.ks x.at_.commit.toNat)
abbrev R_annotate_finder_step : RSpec := F_annotate_finder_step.spec

theorem src_mem {g : List CommitT} {path now : Str} : ∀ {ps : List Int} {s : SrcT}, s ∈ srcL g path now ps → ∃ a, s.lines = partsV a now
  | [], s, h => by cases h
  | p :: ps, s, h => by
    rw [srcL] at h
    split at h
    · rcases List.mem_cons.1 h with rfl | h
      · exact ⟨_, rfl⟩
      · exact src_mem h
    · exact src_mem h

theorem ct_annotate_finder_step {P : Program} {f g1 : Nat} {G : Gam} (hc : CodeOf P f 2 12 [22003, 4] (x_annotate_finder_step g1)) (hG : GamOk P G) (h1 : G.findR g1 = some R_annotate_finder_sources) : RSpec.Ok P f R_annotate_finder_step := by
  refine RF.ok hc.call fun x hx => hc.rcalls hG rfl ?_
  obtain ⟨g, path, ks, ⟨ci, li⟩⟩ := x
  obtain ⟨hg, ho⟩ := hx
  simp only at hg ho
  have hoc := ho.c
  have hol := ho.l
  obtain ⟨c, hcc⟩ := Int.eq_ofNat_of_zero_le hoc.1
  obtain ⟨j, hjj⟩ := Int.eq_ofNat_of_zero_le hol.1
  simp only at hcc hjj hoc hol
  subst hcc
  subst hjj
  simp only [Int.toNat_natCast] at hol
  have hcl : c < g.length := by omega
  have hsv : srcV g path c = srcL g path (blobG g path c) g[c].parents := by unfold srcV; simp [List.getD, hcl]
  have hfv : fromV g path c j = fromL g path (blobG g path c) g[c].parents j := by unfold fromV; simp [List.getD, hcl]
  have hjn : j < (linesV (blobG g path c)).length := by omega
  have hsf := step_from (g := g) (path := path) hjn g[c].parents
  rw [← hfv, ← hsv] at hsf
  have hsl : (srcV g path c).length ≤ 32 := by
    rw [hsv]
    have := srcL_len g path (blobG g path c) g[c].parents
    have := hg.par _ (List.getElem_mem hcl)
    omega
  have hln : ∀ s, s ∈ srcV g path c → j < s.lines.length := fun s hs => by
    rw [hsv] at hs
    obtain ⟨a, ha⟩ := src_mem hs
    rw [ha]
    simp [partsV]
    omega
  simp only [F_annotate_finder_step, Int.toNat_natCast]
  rw [← hsf]
  clear hsf hfv
  simp [x_annotate_finder_step, startA, eRCall, h1, hg, hcl]
  generalize hss : srcV g path c = src at *
  generalize htab : srcTab g path (addK ks c) = tab at *
  clear hsv hss
  refine vc_lp (σ := Nat) (fun i => i ≤ src.length ∧ stepS (src.drop i) j = stepS src j) (fun i => src.length - i)
    (fun i => [.ref 0 0 0 0, .any, .ref 2 0 0 0, .ref 3 0 0 0, .any, .any, .any, .d (Rep.to src), .d (.int .i64 src.length), .d (.int .i64 i), .any, .any])
    (fun i => [.cells 0 3 [.agg [.d (Rep.to g), .d (.str path), .mp 1]], .map tab, .cells 0 2 [.agg [.d (.int .i64 c), .d (.int .i64 j)]], .cells 0 2 [.d (.agg [.int .i64 0, .int .i64 0])]]) 0 (by simp) (by simp) (by simp) ?_
  rintro i ⟨hi, hst⟩
  by_cases hil : i < src.length
  · have w1 : IntKind.i64.wrap ((i : Int) + 1) = (i : Int) + 1 := wrap_in (by omega) (by omega)
    rw [List.drop_eq_getElem_cons hil, stepS] at hst
    have hl := hln _ (List.getElem_mem hil)
    generalize hgi : src[i] = s at *
    have e0 : s.lines.getD j (-1) = s.lines[j] := by simp [List.getD, hl]
    rw [e0] at hst
    by_cases e : 0 ≤ s.lines[j]
    · rw [if_pos e] at hst
      rw [← hst]
      simp [hil, getD_map, hgi, hl, e]
      exact FinR.done (by simp) (by simp) rfl (by simp [resOf, resE, origO, origA]) (by simp) (by simp [origA])
    · rw [if_neg e] at hst
      simp [hil, getD_map, hgi, hl, e, w1]
      exact Nxt.mk (i + 1) (by omega) (by simp) (by simp) ⟨by omega, hst⟩
  · have h9 : i = src.length := by omega
    subst h9
    rw [List.drop_length, stepS] at hst
    rw [← hst]
    simp
    exact FinR.done (by simp) (by simp) rfl (by simp [resOf, resE, origO, origA]) (by simp) (by simp [origA])

end Go.AE

set_option maxRecDepth 20000
set_option maxHeartbeats 4000000
namespace Go.AE

/-- the error of a graph, a commit and a path -/
def begE (g : List CommitT) (c : Int) (path : Str) : Int := if dagC g = 0 then (if 0 ≤ c ∧ c < (g.length : Int) ∧ hasF g path c.toNat = true then 0 else 5) else dagC g
def fileN (g : List CommitT) (c : Int) (path : Str) : Nat := (linesV (blobG g path c.toNat)).length
theorem begE_ok {g : List CommitT} {c : Int} {path : Str} (h : begE g c path = 0) : dagC g = 0 ∧ 0 ≤ c ∧ c < (g.length : Int) ∧ hasF g path c.toNat = true := by
  unfold begE at h
  split at h
  · rename_i h1
    split at h
    · rename_i h2; exact ⟨h1, h2⟩
    · cases h
  · rename_i h1; exact (h1 h).elim

structure BgX where
  g : List CommitT
  c : Int
  path : Str

@[simp] def F_annotate_begin : RF BgX where
  new := 2
  view a _ := ⟨(a.getD 0 .any).gl CommitT, (a.getD 1 .any).gi, (a.getD 2 .any).gs⟩
  args x := [.d (Rep.to x.g), .d (.int .i64 x.c), .d (.str x.path)]
  st _ := [.res, .res]
  pre x := GraphOk x.g
  res x := if begE x.g x.c x.path = 0 then .tup [.ref 0 0 0 0, .d (.int .i64 (fileN x.g x.c x.path)), .d (.int .i64 0)] else .tup [.d .nilp, .d (.int .i64 0), .d (.int .i64 (begE x.g x.c x.path))]
  st' x := if begE x.g x.c x.path = 0 then soS x.g x.path [] else [.res, .res]
abbrev R_annotate_begin : RSpec := F_annotate_begin.spec

theorem ct_annotate_begin {P : Program} {f g1 g2 g3 g4 : Nat} {G : Gam} (hc : CodeOf P f 3 13 [3, 4, 5] (x_annotate_begin g1 g2 g3 g4)) (hG : GamOk P G) (h1 : G.find g1 = some S_dag_Check) (h2 : G.find g2 = some S_dag_Is) (h3 : G.find g3 = some S_tree_Find) (h4 : G.find g4 = some S_text_Split) : RSpec.Ok P f R_annotate_begin := by
  refine RF.ok hc.call fun x hx => hc.rcalls hG rfl ?_
  obtain ⟨g, c, path⟩ := x
  have hok : GraphOk g := hx
  simp only [F_annotate_begin]
  by_cases c0 : dagC g = 0
  · have hg := GV.of c0 hok
    by_cases c1 : 0 ≤ c ∧ c < (g.length : Int)
    · obtain ⟨n, rfl⟩ := Int.eq_ofNat_of_zero_le c1.1
      have hcl : n < g.length := by omega
      have hfl := (hg.files _ (List.getElem_mem hcl)).1
      have e1 : blobF g[n].files path = blobG g path n := by unfold blobG; simp [List.getD, hcl]
      have e2 : inB g[n].files path = hasF g path n := by unfold hasF; simp [List.getD, hcl]
      have hb := hg.blob hcl path
      have hbl := check_len hb
      cases hf : hasF g path n with
      | true =>
        have he : begE g (n : Int) path = 0 := by unfold begE; rw [if_pos c0, if_pos ⟨c1.1, c1.2, by simpa using hf⟩]
        simp only [he, if_true]
        simp [x_annotate_begin, startA, h1, h2, h3, h4, hok, c0, hcl, getD_map, show g[n].files.length ≤ 1048576 by omega, e1, e2, hf, show (blobG g path n).length ≤ 4194304 by omega, splitD_ok hb, fileN]
        exact ⟨by simp [resPre, resE], [3, 2], rfl, ⟨by decide, by simp, by simp [pickS, Ob.ren, A.ren, A.rens]⟩, fun k hk => (by match k, hk with | 0, _ => exact .inr rfl | 1, _ => exact .inr rfl), by simp [pickS, Ob.ren, A.ren, A.rens, idxIn, srcTab] <;> rfl, by simp [resOf, resE, A.ren, A.rens, idxIn] <;> rfl, by simp⟩
      | false =>
        have he : begE g (n : Int) path = 5 := by unfold begE; rw [if_pos c0, if_neg]; rintro ⟨_, _, h⟩; rw [Int.toNat_natCast, hf] at h; cases h
        simp only [he]
        simp [x_annotate_begin, startA, h1, h2, h3, h4, hok, c0, hcl, getD_map, show g[n].files.length ≤ 1048576 by omega, e1, e2, hf]
        exact FinR.done (by simp) (by simp) rfl (by simp [resOf, resE]) (by simp) (by simp)
    · have he : begE g c path = 5 := by unfold begE; rw [if_pos c0, if_neg]; rintro ⟨a, b, _⟩; exact c1 ⟨a, b⟩
      simp only [he]
      by_cases k1 : 0 ≤ c
      · have k2 : ¬ c < (g.length : Int) := fun h => c1 ⟨k1, h⟩
        simp [x_annotate_begin, startA, h1, h2, hok, c0, k1, k2]
        exact FinR.done (by simp) (by simp) rfl (by simp [resOf, resE]) (by simp) (by simp)
      · simp [x_annotate_begin, startA, h1, h2, hok, c0, k1]
        exact FinR.done (by simp) (by simp) rfl (by simp [resOf, resE]) (by simp) (by simp)
  · have he : begE g c path = dagC g := by unfold begE; rw [if_neg c0]
    simp only [he]
    simp [x_annotate_begin, startA, h1, hok, c0]
    exact FinR.done (by simp) (by simp) rfl (by simp [resOf, resE]) (by simp) (by simp)

def stepD (g : List CommitT) (c : Int) (path : Str) (line : Int) : D :=
  if begE g c path = 0 then (if 0 ≤ line ∧ line < (fileN g c path : Int) then .tup [Rep.to (origO (fromV g path c.toNat line)), .bool (fromV g path c.toNat line).isSome, .int .i64 0] else .tup [Rep.to (origO none), .bool false, .int .i64 3]) else .tup [Rep.to (origO none), .bool false, .int .i64 (begE g c path)]
theorem goodO_of {g : List CommitT} {c : Int} {path : Str} (h : begE g c path = 0) {line : Int} (hl : 0 ≤ line ∧ line < (fileN g c path : Int)) : GoodO g path ⟨c, line⟩ := by
  obtain ⟨_, h1, h2, h3⟩ := begE_ok h
  exact ⟨⟨h1, h2⟩, h3, hl⟩

@[simp] def S_annotate_Step : List D → Prop × D := spec4 (α := List CommitT) (β := Int) (γ := Str) (δ := Int) (fun g _ _ _ => GraphOk g) (fun g c path line => stepD g c path line)
theorem ct_annotate_Step {P : Program} {f g1 g2 : Nat} {G : Gam} (h : CodeOf P f 4 14 [22004, 5, 6] (x_annotate_Step g1 g2)) (hG : GamOk P G) (h1 : G.findR g1 = some R_annotate_begin) (h2 : G.findR g2 = some R_annotate_finder_step) : Has P f S_annotate_Step := h.has4 hG fun g c path line hok => by
  by_cases he : begE g c path = 0
  · have hg := GV.of (begE_ok he).1 hok
    by_cases c1 : line < 0
    · have hv : stepD g c path line = .tup [Rep.to (origO none), .bool false, .int .i64 3] := by unfold stepD; rw [if_pos he, if_neg (by omega)]
      rw [hv]
      simp [x_annotate_Step, eRCall, h1, hok, he, c1, origO]
    · by_cases c2 : (fileN g c path : Int) ≤ line
      · have hv : stepD g c path line = .tup [Rep.to (origO none), .bool false, .int .i64 3] := by unfold stepD; rw [if_pos he, if_neg (by omega)]
        rw [hv]
        simp [x_annotate_Step, eRCall, h1, hok, he, c1, c2, origO]
      · have hgo := goodO_of he (line := line) (by omega)
        have hv : stepD g c path line = .tup [Rep.to (origO (fromV g path c.toNat line)), .bool (fromV g path c.toNat line).isSome, .int .i64 0] := by unfold stepD; rw [if_pos he, if_pos (by omega)]
        rw [hv]
        simp [x_annotate_Step, eRCall, h1, h2, hok, he, c1, c2, hg, hgo, origA]
  · have hv : stepD g c path line = .tup [Rep.to (origO none), .bool false, .int .i64 (begE g c path)] := by unfold stepD; rw [if_neg he]
    rw [hv]
    simp [x_annotate_Step, eRCall, h1, hok, he, origO]

def blS (g : List CommitT) (path : Str) (c : Int) (n : Nat) : List OriginT := (List.range n).map fun (j : Nat) => blV g path ⟨c, (j : Int)⟩
theorem blS_len (g : List CommitT) (path : Str) (c : Int) (n : Nat) : (blS g path c n).length = n := by simp [blS]
theorem blS_succ (g : List CommitT) (path : Str) (c : Int) (n : Nat) : blS g path c (n + 1) = blS g path c n ++ [blV g path ⟨c, (n : Int)⟩] := by simp [blS, List.range_succ]
def blameL (g : List CommitT) (c : Int) (path : Str) : List OriginT := if begE g c path = 0 then blS g path c (fileN g c path) else []

structure BlX where
  i : Nat
  ks : List Nat
structure BaX where
  a : OriginT
  ks : List Nat

@[simp] def S_annotate_Blame : List D → Prop × D := spec3 (α := List CommitT) (β := Int) (γ := Str) (fun g _ _ => GraphOk g) (fun g c path => .tup [Rep.to (blameL g c path), .int .i64 (begE g c path)])
theorem ct_annotate_Blame {P : Program} {f g1 g2 : Nat} {G : Gam} (h : CodeOf P f 3 18 [3, 4] (x_annotate_Blame g1 g2)) (hG : GamOk P G) (h1 : G.findR g1 = some R_annotate_begin) (h2 : G.findR g2 = some R_annotate_finder_step) : Has P f S_annotate_Blame := h.has3 hG fun g c path hok => by
  by_cases he : begE g c path = 0
  · obtain ⟨c0, hc0, hc1, hc2⟩ := begE_ok he
    have hg := GV.of c0 hok
    obtain ⟨hh, hfix⟩ := hg.fix
    obtain ⟨ht, hht⟩ : ∃ ht : Nat → Int, ∀ i, ht i = hh.getD i 0 := ⟨_, fun _ => rfl⟩
    have hv : blameL g c path = blS g path c (fileN g c path) := by unfold blameL; rw [if_pos he]
    have hgo := fun line hl => goodO_of he (line := line) hl
    have hn : fileN g c path ≤ 4096 := checkT_lines (hg.blob (c := c.toNat) (by omega) path)
    rw [hv, he]
    simp [x_annotate_Blame, eRCall, h1, hok, he]
    generalize fileN g c path = n at *
    refine vc_lp (σ := BlX) (fun x => x.i ≤ n) (fun x => n - x.i)
      (fun x => [.d (Rep.to g), .d (.int .i64 c), .d (.str path), .any, .any, .ref 0 0 0 0, .any, .any, .gr 2 2 ((blS g path c x.i).map Rep.to), .any, .any, .any, .any, .any, .d (.int .i64 n), .d (.int .i64 x.i), .any, .any])
      (fun x => [.cells 0 3 [.agg [.d (Rep.to g), .d (.str path), .mp 1]], .map (srcTab g path x.ks), .tip (blS g path c x.i).length]) ⟨0, []⟩ (by simp [blS]) (by simp [blS]) (by simp) ?_
    rintro ⟨i, ks⟩ hi
    simp only at hi
    have hbl := blS_len g path c i
    have hbs := blS_succ g path c i
    by_cases hil : i < n
    · have w1 : IntKind.i64.wrap ((i : Int) + 1) = (i : Int) + 1 := wrap_in (by omega) (by omega)
      have hg0 := hgo (i : Int) (by omega)
      generalize hbb : blS g path c i = out at *
      simp [hil]
      refine vc_lp (σ := BaX) (fun x => GoodO g path x.a ∧ blV g path x.a = blV g path ⟨c, (i : Int)⟩) (fun x => (ht x.a.commit.toNat).toNat)
        (fun x => [.d (Rep.to g), .d (.int .i64 c), .d (.str path), .any, .any, .ref 0 0 0 0, .any, .any, .gr 2 2 (out.map Rep.to), .any, .ref 3 0 0 0, .any, .any, .any, .d (.int .i64 n), .d (.int .i64 i), .any, .any])
        (fun x => [.cells 0 3 [.agg [.d (Rep.to g), .d (.str path), .mp 1]], .map (srcTab g path x.ks), .tip out.length, .cells 0 2 [.agg [.d (.int .i64 x.a.commit), .d (.int .i64 x.a.line)]]]) ⟨⟨c, i⟩, ks⟩ (by simp) (by simp) ⟨hg0, rfl⟩ ?_
      rintro ⟨⟨ac, al⟩, ks⟩ ⟨ha, hb⟩
      simp only at ha hb
      have heq := blV_eq hg.rel hfix ha
      simp only at heq
      cases hfr : fromV g path ac.toNat al with
      | some x =>
        rw [hfr] at heq
        obtain ⟨g1', g2', _⟩ := from_good hg.rel ha hfr
        have hge := hfix.ge ac.toNat (by rw [parG_len]; have := ha.c; simp only at this; omega) _ g2'
        have hnn := hfix.nn x.commit.toNat
        rw [← hht] at hnn
        rw [← hht, ← hht] at hge
        simp [eRCall, h2, hg, ha, hfr, origA, origO]
        exact Nxt.mk (⟨x, addK ks ac.toNat⟩ : BaX) (by simp only; omega) (by simp) (by simp) ⟨g1', by rw [← hb, heq]⟩
      | none =>
        rw [hfr] at heq
        simp only at heq
        rw [heq] at hb
        simp [eRCall, h2, hg, ha, hfr, origA, origO, w1]
        exact ⟨by unfold room; omega, Nxt.mk (⟨i + 1, addK ks ac.toNat⟩ : BlX) (by simp only; omega) (by simp [hbs, ← hb]) (by simp [hbs]) (by simp only; omega)⟩
    · have h9 : i = n := by omega
      subst h9
      simp
  · have hv : blameL g c path = [] := by unfold blameL; rw [if_neg he]
    rw [hv]
    simp [x_annotate_Blame, eRCall, h1, hok, he]

end Go.AE

set_option maxRecDepth 20000
set_option maxHeartbeats 4000000
namespace Go.AE

@[simp] def S_ref31_from : List D → Prop × D := spec4 (α := List CommitT) (β := Int) (γ := Str) (δ := Int) (fun g c path line => GV g ∧ GoodO g path ⟨c, line⟩) (fun g c path line => .tup [Rep.to (origO (fromV g path c.toNat line)), .bool (fromV g path c.toNat line).isSome])
theorem ct_ref31_from {P : Program} {f g1 g2 g3 g4 : Nat} {G : Gam} (h : CodeOf P f 4 15 [22004, 5] (x_ref31_from g1 g2 g3 g4)) (hG : GamOk P G) (h1 : G.find g1 = some S_ref21_Find) (h2 : G.find g2 = some S_ref09_Blobs) (h3 : G.find g3 = some S_ref02_Lines) (h4 : G.find g4 = some S_ref29_Partner) : Has P f S_ref31_from := h.has4 hG fun g ci path li hp => by
  obtain ⟨hg, ho⟩ := hp
  have hoc := ho.c
  have hol := ho.l
  obtain ⟨c, hcc⟩ := Int.eq_ofNat_of_zero_le hoc.1
  simp only at hcc hoc hol
  subst hcc
  simp only [Int.toNat_natCast] at hol ⊢
  have hcl : c < g.length := by omega
  have hfv : fromV g path c li = fromL g path (blobG g path c) g[c].parents li := by unfold fromV; simp [List.getD, hcl]
  have hfl := (hg.files _ (List.getElem_mem hcl)).1
  have hpl := hg.par _ (List.getElem_mem hcl)
  have hrg := hg.prng hcl
  have hnow : blobF g[c].files path = blobG g path c := by unfold blobG; simp [List.getD, hcl]
  have hbc := hg.blob hcl path
  have hbl := check_len hbc
  rw [hfv]
  clear hfv
  generalize hnw : blobG g path c = now at *
  generalize hps : g[c].parents = ps at *
  simp [x_ref31_from, hcl, getD_map, h1, show g[c].files.length ≤ 1048576 by omega, hnow]
  refine vc_lp (σ := Nat) (fun i => i ≤ ps.length ∧ fromL g path now (ps.drop i) li = fromL g path now ps li) (fun i => ps.length - i)
    (fun i => [.d (Rep.to g), .d (.int .i64 c), .d (.str path), .d (.int .i64 li), .ref 0 0 0 0, .any, .d (.str now), .d (.int .i64 i), .any, .any, .any, .any, .any, .any, .any])
    (fun _ => [.cells 0 2 [.d (.agg [.int .i64 0, .int .i64 0])]]) 0 (by simp) (by simp) (by simp) ?_
  rintro i ⟨hi, hst⟩
  by_cases hil : i < ps.length
  · have w1 : IntKind.i64.wrap ((i : Int) + 1) = (i : Int) + 1 := wrap_in (by omega) (by omega)
    rw [List.drop_eq_getElem_cons hil, fromL] at hst
    obtain ⟨r1, r2⟩ := hrg _ (List.getElem_mem hil)
    obtain ⟨q, hq⟩ := Int.eq_ofNat_of_zero_le r1
    rw [hq] at hst
    simp only [Int.toNat_natCast] at hst
    have hql : q < g.length := by omega
    have hqf := (hg.files _ (List.getElem_mem hql)).1
    have hqb := hg.blob hql path
    have hqn := check_len hqb
    have e1 : blobF g[q].files path = blobG g path q := by unfold blobG; simp [List.getD, hql]
    have e2 : inB g[q].files path = hasF g path q := by unfold hasF; simp [List.getD, hql]
    obtain ⟨hck, hmat⟩ := scr_ok hqb hbc
    have hbd := scr_blobs hqb hbc
    have hcn := check_clen hck
    have hex : ∃ n, checkV (scr (blobG g path q) now) (linesV (blobG g path q)).length n = true := ⟨_, hck⟩
    have hpv : partL (pairsS (blobG g path q) now) li = partV (blobG g path q) now li := rfl
    clear hck
    generalize blobG g path q = a at *
    generalize hsc : scr a now = sc at *
    cases hf : hasF g path q with
    | true =>
      by_cases e : 0 ≤ partV a now li
      · rw [if_pos ⟨hf, e⟩] at hst
        rw [← hst]
        simp [hil, hcl, getD_map, hps, hq, hql, h1, h2, h3, h4, show g[q].files.length ≤ 1048576 by omega, show a.length ≤ 4194304 by omega, show now.length ≤ 4194304 by omega, e1, e2, hf, hbd, show sc.length ≤ 100000 by omega, hex, hmat, hpv, e, origO]
      · rw [if_neg (fun h => e h.2)] at hst
        simp [hil, hcl, getD_map, hps, hq, hql, h1, h2, h3, h4, show g[q].files.length ≤ 1048576 by omega, show a.length ≤ 4194304 by omega, show now.length ≤ 4194304 by omega, e1, e2, hf, hbd, show sc.length ≤ 100000 by omega, hex, hmat, hpv, e, w1]
        exact Nxt.mk (i + 1) (by omega) (by simp) (by simp) ⟨by omega, hst⟩
    | false =>
      rw [if_neg (fun h => by rw [hf] at h; cases h.1)] at hst
      simp [hil, hcl, getD_map, hps, hq, hql, h1, h2, h3, h4, show g[q].files.length ≤ 1048576 by omega, show a.length ≤ 4194304 by omega, show now.length ≤ 4194304 by omega, e1, e2, hf, hbd, show sc.length ≤ 100000 by omega, hex, hmat, hpv, w1]
      exact Nxt.mk (i + 1) (by omega) (by simp) (by simp) ⟨by omega, hst⟩
  · have h9 : i = ps.length := by omega
    subst h9
    rw [List.drop_length, fromL] at hst
    rw [← hst]
    simp [hcl, getD_map, hps, origO]

@[simp] def S_ref31_file : List D → Prop × D := spec3 (α := List CommitT) (β := Int) (γ := Str) (fun g _ _ => GraphOk g) (fun g c path => .tup [.int .i64 (if begE g c path = 0 then (fileN g c path : Int) else 0), .int .i64 (begE g c path)])
theorem ct_ref31_file {P : Program} {f g1 g2 g3 : Nat} {G : Gam} (h : CodeOf P f 3 10 [3, 4] (x_ref31_file g1 g2 g3)) (hG : GamOk P G) (h1 : G.find g1 = some S_ref26_Known) (h2 : G.find g2 = some S_ref21_Find) (h3 : G.find g3 = some S_ref02_Lines) : Has P f S_ref31_file := h.has3 hG fun g c path hok => by
  by_cases c0 : dagC g = 0
  · have hg := GV.of c0 hok
    by_cases c1 : 0 ≤ c ∧ c < (g.length : Int)
    · obtain ⟨n, rfl⟩ := Int.eq_ofNat_of_zero_le c1.1
      have hcl : n < g.length := by omega
      have hfl := (hg.files _ (List.getElem_mem hcl)).1
      have e1 : blobF g[n].files path = blobG g path n := by unfold blobG; simp [List.getD, hcl]
      have e2 : inB g[n].files path = hasF g path n := by unfold hasF; simp [List.getD, hcl]
      have hb := hg.blob hcl path
      have hbl := check_len hb
      have hk : knownC g (n : Int) = 0 := by unfold knownC; rw [if_pos c0, if_pos c1]
      cases hf : hasF g path n with
      | true =>
        have he : begE g (n : Int) path = 0 := by unfold begE; rw [if_pos c0, if_pos ⟨c1.1, c1.2, by simpa using hf⟩]
        simp [x_ref31_file, h1, h2, h3, hok, hk, he, hcl, getD_map, show g[n].files.length ≤ 1048576 by omega, e1, e2, hf, show (blobG g path n).length ≤ 4194304 by omega, fileN]
      | false =>
        have he : begE g (n : Int) path = 5 := by unfold begE; rw [if_pos c0, if_neg]; rintro ⟨_, _, h⟩; rw [Int.toNat_natCast, hf] at h; cases h
        simp [x_ref31_file, h1, h2, hok, hk, he, hcl, getD_map, show g[n].files.length ≤ 1048576 by omega, e1, e2, hf]
    · have he : begE g c path = 5 := by unfold begE; rw [if_pos c0, if_neg]; rintro ⟨a, b, _⟩; exact c1 ⟨a, b⟩
      have hk : knownC g c = 5 := by unfold knownC; rw [if_pos c0, if_neg c1]
      simp [x_ref31_file, h1, hok, hk, he]
  · have he : begE g c path = dagC g := by unfold begE; rw [if_neg c0]
    have hk : knownC g c = dagC g := by unfold knownC; rw [if_neg c0]
    simp [x_ref31_file, h1, hok, hk, he, c0]

@[simp] def S_ref31_Step : List D → Prop × D := spec4 (α := List CommitT) (β := Int) (γ := Str) (δ := Int) (fun g _ _ _ => GraphOk g) (fun g c path line => stepD g c path line)
theorem ct_ref31_Step {P : Program} {f g1 g2 : Nat} {G : Gam} (h : CodeOf P f 4 13 [22004, 5, 6] (x_ref31_Step g1 g2)) (hG : GamOk P G) (h1 : G.find g1 = some S_ref31_file) (h2 : G.find g2 = some S_ref31_from) : Has P f S_ref31_Step := h.has4 hG fun g c path line hok => by
  by_cases he : begE g c path = 0
  · have hg := GV.of (begE_ok he).1 hok
    by_cases c1 : line < 0
    · have hv : stepD g c path line = .tup [Rep.to (origO none), .bool false, .int .i64 3] := by unfold stepD; rw [if_pos he, if_neg (by omega)]
      rw [hv]
      simp [x_ref31_Step, h1, hok, he, c1, origO]
    · by_cases c2 : (fileN g c path : Int) ≤ line
      · have hv : stepD g c path line = .tup [Rep.to (origO none), .bool false, .int .i64 3] := by unfold stepD; rw [if_pos he, if_neg (by omega)]
        rw [hv]
        simp [x_ref31_Step, h1, hok, he, c1, c2, origO]
      · have hgo := goodO_of he (line := line) (by omega)
        have hv : stepD g c path line = .tup [Rep.to (origO (fromV g path c.toNat line)), .bool (fromV g path c.toNat line).isSome, .int .i64 0] := by unfold stepD; rw [if_pos he, if_pos (by omega)]
        rw [hv]
        simp [x_ref31_Step, h1, h2, hok, he, c1, c2, hg, hgo]
  · have hv : stepD g c path line = .tup [Rep.to (origO none), .bool false, .int .i64 (begE g c path)] := by unfold stepD; rw [if_neg he]
    rw [hv]
    simp [x_ref31_Step, h1, hok, he, origO]

structure BrX where
  a : OriginT
  b : Bool

@[simp] def S_ref31_Blame : List D → Prop × D := spec3 (α := List CommitT) (β := Int) (γ := Str) (fun g _ _ => GraphOk g) (fun g c path => .tup [Rep.to (blameL g c path), .int .i64 (begE g c path)])
theorem ct_ref31_Blame {P : Program} {f g1 g2 : Nat} {G : Gam} (h : CodeOf P f 3 17 [3, 4] (x_ref31_Blame g1 g2)) (hG : GamOk P G) (h1 : G.find g1 = some S_ref31_file) (h2 : G.find g2 = some S_ref31_from) : Has P f S_ref31_Blame := h.has3 hG fun g c path hok => by
  by_cases he : begE g c path = 0
  · obtain ⟨c0, hc0, hc1, hc2⟩ := begE_ok he
    have hg := GV.of c0 hok
    obtain ⟨hh, hfix⟩ := hg.fix
    obtain ⟨ht, hht⟩ : ∃ ht : Nat → Int, ∀ i, ht i = hh.getD i 0 := ⟨_, fun _ => rfl⟩
    have hv : blameL g c path = blS g path c (fileN g c path) := by unfold blameL; rw [if_pos he]
    have hgo := fun line hl => goodO_of he (line := line) hl
    have hn : fileN g c path ≤ 4096 := checkT_lines (hg.blob (c := c.toNat) (by omega) path)
    rw [hv, he]
    simp [x_ref31_Blame, h1, hok, he]
    generalize fileN g c path = n at *
    refine vc_lp (σ := Nat) (fun i => i ≤ n) (fun i => n - i)
      (fun i => [.d (Rep.to g), .d (.int .i64 c), .d (.str path), .any, .any, .d (.int .i64 n), .any, .gr 0 2 ((blS g path c i).map Rep.to), .d (.int .i64 i), .any, .any, .any, .any, .any, .any, .any, .any])
      (fun i => [.tip (blS g path c i).length]) 0 (by simp [blS]) (by simp [blS]) (by simp) ?_
    intro i hi
    have hbl := blS_len g path c i
    have hbs := blS_succ g path c i
    by_cases hil : i < n
    · have w1 : IntKind.i64.wrap ((i : Int) + 1) = (i : Int) + 1 := wrap_in (by omega) (by omega)
      have hg0 := hgo (i : Int) (by omega)
      generalize hbb : blS g path c i = out at *
      simp [hil]
      refine vc_lp (σ := BrX) (fun x => GoodO g path x.a ∧ blV g path x.a = blV g path ⟨c, (i : Int)⟩ ∧ (x.b = false → fromV g path x.a.commit.toNat x.a.line = none)) (fun x => 2 * (ht x.a.commit.toNat).toNat + x.b.toNat)
        (fun x => [.d (Rep.to g), .d (.int .i64 c), .d (.str path), .any, .any, .d (.int .i64 n), .any, .gr 0 2 (out.map Rep.to), .d (.int .i64 i), .ref 1 0 0 0, .d (.bool x.b), .any, .any, .any, .any, .any, .any])
        (fun x => [.tip out.length, .cells 0 2 [.agg [.d (.int .i64 x.a.commit), .d (.int .i64 x.a.line)]]]) ⟨⟨c, i⟩, true⟩ (by simp) (by simp) ⟨hg0, rfl, by simp⟩ ?_
      rintro ⟨⟨ac, al⟩, b⟩ ⟨ha, hb, hfn⟩
      simp only at ha hb hfn
      have heq := blV_eq hg.rel hfix ha
      simp only at heq
      cases b with
      | true =>
        cases hfr : fromV g path ac.toNat al with
        | some x =>
          rw [hfr] at heq
          obtain ⟨g1', g2', _⟩ := from_good hg.rel ha hfr
          have hge := hfix.ge ac.toNat (by rw [parG_len]; have := ha.c; simp only at this; omega) _ g2'
          have hnn := hfix.nn x.commit.toNat
          rw [← hht] at hnn
          rw [← hht, ← hht] at hge
          simp [h2, hg, ha, hfr, origO]
          have hb1 : Bool.toNat true = 1 := rfl
          exact Nxt.mk (⟨x, true⟩ : BrX) (by simp only [hb1]; omega) (by simp) (by simp) ⟨g1', by rw [← hb, heq], by simp⟩
        | none =>
          simp [h2, hg, ha, hfr, origO]
          exact Nxt.mk (⟨⟨ac, al⟩, false⟩ : BrX) (by simp) (by simp) (by simp) ⟨ha, hb, fun _ => hfr⟩
      | false =>
        rw [hfn rfl] at heq
        simp only at heq
        rw [heq] at hb
        simp [w1]
        exact ⟨by unfold room; omega, Nxt.mk (i + 1) (by omega) (by simp [hbs, ← hb]) (by simp [hbs]) (by omega)⟩
    · have h9 : i = n := by omega
      subst h9
      simp
  · have hv : blameL g c path = [] := by unfold blameL; rw [if_neg he]
    rw [hv]
    simp [x_ref31_Blame, h1, hok, he]

end Go.AE

set_option maxRecDepth 20000
set_option maxHeartbeats 8000000
namespace Go.AE

def exG : List CommitT := [⟨[], 0, [⟨[120], [97, 10, 98, 10]⟩]⟩, ⟨[0], 0, [⟨[120], [97, 10, 99, 10]⟩]⟩]
theorem aw31a : begE exG 1 [120] = 0 := by decide +kernel
theorem aw31b : blameL exG 1 [120] = [⟨0, 0⟩, ⟨1, 1⟩] := by decide +kernel
theorem exG_ok : GraphOk exG := by
  refine ⟨by decide, fun c hc => ?_⟩
  unfold exG at hc
  simp at hc
  rcases hc with rfl | rfl
  · exact ⟨by simp, by simp, fun f hf => by simp at hf; subst hf; exact ⟨by simp, by simp⟩⟩
  · exact ⟨by simp, by simp, fun f hf => by simp at hf; subst hf; exact ⟨by simp, by simp⟩⟩

@[simp] def S_law31_awake : List D → Prop × D := spec0 True (.bool true)
theorem ct_law31_awake {P : Program} {f g1 g2 : Nat} {G : Gam} (h : CodeOf P f 0 4 [0] (x_law31_awake g1 g2)) (hG : GamOk P G) (h1 : G.find g1 = some S_annotate_Blame) (h2 : G.find g2 = some S_gen_Origins) : Has P f S_law31_awake := h.has0 hG fun _ => by
  have e1 : ofAll (Rep.of (α := CommitT)) [.agg [.nilsl, .int .i64 0, .sl 2 [.agg [.str [120], .str [97, 10, 98, 10]]]], .agg [.sl 1 [.int .i64 0], .int .i64 0, .sl 2 [.agg [.str [120], .str [97, 10, 99, 10]]]]] = some exG := rfl
  have e2 : ofAll (Rep.of (α := OriginT)) [.agg [.int .i64 0, .int .i64 0], .agg [.int .i64 1, .int .i64 1]] = some [⟨0, 0⟩, ⟨1, 1⟩] := rfl
  have a1 := aw31a
  have a2 := aw31b
  have a3 := exG_ok
  simp only [exG] at a1 a2 a3
  simp [x_law31_awake, h1, h2, e2, a1, a2, a3]

theorem stepD_form (g : List CommitT) (c : Int) (path : Str) (line : Int) : ∃ (o : OriginT) (b : Bool) (e : Int), stepD g c path line = .tup [Rep.to o, .bool b, .int .i64 e] := by
  unfold stepD
  split
  · split
    · exact ⟨_, _, _, rfl⟩
    · exact ⟨_, _, _, rfl⟩
  · exact ⟨_, _, _, rfl⟩
theorem blame_len {g : List CommitT} (ho : GraphOk g) (c : Int) (path : Str) : (blameL g c path).length ≤ 9223372036854775807 := by
  unfold blameL
  split
  · rename_i he
    obtain ⟨c0, h1, h2, _⟩ := begE_ok he
    have := checkT_lines ((GV.of c0 ho).blob (c := c.toNat) (by omega) path)
    rw [blS_len]
    unfold fileN
    omega
  · simp

@[simp] def S_law31_AnnotateRefuses : List D → Prop × D := spec5 (α := List Int) (β := Int) (γ := Str) (δ := Int) (ε := List CommitT) (fun raw _ path _ g => raw.length ≤ 1048576 ∧ path.length ≤ 1048576 ∧ g.length ≤ 1048576 ∧ ComsOk g) (fun _ _ _ _ _ => .bool true)
theorem ct_law31_AnnotateRefuses {P : Program} {f g1 g2 g3 g4 g5 g6 g7 g8 : Nat} {G : Gam} (h : CodeOf P f 5 20 [5] (x_law31_AnnotateRefuses g1 g2 g3 g4 g5 g6 g7 g8)) (hG : GamOk P G) (h1 : G.find g1 = some S_law31_awake) (h2 : G.find g2 = some S_gen_Graph) (h3 : G.find g3 = some S_annotate_Blame) (h4 : G.find g4 = some S_ref31_Blame) (h5 : G.find g5 = some S_annotate_Step) (h6 : G.find g6 = some S_ref31_Step) (h7 : G.find g7 = some S_gen_Origins) (h8 : G.find g8 = some S_ref23_Check) : Has P f S_law31_AnnotateRefuses := h.has5 hG fun raw start path line w hp => by
  obtain ⟨p1, p2, p3, p4⟩ := hp
  by_cases k1 : 5 < w.length
  · simp [x_law31_AnnotateRefuses, h1, show (5 : Int) < w.length by omega]
  · by_cases k2 : 40 < path.length
    · simp [x_law31_AnnotateRefuses, h1, show ¬ (5 : Int) < w.length by omega, show (40 : Int) < path.length by omega]
    · have o := (graphV_ok raw (n := 5) (lines := 3) (by omega) (by omega) (by omega) (by decide)).2
      have ow : GraphOk w := ⟨by omega, p4⟩
      obtain ⟨o1, b1, e1, s1⟩ := stepD_form (graphV raw 5 3) start [97] line
      have hbl := blame_len o start path
      generalize hgg : graphV raw 5 3 = g at *
      by_cases c0 : dagC w = 0
      · simp [x_law31_AnnotateRefuses, h1, h2, h3, h4, h5, h6, h7, h8, p1, hgg, o, ow, s1, hbl, eSeq, cellsEq, cellEq, c0, show ¬ (5 : Int) < w.length by omega, show ¬ (40 : Int) < path.length by omega]
      · have hbe : begE w start path = dagC w := by unfold begE; rw [if_neg c0]
        have hsd : stepD w start path line = .tup [Rep.to (origO none), .bool false, .int .i64 (dagC w)] := by unfold stepD; rw [if_neg (by rw [hbe]; exact c0), hbe]
        simp [x_law31_AnnotateRefuses, h1, h2, h3, h4, h5, h6, h7, h8, p1, hgg, o, ow, s1, hbl, eSeq, cellsEq, cellEq, c0, hbe, hsd, show ¬ (5 : Int) < w.length by omega, show ¬ (40 : Int) < path.length by omega]

theorem law31_AnnotateRefuses_pre (raw : List Int) (start : Int) (path : List UInt8) (line : Int) (g : List CommitT) (_ : Arg.wf raw) (_ : Arg.wf start) (_ : Arg.wf path) (_ : Arg.wf line) (_ : Arg.wf g) (hb : Arg.bulk raw + (Arg.bulk start + (Arg.bulk path + (Arg.bulk line + (Arg.bulk g + 0)))) ≤ 1048576) : raw.length ≤ 1048576 ∧ path.length ≤ 1048576 ∧ g.length ≤ 1048576 ∧ ComsOk g := by
  have := len_bulk raw
  have := str_bulk path
  have := coms_bulk (g := g) (by omega)
  exact ⟨by omega, by omega, this.1, this.2⟩

end Go.AE

namespace Go.AE
open Go Go.Proofs Go.RowKit

/-- what the iterator gfn is to do, at whatever the caller keeps (J while the rounds go on, Jx once one has left), where it may write the cell 'own' between two rounds -/
def SeqW {α : Type} (n : Nat) (P : Program) (gfn : Nat) (caps : Array Value) (encs : α → Array Value) (n₀ own : Nat) (xs : List α) (w0 : World) : Prop :=
  ∀ (l : Nat) (J Jx : List α → World → Prop) (W : World), Below n₀ w0 W → (∀ pre A v, J pre A → J pre (A.setCell ⟨own, 0, none⟩ v)) →
    (∀ pre x A, J pre A → pre.length < xs.length → YieldAt Fence.wide (n - 1) P l (encs x) A fun e B =>
      (e = .returned (.bool true) ∧ J (pre ++ [x]) B ∧ Below n₀ A B) ∨ (e = .returned (.bool false) ∧ Jx (pre ++ [x]) B)) →
    J [] W → CallsIn Fence.wide n P gfn (#[.func (.yield l) #[] #[]] ++ caps) W fun e B => (∃ v, e = .returned v) ∧ (J xs B ∨ ∃ pre, pre <+: xs ∧ Jx pre B)

/-- how a round's body is left -/
def roundW {α : Type} (n₀ : Nat) (I Ix : List α → World → Prop) (xs : List α) (A : World) : Exit → Act → World → Prop
  | .normal, _, B => KeepsOthers A B ∧ Below n₀ A B ∧ I xs B
  | .ret, _, B => KeepsOthers A B ∧ Ix xs B
  | _, _, _ => False

variable {n : Nat} {P : Program}

theorem rangeW {α : Type} {g : Operand} {ps : Array Tmp} {assign body : Code} {Q : Exit → Act → World → Prop} {a : Act} {w : World}
    (h1 : 1 ≤ n) {gfn : Nat} {caps : Array Value} (hg : a.eval g = .func (.func gfn) #[] caps) (eg : ∀ args w, (callFunc gfn args).run P w = .ok (.enter gfn args) w)
    {encs : α → Array Value} {own : Nat} (hown : own < w.heap.size) {xs : List α} (hseq : SeqW (n - 1) P gfn caps encs w.heap.size own xs w) (hps : ∀ x, (encs x).size = ps.size)
    (I Ix : List α → World → Prop)
    (hI1 : ∀ pre A o, w.heap.size ≤ A.heap.size → I pre A → I pre (A.alloc o)) (hI2 : ∀ pre A l o, w.heap.size ≤ l → I pre A → I pre (A.putObj l o)) (hI3 : ∀ pre A v, I pre A → I pre (A.setCell ⟨own, 0, none⟩ v))
    (hX2 : ∀ pre A l o, w.heap.size ≤ l → Ix pre A → Ix pre (A.putObj l o))
    (h0 : I [] w) (a₁ : α → Act)
    (hassign : ∀ (l : Nat) (x : α) (A : World) (K : Act → World → Prop), K (a₁ x) A →
      assign.wpIn (Fence.wide.inRound l) (n - 1 - 1) P (Exit.then K (fun _ _ _ => False)) { tmps := (ps.zip (encs x)).foldl (fun t (p, v) => t.setIfInBounds p v) a.tmps, defers := [] } A)
    (hbody : ∀ (l : Nat) (pre : List α) (x : α) (A : World), I pre A → pre.length < xs.length → body.wpIn (Fence.wide.inRound l) (n - 1 - 1) P (roundW w.heap.size I Ix (pre ++ [x]) A) (a₁ x) A)
    (hdone : ∀ (D : Nat) (B : World), w.heap.size ≤ D → I xs B → B.heap[D]? = some (.deferred (some [])) → Q .normal { a with defers := { target := .collected D, args := #[] } :: a.defers } B)
    (hstop : ∀ (D : Nat) (pre : List α) (B : World), w.heap.size ≤ D → pre <+: xs → Ix pre B → B.heap[D]? = some (.deferred (some [])) → Code.ret.wpIn Fence.wide n P Q { a with defers := { target := .collected D, args := #[] } :: a.defers } B) :
    (Code.rangeFunc g ps assign body).wpIn Fence.wide n P Q a w := by
  refine wpIn_rangeFunc ?_
  intro fn hfn
  show ∃ _, _
  rw [show Fence.wide.round = none from rfl]
  obtain ⟨lp, hlp⟩ : ∃ lp : LoopState → Option Code → Loop, lp = fun st pe => { state := st, pending := pe, fn, tmps := a.tmps, params := ps, assign, body, defers := w.heap.size } := ⟨_, rfl⟩
  obtain ⟨V, hV⟩ : ∃ V, (w.alloc (.deferred (some []))).alloc (.loop (lp .ready none)) = V := ⟨_, rfl⟩
  have rL : V.heap[w.heap.size + 1]? = some (.loop (lp .ready none)) := by
    have := World.alloc_heap_new (w.alloc (.deferred (some []))) (.loop (lp .ready none))
    rw [World.size_alloc, hV] at this
    exact this
  have rD : V.heap[w.heap.size]? = some (.deferred (some [])) := by
    rw [← hV]
    exact (Below.heap_alloc _ _ _ (by simp)).trans (World.alloc_heap_new w _)
  have rI : I [] V := by
    rw [← hV]
    exact hI1 _ _ _ (by simp) (hI1 _ _ _ (Nat.le_refl _) h0)
  have rB : Below w.heap.size w V := by
    rw [← hV]
    exact ((Below.refl _ w).alloc (Nat.le_refl _) _).alloc (by simp) _
  refine ⟨w.heap.size + 1, [{ target := .collected w.heap.size, args := #[] }], V, { target := .fn (.func gfn) caps, args := #[.func (.yield (w.heap.size + 1)) #[] #[]] }, V, gfn,
    #[.func (.yield (w.heap.size + 1)) #[] #[]] ++ caps, V, ?_, ?_, ?_, ?_, fun _ => h1, ?_⟩
  · rw [← hV, hlp]
    exact run_enterLoop_outer _ _ _ _ _
  · simp only [resolve, hg]
    simp [go_sem]
  · intro f' hf'
    trivial
  · simp [invoke, go_sem, eg]
  have key := hseq (w.heap.size + 1)
    (fun pre A => I pre A ∧ A.heap[w.heap.size + 1]? = some (.loop (lp .ready none)) ∧ A.heap[w.heap.size]? = some (.deferred (some [])))
    (fun pre A => Ix pre A ∧ A.heap[w.heap.size + 1]? = some (.loop (lp .done (some .ret))) ∧ A.heap[w.heap.size]? = some (.deferred (some [])))
    V rB ?_ ?_ ⟨rI, rL, rD⟩
  · refine key.mono ?_
    rintro e B ⟨⟨v, rfl⟩, (⟨hi, hl, hk⟩ | ⟨pre, hpre, hi, hl, hk⟩)⟩
    · have hr := run_endLoop (P := P) hl (by rw [hlp]; simp)
      rw [hlp] at hr
      exact ⟨none, _, hr, hdone _ _ (Nat.le_refl _) (hI2 _ _ _ _ (by omega) hi) ((World.putObj_heap_other (by omega)).trans hk)⟩
    · have hr := run_endLoop (P := P) hl (by rw [hlp]; simp)
      rw [hlp] at hr
      exact ⟨some .ret, _, hr, hstop _ pre _ (Nat.le_refl _) hpre (hX2 _ _ _ _ (by omega) hi) ((World.putObj_heap_other (by omega)).trans hk)⟩
  · rintro pre A v ⟨hi, hl, hk⟩
    refine ⟨hI3 _ _ _ hi, ?_, ?_⟩
    · rw [Below.heap_setCell _ _ _ _ (by show w.heap.size + 1 ≠ own; omega)]; exact hl
    · rw [Below.heap_setCell _ _ _ _ (by show w.heap.size ≠ own; omega)]; exact hk
  · rintro pre x A ⟨hi, hl, hk⟩ hlen
    have hlt : w.heap.size + 1 < A.heap.size := (Array.getElem?_eq_some_iff.1 hl).1
    have hy := run_yield (P := P) (args := encs x) hl (by rw [hlp]; exact hps x)
    rw [hlp] at hy
    refine ⟨fn, _, assign, body, hy, roundIn_of_wpIn hfn (hassign _ x A _ ⟨_, run_beginRound hl (by rw [hlp]), ?_⟩)⟩
    have hl2 : (A.putObj (w.heap.size + 1) (.loop { lp .ready none with state := .busy })).heap[w.heap.size + 1]? = some (.loop { lp .ready none with state := .busy }) := World.putObj_heap_same hlt
    have hk2 : (A.putObj (w.heap.size + 1) (.loop { lp .ready none with state := .busy })).heap[w.heap.size]? = some (.deferred (some [])) := (World.putObj_heap_other (by omega)).trans hk
    have hb2 : Below w.heap.size A (A.putObj (w.heap.size + 1) (.loop { lp .ready none with state := .busy })) := belowK_b (Nat.le_refl _) _ _ _ _ (by omega) hl rfl rfl
    refine wpIn_mono (hbody _ pre x _ (hI2 _ _ _ _ (by omega) hi) hlen) ?_
    have fin : ∀ (jump : Option Code) (B : World), KeepsOthers (A.putObj (w.heap.size + 1) (.loop { lp .ready none with state := .busy })) B →
        (Instr.endRound (w.heap.size + 1) jump).run P B = .ok (.bool jump.isNone) (B.putObj (w.heap.size + 1) (.loop (lp (if jump.isNone then .ready else .done) jump))) ∧
        B.heap[w.heap.size + 1]? = some (.loop { lp .ready none with state := .busy }) ∧
        (B.putObj (w.heap.size + 1) (.loop (lp (if jump.isNone then .ready else .done) jump))).heap[w.heap.size + 1]? = some (.loop (lp (if jump.isNone then .ready else .done) jump)) ∧
        (B.putObj (w.heap.size + 1) (.loop (lp (if jump.isNone then .ready else .done) jump))).heap[w.heap.size]? = some (.deferred (some [])) := fun jump B hk3 => by
      have hl3 := hk3.same _ _ hl2 rfl
      have := run_endRound (P := P) jump hl3
      rw [hlp] at this ⊢
      exact ⟨this, by rw [hlp] at hl3; exact hl3, World.putObj_heap_same (Array.getElem?_eq_some_iff.1 hl3).1, (World.putObj_heap_other (by omega)).trans (hk3.same _ _ hk2 rfl)⟩
    rintro e a3 B hp
    cases e with
    | normal =>
      obtain ⟨hk3, hb3, hi3⟩ := hp
      obtain ⟨hr, hl3, hl4, hk4⟩ := fin none B hk3
      exact ⟨_, _, hr, .inl ⟨rfl, ⟨hI2 _ _ _ _ (by omega) hi3, hl4, hk4⟩, (hb2.trans hb3).trans (belowK_b (Nat.le_refl _) _ _ _ _ (by omega) hl3 rfl rfl)⟩⟩
    | ret =>
      obtain ⟨hk3, hi3⟩ := hp
      obtain ⟨hr, hl3, hl4, hk4⟩ := fin (some .ret) B hk3
      exact ⟨_, _, hr, .inr ⟨rfl, hX2 _ _ _ _ (by omega) hi3, hl4, hk4⟩⟩
    | exit id => exact hp.elim
    | goto t => exact hp.elim
    | panic ch => exact hp.elim
    | outgrown => exact hp.elim

end Go.AE
