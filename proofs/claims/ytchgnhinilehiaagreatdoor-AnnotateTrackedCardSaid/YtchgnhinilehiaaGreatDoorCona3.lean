/-
  The log of a range of lines,plainly.
-/
import Derived.Test.YtchgnhinilehiaaGreatDoorCona2
import Derived.Test.YtchgnhinilehiaaGreatDoorCode1
import Derived.Test.YtchgnhinilehiaaGreatDoorCona1
import Derived.Lib.Repeat
import Derived.LoopIn
import Derived.LoopNIn
import Derived.OwnWalkIn
import Derived.RangeFuncBound
import Derived.RangeFuncCalls
import Derived.RangeFuncLeaves
import Derived.RangeFuncNested
import Derived.Shelf.Abstract
import Derived.Shelf.RegionOpen
import Derived.TacticsInMore
import Derived.WalkKit

set_option linter.unusedSimpArgs false
set_option linter.unusedVariables false
set_option linter.unnecessarySimpa false
set_option maxRecDepth 20000
set_option maxHeartbeats 8000000
namespace Go.AE
def hullS (a b:SpanT):SpanT:=if a.to≤a.fr then (if b.to≤b.fr then ⟨0,0⟩ else b) else if b.to≤b.fr then a else ⟨min a.fr b.fr,max a.to b.to⟩
structure IsHull (T:Int→Prop) (s:SpanT):Prop where
  sub:∀x,T x→s.fr≤x∧x<s.to
  low:s.fr<s.to→T s.fr
  high:s.fr<s.to→T (s.to-1)
theorem IsHull.congr {T U:Int→Prop} {s:SpanT} (h:IsHull T s) (e:∀x,T x↔U x):IsHull U s:=⟨fun x hx=>h.sub x ((e x).2 hx),fun q=>(e _).1 (h.low q),fun q=>(e _).1 (h.high q)⟩
theorem IsHull.uniq {T:Int→Prop} {a b:SpanT} (ha:IsHull T a) (hb:IsHull T b):(a.fr<a.to↔b.fr<b.to)∧(a.fr<a.to→a=b):=by
  have k1:a.fr<a.to→b.fr<b.to:=fun h=>by have:=hb.sub _ (ha.low h);omega
  have k2:b.fr<b.to→a.fr<a.to:=fun h=>by have:=ha.sub _ (hb.low h);omega
  refine⟨⟨k1,k2⟩,fun h=>?_⟩
  have h2:=k1 h
  have a1:=hb.sub _ (ha.low h)
  have a2:=hb.sub _ (ha.high h)
  have a3:=ha.sub _ (hb.low h2)
  have a4:=ha.sub _ (hb.high h2)
  obtain⟨x,y⟩:=a
  obtain⟨z,w⟩:=b
  simp only at *
  congr 1 <;> omega
theorem IsHull.none {T:Int→Prop} (h:∀x,¬T x):IsHull T ⟨0,0⟩:=⟨fun x hx=>(h x hx).elim,fun q=>by simp at q,fun q=>by simp at q⟩
theorem IsHull.hull {T U:Int→Prop} {a b:SpanT} (ha:IsHull T a) (hb:IsHull U b):IsHull (fun x=>T x∨U x) (hullS a b):=by
  unfold hullS
  split
  · rename_i h1
    have n1:∀x,¬T x:=fun x hx=>by have:=ha.sub x hx;omega
    split
    · rename_i h2
      exact IsHull.none fun x hx=>hx.elim (n1 x) fun hx=>by have:=hb.sub x hx;omega
    · exact hb.congr fun x=>⟨.inr,fun h=>h.elim (fun h=>(n1 x h).elim) id⟩
  · rename_i h1
    split
    · rename_i h2
      exact ha.congr fun x=>⟨.inl,fun h=>h.elim id fun h=>by have:=hb.sub x h;omega⟩
    · rename_i h2
      have b1:=ha.low (by omega)
      have b2:=ha.high (by omega)
      have b3:=hb.low (by omega)
      have b4:=hb.high (by omega)
      refine⟨fun x hx=>?_,fun _=>?_,fun _=>?_⟩
      · simp only
        rcases hx with hx | hx
        · have:=ha.sub x hx;omega
        · have:=hb.sub x hx;omega
      · simp only
        rcases Int.le_total a.fr b.fr with h | h
        · rw[Int.min_eq_left h];exact .inl b1
        · rw[Int.min_eq_right h];exact .inr b3
      · simp only
        rcases Int.le_total a.to b.to with h | h
        · rw[Int.max_eq_right h];exact .inr b4
        · rw[Int.max_eq_left h];exact .inl b2
/-! ### back over a script -/
def AscP (p:List SpanT):Prop:=p.Pairwise (fun x y=>x.fr<y.fr∧x.to<y.to)∧∀x,x∈p→0≤x.fr
theorem asc_P:∀(p:List SpanT) (i j m n:Int),0≤i→ascB p i j m n=true→AscP p
  | [],_,_,_,_,_,_=>⟨List.Pairwise.nil,fun _ h=>by cases h⟩
  | x::p,i,j,m,n,hi,h=>by
    have hm:=asc_mem _ _ _ _ _ h
    simp only[ascB,Bool.and_eq_true,decide_eq_true_eq] at h
    obtain⟨⟨⟨⟨k1,k2⟩,k3⟩,k4⟩,k5⟩:=h
    have ih:=asc_P p _ _ _ _ (by omega) k5
    have hm2:=asc_mem _ _ _ _ _ k5
    exact⟨List.pairwise_cons.2 ⟨fun y hy=>by have:=hm2 y hy;omega,ih.1⟩,fun y hy=>by have:=hm y hy;omega⟩
theorem AscP.lt {p:List SpanT} (h:AscP p) {i j:Int} (hij:i<j) (hi:0≤partL p i) (hj:0≤partL p j):partL p i<partL p j:=by
  obtain⟨x,x1,x2,x3⟩:=partL_mem h.2 hi
  obtain⟨y,y1,y2,y3⟩:=partL_mem h.2 hj
  obtain⟨a,ha,rfl⟩:=List.mem_iff_getElem.1 x1
  obtain⟨b,hb,rfl⟩:=List.mem_iff_getElem.1 y1
  have hp:=List.pairwise_iff_getElem.1 h.1
  rcases Nat.lt_trichotomy a b with e | e | e
  · have:=hp a b ha hb e;omega
  · subst e;omega
  · have:=hp b a hb ha e;omega
def backN (p:List SpanT) (fr:Int):Nat→Option SpanT
  | 0=>none
  | k+1=>if partL p (fr+k)<0 then backN p fr k else some ⟨(match backN p fr k with | none=>partL p (fr+k) | some o=>o.fr),partL p (fr+k)+1⟩
def backP (p:List SpanT) (s:SpanT):Option SpanT:=backN p s.fr (s.to-s.fr).toNat
def PartS (p:List SpanT) (fr:Int) (k:Nat) (x:Int):Prop:=∃j:Nat,j<k∧partL p (fr+j)=x∧0≤x
theorem backN_spec {p:List SpanT} (hp:AscP p) (fr:Int):∀k,(backN p fr k=none∧∀x,¬PartS p fr k x)∨∃o,backN p fr k=some o∧o.fr<o.to∧0≤o.fr∧IsHull (PartS p fr k) o
  | 0=>.inl ⟨rfl,fun x h=>by obtain⟨j,h,_⟩:=h;omega⟩
  | k+1=>by
    have ih:=backN_spec hp fr k
    unfold backN
    have hs:∀x,PartS p fr (k+1) x↔PartS p fr k x∨partL p (fr+k)=x∧0≤x:=fun x=>by
      constructor
      · rintro⟨j,h1,h2,h3⟩
        by_cases e:j=k
        · subst e;exact .inr ⟨h2,h3⟩
        · exact .inl ⟨j,by omega,h2,h3⟩
      · rintro (⟨j,h1,h2,h3⟩ | ⟨h2,h3⟩)
        · exact⟨j,by omega,h2,h3⟩
        · exact⟨k,by omega,h2,h3⟩
    by_cases h0:partL p (fr+k)<0
    · rw[if_pos h0]
      have he:∀x,PartS p fr k x↔PartS p fr (k+1) x:=fun x=>by
        rw[hs]
        exact⟨.inl,fun h=>h.elim id fun⟨a,b⟩=>by omega⟩
      rcases ih with ⟨e,hn⟩ | ⟨o,e,h1,h2,h3⟩
      · exact .inl ⟨e,fun x hx=>hn x ((he x).2 hx)⟩
      · exact .inr ⟨o,e,h1,h2,h3.congr he⟩
    · rw[if_neg h0]
      right
      rcases ih with ⟨e,hn⟩ | ⟨o,e,h1,h2,h3⟩
      · rw[e]
        refine⟨_,rfl,by simp only;omega,by simp only;omega,fun x hx=>?_,fun _=>?_,fun _=>?_⟩
        · rcases (hs x).1 hx with hx | ⟨hx,_⟩
          · exact (hn x hx).elim
          · simp only;omega
        · exact (hs _).2 (.inr ⟨rfl,by simp only;omega⟩)
        · exact (hs _).2 (.inr ⟨by simp only;omega,by simp only;omega⟩)
      · rw[e]
        have hlt:∀x,PartS p fr k x→x<partL p (fr+k):=by
          rintro x ⟨j,hj,rfl,hx⟩
          exact hp.lt (by omega) hx (by omega)
        have hhi:=h3.high h1
        have:=hlt _ hhi
        refine⟨_,rfl,by simp only;omega,by simp only;omega,fun x hx=>?_,fun _=>?_,fun _=>?_⟩
        · rcases (hs x).1 hx with hx | ⟨hx,_⟩
          · have:=h3.sub x hx
            have:=hlt x hx
            simp only;omega
          · simp only;omega
        · exact (hs _).2 (.inl (h3.low h1))
        · exact (hs _).2 (.inr ⟨by simp only;omega,by simp only;omega⟩)
theorem backN_hull {p:List SpanT} (hp:AscP p) (fr:Int) (k:Nat) (h0:¬partL p (fr+k)<0):backN p fr (k+1)=some (hullS ((backN p fr k).getD ⟨0,0⟩) ⟨partL p (fr+k),partL p (fr+k)+1⟩):=by
  have hsp:=backN_spec hp fr k
  rw[backN,if_neg h0]
  rcases hsp with ⟨e,hn⟩ | ⟨o,e,h1,h2,h3⟩
  · rw[e]
    simp only[Option.getD_none,hullS]
    rw[if_pos (by omega),if_neg (by omega)]
  · rw[e]
    have hhi:=h3.high h1
    obtain⟨j,hj,hx,hx0⟩:=hhi
    have h4:=hp.lt (i:=fr+j) (j:=fr+k) (by omega) (by omega) (by omega)
    simp only[Option.getD_some,hullS]
    rw[if_neg (by omega),if_neg (by omega)]
    congr 2 <;> omega
def touchP (p:List SpanT) (s:SpanT):Bool:=(List.range (s.to-s.fr).toNat).any fun (k:Nat)=>decide (partL p (s.fr+k)<0) || (decide (0<k) && decide (partL p (s.fr+k)≠partL p (s.fr+k-1)+1))
/-! ### the walk -/
structure VisitT where
  commit:Int
  lines:SpanT
  deriving DecidableEq,Inhabited
def z0:SpanT:=⟨0,0⟩
def prt (g:List CommitT) (path:Str) (p c:Nat):List SpanT:=pairsS (blobG g path p) (blobG g path c)
def handR (g:List CommitT) (path:Str) (c:Nat) (R:List SpanT) (p:Int):List SpanT:=if hasF g path p.toNat=true then (match backP (prt g path p.toNat c) (R.getD c z0) with
  | some s=>R.set p.toNat (hullS (R.getD p.toNat z0) s)
  | none=>R) else R
def handT (g:List CommitT) (path:Str) (c:Nat) (R:List SpanT) (p:Int):Bool:=!hasF g path p.toNat || touchP (prt g path p.toNat c) (R.getD c z0)
structure LogS where
  R:List SpanT
  V:List VisitT
  L:List VisitT
def handsR (g:List CommitT) (path:Str) (c:Nat) (ps:List Int) (R:List SpanT):List SpanT:=ps.foldl (handR g path c) R
def handsT (g:List CommitT) (path:Str) (c:Nat):List Int→List SpanT→Bool
  | [],_=>false
  | p::ps,R=>handT g path c R p || handsT g path c ps (handR g path c R p)
def visitS (g:List CommitT) (path:Str) (st:LogS) (c:Nat):LogS :=
  if (st.R.getD c z0).to≤(st.R.getD c z0).fr then st
  else ⟨handsR g path c (g.getD c default).parents st.R,st.V++[⟨c,st.R.getD c z0⟩],if decide ((g.getD c default).parents=[]) || handsT g path c (g.getD c default).parents st.R then st.L++[⟨c,st.R.getD c z0⟩] else st.L⟩
def followK (g:List CommitT) (path:Str) (st:LogS) (o:List Int):LogS:=o.foldl (fun st c=>visitS g path st c.toNat) st
def startS0 (g:List CommitT) (start:Nat) (s:SpanT):LogS:=⟨(List.replicate g.length z0).set start s,[],[]⟩
def orderS (g:List CommitT) (start:Nat):List Int:=orderV g (reachV (parG g) [(start:Int)])
def followS (g:List CommitT) (path:Str) (start:Nat) (s:SpanT):LogS:=followK g path (startS0 g start s) (orderS g start)
theorem getS_set (l:List SpanT) (c i:Nat) (x:SpanT) (hc:c<l.length):(l.set c x).getD i z0=if c=i then x else l.getD i z0:=by
  by_cases e:c=i
  · subst e;simp[List.getD,hc]
  · rw[if_neg e];simp[List.getD,List.getElem?_set_ne e]
theorem handR_len (g:List CommitT) (path:Str) (c:Nat) (R:List SpanT) (p:Int):(handR g path c R p).length=R.length:=by
  unfold handR
  split
  · split
    · simp
    · rfl
  · rfl
theorem handR_other {g:List CommitT} {path:Str} {c:Nat} {R:List SpanT} {p:Int} {i:Nat} (h:p.toNat≠i):(handR g path c R p).getD i z0=R.getD i z0:=by
  unfold handR
  split
  · split
    · simp[List.getD,List.getElem?_set_ne h]
    · rfl
  · rfl
theorem handsR_len (g:List CommitT) (path:Str) (c:Nat):∀(ps:List Int) (R:List SpanT),(handsR g path c ps R).length=R.length
  | [],R=>rfl
  | p::ps,R=>by
    show (handsR g path c ps (handR g path c R p)).length=_
    rw[handsR_len g path c ps,handR_len]
theorem handsR_other {g:List CommitT} {path:Str} {c:Nat} {i:Nat}:∀{ps:List Int} {R:List SpanT},(∀p,p∈ps→p.toNat≠i)→(handsR g path c ps R).getD i z0=R.getD i z0
  | [],R,_=>rfl
  | p::ps,R,h=>by
    show (handsR g path c ps (handR g path c R p)).getD i z0=_
    rw[handsR_other fun q hq=>h q (List.mem_cons_of_mem _ hq),handR_other (h p (by simp))]
theorem handsT_any {g:List CommitT} {path:Str} {c:Nat}:∀{ps:List Int} {R:List SpanT},(∀p,p∈ps→p.toNat≠c)→handsT g path c ps R=ps.any (handT g path c R)
  | [],R,_=>rfl
  | p::ps,R,h=>by
    rw[handsT,List.any_cons,handsT_any fun q hq=>h q (List.mem_cons_of_mem _ hq)]
    congr 1
    have e:(handR g path c R p).getD c z0=R.getD c z0:=handR_other (h p (by simp))
    have:∀q,handT g path c (handR g path c R p) q=handT g path c R q:=fun q=>by unfold handT;rw[e]
    rw[funext this]
def HandP (g:List CommitT) (path:Str) (R:List SpanT) (c p:Nat) (x:Int):Prop:=hasF g path p=true∧∃j,(R.getD c z0).fr≤j∧j<(R.getD c z0).to∧partL (prt g path p c) j=x∧0≤x
theorem prt_asc (g:List CommitT) (path:Str) (p c:Nat):AscP (prt g path p c):=asc_P _ _ _ _ _ (by omega) (pairs_asc _ _)
theorem handR_hull {g:List CommitT} {path:Str} {c:Nat} {R:List SpanT} {p:Nat} {T:Int→Prop} (hl:p<R.length) (h:IsHull T (R.getD p z0)):IsHull (fun x=>T x∨HandP g path R c p x) ((handR g path c R (p:Int)).getD p z0):=by
  unfold handR
  rw[Int.toNat_natCast]
  by_cases hf:hasF g path p=true
  · rw[if_pos hf]
    have hsp:=backN_spec (prt_asc g path p c) (R.getD c z0).fr ((R.getD c z0).to-(R.getD c z0).fr).toNat
    have he:∀x,PartS (prt g path p c) (R.getD c z0).fr ((R.getD c z0).to-(R.getD c z0).fr).toNat x↔HandP g path R c p x:=fun x=>by
      constructor
      · rintro⟨j,h1,h2,h3⟩
        exact⟨hf,(R.getD c z0).fr+j,by omega,by omega,h2,h3⟩
      · rintro⟨_,j,h1,h2,h3,h4⟩
        refine⟨(j-(R.getD c z0).fr).toNat,by omega,?_,h4⟩
        rw[← h3]
        congr 1
        omega
    unfold backP
    rcases hsp with ⟨e,hn⟩ | ⟨o,e,h1,h2,h3⟩
    · rw[e]
      exact h.congr fun x=>⟨.inl,fun q=>q.elim id fun q=>(hn x ((he x).2 q)).elim⟩
    · rw[e]
      simp only
      rw[getS_set _ _ _ _ hl,if_pos rfl]
      exact h.hull (h3.congr he)
  · rw[if_neg hf]
    exact h.congr fun x=>⟨.inl,fun q=>q.elim id fun q=>(hf q.1).elim⟩
theorem handsR_hull {g:List CommitT} {path:Str} {c:Nat} {p:Nat}:∀{ps:List Int} {R:List SpanT} {T:Int→Prop},p<R.length→(∀q,q∈ps→0≤q∧q.toNat≠c)→IsHull T (R.getD p z0)→IsHull (fun x=>T x∨((p:Int)∈ps∧HandP g path R c p x)) ((handsR g path c ps R).getD p z0)
  | [],R,T,_,_,h=>h.congr fun x=>⟨.inl,fun q=>q.elim id fun q=>by cases q.1⟩
  | q::ps,R,T,hl,hq,h=>by
    have e:(handR g path c R q).getD c z0=R.getD c z0:=handR_other (hq q (by simp)).2
    have ehp:∀x,HandP g path (handR g path c R q) c p x↔HandP g path R c p x:=fun x=>by unfold HandP;rw[e]
    show IsHull _ ((handsR g path c ps (handR g path c R q)).getD p z0)
    by_cases eq:q.toNat=p
    · have e2:q=(p:Int):=by have:=(hq q (by simp)).1;omega
      subst e2
      have h1:=handR_hull (g:=g) (path:=path) (c:=c) hl h
      refine (handsR_hull (by rw[handR_len];exact hl) (fun q hq'=>hq q (List.mem_cons_of_mem _ hq')) h1).congr fun x=>?_
      rw[ehp]
      constructor
      · rintro ((h | h) | ⟨_,h⟩)
        · exact .inl h
        · exact .inr ⟨by simp,h⟩
        · exact .inr ⟨by simp,h⟩
      · rintro (h | ⟨_,h⟩)
        · exact .inl (.inl h)
        · exact .inl (.inr h)
    · have h1:IsHull T ((handR g path c R q).getD p z0):=by rw[handR_other eq];exact h
      refine (handsR_hull (by rw[handR_len];exact hl) (fun q hq'=>hq q (List.mem_cons_of_mem _ hq')) h1).congr fun x=>?_
      rw[ehp,List.mem_cons]
      constructor
      · rintro (h | ⟨a,h⟩)
        · exact .inl h
        · exact .inr ⟨.inr a,h⟩
      · rintro (h | ⟨a | a,h⟩)
        · exact .inl h
        · exact (eq (by rw[← a];simp)).elim
        · exact .inr ⟨a,h⟩
structure OrdP (g:List CommitT) (o:List Int):Prop where
  rng:∀x,x∈o→0≤x∧x<(g.length:Int)
  nd:o.Nodup
  par:∀k (h:k<o.length),∀p,p∈(g.getD o[k].toNat default).parents→p ∉ o.take (k+1)
def TrackP (g:List CommitT) (path:Str) (start:Nat) (s:SpanT) (vis:List Int) (R:List SpanT) (p:Nat) (x:Int):Prop:=(p=start∧s.fr≤x∧x<s.to)∨∃c:Nat,(c:Int)∈vis∧(p:Int)∈(g.getD c default).parents∧HandP g path R c p x
def neS (R:List SpanT) (c:Int):Bool:=decide ((R.getD c.toNat z0).fr<(R.getD c.toNat z0).to)
def showB (g:List CommitT) (path:Str) (R:List SpanT) (c:Int):Bool:=decide ((g.getD c.toNat default).parents=[]) || (g.getD c.toNat default).parents.any (handT g path c.toNat R)
def visV (R:List SpanT) (c:Int):VisitT:=⟨c,R.getD c.toNat z0⟩
structure LogI (g:List CommitT) (path:Str) (start:Nat) (s:SpanT) (vis:List Int) (st:LogS):Prop where
  len:st.R.length=g.length
  hull:∀p,p<g.length→IsHull (TrackP g path start s vis st.R p) (st.R.getD p z0)
  V:st.V=(vis.filter (neS st.R)).map (visV st.R)
  L:st.L=(vis.filter fun c=>neS st.R c && showB g path st.R c).map (visV st.R)
theorem LogI.start {g:List CommitT} {path:Str} {start:Nat} {s:SpanT} (hs:start<g.length) (h:s.fr<s.to):LogI g path start s [] (startS0 g start s):=by
  refine⟨by simp[startS0],fun p hp=>?_,rfl,rfl⟩
  unfold startS0
  simp only
  rw[getS_set _ _ _ _ (by simp;exact hs)]
  by_cases e:start=p
  · rw[if_pos e]
    refine⟨fun x hx=>?_,fun q=>.inl ⟨e.symm,by omega,by omega⟩,fun q=>.inl ⟨e.symm,by omega,by omega⟩⟩
    rcases hx with ⟨_,hx⟩ | ⟨c,hc,_⟩
    · exact hx
    · cases hc
  · rw[if_neg e]
    have:(List.replicate g.length z0).getD p z0=⟨0,0⟩:=by
      simp[List.getD,hp,z0]
    rw[this]
    refine IsHull.none fun x hx=>?_
    rcases hx with ⟨hx,_⟩ | ⟨c,hc,_⟩
    · exact e hx.symm
    · cases hc
theorem filter_congr' {α:Type} {p q:α→Bool}:∀{l:List α},(∀x,x∈l→p x=q x)→l.filter p=l.filter q
  | [],_=>rfl
  | a::l,h=>by
    rw[List.filter_cons,List.filter_cons,h a (by simp),filter_congr' fun x hx=>h x (List.mem_cons_of_mem _ hx)]
theorem visit_I {g:List CommitT} (hrel:relG g=true) {path:Str} {start:Nat} {s:SpanT} {o:List Int} (ho:OrdP g o) {k:Nat} (hk:k<o.length) {st:LogS} (h:LogI g path start s (o.take k) st):LogI g path start s (o.take (k+1)) (visitS g path st o[k].toNat):=by
  obtain⟨c,hc⟩:∃c:Nat,o[k]=(c:Int):=Int.eq_ofNat_of_zero_le (ho.rng _ (List.getElem_mem hk)).1
  have hcl:c<g.length:=by have:=(ho.rng _ (List.getElem_mem hk)).2;omega
  have hpar:=ho.par k hk
  have ht:o.take (k+1)=o.take k++[(c:Int)]:=by rw[List.take_succ_eq_append_getElem hk,hc]
  rw[hc,Int.toNat_natCast] at hpar ⊢
  have hnt:(c:Int) ∉ o.take k:=by
    intro hm
    obtain⟨j,hj,e⟩:=List.mem_take_iff_getElem.1 hm
    have hn:=ho.nd
    rw[List.nodup_iff_pairwise_ne,List.pairwise_iff_getElem] at hn
    exact hn j k (by omega) hk (by omega) (by rw[e,hc])
  have hps:∀p,p∈(g.getD c default).parents→0≤p∧p<(g.length:Int):=fun p hp=>by
    rw[show g.getD c default=g[c] by simp[List.getD,hcl]] at hp
    exact rel_rng hrel hcl p hp
  unfold visitS
  by_cases he:(st.R.getD c z0).to≤(st.R.getD c z0).fr
  · rw[if_pos he]
    have hnc:neS st.R (c:Int)=false:=by
      unfold neS
      rw[decide_eq_false_iff_not,Int.toNat_natCast]
      omega
    refine⟨h.len,fun p hp=>(h.hull p hp).congr fun x=>?_,?_,?_⟩
    · unfold TrackP
      rw[ht]
      constructor
      · rintro (h | ⟨c',h1,h2⟩)
        · exact .inl h
        · exact .inr ⟨c',List.mem_append_left _ h1,h2⟩
      · rintro (h | ⟨c',h1,h2,h3⟩)
        · exact .inl h
        · rw[List.mem_append] at h1
          rcases h1 with h1 | h1
          · exact .inr ⟨c',h1,h2,h3⟩
          · have:c'=c:=by simp at h1;omega
            subst this
            obtain⟨_,j,h4,h5,_⟩:=h3
            omega
    · rw[ht,List.filter_append,h.V]
      simp[hnc]
    · rw[ht,List.filter_append,h.L]
      simp[hnc]
  · rw[if_neg he]
    have hne:neS st.R (c:Int)=true:=by
      unfold neS
      rw[decide_eq_true_eq,Int.toNat_natCast]
      omega
    have hpc:∀p,p∈(g.getD c default).parents→0≤p∧p.toNat≠c:=fun p hp=>by
      have h1:=hpar p hp
      rw[ht,List.mem_append] at h1
      have h2:=hps p hp
      refine⟨h2.1,fun e=>h1 (.inr ?_)⟩
      simp;omega
    have hkeep:∀i:Nat,(i:Int)∈o.take (k+1)→(handsR g path c (g.getD c default).parents st.R).getD i z0=st.R.getD i z0:=fun i hi=>handsR_other fun p hp e=>by
      have h1:=hpar p hp
      have h2:=hps p hp
      exact h1 (by rw[show p=(i:Int) by omega];exact hi)
    have hkeepI:∀x,x∈o.take (k+1)→(handsR g path c (g.getD c default).parents st.R).getD x.toNat z0=st.R.getD x.toNat z0:=fun x hx=>by
      have:=ho.rng x (List.mem_of_mem_take hx)
      exact hkeep x.toNat (by rw[Int.toNat_of_nonneg this.1];exact hx)
    have hin:∀x,x∈o.take k→x∈o.take (k+1):=fun x hx=>by rw[ht];exact List.mem_append_left _ hx
    have hcin:(c:Int)∈o.take (k+1):=by rw[ht];simp
    rw[handsT_any fun p hp=>(hpc p hp).2]
    have e1:∀x,x∈o.take (k+1)→neS (handsR g path c (g.getD c default).parents st.R) x=neS st.R x:=fun x hx=>by unfold neS;rw[hkeepI x hx]
    have e2:∀x,x∈o.take (k+1)→visV (handsR g path c (g.getD c default).parents st.R) x=visV st.R x:=fun x hx=>by unfold visV;rw[hkeepI x hx]
    have e3:∀x,x∈o.take (k+1)→showB g path (handsR g path c (g.getD c default).parents st.R) x=showB g path st.R x:=fun x hx=>by
      unfold showB
      have:∀q,handT g path x.toNat (handsR g path c (g.getD c default).parents st.R) q=handT g path x.toNat st.R q:=fun q=>by unfold handT;rw[hkeepI x hx]
      rw[funext this]
    have eh:∀c':Nat,(c':Int)∈o.take (k+1)→∀p x,HandP g path (handsR g path c (g.getD c default).parents st.R) c' p x↔HandP g path st.R c' p x:=fun c' hc' p x=>by unfold HandP;rw[hkeep c' hc']
    refine⟨by simp only;rw[handsR_len];exact h.len,fun p hp=>?_,?_,?_⟩
    · simp only
      refine (handsR_hull (by rw[h.len];exact hp) hpc (h.hull p hp)).congr fun x=>?_
      unfold TrackP
      constructor
      · rintro ((h | ⟨c',h1,h2,h3⟩) | ⟨h2,h3⟩)
        · exact .inl h
        · exact .inr ⟨c',hin _ h1,h2,(eh c' (hin _ h1) p x).2 h3⟩
        · exact .inr ⟨c,hcin,h2,(eh c hcin p x).2 h3⟩
      · rintro (h | ⟨c',h1,h2,h3⟩)
        · exact .inl (.inl h)
        · have h3':=(eh c' h1 p x).1 h3
          rw[ht,List.mem_append] at h1
          rcases h1 with h1 | h1
          · exact .inl (.inr ⟨c',h1,h2,h3'⟩)
          · have:c'=c:=by simp at h1;omega
            subst this
            exact .inr ⟨h2,h3'⟩
    · simp only
      rw[filter_congr' e1,List.map_congr_left fun x hx=>e2 x ((List.mem_filter.1 hx).1),ht,List.filter_append,List.map_append,h.V]
      simp[hne,visV]
    · simp only
      have e4:∀x,x∈o.take (k+1)→(neS (handsR g path c (g.getD c default).parents st.R) x && showB g path (handsR g path c (g.getD c default).parents st.R) x)=(neS st.R x && showB g path st.R x):=fun x hx=>by rw[e1 x hx,e3 x hx]
      rw[filter_congr' e4,List.map_congr_left fun x hx=>e2 x ((List.mem_filter.1 hx).1),ht,List.filter_append,List.map_append,h.L]
      have e5:showB g path st.R (c:Int)=(decide ((g.getD c default).parents=[]) || (g.getD c default).parents.any (handT g path c st.R)):=by unfold showB;rw[Int.toNat_natCast]
      rw[← e5]
      cases hb:showB g path st.R (c:Int) with
      | true=>simp[hne,hb,visV]
      | false=>simp[hne,hb]
theorem follow_I {g:List CommitT} (hrel:relG g=true) {path:Str} {start:Nat} {s:SpanT} {o:List Int} (ho:OrdP g o) (hs:start<g.length) (h:s.fr<s.to):∀k,k≤o.length→LogI g path start s (o.take k) (followK g path (startS0 g start s) (o.take k))
  | 0,_=>by simpa [followK] using LogI.start hs h
  | k+1,hk=>by
    have ih:=follow_I hrel (path:=path) ho hs h k (by omega)
    have e:followK g path (startS0 g start s) (o.take (k+1))=visitS g path (followK g path (startS0 g start s) (o.take k)) o[k].toNat:=by
      unfold followK
      rw[List.take_succ_eq_append_getElem (by omega),List.foldl_append]
      rfl
    rw[e]
    exact visit_I hrel ho (by omega) ih
theorem fix_rank {g:List CommitT} {h:List Int} (hf:Fix (parG g) h):∀c (hc:c<g.length),∀p,p∈g[c].parents→h.getD p.toNat 0<h.getD c 0:=fun c hc p hp=>by
  have:=hf.ge c (by rw[parG_len];exact hc) p (by rw[parG_get hc];exact hp)
  omega
theorem order_P {g:List CommitT} (R:List Bool) (hcl:∀c,R.getD c false=true→True):OrdP g (orderV g R):=by
  have hs:=(orderV_ok g R).steps
  refine⟨hs.rng,hs.nodup,fun k hk p hp hm=>?_⟩
  obtain⟨i,hi,e⟩:=List.mem_take_iff_getElem.1 hm
  have hr:=hs.rng _ (List.getElem_mem hk)
  have hcn:(orderV g R)[k].toNat<g.length:=by omega
  have hR:=hs.inR (orderV g R)[k].toNat (by rw[Int.toNat_of_nonneg hr.1];exact List.getElem_mem hk)
  have hpr:=hs.rng p (List.mem_of_mem_take hm)
  have hb:=hs.before (k:=i) (c:=(orderV g R)[k].toNat) (i:=p.toNat) (by omega) (by rw[e];omega) hcn (by rw[Int.toNat_of_nonneg hpr.1];exact hp) hR
  obtain⟨j,hj,e2⟩:=List.mem_take_iff_getElem.1 hb
  have hn:=hs.nodup
  rw[List.nodup_iff_pairwise_ne,List.pairwise_iff_getElem] at hn
  exact hn j k (by omega) hk (by omega) (by rw[e2];omega)
structure StartOk (g:List CommitT) (path:Str) (start:Nat) (s:SpanT):Prop where
  c:start<g.length
  f:hasF g path start=true
  s0:0≤s.fr
  s1:s.fr<s.to
  s2:s.to≤((linesV (blobG g path start)).length:Int)
theorem track_good {g:List CommitT} (hrel:relG g=true) {path:Str} {start:Nat} {s:SpanT} (hs:StartOk g path start s) {vis:List Int} (hv:∀c:Nat,(c:Int)∈vis→c<g.length) {R:List SpanT} {p:Nat} {x:Int} (h:TrackP g path start s vis R p x):p<g.length∧hasF g path p=true∧0≤x∧x<((linesV (blobG g path p)).length:Int):=by
  rcases h with ⟨rfl,h1,h2⟩ | ⟨c,h1,h2,hf,j,_,_,h5,h6⟩
  · exact⟨hs.c,hs.f,by have:=hs.s0;omega,by have:=hs.s2;omega⟩
  · have hc:=hv c h1
    rw[show g.getD c default=g[c] by simp[List.getD,hc]] at h2
    have hr:=rel_rng hrel hc _ h2
    have hp:=part_rng (blobG g path p) (blobG g path c) j
    rw[show partV (blobG g path p) (blobG g path c) j=partL (prt g path p c) j from rfl] at hp
    exact⟨by omega,hf,h6,by omega⟩
theorem ne_good {g:List CommitT} (hrel:relG g=true) {path:Str} {start:Nat} {s:SpanT} (hs:StartOk g path start s) {vis:List Int} (hv:∀c:Nat,(c:Int)∈vis→c<g.length) {R:List SpanT} {p:Nat} (hh:IsHull (TrackP g path start s vis R p) (R.getD p z0)) (h:(R.getD p z0).fr<(R.getD p z0).to):hasF g path p=true∧0≤(R.getD p z0).fr∧(R.getD p z0).to≤((linesV (blobG g path p)).length:Int):=by
  have h1:=track_good hrel hs hv (hh.low h)
  have h2:=track_good hrel hs hv (hh.high h)
  exact⟨h1.2.1,h1.2.2.1,by omega⟩
structure LogF (g:List CommitT) (path:Str) (start:Nat) (s:SpanT) (o:List Int) (st:LogS):Prop where
  inv:LogI g path start s o st
  mem:∀p,p<g.length→(st.R.getD p z0).fr<(st.R.getD p z0).to→(p:Int)∈o
  good:∀p,p<g.length→(st.R.getD p z0).fr<(st.R.getD p z0).to→hasF g path p=true∧0≤(st.R.getD p z0).fr∧(st.R.getD p z0).to≤((linesV (blobG g path p)).length:Int)
theorem log_F {g:List CommitT} (hrel:relG g=true) {h:List Int} (hf:Fix (parG g) h) {path:Str} {start:Nat} {s:SpanT} (hs:StartOk g path start s):LogF g path start s (orderS g start) (followS g path start s):=by
  have ho:=order_P (g:=g) (reachV (parG g) [(start:Int)]) (fun _ _=>trivial)
  have hi:=follow_I hrel (path:=path) (s:=s) ho hs.c hs.s1 (orderS g start).length (Nat.le_refl _)
  rw[show orderV g (reachV (parG g) [(start:Int)])=orderS g start from rfl] at hi ho
  rw[List.take_length] at hi
  have hi':LogI g path start s (orderS g start) (followS g path start s):=hi
  have hall:=(orderV_ok g (reachV (parG g) [(start:Int)])).all (fun c=>h.getD c 0) (fix_rank hf)
  have hin:=(orderV_ok g (reachV (parG g) [(start:Int)])).steps.inR
  have hv:∀c:Nat,(c:Int)∈orderS g start→c<g.length:=fun c hc=>by have:=ho.rng _ hc;omega
  refine⟨hi',fun p hp hne=>?_,fun p hp hne=>ne_good hrel hs hv (hi'.hull p hp) hne⟩
  rcases (hi'.hull p hp).low hne with ⟨rfl,_⟩ | ⟨c,h1,h2,_⟩
  · refine hall p hp (reach_from (p:=(p:Int)) (by simp) (by rw[parG_len];simpa using hp))
  · have hc:=hv c h1
    refine hall p hp ?_
    have:=reach_closed (hin c h1) (by rw[parG_len];exact hc) (p:=(p:Int)) (by rw[parG_get hc,show g[c]=g.getD c default by simp[List.getD,hc]];exact h2) (by rw[parG_len];simpa using hp)
    simpa using this
/-! ### lists of visits -/
def findV (l:List VisitT) (c:Int):Option SpanT:=(l.find? fun v=>decide (v.commit=c)).map VisitT.lines
theorem findV_map {R:List SpanT} {q:Int→Bool} {c:Int}:∀{o:List Int},findV ((o.filter q).map (visV R)) c=if c∈o∧q c=true then some (R.getD c.toNat z0) else none
  | []=>by simp[findV]
  | x::o=>by
    have ih:=findV_map (R:=R) (q:=q) (c:=c) (o:=o)
    unfold findV at ih ⊢
    rw[List.filter_cons]
    by_cases hq:q x=true
    · rw[if_pos hq,List.map_cons,List.find?_cons]
      by_cases e:x=c
      · subst e
        simp[visV,hq]
      · have:decide ((visV R x).commit=c)=false:=by simpa [visV] using e
        rw[this]
        simp only
        rw[ih]
        have:c∈x::o↔c∈o:=by rw[List.mem_cons];exact⟨fun h=>h.elim (fun h=>(e h.symm).elim) id,.inr⟩
        simp only[this]
    · rw[if_neg hq,ih]
      by_cases e:x=c
      · subst e
        simp[hq]
      · have:c∈x::o↔c∈o:=by rw[List.mem_cons];exact⟨fun h=>h.elim (fun h=>(e h.symm).elim) id,.inr⟩
        simp only[this]
theorem LogF.find {g:List CommitT} {path:Str} {start:Nat} {s:SpanT} {o:List Int} {st:LogS} (h:LogF g path start s o st) {c:Nat} (hc:c<g.length):findV st.V (c:Int)=if (st.R.getD c z0).fr<(st.R.getD c z0).to then some (st.R.getD c z0) else none:=by
  rw[h.inv.V,findV_map,Int.toNat_natCast]
  by_cases e:(st.R.getD c z0).fr<(st.R.getD c z0).to
  · rw[if_pos e,if_pos ⟨h.mem c hc e,by unfold neS;rw[Int.toNat_natCast];exact decide_eq_true e⟩]
  · rw[if_neg e,if_neg]
    rintro⟨_,h2⟩
    unfold neS at h2
    rw[Int.toNat_natCast] at h2
    exact e (of_decide_eq_true h2)
end Go.AE
namespace Go.AE
def InR (R:List SpanT) (o:OriginT):Prop:=(R.getD o.commit.toNat z0).fr≤o.line∧o.line<(R.getD o.commit.toNat z0).to
theorem track_from {g:List CommitT} (hrel:relG g=true) {path:Str} {start:Nat} {s:SpanT} {o:List Int} {st:LogS} (hl:LogF g path start s o st) {a x:OriginT} (ha:GoodO g path a) (hi:InR st.R a) (h:fromV g path a.commit.toNat a.line=some x):InR st.R x:=by
  obtain⟨h1,h2,h3,h4⟩:=fromL_some h
  have hac:=ha.c
  have hac':a.commit.toNat<g.length:=by omega
  have hxc:=(from_good hrel ha h).1.c
  refine (hl.inv.hull x.commit.toNat (by omega)).sub x.line (.inr ⟨a.commit.toNat,?_,?_,h2,a.line,hi.1,hi.2,h4.symm,h3⟩)
  · exact hl.mem _ hac' (by have:=hi;unfold InR at this;omega)
  · rw[Int.toNat_of_nonneg hxc.1];exact h1
theorem track_origin {g:List CommitT} (hrel:relG g=true) {h:List Int} (hf:Fix (parG g) h) {path:Str} {start:Nat} {s:SpanT} {o:List Int} {st:LogS} (hl:LogF g path start s o st):∀(k:Nat) (a:OriginT),GoodO g path a→InR st.R a→h.getD a.commit.toNat 0<k→InR st.R (bl g path k a)
  | 0,a,_,_,h1=>by have:=hf.nn a.commit.toNat;omega
  | k+1,a,ha,hi,h1=>by
    unfold bl
    cases e:fromV g path a.commit.toNat a.line with
    | none=>exact hi
    | some x =>
      obtain⟨g1,g2,_⟩:=from_good hrel ha e
      have hge:=hf.ge a.commit.toNat (by rw[parG_len];have:=ha.c;omega) _ g2
      exact track_origin hrel hf hl k x g1 (track_from hrel hl ha hi e) (by omega)
theorem origin_shown {g:List CommitT} {path:Str} {R:List SpanT} {r:OriginT} (hi:InR R r) (hr:0≤r.commit) (h:fromV g path r.commit.toNat r.line=none):showB g path R r.commit=true:=by
  unfold showB
  rw[Bool.or_eq_true,decide_eq_true_eq,List.any_eq_true]
  cases hp:(g.getD r.commit.toNat default).parents with
  | nil=>exact .inl rfl
  | cons p ps =>
    right
    refine⟨p,by simp,?_⟩
    unfold handT
    rw[Bool.or_eq_true]
    cases hf:hasF g path p.toNat with
    | false=>exact .inl rfl
    | true =>
      right
      have h1:partV (blobG g path p.toNat) (blobG g path r.commit.toNat) r.line<0:=fromL_none h p (by rw[hp];simp) hf
      unfold touchP
      rw[List.any_eq_true]
      unfold InR at hi
      refine⟨(r.line-(R.getD r.commit.toNat z0).fr).toNat,List.mem_range.2 (by omega),?_⟩
      rw[show (R.getD r.commit.toNat z0).fr+((r.line-(R.getD r.commit.toNat z0).fr).toNat:Int)=r.line by omega]
      have:partL (prt g path p.toNat r.commit.toNat) r.line<0:=h1
      simp[this]
end Go.AE
namespace Go.AE
/-! ### sources and visits as data -/
deriving instance DecidableEq,Inhabited for SrcT
instance:Rep SrcT where
  size:=2
  to x:=.agg [.int .i64 x.parent,Rep.to x.lines]
  of
    | .agg [.int .i64 a,b]=>(Rep.of (α:=List Int) b).map fun r=>⟨a,r⟩
    | _=>none
  of_to x:=by simp only[Rep.of_to];rfl
  rep d x h w I v r:=by
    split at h
    · rename_i a b
      simp only[Option.map_eq_some_iff] at h
      obtain⟨rows,h1,rfl⟩:=h
      cases r with
      | agg cs vs hl ho hr =>
        refine .agg _ _ (by simpa using hl) rfl (fun k hk=>?_)
        have hk':k<2:=by simpa using hk
        match k,hk' with
        | 0,_=>exact hr 0 (by simp)
        | 1,_=>exact Rep.rep _ _ h1 _ _ _ (hr 1 (by simp))
    · simp at h
  fits x:=rfl
@[simp] theorem to_Src (x:SrcT):Rep.to x=D.agg [.int .i64 x.parent,.sl 1 (x.lines.map Rep.to)]:=rfl
@[simp] theorem size_Src:Rep.size SrcT=2:=rfl
@[simp] theorem of_Src (a:Int) (b:D):Rep.of (α:=SrcT) (.agg [.int .i64 a,b])=(Rep.of (α:=List Int) b).map fun r=>⟨a,r⟩:=rfl
instance:Rep VisitT where
  size:=3
  to x:=.agg [.int .i64 x.commit,.int .i64 x.lines.fr,.int .i64 x.lines.to]
  of
    | .agg [.int .i64 a,.int .i64 b,.int .i64 c]=>some ⟨a,⟨b,c⟩⟩
    | _=>none
  of_to x:=rfl
  rep d x h w I v r:=by
    split at h
    · simp at h;subst h;exact r
    · simp at h
  fits x:=rfl
@[simp] theorem to_Visit (x:VisitT):Rep.to x=D.agg [.int .i64 x.commit,.int .i64 x.lines.fr,.int .i64 x.lines.to]:=rfl
@[simp] theorem size_Visit:Rep.size VisitT=3:=rfl
@[simp] theorem of_Visit (a b c:Int):Rep.of (α:=VisitT) (.agg [.int .i64 a,.int .i64 b,.int .i64 c])=some ⟨a,⟨b,c⟩⟩:=rfl
/-! ### files found -/
theorem find_hit:∀{l:List FileT} {p:Str} {i:Nat} (h:i<l.length),(∀k (hk:k<l.length),k<i→l[k].path≠p)→l[i].path=p→inB l p=true∧blobF l p=l[i].blob
  | f::l,p,0,h,_,e=>by
    simp only[List.getElem_cons_zero] at e ⊢
    exact⟨by simp[inB,e],by rw[blobF,if_pos e]⟩
  | f::l,p,i+1,h,hn,e=>by
    simp only[List.getElem_cons_succ] at e ⊢
    have h0:f.path≠p:=hn 0 (by simp) (by omega)
    obtain⟨h1,h2⟩:=find_hit (l:=l) (i:=i) (by simpa using h) (fun k hk hki=>by
      have:=hn (k+1) (by simp;omega) (by omega)
      simpa using this) e
    exact⟨by simp[inB,h1],by rw[blobF,if_neg h0];exact h2⟩
theorem find_miss:∀{l:List FileT} {p:Str},(∀k (hk:k<l.length),l[k].path≠p)→inB l p=false∧blobF l p=[]
  | [],_,_=>⟨rfl,rfl⟩
  | f::l,p,hn=>by
    have h0:f.path≠p:=hn 0 (by simp)
    obtain⟨h1,h2⟩:=find_miss (l:=l) (p:=p) (fun k hk=>by
      have:=hn (k+1) (by simp;omega)
      simpa using this)
    exact⟨by simp[inB,h1,h0],by rw[blobF,if_neg h0];exact h2⟩
/-! ### the pairs of a script -/
theorem okV_bound:∀(l:List ChangeT) (i j m n:Int) (fst:Bool),okV l i j fst m n=true→i≤m∧j≤n∧(∀c,c∈l→c.old≤m∧c.new≤n)
  | [],i,j,m,n,fst,h=>by
    simp only[okV,Bool.and_eq_true,decide_eq_true_eq] at h
    exact⟨by omega,by omega,fun c hc=>by cases hc⟩
  | c::l,i,j,m,n,fst,h=>by
    simp only[okV,Bool.and_eq_true] at h
    obtain⟨h1,h1',h3⟩:=okV_bound l _ _ _ _ _ h.2
    have h2:=stepV_true h.1
    refine⟨by omega,by omega,fun d hd=>?_⟩
    rcases List.mem_cons.1 hd with rfl | hd
    · omega
    · exact h3 d hd
theorem run_asc {p:List SpanT} {m n:Int}:∀(k:Nat) (i j:Int),i+k≤m→j+k≤n→ascB p (i+k) (j+k) m n=true→ascB (runN k i j++p) i j m n=true
  | 0,i,j,_,_,h=>by simpa [runN] using h
  | k+1,i,j,h1,h2,h=>by
    have ih:=run_asc (p:=p) (m:=m) (n:=n) k (i+1) (j+1) (by omega) (by omega) (by
      rw[show i+1+(k:Int)=i+((k+1:Nat):Int) by omega,show j+1+(k:Int)=j+((k+1:Nat):Int) by omega];exact h)
    simp only[runN,List.cons_append,ascB,Bool.and_eq_true,decide_eq_true_eq]
    exact⟨⟨⟨⟨by omega,by omega⟩,by omega⟩,by omega⟩,ih⟩
theorem asc_weak:∀{p:List SpanT} {i j i' j' m n:Int},i'≤i→j'≤j→ascB p i j m n=true→ascB p i' j' m n=true
  | [],_,_,_,_,_,_,_,_,_=>rfl
  | s::p,i,j,i',j',m,n,h1,h2,h=>by
    simp only[ascB,Bool.and_eq_true,decide_eq_true_eq] at h ⊢
    exact⟨⟨⟨⟨by omega,h.1.1.1.2⟩,by omega⟩,h.1.2⟩,h.2⟩
theorem matV_asc:∀(l:List ChangeT) (i j m n:Int) (fst:Bool),okV l i j fst m n=true→ascB (matV l i j m) i j m n=true
  | [],i,j,m,n,fst,h=>by
    simp only[okV,Bool.and_eq_true,decide_eq_true_eq] at h
    have:=run_asc (p:=[]) (m:=m) (n:=n) (m-i).toNat i j (by omega) (by omega) rfl
    simpa [matV] using this
  | c::l,i,j,m,n,fst,h=>by
    have hb:=(okV_bound _ _ _ _ _ _ h).2.2 c (by simp)
    simp only[okV,Bool.and_eq_true] at h
    have h2:=stepV_true h.1
    have ih:=matV_asc l _ _ _ _ _ h.2
    rw[matV]
    refine run_asc _ _ _ (by omega) (by omega) (asc_weak (by omega) (by omega) ih)
theorem check_asc {l:List ChangeT} {m n:Int} (h:checkV l m n=true):(0≤m∧m≤4096)∧(0≤n∧n≤4096)∧ascB (matV l 0 0 m) 0 0 m n=true∧(matV l 0 0 m).length≤4096:=by
  simp only[checkV,Bool.and_eq_true] at h
  have h1:=inV_true h.1.1
  have h2:=inV_true h.1.2
  have h3:=matV_len _ _ _ _ _ _ h.2
  exact⟨h1,h2,matV_asc _ _ _ _ _ _ h.2,by omega⟩
/-! ### partners of a span -/
def trkK (p:List SpanT) (s:SpanT) (k:Nat):List Int:=(List.range (s.to-s.fr).toNat).map fun (j:Nat)=>partL (p.take k) (s.fr+j)
def trkV (p:List SpanT) (s:SpanT):List Int:=(List.range (s.to-s.fr).toNat).map fun (j:Nat)=>partL p (s.fr+j)
theorem trkK_len (p:List SpanT) (s:SpanT) (k:Nat):(trkK p s k).length=(s.to-s.fr).toNat:=by simp[trkK]
theorem trkV_len (p:List SpanT) (s:SpanT):(trkV p s).length=(s.to-s.fr).toNat:=by simp[trkV]
theorem trkK_all (p:List SpanT) (s:SpanT):trkK p s p.length=trkV p s:=by unfold trkK trkV;rw[List.take_length]
theorem trkK_zero (p:List SpanT) (s:SpanT):trkK p s 0=List.replicate (s.to-s.fr).toNat (-1):=by
  unfold trkK
  apply List.ext_getElem
  · simp
  · intro i h1 h2
    simp[partL]
theorem trkV_get {p:List SpanT} {s:SpanT} {k:Nat} (h:k<(trkV p s).length):(trkV p s)[k]=partL p (s.fr+k):=by simp[trkV]
theorem trkK_succ {p:List SpanT} {s:SpanT} {k:Nat} (hp:p.Pairwise fun x y=>x.to<y.to) (h:k<p.length):trkK p s (k+1)=if s.fr≤p[k].to∧p[k].to<s.to then (trkK p s k).set (p[k].to-s.fr).toNat p[k].fr else trkK p s k:=by
  have ht:p.take (k+1)=p.take k++[p[k]]:=List.take_succ_eq_append_getElem h
  have hno:∀x,x∈p.take k→x.to≠p[k].to:=fun x hx=>by
    obtain⟨q,hq,rfl⟩:=List.mem_take_iff_getElem.1 hx
    rw[List.pairwise_iff_getElem] at hp
    have:=hp q k (by omega) h (by omega)
    omega
  split
  · rename_i hr
    apply List.ext_getElem
    · simp[trkK]
    · intro i h1 h2
      have hi:i<(s.to-s.fr).toNat:=by simpa [trkK] using h1
      rw[List.getElem_set]
      simp only[trkK,List.getElem_map,List.getElem_range,ht,partL_snoc]
      by_cases e:(p[k].to-s.fr).toNat=i
      · rw[if_pos e,if_pos]
        exact⟨fun x hx=>by have:=hno x hx;omega,by omega⟩
      · rw[if_neg e,if_neg]
        rintro⟨_,e2⟩
        omega
  · rename_i hr
    apply List.ext_getElem
    · simp[trkK]
    · intro i h1 h2
      have hi:i<(s.to-s.fr).toNat:=by simpa [trkK] using h1
      simp only[trkK,List.getElem_map,List.getElem_range,ht,partL_snoc]
      rw[if_neg]
      rintro⟨_,e2⟩
      omega
def touchK (p:List SpanT) (fr:Int) (k:Nat):Bool:=(List.range k).any fun (k:Nat)=>decide (partL p (fr+k)<0) || (decide (0<k) && decide (partL p (fr+k)≠partL p (fr+k-1)+1))
theorem touchK_zero (p:List SpanT) (fr:Int):touchK p fr 0=false:=rfl
theorem touchK_succ (p:List SpanT) (fr:Int) (k:Nat):touchK p fr (k+1)=(touchK p fr k || (decide (partL p (fr+k)<0) || (decide (0<k) && decide (partL p (fr+k)≠partL p (fr+k-1)+1)))):=by
  unfold touchK
  rw[List.range_succ,List.any_append]
  simp
theorem touchK_hit {p:List SpanT} {fr:Int} {k m:Nat} (hk:k<m) (h:partL p (fr+k)<0∨(0<k∧partL p (fr+k)≠partL p (fr+k-1)+1)):touchK p fr m=true:=by
  unfold touchK
  rw[List.any_eq_true]
  refine⟨k,by simpa using hk,?_⟩
  simpa using h
theorem filesE_all {g:List CommitT} (h:filesE g=0):∀c,c∈g→treeE c.files=0:=by
  unfold filesE at h
  split at h
  · rename_i c hc
    have:=List.find?_some hc
    simp at this
    exact (this h).elim
  · rename_i hn
    rw[List.find?_eq_none] at hn
    intro c hc
    simpa using hn c hc
theorem tree_blobs {l:List FileT} (h:treeE l=0):l.length≤200∧∀f,f∈l→checkT f.blob=0:=by
  unfold treeE at h
  split at h
  · cases h
  · rename_i h1
    split at h
    · cases h
    · split at h
      · split at h
        · cases h
        · rename_i h3
          refine⟨by omega,fun f hf=>?_⟩
          rw[Bool.not_eq_true,List.any_eq_false] at h3
          have:=h3 f hf
          simpa using this
      · cases h
structure GV (g:List CommitT):Prop where
  c:dagC g=0
  ok:GraphOk g
  rel:relG g=true
  files:∀c,c∈g→c.files.length≤200∧∀f,f∈c.files→checkT f.blob=0
  par:∀c,c∈g→c.parents.length≤32
  len:g.length≤300
theorem GV.of {g:List CommitT} (h:dagC g=0) (ho:GraphOk g):GV g:=by
  have hl:=dagC_lim h
  refine⟨h,ho,hl.2.1,fun c hc=>tree_blobs (filesE_all hl.2.2.2.2 c hc),fun c hc=>lim_par hl.1 c hc,?_⟩
  have:=hl.1
  unfold limB at this
  simp only[Bool.and_eq_true,decide_eq_true_eq] at this
  exact this.1
theorem GV.fix {g:List CommitT} (h:GV g):∃hh,Fix (parG g) hh:=⟨_,hUp_fix (relG_ok h.rel) (by rw[parG_len];exact (dagC_lim h.c).2.2.1)⟩
theorem check_nil:checkT []=0:=by decide
theorem check_len {s:Str} (h:checkT s=0):s.length≤1048576:=by
  unfold checkT at h
  split at h
  · rename_i h2;exact h2.1
  · cases h
theorem check_blobF {l:List FileT} {p:Str} (h:∀f,f∈l→checkT f.blob=0):checkT (blobF l p)=0:=by
  by_cases e:inB l p=true
  · obtain⟨f,h1,_,h2⟩:=blobF_mem e
    rw[← h2]
    exact h f h1
  · rw[blobF_none (by simpa using e)]
    exact check_nil
theorem GV.blob {g:List CommitT} (h:GV g) {c:Nat} (hc:c<g.length) (path:Str):checkT (blobG g path c)=0:=by
  unfold blobG
  rw[show g.getD c default=g[c] by simp[List.getD,hc]]
  exact check_blobF (h.files _ (List.getElem_mem hc)).2
theorem GV.prng {g:List CommitT} (h:GV g) {c:Nat} (hc:c<g.length):∀p,p∈g[c].parents→0≤p∧p<(g.length:Int):=rel_rng h.rel hc
/-! ### the script of two blobs -/
def scr (a b:Str):List ChangeT:=scriptV ((ids2 a b).getD 0 []) ((ids2 a b).getD 1 [])
theorem ids2_l0 (a b:Str):((ids2 a b).getD 0 []).length=(linesV a).length:=by rw[ids2_0];simp
theorem ids2_l1 (a b:Str):((ids2 a b).getD 1 []).length=(linesV b).length:=by rw[ids2_1];simp
theorem scr_ok {a b:Str} (ha:checkT a=0) (hb:checkT b=0):checkV (scr a b) (linesV a).length (linesV b).length=true∧matV (scr a b) 0 0 (linesV a).length=pairsS a b:=by
  have h1:=checkT_lines ha
  have h2:=checkT_lines hb
  have h:=script_ok (a:=(ids2 a b).getD 0 []) (b:=(ids2 a b).getD 1 []) (by rw[ids2_l0];exact h1) (by rw[ids2_l1];exact h2)
  rw[ids2_l0,ids2_l1] at h
  exact⟨h.1,h.2.1⟩
theorem scr_blobs {a b:Str} (ha:checkT a=0) (hb:checkT b=0):blobsD a b=.tup [Rep.to (scr a b),.int .i64 0]:=by
  unfold blobsD
  rw[if_pos ha,if_pos hb]
  rfl
theorem okV_len:∀(l:List ChangeT) (i j m n:Int) (fst:Bool),0≤i→0≤j→okV l i j fst m n=true→(l.length:Int)≤(m-i)+(n-j)
  | [],i,j,m,n,fst,_,_,h=>by
    simp only[okV,Bool.and_eq_true,decide_eq_true_eq] at h
    simp
    omega
  | c::l,i,j,m,n,fst,h0,h1,h=>by
    simp only[okV,Bool.and_eq_true] at h
    have h2:=stepV_true h.1
    have ih:=okV_len l _ _ _ _ _ (by omega) (by omega) h.2
    simp
    omega
theorem check_clen {l:List ChangeT} {m n:Int} (h:checkV l m n=true):l.length≤8192:=by
  simp only[checkV,Bool.and_eq_true] at h
  have h1:=inV_true h.1.1
  have h2:=inV_true h.1.2
  have:=okV_len _ _ _ _ _ _ (by omega) (by omega) h.2
  omega
@[simp] def S_tree_Find:List D→Prop × D:=spec2 (α:=List FileT) (β:=Str) (fun l _=>l.length≤9223372036854775807) (fun l p=>.tup [.str (blobF l p),.bool (inB l p)])
theorem ct_tree_Find {P:Program} {f:Nat} {G:Gam} (h:CodeOf P f 2 10 [2,3] x_tree_Find) (hG:GamOk P G):Has P f S_tree_Find:=h.has2 hG fun l p hp=>by
  simp[x_tree_Find]
  refine vc_lp (σ:=Nat) (fun i=>i≤l.length∧∀k (h:k<l.length),k<i→l[k].path≠p) (fun i=>l.length-i)
    (fun i=>[.d (Rep.to l),.d (.str p),.any,.any,.any,.d (Rep.to l),.d (.int .i64 l.length),.d (.int .i64 i),.any,.any]) (fun _=>[]) 0 (by simp) (by simp) ⟨by simp,by simp⟩ ?_
  rintro i ⟨hi,hn⟩
  by_cases hil:i<l.length
  · have w1:IntKind.i64.wrap ((i:Int)+1)=(i:Int)+1:=wrap_in (by omega) (by omega)
    by_cases e:l[i].path=p
    · obtain⟨h1,h2⟩:=find_hit hil hn e
      simp[hil,getD_map,e,h1,h2]
    · have hnx:∀k (h:k<l.length),k<i+1→l[k].path≠p:=fun k h hk=>by
        by_cases e2:k=i
        · subst e2;exact e
        · exact hn k h (by omega)
      simp[hil,getD_map,e,w1]
      exact Nxt.mk (i+1) (by omega) (by simp) (by simp) ⟨by omega,hnx⟩
  · have h9:i=l.length:=by omega
    subst h9
    obtain⟨h1,h2⟩:=find_miss (l:=l) (p:=p) fun k hk=>hn k hk hk
    simp[h1,h2]
@[simp] def S_ref21_Find:List D→Prop × D:=spec2 (α:=List FileT) (β:=Str) (fun l _=>l.length≤9223372036854775807) (fun l p=>.tup [.str (blobF l p),.bool (inB l p)])
theorem ct_ref21_Find {P:Program} {f:Nat} {G:Gam} (h:CodeOf P f 2 7 [2,3] x_ref21_Find) (hG:GamOk P G):Has P f S_ref21_Find:=h.has2 hG fun l p hp=>by
  simp[x_ref21_Find]
  refine vc_lp (σ:=Nat) (fun i=>i≤l.length∧∀k (h:k<l.length),k<i→l[k].path≠p) (fun i=>l.length-i)
    (fun i=>[.d (Rep.to l),.d (.str p),.any,.any,.d (.int .i64 i),.any,.any]) (fun _=>[]) 0 (by simp) (by simp) ⟨by simp,by simp⟩ ?_
  rintro i ⟨hi,hn⟩
  by_cases hil:i<l.length
  · have w1:IntKind.i64.wrap ((i:Int)+1)=(i:Int)+1:=wrap_in (by omega) (by omega)
    by_cases e:l[i].path=p
    · obtain⟨h1,h2⟩:=find_hit hil hn e
      simp[hil,getD_map,e,h1,h2]
    · have hnx:∀k (h:k<l.length),k<i+1→l[k].path≠p:=fun k h hk=>by
        by_cases e2:k=i
        · subst e2;exact e
        · exact hn k h (by omega)
      simp[hil,getD_map,e,w1]
      exact Nxt.mk (i+1) (by omega) (by simp) (by simp) ⟨by omega,hnx⟩
  · have h9:i=l.length:=by omega
    subst h9
    obtain⟨h1,h2⟩:=find_miss (l:=l) (p:=p) fun k hk=>hn k hk hk
    simp[h1,h2]
def knownC (g:List CommitT) (c:Int):Int:=if dagC g=0 then (if 0≤c∧c<(g.length:Int) then 0 else 5) else dagC g
@[simp] def S_ref26_Known:List D→Prop × D:=spec2 (α:=List CommitT) (β:=Int) (fun g _=>GraphOk g) (fun g c=>.int .i64 (knownC g c))
theorem ct_ref26_Known {P:Program} {f g1:Nat} {G:Gam} (h:CodeOf P f 2 6 [2] (x_ref26_Known g1)) (hG:GamOk P G) (h1:G.find g1=some S_ref23_Check):Has P f S_ref26_Known:=h.has2 hG fun g c hp=>by
  by_cases c0:dagC g=0
  · by_cases c1:c<0
    · simp[x_ref26_Known,h1,hp,c0,c1,knownC,show ¬0≤c by omega]
    · by_cases c2:(g.length:Int)≤c
      · simp[x_ref26_Known,h1,hp,c0,c1,c2,knownC,show ¬c<(g.length:Int) by omega]
      · simp[x_ref26_Known,h1,hp,c0,c1,c2,knownC,show 0≤c by omega,show c<(g.length:Int) by omega]
  · simp[x_ref26_Known,h1,hp,c0,knownC]
@[simp] def S_gen_Origins:List D→Prop × D:=spec2 (α:=List OriginT) (β:=List OriginT) (fun a _=>a.length≤9223372036854775807) (fun a b=>Rep.to (decide (a=b)))
theorem ct_gen_Origins {P:Program} {f:Nat} {G:Gam} (h:CodeOf P f 2 7 [2] x_gen_Origins) (hG:GamOk P G):Has P f S_gen_Origins:=h.has2 hG fun a b hp=>by
  by_cases hl:a.length=b.length
  · simp[x_gen_Origins,hl]
    refine vc_lp (σ:=Nat) (fun i=>i≤a.length∧∀k (h:k<a.length),k<i→a[k]=b[k]) (fun i=>a.length-i)
      (fun i=>[.d (Rep.to a),.d (Rep.to b),.any,.d (.int .i64 i),.any,.any,.any]) (fun _=>[]) 0 (by simp) (by simp) ⟨by simp,by simp⟩ ?_
    rintro i ⟨hi,hn⟩
    by_cases hil:i<a.length
    · have hib:i<b.length:=by omega
      have w1:IntKind.i64.wrap ((i:Int)+1)=(i:Int)+1:=wrap_in (by omega) (by omega)
      by_cases e:a[i]=b[i]
      · have hnx:∀k (h:k<a.length),k<i+1→a[k]=b[k]:=fun k h hk=>by
          by_cases e2:k=i
          · subst e2;exact e
          · exact hn k h (by omega)
        simp[hil,hib,hl,getD_map,e,w1,eSeq,cellsEq,cellEq]
        exact Nxt.mk (i+1) (by omega) (by simp) (by simp) ⟨by omega,fun k h hk=>hnx k (by omega) hk⟩
      · have hne:a≠b:=fun h=>e (by subst h;rfl)
        by_cases e1:a[i].commit=b[i].commit
        · have e2:¬a[i].line=b[i].line:=fun h=>e (by
            have h1:∀x y:OriginT,x.commit=y.commit→x.line=y.line→x=y:=fun x y p q=>by cases x;cases y;simp_all
            exact h1 _ _ e1 h)
          simp[hil,hib,hl,getD_map,e1,e2,hne,eSeq,cellsEq,cellEq]
        · simp[hil,hib,hl,getD_map,e1,hne,eSeq,cellsEq,cellEq]
    · have h9:i=a.length:=by omega
      subst h9
      have he:a=b:=List.ext_getElem hl fun k h1 h2=>hn k h1 h1
      simp[he]
  · have hne:a≠b:=fun h=>hl (by rw[h])
    simp[x_gen_Origins,hne,show ¬(a.length:Int)=b.length by omega]
theorem part_hit:∀{p:List SpanT} {j:Int} {i:Nat} (h:i<p.length),(∀k (hk:k<p.length),k<i→p[k].to≠j)→p[i].to=j→partL p j=p[i].fr
  | s::p,j,0,h,_,e=>by
    simp only[List.getElem_cons_zero] at e ⊢
    rw[partL,if_pos e]
  | s::p,j,i+1,h,hn,e=>by
    simp only[List.getElem_cons_succ] at e ⊢
    have h0:s.to≠j:=hn 0 (by simp) (by omega)
    rw[partL,if_neg h0]
    exact part_hit (by simpa using h) (fun k hk hki=>by
      have:=hn (k+1) (by simp;omega) (by omega)
      simpa using this) e
@[simp] def S_ref29_Partner:List D→Prop × D:=spec3 (α:=List ChangeT) (β:=Int) (γ:=Int) (fun l m _=>l.length≤100000∧∃n,checkV l m n=true) (fun l m j=>.int .i64 (partL (matV l 0 0 m) j))
theorem ct_ref29_Partner {P:Program} {f g1:Nat} {G:Gam} (h:CodeOf P f 3 8 [3] (x_ref29_Partner g1)) (hG:GamOk P G) (h1:G.find g1=some S_ref08_Matched):Has P f S_ref29_Partner:=h.has3 hG fun l m j hp=>by
  obtain⟨p1,p2⟩:=hp
  have hl:(matV l 0 0 m).length≤4096:=by obtain⟨n,hn⟩:=p2;exact (check_asc hn).2.2.2
  simp[x_ref29_Partner,h1,p1,p2]
  generalize matV l 0 0 m=p at *
  refine vc_lp (σ:=Nat) (fun i=>i≤p.length∧∀k (h:k<p.length),k<i→p[k].to≠j) (fun i=>p.length-i)
    (fun i=>[.d (Rep.to l),.d (.int .i64 m),.d (.int .i64 j),.any,.d (Rep.to p),.d (.int .i64 i),.any,.any]) (fun _=>[]) 0 (by simp) (by simp) ⟨by simp,by simp⟩ ?_
  rintro i ⟨hi,hn⟩
  by_cases hil:i<p.length
  · have w1:IntKind.i64.wrap ((i:Int)+1)=(i:Int)+1:=wrap_in (by omega) (by omega)
    by_cases e:p[i].to=j
    · have hv:=part_hit hil hn e
      simp[hil,getD_map,e,hv]
    · have hnx:∀k (h:k<p.length),k<i+1→p[k].to≠j:=fun k h hk=>by
        by_cases e2:k=i
        · subst e2;exact e
        · exact hn k h (by omega)
      simp[hil,getD_map,e,w1]
      exact Nxt.mk (i+1) (by omega) (by simp) (by simp) ⟨by omega,hnx⟩
  · have h9:i=p.length:=by omega
    subst h9
    have hv:partL p j=-1:=partL_no fun s hs=>by
      obtain⟨k,hk,rfl⟩:=List.mem_iff_getElem.1 hs
      exact hn k hk hk
    simp[hv]
structure TrkOk (l:List ChangeT) (m n:Int) (s:SpanT):Prop where
  ok:checkV l m n=true
  s0:0≤s.fr
  s1:s.fr<s.to
  s2:s.to≤n
theorem TrkOk.len {l:List ChangeT} {m n:Int} {s:SpanT} (h:TrkOk l m n s):l.length≤100000∧m≤4096∧n≤4096∧0≤m:=by
  have:=check_clen h.ok
  have:=check_asc h.ok
  omega
theorem partL_rng {l:List ChangeT} {m n:Int} (h:checkV l m n=true) (j:Int):-1≤partL (matV l 0 0 m) j∧partL (matV l 0 0 m) j<4096:=by
  have ha:=check_asc h
  have hm:=asc_mem _ _ _ _ _ ha.2.2.1
  generalize matV l 0 0 m=p at *
  clear ha
  have h4:m≤4096:=by
    simp only[checkV,Bool.and_eq_true] at h
    have:=inV_true h.1.1
    omega
  clear h
  induction p with
  | nil=>simp[partL]
  | cons x p ih =>
    unfold partL
    split
    · have:=hm x (by simp);omega
    · exact ih fun s hs=>hm s (List.mem_cons_of_mem _ hs)
def backD (o:Option SpanT):D:=.tup [Rep.to (o.getD ⟨0,0⟩),.bool o.isSome,.int .i64 0]
@[simp] def S_track_Hull:List D→Prop × D:=spec2 (α:=SpanT) (β:=SpanT) (fun _ _=>True) (fun a b=>Rep.to (hullS a b))
theorem ct_track_Hull {P:Program} {f:Nat} {G:Gam} (h:CodeOf P f 2 8 [22004] x_track_Hull) (hG:GamOk P G):Has P f S_track_Hull:=h.has2 hG fun a b _=>by
  obtain⟨a1,a2⟩:=a
  obtain⟨b1,b2⟩:=b
  by_cases c1:a2≤a1
  · by_cases c2:b2≤b1
    · simp[x_track_Hull,c1,c2,hullS]
    · simp[x_track_Hull,c1,c2,hullS]
  · by_cases c2:b2≤b1
    · simp[x_track_Hull,c1,c2,hullS]
    · simp[x_track_Hull,c1,c2,hullS]
/-! ### the pairs of a script -/
def paApp (ps:List SpanT) (n:Nat) (i j:Int):List SpanT:=ps++runN n i j
structure PaX where
  e:Int
  old:Int
  now:Int
  ps:List SpanT
@[simp] def paS (x:PaX):Store:=[.cells 0 1 [.d (.int .i64 x.old)],.cells 0 1 [.gr 3 2 (x.ps.map Rep.to)],.cells 0 1 [.d (.int .i64 x.now)],.tip x.ps.length]
@[simp] def F_script_pairs_1:RF PaX where
  new:=0
  view a s:=⟨(a.getD 0 .any).gi,((s.getD 0 .dead).at 0 0).gi,((s.getD 2 .dead).at 0 0).gi,((s.getD 1 .dead).at 0 0).gl SpanT⟩
  args x:=[.d (.int .i64 x.e),.ref 0 0 0 0,.ref 1 0 0 0,.ref 2 0 0 0]
  st x:=paS x
  pre x:=0≤x.old∧x.old≤x.e∧x.e≤100000∧0≤x.now∧x.now≤100000∧x.ps.length≤100000
  res _:=.tup []
  st' x:=paS ⟨x.e,x.e,x.now+(x.e-x.old),paApp x.ps (x.e-x.old).toNat x.old x.now⟩
abbrev R_script_pairs_1:RSpec:=F_script_pairs_1.spec
theorem ct_script_pairs_1 {P:Program} {f:Nat} {G:Gam} (hc:CodeOf P f 4 5 [] x_script_pairs_1) (hG:GamOk P G):RSpec.Ok P f R_script_pairs_1:=by
  refine RF.ok hc.call fun x hx=>hc.rcalls hG rfl ?_
  obtain⟨e,old,now,ps⟩:=x
  obtain⟨p1,p2,p3,p4,p5,p6⟩:=hx
  simp only at p1 p2 p3 p4 p5 p6
  obtain⟨N,hN⟩:∃N:Nat,N=(e-old).toNat:=⟨_,rfl⟩
  have he:e=old+N:=by omega
  obtain⟨Q,hQ⟩:∃Q:Nat→List SpanT,∀i,Q i=ps++runN i old now:=⟨_,fun _=>rfl⟩
  have hq0:Q 0=ps:=by rw[hQ];simp[runN]
  have hql:∀i,(Q i).length=ps.length+i:=fun i=>by rw[hQ];simp[runN_len]
  have hqs:∀i,Q (i+1)=Q i++[⟨old+i,now+i⟩]:=fun i=>by rw[hQ,hQ,runN_snoc,List.append_assoc]
  have hqN:paApp ps (e-old).toNat old now=Q N:=by rw[hQ,hN];rfl
  simp only[F_script_pairs_1,hqN]
  clear hQ hqN
  simp[x_script_pairs_1,startA]
  refine vc_lp (σ:=Nat) (fun i=>i≤N) (fun i=>N-i)
    (fun i=>[.d (.int .i64 e),.ref 0 0 0 0,.ref 1 0 0 0,.ref 2 0 0 0,.any])
    (fun i=>[.cells 0 1 [.d (.int .i64 (old+i))],.cells 0 1 [.gr 3 2 ((Q i).map Rep.to)],.cells 0 1 [.d (.int .i64 (now+i))],.tip (Q i).length]) 0 (by simp) (by simp[hq0]) (by simp) ?_
  intro i hi
  have hq1:=hql i
  have hq2:=hqs i
  by_cases hil:i<N
  · have w1:IntKind.i64.wrap (old+(i:Int)+1)=old+(i:Int)+1:=wrap_in (by omega) (by omega)
    have w2:IntKind.i64.wrap (now+(i:Int)+1)=now+(i:Int)+1:=wrap_in (by omega) (by omega)
    have c1:old+(i:Int)<e:=by omega
    simp[c1,w1,w2]
    exact⟨by unfold room;omega,Nxt.mk (i+1) (by omega) (by simp) (by simp[hq2,Int.add_assoc]) (by omega)⟩
  · have h9:i=N:=by omega
    have c9:¬old+(i:Int)<e:=by omega
    have e1:old+(i:Int)=e:=by omega
    have e2:now+(i:Int)=now+(e-old):=by omega
    rw[← h9]
    simp[c9]
    exact FinR.done (by simp) (by simp[e1,e2]) rfl (by simp[resOf]) (by simp) (by simp)
structure PsX where
  k:Nat
  i:Int
  j:Int
  ps:List SpanT
@[simp] def S_script_pairs:List D→Prop × D:=spec2 (α:=List ChangeT) (β:=Int) (fun l m=>∃n,checkV l m n=true) (fun l m=>Rep.to (matV l 0 0 m))
theorem ct_script_pairs {P:Program} {f g1:Nat} {G:Gam} (h:CodeOf P f 2 12 [2] (x_script_pairs g1)) (hG:GamOk P G) (h1:G.findR g1=some R_script_pairs_1):Has P f S_script_pairs:=h.has2 hG fun l m hp=>by
  obtain⟨n,hc⟩:=hp
  have hasc:=check_asc hc
  have hcl:=check_clen hc
  have hok:okV l 0 0 true m n=true:=by simp only[checkV,Bool.and_eq_true] at hc;exact hc.2
  simp[x_script_pairs]
  refine vc_lpR (σ:=PsX) (fun x=>x.k≤l.length∧0≤x.i∧x.i≤4096∧0≤x.j∧x.j≤4096∧okV (l.drop x.k) x.i x.j (decide (x.k=0)) m n=true∧x.ps++matV (l.drop x.k) x.i x.j m=matV l 0 0 m) (fun x=>l.length-x.k)
    (fun x=>[.d (Rep.to l),.d (.int .i64 m),.any,.ref 0 0 0 0,.ref 1 0 0 0,.ref 2 0 0 0,.fn (.func g1) [] [.ref 1 0 0 0,.ref 0 0 0 0,.ref 2 0 0 0],.any,.d (Rep.to l),.d (.int .i64 l.length),.d (.int .i64 x.k),.any])
    (fun x=>[.cells 0 1 [.gr 3 2 (x.ps.map Rep.to)],.cells 0 1 [.d (.int .i64 x.i)],.cells 0 1 [.d (.int .i64 x.j)],.tip x.ps.length])
    ⟨0,0,0,[]⟩ ?_ ⟨by simp,by simp,by simp,by simp,by simp,by simpa using hok,by simp⟩ ?_
  · refine Re.weak (k:=[.tip 0]) (s':=[.cells 0 1 [.gr 3 2 []],.cells 0 1 [.d (.int .i64 0)],.cells 0 1 [.d (.int .i64 0)]]) (by simp) (by simp) (by simp) ⟨.cellsL ⟨⟨rfl,⟨Wk.fresh 3 [.tip 0] 2 0 rfl,trivial⟩⟩,trivial⟩,.inl rfl,.inl rfl,trivial⟩
  rintro⟨k,i,j,ps⟩ ⟨q1,q2,q3,q4,q5,q6,q7⟩
  simp only at q1 q2 q3 q4 q5 q6 q7
  have hpl:ps.length≤4096:=by
    have:=congrArg List.length q7
    rw[List.length_append] at this
    omega
  by_cases hil:k<l.length
  · rw[List.drop_eq_getElem_cons hil] at q6 q7
    simp only[okV,Bool.and_eq_true] at q6
    have hst:=stepV_true q6.1
    have hok2:=q6.2
    rw[matV,← List.append_assoc] at q7
    have w1:IntKind.i64.wrap ((k:Int)+1)=(k:Int)+1:=wrap_in (by omega) (by omega)
    generalize hg:l[k]=c at *
    have w2:IntKind.i64.wrap (c.old+c.oldLen)=c.old+c.oldLen:=wrap_in (by omega) (by omega)
    have w3:IntKind.i64.wrap (j+(c.old-i)+c.newLen)=j+(c.old-i)+c.newLen:=wrap_in (by omega) (by omega)
    have e3:j+(c.old-i)+c.newLen=c.new+c.newLen:=by omega
    have hb:=okV_bound _ _ _ _ _ _ hok2
    have w4:IntKind.i64.wrap (c.new+c.newLen)=c.new+c.newLen:=wrap_in (by omega) (by omega)
    have hps:paApp ps (c.old-i).toNat i j=ps++runN (c.old-i).toNat i j:=rfl
    rw[← hps] at q7
    clear hps
    generalize hps:paApp ps (c.old-i).toNat i j=ps2 at *
    simp[hil,getD_map,hg,eCallv,eRCall,h1,q2,q4,hst.2.2.2.2.2.2.1,show c.old≤100000 by omega,show j≤100000 by omega,show ps.length≤100000 by omega,w1,w2,w3,w4,hps,e3]
    exact Nxt.mk (⟨k+1,c.old+c.oldLen,c.new+c.newLen,ps2⟩:PsX) (by simp;omega) (by simp) (by simp) ⟨by simp;omega,by simp;omega,by simp;omega,by simp;omega,by simp;omega,by simpa using hok2,by simpa using q7⟩
  · have h9:k=l.length:=by omega
    subst h9
    rw[List.drop_length] at q6 q7
    simp only[okV,Bool.and_eq_true,decide_eq_true_eq] at q6
    rw[matV,show ps++runN (m-i).toNat i j=paApp ps (m-i).toNat i j from rfl] at q7
    simp[eCallv,eRCall,h1,q2,q4,q6.2,show m≤100000 by omega,show j≤100000 by omega,show ps.length≤100000 by omega,q7]
@[simp] def S_script_Check:List D→Prop × D:=spec3 (α:=List ChangeT) (β:=Int) (γ:=Int) (fun l m n=>checkV l m n=true) (fun _ _ _=>.int .i64 0)
theorem ct_script_Check {P:Program} {f g1:Nat} {G:Gam} (h:CodeOf P f 3 17 [3] (x_script_Check g1)) (hG:GamOk P G) (h1:G.find g1=some S_script_length):Has P f S_script_Check:=h.has3 hG fun l m n hp=>by
  have hcl:=check_clen hp
  have hok:=hp
  simp only[checkV,Bool.and_eq_true] at hok
  obtain⟨⟨b1,b2⟩,hok⟩:=hok
  have b1:=inV_true b1
  have b2:=inV_true b2
  simp[x_script_Check,h1,b1,b2]
  refine vc_lp (σ:=PsX) (fun x=>x.k≤l.length∧0≤x.i∧x.i≤8192∧0≤x.j∧x.j≤8192∧okV (l.drop x.k) x.i x.j (decide (x.k=0)) m n=true) (fun x=>l.length-x.k)
    (fun x=>[.d (Rep.to l),.d (.int .i64 m),.d (.int .i64 n),.any,.d (.int .i64 x.i),.d (.int .i64 x.j),.any,.any,.any,.any,.d (Rep.to l),.d (.int .i64 l.length),.d (.int .i64 x.k),.any,.any,.any,.any]) (fun _=>[])
    ⟨0,0,0,[]⟩ (by simp) (by simp) ⟨by simp,by simp,by simp,by simp,by simp,by simpa using hok⟩ ?_
  rintro⟨k,i,j,ps⟩ ⟨q1,q2,q3,q4,q5,q6⟩
  simp only at q1 q2 q3 q4 q5 q6
  by_cases hil:k<l.length
  · rw[List.drop_eq_getElem_cons hil] at q6
    simp only[okV,Bool.and_eq_true] at q6
    obtain⟨s1,s2,s3,s4,s5,s6,s7,s8⟩:=stepV_true q6.1
    have hok2:=q6.2
    have w1:IntKind.i64.wrap ((k:Int)+1)=(k:Int)+1:=wrap_in (by omega) (by omega)
    generalize hg:l[k]=c at *
    have w2:IntKind.i64.wrap (c.old+c.oldLen)=c.old+c.oldLen:=wrap_in (by omega) (by omega)
    have w3:IntKind.i64.wrap (c.new+c.newLen)=c.new+c.newLen:=wrap_in (by omega) (by omega)
    have w4:IntKind.i64.wrap (c.oldLen+c.newLen)=c.oldLen+c.newLen:=wrap_in (by omega) (by omega)
    have w5:IntKind.i64.wrap (c.old-i)=c.old-i:=wrap_in (by omega) (by omega)
    have w6:IntKind.i64.wrap (c.new-j)=c.new-j:=wrap_in (by omega) (by omega)
    have hmin:¬c.old-i<min (k:Int) 1:=by
      by_cases e:k=0
      · subst e;omega
      · have:=s8 (by simp[e]);omega
    have hmin2:¬c.new-j<min (k:Int) 1:=by omega
    simp[hil,getD_map,hg,h1,s1,s2,s3,s4,s5,s6,w1,w2,w3,w4,w5,w6,hmin,hmin2]
    exact Nxt.mk (⟨k+1,c.old+c.oldLen,c.new+c.newLen,ps⟩:PsX) (by simp;omega) (by simp) (by simp) ⟨by simp;omega,by simp;omega,by simp;omega,by simp;omega,by simp;omega,by simpa using hok2⟩
  · have h9:k=l.length:=by omega
    subst h9
    rw[List.drop_length] at q6
    simp only[okV,Bool.and_eq_true,decide_eq_true_eq] at q6
    have w5:IntKind.i64.wrap (m-i)=m-i:=wrap_in (by omega) (by omega)
    have w6:IntKind.i64.wrap (n-j)=n-j:=wrap_in (by omega) (by omega)
    simp[w5,w6,q6.1,show ¬m<i by omega]
@[simp] def S_script_Pairs:List D→Prop × D:=spec3 (α:=List ChangeT) (β:=Int) (γ:=Int) (fun l m n=>checkV l m n=true) (fun l m _=>.tup [Rep.to (matV l 0 0 m),.int .i64 0])
theorem ct_script_Pairs {P:Program} {f g1 g2:Nat} {G:Gam} (h:CodeOf P f 3 7 [3,4] (x_script_Pairs g1 g2)) (hG:GamOk P G) (h1:G.find g1=some S_script_Check) (h2:G.find g2=some S_script_pairs):Has P f S_script_Pairs:=h.has3 hG fun l m n hp=>by
  have p2:∃n,checkV l m n=true:=⟨n,hp⟩
  simp[x_script_Pairs,h1,h2,hp,p2]
/-! ### the partners of a range -/
theorem fillT_set {N i:Nat} (hil:i<N):(cntC (List.replicate i (-1)++List.replicate (N-i) 0)).set i (.d (.int .i64 (-1)))=cntC (List.replicate (i+1) (-1)++List.replicate (N-(i+1)) 0):=by
  rw[cntC_set]
  congr 1
  refine getD_ext (by simp;omega) fun k hk=>?_
  simp at hk
  by_cases e:i=k
  · subst e
    simp[List.getD,List.getElem?_append,hil,show i<i+(N-i) by omega]
  · simp only[List.getD,List.getElem?_set_ne e]
    by_cases e2:k<i
    · simp[List.getElem?_append,e2,show k<i+1 by omega]
    · simp[List.getElem?_append,e2,show ¬k<i+1 by omega,List.getElem?_replicate,show k-i<N-i by omega,show k-(i+1)<N-(i+1) by omega]
theorem fillT_len {N i:Nat} (hi:i≤N):(cntC (List.replicate i (-1)++List.replicate (N-i) 0)).length=N:=by rw[cntC_len];simp;omega
@[simp] def S_track_partners:List D→Prop × D:=spec4 (α:=List ChangeT) (β:=Int) (γ:=Int) (δ:=SpanT) (fun l m n s=>TrkOk l m n s) (fun l m _ s=>.tup [Rep.to (trkV (matV l 0 0 m) s),.int .i64 0])
theorem ct_track_partners {P:Program} {f g1:Nat} {G:Gam} (h:CodeOf P f 4 22 [5,6] (x_track_partners g1)) (hG:GamOk P G) (h1:G.find g1=some S_script_Pairs):Has P f S_track_partners:=h.has4 hG fun l m n s hp=>by
  have hl:=hp.len
  have h3:=hp.ok
  have h4:=hp.s0
  have h5:=hp.s1
  have h6:=hp.s2
  have hasc:=check_asc h3
  have hpw:=asc_pair _ _ _ _ _ hasc.2.2.1
  have hrg:=asc_mem _ _ _ _ _ hasc.2.2.1
  have hpl:=hasc.2.2.2
  obtain⟨N,hN⟩:∃N:Nat,N=(s.to-s.fr).toNat:=⟨_,rfl⟩
  have hNN:s.to-s.fr=(N:Int):=by omega
  have hk0:=trkK_zero (matV l 0 0 m) s
  have hka:=trkK_all (matV l 0 0 m) s
  have hkl:=trkK_len (matV l 0 0 m) s
  have hks:=fun k (h:k<(matV l 0 0 m).length)=>trkK_succ (s:=s) hpw h
  rw[← hN] at hk0 hkl
  obtain⟨fr,to⟩:=s
  simp only at h4 h5 h6 hN hNN hks
  have w0:IntKind.i64.wrap (to-fr)=(N:Int):=by rw[wrap_in (by omega) (by omega)];exact hNN
  simp[x_track_partners,h1,h3,show ¬fr<0 by omega,show ¬to≤fr by omega,show ¬n<to by omega,w0]
  generalize matV l 0 0 m=p at *
  refine⟨by unfold room;omega,?_⟩
  refine vc_lp (σ:=Nat) (fun i=>i≤N) (fun i=>N-i)
    (fun i=>[.d (Rep.to l),.d (.int .i64 m),.d (.int .i64 n),.any,.ref 0 0 0 0,.any,.any,.d (Rep.to p),.any,.own 1 0 0 N,.any,.any,.any,.any,.d (.int .i64 N),.d (.int .i64 i),.any,.any,.any,.any,.any,.any])
    (fun i=>[.cells 0 2 [.d (.agg [.int .i64 fr,.int .i64 to])],.cells 0 1 (cntC (List.replicate i (-1)++List.replicate (N-i) 0))]) 0 (by simp) (by simp[cntC]) (by simp) ?_
  intro i hi
  by_cases hil:i<N
  · have w1:IntKind.i64.wrap ((i:Int)+1)=(i:Int)+1:=wrap_in (by omega) (by omega)
    have hset:=fillT_set hil
    have hbl:=fillT_len hi
    generalize cntC (List.replicate i (-1)++List.replicate (N-i) 0)=bc at *
    simp[hil,hbl,hset,w1]
    exact Nxt.mk (i+1) (by omega) (by simp) (by simp) (by omega)
  · have h9:i=N:=by omega
    rw[h9]
    clear hi hil h9 i
    simp only[Nat.sub_self,List.replicate_zero,List.append_nil]
    rw[← hk0]
    simp
    refine vc_lp (σ:=Nat) (fun k=>k≤p.length) (fun k=>p.length-k)
      (fun k=>[.d (Rep.to l),.d (.int .i64 m),.d (.int .i64 n),.any,.ref 0 0 0 0,.any,.any,.any,.any,.own 1 0 0 N,.any,.any,.any,.any,.any,.any,.any,.d (Rep.to p),.d (.int .i64 p.length),.d (.int .i64 k),.any,.any])
      (fun k=>[.cells 0 2 [.d (.agg [.int .i64 fr,.int .i64 to])],.cells 0 1 (cntC (trkK p ⟨fr,to⟩ k))]) 0 (by simp) (by simp) (by simp) ?_
    intro k hk
    have hkl':=hkl k
    have hbl:=cntC_len (trkK p ⟨fr,to⟩ k)
    rw[hkl'] at hbl
    by_cases hkp:k<p.length
    · have w1:IntKind.i64.wrap ((k:Int)+1)=(k:Int)+1:=wrap_in (by omega) (by omega)
      have hs:=hks k hkp
      have hr:=hrg _ (List.getElem_mem hkp)
      have hset:=cntC_set (trkK p ⟨fr,to⟩ k) (p[k].to-fr).toNat p[k].fr
      generalize hg:p[k]=x at *
      by_cases c1:fr≤x.to
      · by_cases c2:x.to<to
        · rw[if_pos ⟨c1,c2⟩] at hs
          have w2:IntKind.i64.wrap (x.to-fr)=x.to-fr:=wrap_in (by omega) (by omega)
          rw[← hs] at hset
          generalize hbc:cntC (trkK p ⟨fr,to⟩ k)=bc at *
          simp[hkp,getD_map,hg,c1,c2,w1,w2,hbl,hset,show x.to-fr<(N:Int) by omega]
          exact Nxt.mk (k+1) (by omega) (by simp) (by simp) (by omega)
        · rw[if_neg (fun h=>c2 h.2)] at hs
          simp[hkp,getD_map,hg,c1,c2,w1]
          exact Nxt.mk (k+1) (by omega) (by simp) (by simp[hs]) (by omega)
      · rw[if_neg (fun h=>c1 h.1)] at hs
        simp[hkp,getD_map,hg,c1,w1]
        exact Nxt.mk (k+1) (by omega) (by simp) (by simp[hs]) (by omega)
    · have h9:k=p.length:=by omega
      subst h9
      rw[hka] at hkl'
      have hb:=bor_ints [.cells 0 2 [.d (.agg [.int .i64 fr,.int .i64 to])],.cells 0 1 (cntC (trkV p ⟨fr,to⟩))] 1 0 (trkV p ⟨fr,to⟩) rfl
      rw[hkl'] at hb
      simp[hka,hb]
@[simp] def S_track_Back:List D→Prop × D:=spec4 (α:=List ChangeT) (β:=Int) (γ:=Int) (δ:=SpanT) (fun l m n s=>TrkOk l m n s) (fun l m _ s=>backD (backP (matV l 0 0 m) s))
theorem ct_track_Back {P:Program} {f g1 g2:Nat} {G:Gam} (h:CodeOf P f 4 19 [22005,6,7] (x_track_Back g1 g2)) (hG:GamOk P G) (h1:G.find g1=some S_track_partners) (h2:G.find g2=some S_track_Hull):Has P f S_track_Back:=h.has4 hG fun l m n s hp=>by
  have h3:=hp.ok
  have h4:=hp.s0
  have h5:=hp.s1
  have h6:=hp.s2
  have hl:=hp.len
  have hasc:=check_asc h3
  have hap:=asc_P _ _ _ _ _ (by omega) hasc.2.2.1
  have hr:=partL_rng h3
  have hvl:=trkV_len (matV l 0 0 m) s
  have hvg:=fun k (h:k<(trkV (matV l 0 0 m) s).length)=>trkV_get h
  have hb:backP (matV l 0 0 m) s=backN (matV l 0 0 m) s.fr (s.to-s.fr).toNat:=rfl
  rw[hb]
  simp[x_track_Back,h1,hp]
  generalize hp':matV l 0 0 m=p at *
  generalize hv:trkV p s=v at *
  rw[← hvl]
  refine vc_lp (σ:=Nat) (fun i=>i≤v.length) (fun i=>v.length-i)
    (fun i=>[.d (Rep.to l),.d (.int .i64 m),.d (.int .i64 n),.any,.ref 0 0 0 0,.ref 1 0 0 0,.any,.any,.any,.any,.ref 2 0 0 0,.d (.bool (backN p s.fr i).isSome),.any,.any,.d (Rep.to v),.d (.int .i64 v.length),.d (.int .i64 i),.any,.any])
    (fun i=>[.cells 0 2 [.d (.agg [.int .i64 s.fr,.int .i64 s.to])],.cells 0 2 [.d (.agg [.int .i64 0,.int .i64 0])],.cells 0 2 [.d (.agg [.int .i64 ((backN p s.fr i).getD ⟨0,0⟩).fr,.int .i64 ((backN p s.fr i).getD ⟨0,0⟩).to])]]) 0 (by simp[backN]) (by simp[backN]) (by simp) ?_
  intro i hi
  by_cases hil:i<v.length
  · have hri:=hr (s.fr+i)
    have hvi:=hvg i hil
    have w1:IntKind.i64.wrap ((i:Int)+1)=(i:Int)+1:=wrap_in (by omega) (by omega)
    have w2:IntKind.i64.wrap (partL p (s.fr+i)+1)=partL p (s.fr+i)+1:=wrap_in (by omega) (by omega)
    by_cases e:partL p (s.fr+i)<0
    · have hs:backN p s.fr (i+1)=backN p s.fr i:=by rw[backN,if_pos e]
      simp[hil,getD_map,hvi,e,show ¬0≤partL p (s.fr+i) by omega,w1]
      exact Nxt.mk (i+1) (by omega) (by simp[hs]) (by simp[hs]) (by omega)
    · have hs:=backN_hull hap s.fr i e
      simp[hil,getD_map,hvi,e,show 0≤partL p (s.fr+i) by omega,w1,w2,h2]
      exact Nxt.mk (i+1) (by omega) (by simp[hs]) (by simp[hs]) (by omega)
  · have h9:i=v.length:=by omega
    subst h9
    simp[backD]
@[simp] def S_track_Touches:List D→Prop × D:=spec4 (α:=List ChangeT) (β:=Int) (γ:=Int) (δ:=SpanT) (fun l m n s=>TrkOk l m n s) (fun l m _ s=>.tup [.bool (touchP (matV l 0 0 m) s),.int .i64 0])
theorem ct_track_Touches {P:Program} {f g1:Nat} {G:Gam} (h:CodeOf P f 4 17 [5,6] (x_track_Touches g1)) (hG:GamOk P G) (h1:G.find g1=some S_track_partners):Has P f S_track_Touches:=h.has4 hG fun l m n s hp=>by
  have h3:=hp.ok
  have h4:=hp.s0
  have h5:=hp.s1
  have h6:=hp.s2
  have hl:=hp.len
  have hr:=partL_rng h3
  have hvl:=trkV_len (matV l 0 0 m) s
  have hvg:=fun k (h:k<(trkV (matV l 0 0 m) s).length)=>trkV_get h
  have hb:touchP (matV l 0 0 m) s=touchK (matV l 0 0 m) s.fr (s.to-s.fr).toNat:=rfl
  rw[hb]
  simp[x_track_Touches,h1,hp]
  generalize hp':matV l 0 0 m=p at *
  generalize hv:trkV p s=v at *
  rw[← hvl]
  refine vc_lp (σ:=Nat) (fun i=>i≤v.length∧touchK p s.fr i=false) (fun i=>v.length-i)
    (fun i=>[.d (Rep.to l),.d (.int .i64 m),.d (.int .i64 n),.any,.ref 0 0 0 0,.any,.any,.d (Rep.to v),.any,.any,.any,.any,.d (Rep.to v),.d (.int .i64 v.length),.d (.int .i64 i),.any,.any])
    (fun i=>[.cells 0 2 [.d (.agg [.int .i64 s.fr,.int .i64 s.to])]]) 0 (by simp) (by simp) ⟨by simp,touchK_zero _ _⟩ ?_
  rintro i ⟨hi,ht⟩
  by_cases hil:i<v.length
  · have hri:=hr (s.fr+i)
    have hri2:=hr (s.fr+i-1)
    have hvi:=hvg i hil
    have hits:=@touchK_hit p s.fr i v.length hil
    have hsucc:=touchK_succ p s.fr i
    have w1:IntKind.i64.wrap ((i:Int)+1)=(i:Int)+1:=wrap_in (by omega) (by omega)
    by_cases e:partL p (s.fr+i)<0
    · simp[hil,getD_map,hvi,e,hits (.inl e)]
    · by_cases e0:0<i
      · have hvj:=hvg (i-1) (by omega)
        rw[show s.fr+((i-1:Nat):Int)=s.fr+i-1 by omega] at hvj
        have w2:IntKind.i64.wrap (partL p (s.fr+i-1)+1)=partL p (s.fr+i-1)+1:=wrap_in (by omega) (by omega)
        have w3:IntKind.i64.wrap ((i:Int)-1)=((i-1:Nat):Int):=by rw[wrap_in (by omega) (by omega)];omega
        by_cases e2:partL p (s.fr+i)=partL p (s.fr+i-1)+1
        · have hv2:touchK p s.fr (i+1)=false:=by rw[hsucc,ht];simp[e,e2];omega
          have e':¬partL p (s.fr+i-1)+1<0:=by omega
          simp[hil,getD_map,hvi,hvj,e',e0,e2,w1,w2,w3,show i-1<v.length by omega]
          exact Nxt.mk (i+1) (by omega) (by simp) (by simp) ⟨by omega,hv2⟩
        · simp[hil,getD_map,hvi,hvj,e,e0,e2,w2,w3,show i-1<v.length by omega,hits (.inr ⟨e0,e2⟩)]
      · have hz:i=0:=by omega
        subst hz
        have hv2:touchK p s.fr (0+1)=false:=by rw[hsucc,ht];simp;simpa using e
        have hvi':v[0]=partL p s.fr:=by simpa using hvi
        have e':¬partL p s.fr<0:=by simpa using e
        have w1':IntKind.i64.wrap 1=1:=wrap_in (by omega) (by omega)
        clear hvi hvg
        simp[hil,getD_map,hvi',e',w1']
        exact Nxt.mk 1 (by omega) (by simp) (by simp) ⟨by omega,hv2⟩
  · have h9:i=v.length:=by omega
    subst h9
    simp[ht]
theorem ids_pair (a b:Str):∃i0 i1,idsV [linesV a,linesV b]=[i0,i1]∧i0.length=(linesV a).length∧i1.length=(linesV b).length∧scriptV i0 i1=scr a b :=
  ⟨(ids2 a b).getD 0 [],(ids2 a b).getD 1 [],rfl,ids2_l0 a b,ids2_l1 a b,rfl⟩
theorem small_pair {a b:Str} (ha:checkT a=0) (hb:checkT b=0):smallL [linesV a,linesV b]:=by
  have:=checkT_lines ha
  have:=checkT_lines hb
  refine⟨by simp,?_⟩
  simp
  omega
@[simp] def S_annotate_partners:List D→Prop × D:=spec2 (α:=Str) (β:=Str) (fun a b=>checkT a=0∧checkT b=0) (fun a b=>Rep.to (partsV a b))
theorem ct_annotate_partners {P:Program} {f g1 g2 g3 g4:Nat} {G:Gam} (h:CodeOf P f 2 18 [2] (x_annotate_partners g1 g2 g3 g4)) (hG:GamOk P G) (h1:G.find g1=some S_text_Split) (h2:G.find g2=some S_intern_Ids) (h3:G.find g3=some S_shortest_Script) (h4:G.find g4=some S_script_Pairs):Has P f S_annotate_partners:=h.has2 hG fun a b hp=>by
  obtain⟨ca,cb⟩:=hp
  have la:=check_len ca
  have lb:=check_len cb
  have na:=checkT_lines ca
  have nb:=checkT_lines cb
  have hsm:=small_pair ca cb
  obtain⟨i0,i1,hid,n0,n1,hsc⟩:=ids_pair a b
  obtain⟨hck,hmat⟩:=scr_ok ca cb
  have hnl:¬longV i0 i1:=by unfold longV;omega
  have hasc:=pairs_asc a b
  have hrg:=asc_mem _ _ _ _ _ hasc
  have hplen:(pairsS a b).length≤4096:=by have:=check_asc hck;rw[hmat] at this;exact this.2.2.2
  have hk0:partsK a b 0=List.replicate (linesV b).length (-1):=by
    unfold partsK
    apply List.ext_getElem
    · simp
    · intro i h1 h2
      simp[partL]
  have hka:=partsK_all a b
  have hkl:=partsK_len a b
  have hks:=fun k (h:k<(pairsS a b).length)=>partsK_succ h
  simp[x_annotate_partners,h1,splitD_ok ca,splitD_ok cb,show a.length≤4194304 by omega,show b.length≤4194304 by omega,h2,hsm,hid,h3,n0,n1,show (linesV a).length≤1048576 by omega,show (linesV b).length≤1048576 by omega,hnl,hsc,h4,hck,hmat]
  generalize hN:(linesV b).length=N at *
  generalize pairsS a b=p at *
  generalize linesV a=x at *
  generalize linesV b=y at *
  refine⟨by unfold room;omega,?_⟩
  refine vc_lp (σ:=Nat) (fun i=>i≤N) (fun i=>N-i)
    (fun i=>[.d (.str a),.d (.str b),.any,.any,.any,.any,.any,.d (Rep.to p),.own 0 0 0 N,.any,.any,.d (.int .i64 N),.d (.int .i64 i),.any,.any,.any,.any,.any])
    (fun i=>[.cells 0 1 (cntC (List.replicate i (-1)++List.replicate (N-i) 0))]) 0 (by simp) (by simp[cntC]) (by simp) ?_
  intro i hi
  by_cases hil:i<N
  · have w1:IntKind.i64.wrap ((i:Int)+1)=(i:Int)+1:=wrap_in (by omega) (by omega)
    have hset:=fillT_set hil
    have hbl:=fillT_len hi
    generalize cntC (List.replicate i (-1)++List.replicate (N-i) 0)=bc at *
    simp[hil,hbl,hset,w1]
    exact Nxt.mk (i+1) (by omega) (by simp) (by simp) (by omega)
  · have h9:i=N:=by omega
    rw[h9]
    clear hi hil h9 i
    simp only[Nat.sub_self,List.replicate_zero,List.append_nil]
    rw[← hk0]
    simp
    refine vc_lp (σ:=Nat) (fun k=>k≤p.length) (fun k=>p.length-k)
      (fun k=>[.d (.str a),.d (.str b),.any,.any,.any,.any,.any,.any,.own 0 0 0 N,.any,.any,.any,.any,.any,.d (Rep.to p),.d (.int .i64 p.length),.d (.int .i64 k),.any])
      (fun k=>[.cells 0 1 (cntC (partsK a b k))]) 0 (by simp) (by simp) (by simp) ?_
    intro k hk
    have hkl':=hkl k
    have hbl:=cntC_len (partsK a b k)
    rw[hkl'] at hbl
    by_cases hkp:k<p.length
    · have w1:IntKind.i64.wrap ((k:Int)+1)=(k:Int)+1:=wrap_in (by omega) (by omega)
      have hs:=hks k hkp
      have hr:=hrg _ (List.getElem_mem hkp)
      have hset:=cntC_set (partsK a b k) p[k].to.toNat p[k].fr
      rw[← hs] at hset
      generalize hg:p[k]=q at *
      generalize hbc:cntC (partsK a b k)=bc at *
      simp[hkp,getD_map,hg,w1,hbl,hset,hr]
      exact Nxt.mk (k+1) (by omega) (by simp) (by simp) (by omega)
    · have h9:k=p.length:=by omega
      subst h9
      rw[hka] at hkl'
      have hb:=bor_ints [.cells 0 1 (cntC (partsV a b))] 0 0 (partsV a b) rfl
      rw[hkl'] at hb
      simp[hka,hb]
/-! ### the sources of a commit -/
def srcTab (g:List CommitT) (path:Str) (ks:List Nat):List (D × D):=ks.map fun (c:Nat)=>((D.int .i64 (c:Int)),Rep.to (srcV g path c))
def addK (ks:List Nat) (c:Nat):List Nat:=if c∈ks then ks else ks++[c]
def Ob.mkeys:Ob→List Nat
  | .map es=>es.map fun e=>match e.1 with | .int _ n=>n.toNat | _=>0
  | _=>[]
@[simp] theorem mkeys_src (g:List CommitT) (path:Str) (ks:List Nat):Ob.mkeys (.map (srcTab g path ks))=ks:=by
  simp only[Ob.mkeys,srcTab,List.map_map]
  rw[List.map_congr_left (g:=id)]
  · simp
  · intro c _;simp
theorem mlook_src (g:List CommitT) (path:Str) (c:Nat):∀ks:List Nat,mlook (.int .i64 c) (srcTab g path ks)=if c∈ks then some (Rep.to (srcV g path c)) else none
  | []=>rfl
  | k::ks=>by
    have ih:=mlook_src g path c ks
    unfold srcTab at ih ⊢
    rw[List.map_cons,mlook]
    by_cases e:c=k
    · subst e;simp[keyEq]
    · have:¬(c:Int)=(k:Int):=by omega
      simp only[keyEq,decide_eq_true_eq,this,if_false,ih,List.mem_cons,e,false_or]
theorem mset_src {g:List CommitT} {path:Str} {c:Nat} (v:D):∀ks:List Nat,c ∉ ks→mset (.int .i64 c) v (srcTab g path ks)=srcTab g path ks++[(.int .i64 c,v)]
  | [],_=>rfl
  | k::ks,h=>by
    simp only[List.mem_cons,not_or] at h
    have ih:=mset_src (g:=g) (path:=path) v ks h.2
    have:¬(c:Int)=(k:Int):=by omega
    unfold srcTab at ih ⊢
    rw[List.map_cons,mset,if_neg (by simp[keyEq,this]),ih]
    rfl
theorem srcTab_app (g:List CommitT) (path:Str) (ks:List Nat) (c:Nat):srcTab g path ks++[(.int .i64 c,Rep.to (srcV g path c))]=srcTab g path (ks++[c]):=by simp[srcTab]
theorem keys_src (g:List CommitT) (path:Str) (c:Nat) (ks:List Nat):keysOk 0 (.int .i64 c) (srcTab g path ks):=by
  refine⟨rfl,?_⟩
  intro e he
  unfold srcTab at he
  rw[List.mem_map] at he
  obtain⟨k,_,rfl⟩:=he
  exact⟨rfl,rfl⟩
structure SoX where
  g:List CommitT
  path:Str
  ks:List Nat
  c:Nat
@[simp] def soS (g:List CommitT) (path:Str) (ks:List Nat):Store:=[.cells 0 3 [.agg [.d (Rep.to g),.d (.str path),.mp 1]],.map (srcTab g path ks)]
@[simp] def F_annotate_finder_sources:RF SoX where
  new:=0
  view a s:=⟨((s.getD 0 .dead).at 0 0).gl CommitT,((s.getD 0 .dead).at 0 1).gs,(s.getD 1 .dead).mkeys,(a.getD 1 .any).gi.toNat⟩
  args x:=[.ref 0 0 0 0,.d (.int .i64 x.c)]
  st x:=soS x.g x.path x.ks
  pre x:=GV x.g∧x.c<x.g.length
  res x:=.d (Rep.to (srcV x.g x.path x.c))
  st' x:=soS x.g x.path (addK x.ks x.c)
abbrev R_annotate_finder_sources:RSpec:=F_annotate_finder_sources.spec
theorem srcL_len (g:List CommitT) (path now:Str):∀ps,(srcL g path now ps).length≤ps.length
  | []=>Nat.le_refl _
  | p::ps=>by
    have:=srcL_len g path now ps
    rw[srcL]
    split
    · simp;omega
    · simp;omega
theorem ct_annotate_finder_sources {P:Program} {f g1 g2:Nat} {G:Gam} (hc:CodeOf P f 2 16 [2] (x_annotate_finder_sources g1 g2)) (hG:GamOk P G) (h1:G.find g1=some S_tree_Find) (h2:G.find g2=some S_annotate_partners):RSpec.Ok P f R_annotate_finder_sources:=by
  refine RF.ok hc.call fun x hx=>hc.rcalls hG rfl ?_
  obtain⟨g,path,ks,c⟩:=x
  obtain⟨hg,hcl⟩:=hx
  simp only at hg hcl
  have hkey:=keys_src g path c ks
  have hlook:=mlook_src g path c ks
  by_cases hk:c∈ks
  · rw[if_pos hk] at hlook
    simp only[F_annotate_finder_sources,soS,addK,if_pos hk]
    generalize srcTab g path ks=tab at *
    simp[x_annotate_finder_sources,startA,hkey,hlook]
    exact FinR.done (by simp) (by simp) rfl (by simp[resOf,resE]) (by simp) (by simp)
  · rw[if_neg hk] at hlook
    have hset:=fun v=>mset_src (g:=g) (path:=path) (c:=c) v ks hk
    have happ:=srcTab_app g path ks c
    simp only[F_annotate_finder_sources,soS,addK,if_neg hk]
    have hgl:=hg.ok.1
    have hfl:=(hg.files _ (List.getElem_mem hcl)).1
    have hpl:=hg.par _ (List.getElem_mem hcl)
    have hrg:=hg.prng hcl
    have hnow:blobF g[c].files path=blobG g path c:=by unfold blobG;simp[List.getD,hcl]
    have hbc:=hg.blob hcl path
    have hsv:srcV g path c=srcL g path (blobG g path c) g[c].parents:=by unfold srcV;simp[List.getD,hcl]
    rw[hsv] at happ
    rw[hsv,← happ]
    clear happ hsv
    generalize srcTab g path ks=tab at *
    generalize hnw:blobG g path c=now at *
    generalize hps:g[c].parents=ps at *
    simp[x_annotate_finder_sources,startA,hkey,hlook,hcl,getD_map,h1,show g[c].files.length≤9223372036854775807 by omega,hps,hnow]
    refine vc_lp (σ:=Nat) (fun i=>i≤ps.length) (fun i=>ps.length-i)
      (fun i=>[.ref 0 0 0 0,.d (.int .i64 c),.any,.any,.any,.d (.str now),.gr 2 2 ((srcL g path now (ps.take i)).map Rep.to),.any,.any,.any,.any,.d (Rep.to ps),.d (.int .i64 ps.length),.d (.int .i64 i),.any,.any])
      (fun i=>[.cells 0 3 [.agg [.d (Rep.to g),.d (.str path),.mp 1]],.map tab,.tip (srcL g path now (ps.take i)).length]) 0 (by simp[srcL]) (by simp[srcL]) (by simp) ?_
    intro i hi
    by_cases hil:i<ps.length
    · have w1:IntKind.i64.wrap ((i:Int)+1)=(i:Int)+1:=wrap_in (by omega) (by omega)
      obtain⟨r1,r2⟩:=hrg _ (List.getElem_mem hil)
      obtain⟨q,hq⟩:=Int.eq_ofNat_of_zero_le r1
      have hql:q<g.length:=by omega
      have hqf:=(hg.files _ (List.getElem_mem hql)).1
      have hqb:=hg.blob hql path
      have e1:blobF g[q].files path=blobG g path q:=by unfold blobG;simp[List.getD,hql]
      have e2:inB g[q].files path=hasF g path q:=by unfold hasF;simp[List.getD,hql]
      have hs:srcL g path now (ps.take (i+1))=srcL g path now (ps.take i)++(if hasF g path q=true then [⟨(q:Int),partsV (blobG g path q) now⟩] else []):=by
        rw[List.take_succ_eq_append_getElem hil,srcL_app,srcL,hq,srcL]
        rfl
      have hsl:=srcL_len g path now (ps.take i)
      have:(ps.take i).length≤32:=by simp;omega
      generalize srcL g path now (ps.take i)=out at *
      cases hf:hasF g path q with
      | true =>
        rw[if_pos hf] at hs
        simp[hil,getD_map,hq,hql,h1,h2,show g[q].files.length≤9223372036854775807 by omega,e1,e2,hf,hqb,hbc,w1]
        exact⟨by unfold room;omega,Nxt.mk (i+1) (by omega) (by simp[hs]) (by simp[hs]) (by omega)⟩
      | false =>
        rw[if_neg (by rw[hf];simp)] at hs
        simp[hil,getD_map,hq,hql,h1,show g[q].files.length≤9223372036854775807 by omega,e1,e2,hf,w1]
        exact Nxt.mk (i+1) (by omega) (by simp[hs]) (by simp[hs]) (by omega)
    · have h9:i=ps.length:=by omega
      subst h9
      rw[List.take_length]
      generalize srcL g path now ps=out at *
      simp
      refine Hint.of (T':=[.ref 0 0 0 0,.d (.int .i64 c),.any,.any,.any,.any,.d (Rep.to out),.any,.any,.any,.any,.any,.any,.any,.any,.any]) (s':=[.cells 0 3 [.agg [.d (Rep.to g),.d (.str path),.mp 1]],.map tab]) (Sub.re ⟨by simp,by simp,by simp,.inr ⟨by simp,by simp⟩⟩) ?_
      simp[hkey,hset]
      exact FinR.done (by simp) (by simp) rfl (by simp[resOf,resE]) (by simp) (by simp)
/-! ### where a line comes from -/
structure StX where
  g:List CommitT
  path:Str
  ks:List Nat
  at_:OriginT
def origO (o:Option OriginT):OriginT:=o.getD ⟨0,0⟩
def origA (o:Option OriginT):A:=.agg [.d (.int .i64 (origO o).commit),.d (.int .i64 (origO o).line)]
@[simp] def F_annotate_finder_step:RF StX where
  new:=0
  view a s:=⟨((s.getD 0 .dead).at 0 0).gl CommitT,((s.getD 0 .dead).at 0 1).gs,(s.getD 1 .dead).mkeys,⟨((a.getD 1 .any).cells.getD 0 .any).gi,((a.getD 1 .any).cells.getD 1 .any).gi⟩⟩
  args x:=[.ref 0 0 0 0,.agg [.d (.int .i64 x.at_.commit),.d (.int .i64 x.at_.line)]]
  st x:=soS x.g x.path x.ks
  pre x:=GV x.g∧GoodO x.g x.path x.at_
  res x:=.tup [origA (fromV x.g x.path x.at_.commit.toNat x.at_.line),.d (.bool (fromV x.g x.path x.at_.commit.toNat x.at_.line).isSome)]
  st' x:=soS x.g x.path (addK x.ks x.at_.commit.toNat)
abbrev R_annotate_finder_step:RSpec:=F_annotate_finder_step.spec
theorem src_mem {g:List CommitT} {path now:Str}:∀{ps:List Int} {s:SrcT},s∈srcL g path now ps→∃a,s.lines=partsV a now
  | [],s,h=>by cases h
  | p::ps,s,h=>by
    rw[srcL] at h
    split at h
    · rcases List.mem_cons.1 h with rfl | h
      · exact⟨_,rfl⟩
      · exact src_mem h
    · exact src_mem h
theorem ct_annotate_finder_step {P:Program} {f g1:Nat} {G:Gam} (hc:CodeOf P f 2 12 [22003,4] (x_annotate_finder_step g1)) (hG:GamOk P G) (h1:G.findR g1=some R_annotate_finder_sources):RSpec.Ok P f R_annotate_finder_step:=by
  refine RF.ok hc.call fun x hx=>hc.rcalls hG rfl ?_
  obtain⟨g,path,ks,⟨ci,li⟩⟩:=x
  obtain⟨hg,ho⟩:=hx
  simp only at hg ho
  have hoc:=ho.c
  have hol:=ho.l
  obtain⟨c,hcc⟩:=Int.eq_ofNat_of_zero_le hoc.1
  obtain⟨j,hjj⟩:=Int.eq_ofNat_of_zero_le hol.1
  simp only at hcc hjj hoc hol
  subst hcc
  subst hjj
  simp only[Int.toNat_natCast] at hol
  have hcl:c<g.length:=by omega
  have hsv:srcV g path c=srcL g path (blobG g path c) g[c].parents:=by unfold srcV;simp[List.getD,hcl]
  have hfv:fromV g path c j=fromL g path (blobG g path c) g[c].parents j:=by unfold fromV;simp[List.getD,hcl]
  have hjn:j<(linesV (blobG g path c)).length:=by omega
  have hsf:=step_from (g:=g) (path:=path) hjn g[c].parents
  rw[← hfv,← hsv] at hsf
  have hsl:(srcV g path c).length≤32:=by
    rw[hsv]
    have:=srcL_len g path (blobG g path c) g[c].parents
    have:=hg.par _ (List.getElem_mem hcl)
    omega
  have hln:∀s,s∈srcV g path c→j<s.lines.length:=fun s hs=>by
    rw[hsv] at hs
    obtain⟨a,ha⟩:=src_mem hs
    rw[ha]
    simp[partsV]
    omega
  simp only[F_annotate_finder_step,Int.toNat_natCast]
  rw[← hsf]
  clear hsf hfv
  simp[x_annotate_finder_step,startA,eRCall,h1,hg,hcl]
  generalize hss:srcV g path c=src at *
  generalize htab:srcTab g path (addK ks c)=tab at *
  clear hsv hss
  refine vc_lp (σ:=Nat) (fun i=>i≤src.length∧stepS (src.drop i) j=stepS src j) (fun i=>src.length-i)
    (fun i=>[.ref 0 0 0 0,.any,.ref 2 0 0 0,.ref 3 0 0 0,.any,.any,.any,.d (Rep.to src),.d (.int .i64 src.length),.d (.int .i64 i),.any,.any])
    (fun i=>[.cells 0 3 [.agg [.d (Rep.to g),.d (.str path),.mp 1]],.map tab,.cells 0 2 [.agg [.d (.int .i64 c),.d (.int .i64 j)]],.cells 0 2 [.d (.agg [.int .i64 0,.int .i64 0])]]) 0 (by simp) (by simp) (by simp) ?_
  rintro i ⟨hi,hst⟩
  by_cases hil:i<src.length
  · have w1:IntKind.i64.wrap ((i:Int)+1)=(i:Int)+1:=wrap_in (by omega) (by omega)
    rw[List.drop_eq_getElem_cons hil,stepS] at hst
    have hl:=hln _ (List.getElem_mem hil)
    generalize hgi:src[i]=s at *
    have e0:s.lines.getD j (-1)=s.lines[j]:=by simp[List.getD,hl]
    rw[e0] at hst
    by_cases e:0≤s.lines[j]
    · rw[if_pos e] at hst
      rw[← hst]
      simp[hil,getD_map,hgi,hl,e]
      exact FinR.done (by simp) (by simp) rfl (by simp[resOf,resE,origO,origA]) (by simp) (by simp[origA])
    · rw[if_neg e] at hst
      simp[hil,getD_map,hgi,hl,e,w1]
      exact Nxt.mk (i+1) (by omega) (by simp) (by simp) ⟨by omega,hst⟩
  · have h9:i=src.length:=by omega
    subst h9
    rw[List.drop_length,stepS] at hst
    rw[← hst]
    simp
    exact FinR.done (by simp) (by simp) rfl (by simp[resOf,resE,origO,origA]) (by simp) (by simp[origA])
def begE (g:List CommitT) (c:Int) (path:Str):Int:=if dagC g=0 then (if 0≤c∧c<(g.length:Int)∧hasF g path c.toNat=true then 0 else 5) else dagC g
def fileN (g:List CommitT) (c:Int) (path:Str):Nat:=(linesV (blobG g path c.toNat)).length
theorem begE_ok {g:List CommitT} {c:Int} {path:Str} (h:begE g c path=0):dagC g=0∧0≤c∧c<(g.length:Int)∧hasF g path c.toNat=true:=by
  unfold begE at h
  split at h
  · rename_i h1
    split at h
    · rename_i h2;exact⟨h1,h2⟩
    · cases h
  · rename_i h1;exact (h1 h).elim
structure BgX where
  g:List CommitT
  c:Int
  path:Str
@[simp] def F_annotate_begin:RF BgX where
  new:=2
  view a _:=⟨(a.getD 0 .any).gl CommitT,(a.getD 1 .any).gi,(a.getD 2 .any).gs⟩
  args x:=[.d (Rep.to x.g),.d (.int .i64 x.c),.d (.str x.path)]
  st _:=[.res,.res]
  pre x:=GraphOk x.g
  res x:=if begE x.g x.c x.path=0 then .tup [.ref 0 0 0 0,.d (.int .i64 (fileN x.g x.c x.path)),.d (.int .i64 0)] else .tup [.d .nilp,.d (.int .i64 0),.d (.int .i64 (begE x.g x.c x.path))]
  st' x:=if begE x.g x.c x.path=0 then soS x.g x.path [] else [.res,.res]
abbrev R_annotate_begin:RSpec:=F_annotate_begin.spec
theorem ct_annotate_begin {P:Program} {f g1 g2 g3 g4:Nat} {G:Gam} (hc:CodeOf P f 3 13 [3,4,5] (x_annotate_begin g1 g2 g3 g4)) (hG:GamOk P G) (h1:G.find g1=some S_dag_Check) (h2:G.find g2=some S_dag_Is) (h3:G.find g3=some S_tree_Find) (h4:G.find g4=some S_text_Split):RSpec.Ok P f R_annotate_begin:=by
  refine RF.ok hc.call fun x hx=>hc.rcalls hG rfl ?_
  obtain⟨g,c,path⟩:=x
  have hok:GraphOk g:=hx
  simp only[F_annotate_begin]
  by_cases c0:dagC g=0
  · have hg:=GV.of c0 hok
    by_cases c1:0≤c∧c<(g.length:Int)
    · obtain⟨n,rfl⟩:=Int.eq_ofNat_of_zero_le c1.1
      have hcl:n<g.length:=by omega
      have hfl:=(hg.files _ (List.getElem_mem hcl)).1
      have e1:blobF g[n].files path=blobG g path n:=by unfold blobG;simp[List.getD,hcl]
      have e2:inB g[n].files path=hasF g path n:=by unfold hasF;simp[List.getD,hcl]
      have hb:=hg.blob hcl path
      have hbl:=check_len hb
      cases hf:hasF g path n with
      | true =>
        have he:begE g (n:Int) path=0:=by unfold begE;rw[if_pos c0,if_pos ⟨c1.1,c1.2,by simpa using hf⟩]
        simp only[he,if_true]
        simp[x_annotate_begin,startA,h1,h2,h3,h4,hok,c0,hcl,getD_map,show g[n].files.length≤9223372036854775807 by omega,e1,e2,hf,show (blobG g path n).length≤4194304 by omega,splitD_ok hb,fileN]
        exact⟨by simp[resPre,resE],[3,2],rfl,⟨by decide,by simp,by simp[pickS,Ob.ren,A.ren,A.rens]⟩,fun k hk=>(by match k,hk with | 0,_=>exact .inr rfl | 1,_=>exact .inr rfl),by simp[pickS,Ob.ren,A.ren,A.rens,idxIn,srcTab] <;> rfl,by simp[resOf,resE,A.ren,A.rens,idxIn] <;> rfl,by simp⟩
      | false =>
        have he:begE g (n:Int) path=5:=by unfold begE;rw[if_pos c0,if_neg];rintro⟨_,_,h⟩;rw[Int.toNat_natCast,hf] at h;cases h
        simp only[he]
        simp[x_annotate_begin,startA,h1,h2,h3,h4,hok,c0,hcl,getD_map,show g[n].files.length≤9223372036854775807 by omega,e1,e2,hf]
        exact FinR.done (by simp) (by simp) rfl (by simp[resOf,resE]) (by simp) (by simp)
    · have he:begE g c path=5:=by unfold begE;rw[if_pos c0,if_neg];rintro⟨a,b,_⟩;exact c1 ⟨a,b⟩
      simp only[he]
      by_cases k1:0≤c
      · have k2:¬c<(g.length:Int):=fun h=>c1 ⟨k1,h⟩
        simp[x_annotate_begin,startA,h1,h2,hok,c0,k1,k2]
        exact FinR.done (by simp) (by simp) rfl (by simp[resOf,resE]) (by simp) (by simp)
      · simp[x_annotate_begin,startA,h1,h2,hok,c0,k1]
        exact FinR.done (by simp) (by simp) rfl (by simp[resOf,resE]) (by simp) (by simp)
  · have he:begE g c path=dagC g:=by unfold begE;rw[if_neg c0]
    simp only[he]
    simp[x_annotate_begin,startA,h1,hok,c0]
    exact FinR.done (by simp) (by simp) rfl (by simp[resOf,resE]) (by simp) (by simp)
def stepD (g:List CommitT) (c:Int) (path:Str) (line:Int):D :=
  if begE g c path=0 then (if 0≤line∧line<(fileN g c path:Int) then .tup [Rep.to (origO (fromV g path c.toNat line)),.bool (fromV g path c.toNat line).isSome,.int .i64 0] else .tup [Rep.to (origO none),.bool false,.int .i64 3]) else .tup [Rep.to (origO none),.bool false,.int .i64 (begE g c path)]
theorem goodO_of {g:List CommitT} {c:Int} {path:Str} (h:begE g c path=0) {line:Int} (hl:0≤line∧line<(fileN g c path:Int)):GoodO g path ⟨c,line⟩:=by
  obtain⟨_,h1,h2,h3⟩:=begE_ok h
  exact⟨⟨h1,h2⟩,h3,hl⟩
@[simp] def S_annotate_Step:List D→Prop × D:=spec4 (α:=List CommitT) (β:=Int) (γ:=Str) (δ:=Int) (fun g _ _ _=>GraphOk g) (fun g c path line=>stepD g c path line)
theorem ct_annotate_Step {P:Program} {f g1 g2:Nat} {G:Gam} (h:CodeOf P f 4 14 [22004,5,6] (x_annotate_Step g1 g2)) (hG:GamOk P G) (h1:G.findR g1=some R_annotate_begin) (h2:G.findR g2=some R_annotate_finder_step):Has P f S_annotate_Step:=h.has4 hG fun g c path line hok=>by
  by_cases he:begE g c path=0
  · have hg:=GV.of (begE_ok he).1 hok
    by_cases c1:line<0
    · have hv:stepD g c path line=.tup [Rep.to (origO none),.bool false,.int .i64 3]:=by unfold stepD;rw[if_pos he,if_neg (by omega)]
      rw[hv]
      simp[x_annotate_Step,eRCall,h1,hok,he,c1,origO]
    · by_cases c2:(fileN g c path:Int)≤line
      · have hv:stepD g c path line=.tup [Rep.to (origO none),.bool false,.int .i64 3]:=by unfold stepD;rw[if_pos he,if_neg (by omega)]
        rw[hv]
        simp[x_annotate_Step,eRCall,h1,hok,he,c1,c2,origO]
      · have hgo:=goodO_of he (line:=line) (by omega)
        have hv:stepD g c path line=.tup [Rep.to (origO (fromV g path c.toNat line)),.bool (fromV g path c.toNat line).isSome,.int .i64 0]:=by unfold stepD;rw[if_pos he,if_pos (by omega)]
        rw[hv]
        simp[x_annotate_Step,eRCall,h1,h2,hok,he,c1,c2,hg,hgo,origA]
  · have hv:stepD g c path line=.tup [Rep.to (origO none),.bool false,.int .i64 (begE g c path)]:=by unfold stepD;rw[if_neg he]
    rw[hv]
    simp[x_annotate_Step,eRCall,h1,hok,he,origO]
def blS (g:List CommitT) (path:Str) (c:Int) (n:Nat):List OriginT:=(List.range n).map fun (j:Nat)=>blV g path ⟨c,(j:Int)⟩
theorem blS_len (g:List CommitT) (path:Str) (c:Int) (n:Nat):(blS g path c n).length=n:=by simp[blS]
theorem blS_succ (g:List CommitT) (path:Str) (c:Int) (n:Nat):blS g path c (n+1)=blS g path c n++[blV g path ⟨c,(n:Int)⟩]:=by simp[blS,List.range_succ]
def blameL (g:List CommitT) (c:Int) (path:Str):List OriginT:=if begE g c path=0 then blS g path c (fileN g c path) else []
structure BlX where
  i:Nat
  ks:List Nat
structure BaX where
  a:OriginT
  ks:List Nat
@[simp] def S_annotate_Blame:List D→Prop × D:=spec3 (α:=List CommitT) (β:=Int) (γ:=Str) (fun g _ _=>GraphOk g) (fun g c path=>.tup [Rep.to (blameL g c path),.int .i64 (begE g c path)])
theorem ct_annotate_Blame {P:Program} {f g1 g2:Nat} {G:Gam} (h:CodeOf P f 3 18 [3,4] (x_annotate_Blame g1 g2)) (hG:GamOk P G) (h1:G.findR g1=some R_annotate_begin) (h2:G.findR g2=some R_annotate_finder_step):Has P f S_annotate_Blame:=h.has3 hG fun g c path hok=>by
  by_cases he:begE g c path=0
  · obtain⟨c0,hc0,hc1,hc2⟩:=begE_ok he
    have hg:=GV.of c0 hok
    obtain⟨hh,hfix⟩:=hg.fix
    obtain⟨ht,hht⟩:∃ht:Nat→Int,∀i,ht i=hh.getD i 0:=⟨_,fun _=>rfl⟩
    have hv:blameL g c path=blS g path c (fileN g c path):=by unfold blameL;rw[if_pos he]
    have hgo:=fun line hl=>goodO_of he (line:=line) hl
    have hn:fileN g c path≤4096:=checkT_lines (hg.blob (c:=c.toNat) (by omega) path)
    rw[hv,he]
    simp[x_annotate_Blame,eRCall,h1,hok,he]
    generalize fileN g c path=n at *
    refine vc_lp (σ:=BlX) (fun x=>x.i≤n) (fun x=>n-x.i)
      (fun x=>[.d (Rep.to g),.d (.int .i64 c),.d (.str path),.any,.any,.ref 0 0 0 0,.any,.any,.gr 2 2 ((blS g path c x.i).map Rep.to),.any,.any,.any,.any,.any,.d (.int .i64 n),.d (.int .i64 x.i),.any,.any])
      (fun x=>[.cells 0 3 [.agg [.d (Rep.to g),.d (.str path),.mp 1]],.map (srcTab g path x.ks),.tip (blS g path c x.i).length]) ⟨0,[]⟩ (by simp[blS]) (by simp[blS]) (by simp) ?_
    rintro⟨i,ks⟩ hi
    simp only at hi
    have hbl:=blS_len g path c i
    have hbs:=blS_succ g path c i
    by_cases hil:i<n
    · have w1:IntKind.i64.wrap ((i:Int)+1)=(i:Int)+1:=wrap_in (by omega) (by omega)
      have hg0:=hgo (i:Int) (by omega)
      generalize hbb:blS g path c i=out at *
      simp[hil]
      refine vc_lp (σ:=BaX) (fun x=>GoodO g path x.a∧blV g path x.a=blV g path ⟨c,(i:Int)⟩) (fun x=>(ht x.a.commit.toNat).toNat)
        (fun x=>[.d (Rep.to g),.d (.int .i64 c),.d (.str path),.any,.any,.ref 0 0 0 0,.any,.any,.gr 2 2 (out.map Rep.to),.any,.ref 3 0 0 0,.any,.any,.any,.d (.int .i64 n),.d (.int .i64 i),.any,.any])
        (fun x=>[.cells 0 3 [.agg [.d (Rep.to g),.d (.str path),.mp 1]],.map (srcTab g path x.ks),.tip out.length,.cells 0 2 [.agg [.d (.int .i64 x.a.commit),.d (.int .i64 x.a.line)]]]) ⟨⟨c,i⟩,ks⟩ (by simp) (by simp) ⟨hg0,rfl⟩ ?_
      rintro⟨⟨ac,al⟩,ks⟩ ⟨ha,hb⟩
      simp only at ha hb
      have heq:=blV_eq hg.rel hfix ha
      simp only at heq
      cases hfr:fromV g path ac.toNat al with
      | some x =>
        rw[hfr] at heq
        obtain⟨g1',g2',_⟩:=from_good hg.rel ha hfr
        have hge:=hfix.ge ac.toNat (by rw[parG_len];have:=ha.c;simp only at this;omega) _ g2'
        have hnn:=hfix.nn x.commit.toNat
        rw[← hht] at hnn
        rw[← hht,← hht] at hge
        simp[eRCall,h2,hg,ha,hfr,origA,origO]
        exact Nxt.mk (⟨x,addK ks ac.toNat⟩:BaX) (by simp only;omega) (by simp) (by simp) ⟨g1',by rw[← hb,heq]⟩
      | none =>
        rw[hfr] at heq
        simp only at heq
        rw[heq] at hb
        simp[eRCall,h2,hg,ha,hfr,origA,origO,w1]
        exact⟨by unfold room;omega,Nxt.mk (⟨i+1,addK ks ac.toNat⟩:BlX) (by simp only;omega) (by simp[hbs,← hb]) (by simp[hbs]) (by simp only;omega)⟩
    · have h9:i=n:=by omega
      subst h9
      simp
  · have hv:blameL g c path=[]:=by unfold blameL;rw[if_neg he]
    rw[hv]
    simp[x_annotate_Blame,eRCall,h1,hok,he]
@[simp] def S_ref31_from:List D→Prop × D:=spec4 (α:=List CommitT) (β:=Int) (γ:=Str) (δ:=Int) (fun g c path line=>GV g∧GoodO g path ⟨c,line⟩) (fun g c path line=>.tup [Rep.to (origO (fromV g path c.toNat line)),.bool (fromV g path c.toNat line).isSome])
theorem ct_ref31_from {P:Program} {f g1 g2 g3 g4:Nat} {G:Gam} (h:CodeOf P f 4 15 [22004,5] (x_ref31_from g1 g2 g3 g4)) (hG:GamOk P G) (h1:G.find g1=some S_ref21_Find) (h2:G.find g2=some S_ref09_Blobs) (h3:G.find g3=some S_ref02_Lines) (h4:G.find g4=some S_ref29_Partner):Has P f S_ref31_from:=h.has4 hG fun g ci path li hp=>by
  obtain⟨hg,ho⟩:=hp
  have hoc:=ho.c
  have hol:=ho.l
  obtain⟨c,hcc⟩:=Int.eq_ofNat_of_zero_le hoc.1
  simp only at hcc hoc hol
  subst hcc
  simp only[Int.toNat_natCast] at hol ⊢
  have hcl:c<g.length:=by omega
  have hfv:fromV g path c li=fromL g path (blobG g path c) g[c].parents li:=by unfold fromV;simp[List.getD,hcl]
  have hfl:=(hg.files _ (List.getElem_mem hcl)).1
  have hpl:=hg.par _ (List.getElem_mem hcl)
  have hrg:=hg.prng hcl
  have hnow:blobF g[c].files path=blobG g path c:=by unfold blobG;simp[List.getD,hcl]
  have hbc:=hg.blob hcl path
  have hbl:=check_len hbc
  rw[hfv]
  clear hfv
  generalize hnw:blobG g path c=now at *
  generalize hps:g[c].parents=ps at *
  simp[x_ref31_from,hcl,getD_map,h1,show g[c].files.length≤9223372036854775807 by omega,hnow]
  refine vc_lp (σ:=Nat) (fun i=>i≤ps.length∧fromL g path now (ps.drop i) li=fromL g path now ps li) (fun i=>ps.length-i)
    (fun i=>[.d (Rep.to g),.d (.int .i64 c),.d (.str path),.d (.int .i64 li),.ref 0 0 0 0,.any,.d (.str now),.d (.int .i64 i),.any,.any,.any,.any,.any,.any,.any])
    (fun _=>[.cells 0 2 [.d (.agg [.int .i64 0,.int .i64 0])]]) 0 (by simp) (by simp) (by simp) ?_
  rintro i ⟨hi,hst⟩
  by_cases hil:i<ps.length
  · have w1:IntKind.i64.wrap ((i:Int)+1)=(i:Int)+1:=wrap_in (by omega) (by omega)
    rw[List.drop_eq_getElem_cons hil,fromL] at hst
    obtain⟨r1,r2⟩:=hrg _ (List.getElem_mem hil)
    obtain⟨q,hq⟩:=Int.eq_ofNat_of_zero_le r1
    rw[hq] at hst
    simp only[Int.toNat_natCast] at hst
    have hql:q<g.length:=by omega
    have hqf:=(hg.files _ (List.getElem_mem hql)).1
    have hqb:=hg.blob hql path
    have hqn:=check_len hqb
    have e1:blobF g[q].files path=blobG g path q:=by unfold blobG;simp[List.getD,hql]
    have e2:inB g[q].files path=hasF g path q:=by unfold hasF;simp[List.getD,hql]
    obtain⟨hck,hmat⟩:=scr_ok hqb hbc
    have hbd:=scr_blobs hqb hbc
    have hcn:=check_clen hck
    have hex:∃n,checkV (scr (blobG g path q) now) (linesV (blobG g path q)).length n=true:=⟨_,hck⟩
    have hpv:partL (pairsS (blobG g path q) now) li=partV (blobG g path q) now li:=rfl
    clear hck
    generalize blobG g path q=a at *
    generalize hsc:scr a now=sc at *
    cases hf:hasF g path q with
    | true =>
      by_cases e:0≤partV a now li
      · rw[if_pos ⟨hf,e⟩] at hst
        rw[← hst]
        simp[hil,hcl,getD_map,hps,hq,hql,h1,h2,h3,h4,show g[q].files.length≤9223372036854775807 by omega,show a.length≤4194304 by omega,show now.length≤4194304 by omega,e1,e2,hf,hbd,show sc.length≤100000 by omega,hex,hmat,hpv,e,origO]
      · rw[if_neg (fun h=>e h.2)] at hst
        simp[hil,hcl,getD_map,hps,hq,hql,h1,h2,h3,h4,show g[q].files.length≤9223372036854775807 by omega,show a.length≤4194304 by omega,show now.length≤4194304 by omega,e1,e2,hf,hbd,show sc.length≤100000 by omega,hex,hmat,hpv,e,w1]
        exact Nxt.mk (i+1) (by omega) (by simp) (by simp) ⟨by omega,hst⟩
    | false =>
      rw[if_neg (fun h=>by rw[hf] at h;cases h.1)] at hst
      simp[hil,hcl,getD_map,hps,hq,hql,h1,h2,h3,h4,show g[q].files.length≤9223372036854775807 by omega,show a.length≤4194304 by omega,show now.length≤4194304 by omega,e1,e2,hf,hbd,show sc.length≤100000 by omega,hex,hmat,hpv,w1]
      exact Nxt.mk (i+1) (by omega) (by simp) (by simp) ⟨by omega,hst⟩
  · have h9:i=ps.length:=by omega
    subst h9
    rw[List.drop_length,fromL] at hst
    rw[← hst]
    simp[hcl,getD_map,hps,origO]
@[simp] def S_ref31_file:List D→Prop × D:=spec3 (α:=List CommitT) (β:=Int) (γ:=Str) (fun g _ _=>GraphOk g) (fun g c path=>.tup [.int .i64 (if begE g c path=0 then (fileN g c path:Int) else 0),.int .i64 (begE g c path)])
theorem ct_ref31_file {P:Program} {f g1 g2 g3:Nat} {G:Gam} (h:CodeOf P f 3 10 [3,4] (x_ref31_file g1 g2 g3)) (hG:GamOk P G) (h1:G.find g1=some S_ref26_Known) (h2:G.find g2=some S_ref21_Find) (h3:G.find g3=some S_ref02_Lines):Has P f S_ref31_file:=h.has3 hG fun g c path hok=>by
  by_cases c0:dagC g=0
  · have hg:=GV.of c0 hok
    by_cases c1:0≤c∧c<(g.length:Int)
    · obtain⟨n,rfl⟩:=Int.eq_ofNat_of_zero_le c1.1
      have hcl:n<g.length:=by omega
      have hfl:=(hg.files _ (List.getElem_mem hcl)).1
      have e1:blobF g[n].files path=blobG g path n:=by unfold blobG;simp[List.getD,hcl]
      have e2:inB g[n].files path=hasF g path n:=by unfold hasF;simp[List.getD,hcl]
      have hb:=hg.blob hcl path
      have hbl:=check_len hb
      have hk:knownC g (n:Int)=0:=by unfold knownC;rw[if_pos c0,if_pos c1]
      cases hf:hasF g path n with
      | true =>
        have he:begE g (n:Int) path=0:=by unfold begE;rw[if_pos c0,if_pos ⟨c1.1,c1.2,by simpa using hf⟩]
        simp[x_ref31_file,h1,h2,h3,hok,hk,he,hcl,getD_map,show g[n].files.length≤9223372036854775807 by omega,e1,e2,hf,show (blobG g path n).length≤4194304 by omega,fileN]
      | false =>
        have he:begE g (n:Int) path=5:=by unfold begE;rw[if_pos c0,if_neg];rintro⟨_,_,h⟩;rw[Int.toNat_natCast,hf] at h;cases h
        simp[x_ref31_file,h1,h2,hok,hk,he,hcl,getD_map,show g[n].files.length≤9223372036854775807 by omega,e1,e2,hf]
    · have he:begE g c path=5:=by unfold begE;rw[if_pos c0,if_neg];rintro⟨a,b,_⟩;exact c1 ⟨a,b⟩
      have hk:knownC g c=5:=by unfold knownC;rw[if_pos c0,if_neg c1]
      simp[x_ref31_file,h1,hok,hk,he]
  · have he:begE g c path=dagC g:=by unfold begE;rw[if_neg c0]
    have hk:knownC g c=dagC g:=by unfold knownC;rw[if_neg c0]
    simp[x_ref31_file,h1,hok,hk,he,c0]
@[simp] def S_ref31_Step:List D→Prop × D:=spec4 (α:=List CommitT) (β:=Int) (γ:=Str) (δ:=Int) (fun g _ _ _=>GraphOk g) (fun g c path line=>stepD g c path line)
theorem ct_ref31_Step {P:Program} {f g1 g2:Nat} {G:Gam} (h:CodeOf P f 4 13 [22004,5,6] (x_ref31_Step g1 g2)) (hG:GamOk P G) (h1:G.find g1=some S_ref31_file) (h2:G.find g2=some S_ref31_from):Has P f S_ref31_Step:=h.has4 hG fun g c path line hok=>by
  by_cases he:begE g c path=0
  · have hg:=GV.of (begE_ok he).1 hok
    by_cases c1:line<0
    · have hv:stepD g c path line=.tup [Rep.to (origO none),.bool false,.int .i64 3]:=by unfold stepD;rw[if_pos he,if_neg (by omega)]
      rw[hv]
      simp[x_ref31_Step,h1,hok,he,c1,origO]
    · by_cases c2:(fileN g c path:Int)≤line
      · have hv:stepD g c path line=.tup [Rep.to (origO none),.bool false,.int .i64 3]:=by unfold stepD;rw[if_pos he,if_neg (by omega)]
        rw[hv]
        simp[x_ref31_Step,h1,hok,he,c1,c2,origO]
      · have hgo:=goodO_of he (line:=line) (by omega)
        have hv:stepD g c path line=.tup [Rep.to (origO (fromV g path c.toNat line)),.bool (fromV g path c.toNat line).isSome,.int .i64 0]:=by unfold stepD;rw[if_pos he,if_pos (by omega)]
        rw[hv]
        simp[x_ref31_Step,h1,h2,hok,he,c1,c2,hg,hgo]
  · have hv:stepD g c path line=.tup [Rep.to (origO none),.bool false,.int .i64 (begE g c path)]:=by unfold stepD;rw[if_neg he]
    rw[hv]
    simp[x_ref31_Step,h1,hok,he,origO]
structure BrX where
  a:OriginT
  b:Bool
@[simp] def S_ref31_Blame:List D→Prop × D:=spec3 (α:=List CommitT) (β:=Int) (γ:=Str) (fun g _ _=>GraphOk g) (fun g c path=>.tup [Rep.to (blameL g c path),.int .i64 (begE g c path)])
theorem ct_ref31_Blame {P:Program} {f g1 g2:Nat} {G:Gam} (h:CodeOf P f 3 17 [3,4] (x_ref31_Blame g1 g2)) (hG:GamOk P G) (h1:G.find g1=some S_ref31_file) (h2:G.find g2=some S_ref31_from):Has P f S_ref31_Blame:=h.has3 hG fun g c path hok=>by
  by_cases he:begE g c path=0
  · obtain⟨c0,hc0,hc1,hc2⟩:=begE_ok he
    have hg:=GV.of c0 hok
    obtain⟨hh,hfix⟩:=hg.fix
    obtain⟨ht,hht⟩:∃ht:Nat→Int,∀i,ht i=hh.getD i 0:=⟨_,fun _=>rfl⟩
    have hv:blameL g c path=blS g path c (fileN g c path):=by unfold blameL;rw[if_pos he]
    have hgo:=fun line hl=>goodO_of he (line:=line) hl
    have hn:fileN g c path≤4096:=checkT_lines (hg.blob (c:=c.toNat) (by omega) path)
    rw[hv,he]
    simp[x_ref31_Blame,h1,hok,he]
    generalize fileN g c path=n at *
    refine vc_lp (σ:=Nat) (fun i=>i≤n) (fun i=>n-i)
      (fun i=>[.d (Rep.to g),.d (.int .i64 c),.d (.str path),.any,.any,.d (.int .i64 n),.any,.gr 0 2 ((blS g path c i).map Rep.to),.d (.int .i64 i),.any,.any,.any,.any,.any,.any,.any,.any])
      (fun i=>[.tip (blS g path c i).length]) 0 (by simp[blS]) (by simp[blS]) (by simp) ?_
    intro i hi
    have hbl:=blS_len g path c i
    have hbs:=blS_succ g path c i
    by_cases hil:i<n
    · have w1:IntKind.i64.wrap ((i:Int)+1)=(i:Int)+1:=wrap_in (by omega) (by omega)
      have hg0:=hgo (i:Int) (by omega)
      generalize hbb:blS g path c i=out at *
      simp[hil]
      refine vc_lp (σ:=BrX) (fun x=>GoodO g path x.a∧blV g path x.a=blV g path ⟨c,(i:Int)⟩∧(x.b=false→fromV g path x.a.commit.toNat x.a.line=none)) (fun x=>2 * (ht x.a.commit.toNat).toNat+x.b.toNat)
        (fun x=>[.d (Rep.to g),.d (.int .i64 c),.d (.str path),.any,.any,.d (.int .i64 n),.any,.gr 0 2 (out.map Rep.to),.d (.int .i64 i),.ref 1 0 0 0,.d (.bool x.b),.any,.any,.any,.any,.any,.any])
        (fun x=>[.tip out.length,.cells 0 2 [.agg [.d (.int .i64 x.a.commit),.d (.int .i64 x.a.line)]]]) ⟨⟨c,i⟩,true⟩ (by simp) (by simp) ⟨hg0,rfl,by simp⟩ ?_
      rintro⟨⟨ac,al⟩,b⟩ ⟨ha,hb,hfn⟩
      simp only at ha hb hfn
      have heq:=blV_eq hg.rel hfix ha
      simp only at heq
      cases b with
      | true =>
        cases hfr:fromV g path ac.toNat al with
        | some x =>
          rw[hfr] at heq
          obtain⟨g1',g2',_⟩:=from_good hg.rel ha hfr
          have hge:=hfix.ge ac.toNat (by rw[parG_len];have:=ha.c;simp only at this;omega) _ g2'
          have hnn:=hfix.nn x.commit.toNat
          rw[← hht] at hnn
          rw[← hht,← hht] at hge
          simp[h2,hg,ha,hfr,origO]
          have hb1:Bool.toNat true=1:=rfl
          exact Nxt.mk (⟨x,true⟩:BrX) (by simp only[hb1];omega) (by simp) (by simp) ⟨g1',by rw[← hb,heq],by simp⟩
        | none =>
          simp[h2,hg,ha,hfr,origO]
          exact Nxt.mk (⟨⟨ac,al⟩,false⟩:BrX) (by simp) (by simp) (by simp) ⟨ha,hb,fun _=>hfr⟩
      | false =>
        rw[hfn rfl] at heq
        simp only at heq
        rw[heq] at hb
        simp[w1]
        exact⟨by unfold room;omega,Nxt.mk (i+1) (by omega) (by simp[hbs,← hb]) (by simp[hbs]) (by omega)⟩
    · have h9:i=n:=by omega
      subst h9
      simp
  · have hv:blameL g c path=[]:=by unfold blameL;rw[if_neg he]
    rw[hv]
    simp[x_ref31_Blame,h1,hok,he]
def exG:List CommitT:=[⟨[],0,[⟨[120],[97,10,98,10]⟩]⟩,⟨[0],0,[⟨[120],[97,10,99,10]⟩]⟩]
theorem aw31a:begE exG 1 [120]=0:=by decide +kernel
theorem aw31b:blameL exG 1 [120]=[⟨0,0⟩,⟨1,1⟩]:=by decide +kernel
theorem exG_ok:GraphOk exG:=by
  refine⟨by decide,fun c hc=>?_⟩
  unfold exG at hc
  simp at hc
  rcases hc with rfl | rfl
  · exact⟨by simp,by simp,fun f hf=>by simp at hf;subst hf;exact⟨by simp,by simp⟩⟩
  · exact⟨by simp,by simp,fun f hf=>by simp at hf;subst hf;exact⟨by simp,by simp⟩⟩
@[simp] def S_law31_awake:List D→Prop × D:=spec0 True (.bool true)
theorem ct_law31_awake {P:Program} {f g1 g2:Nat} {G:Gam} (h:CodeOf P f 0 4 [0] (x_law31_awake g1 g2)) (hG:GamOk P G) (h1:G.find g1=some S_annotate_Blame) (h2:G.find g2=some S_gen_Origins):Has P f S_law31_awake:=h.has0 hG fun _=>by
  have e1:ofAll (Rep.of (α:=CommitT)) [.agg [.nilsl,.int .i64 0,.sl 2 [.agg [.str [120],.str [97,10,98,10]]]],.agg [.sl 1 [.int .i64 0],.int .i64 0,.sl 2 [.agg [.str [120],.str [97,10,99,10]]]]]=some exG:=rfl
  have e2:ofAll (Rep.of (α:=OriginT)) [.agg [.int .i64 0,.int .i64 0],.agg [.int .i64 1,.int .i64 1]]=some [⟨0,0⟩,⟨1,1⟩]:=rfl
  have a1:=aw31a
  have a2:=aw31b
  have a3:=exG_ok
  simp only[exG] at a1 a2 a3
  simp[x_law31_awake,h1,h2,e2,a1,a2,a3]
def pickA (raw:List Int) (start:Int):Int × Str :=
  if (graphV raw 7 5).length=0 then (0,[97]) else
    if ((graphV raw 7 5).getD (modV start (graphV raw 7 5).length).toNat default).files.length=0 then (modV start (graphV raw 7 5).length,[97]) else
      (modV start (graphV raw 7 5).length,(((graphV raw 7 5).getD (modV start (graphV raw 7 5).length).toNat default).files.getD (modV (atV raw 5) ((graphV raw 7 5).getD (modV start (graphV raw 7 5).length).toNat default).files.length).toNat default).path)
@[simp] def S_law31_pick:List D→Prop × D:=spec2 (α:=List Int) (β:=Int) (fun raw _=>raw.length≤9223372036854775807) (fun raw start=>.tup [Rep.to (graphV raw 7 5),.int .i64 (pickA raw start).1,.str (pickA raw start).2])
theorem ct_law31_pick {P:Program} {f g1 g2 g3:Nat} {G:Gam} (h:CodeOf P f 2 8 [2,3,4] (x_law31_pick g1 g2 g3)) (hG:GamOk P G) (h1:G.find g1=some S_gen_Graph) (h2:G.find g2=some S_gen_Mod) (h3:G.find g3=some S_gen_At):Has P f S_law31_pick:=h.has2 hG fun raw start hp=>by
  have o:=(graphV_ok raw (n:=7) (lines:=5) (by omega) (by omega) (by omega) (by decide)).2
  have hol:=o.1
  by_cases c0:(graphV raw 7 5).length=0
  · have hv:pickA raw start=(0,[97]):=by unfold pickA;rw[if_pos c0]
    rw[hv]
    simp[x_law31_pick,h1,hp,c0]
  · have hc:=modV_lt start (n:=(graphV raw 7 5).length) (by omega)
    obtain⟨c,hcc⟩:=Int.eq_ofNat_of_zero_le hc.1
    have hcl:c<(graphV raw 7 5).length:=by omega
    have hof:=(o.2 _ (List.getElem_mem hcl)).2.1
    have hge:(graphV raw 7 5).getD c default=(graphV raw 7 5)[c]:=by simp[List.getD,hcl]
    have r3:1≤((graphV raw 7 5).length:Int)∧((graphV raw 7 5).length:Int)≤9223372036854775807:=by omega
    by_cases c1:(graphV raw 7 5)[c].files.length=0
    · have hv:pickA raw start=((c:Int),[97]):=by
        unfold pickA
        rw[if_neg c0,hcc,Int.toNat_natCast,hge,if_pos c1]
      rw[hv]
      generalize hgg:graphV raw 7 5=g at *
      simp[x_law31_pick,h1,h2,hp,hgg,c0,hcc,hcl,c1,getD_map,r3]
    · have hk:=modV_lt (atV raw 5) (n:=(graphV raw 7 5)[c].files.length) (by omega)
      obtain⟨k,hkk⟩:=Int.eq_ofNat_of_zero_le hk.1
      have hkl:k<(graphV raw 7 5)[c].files.length:=by omega
      have hv:pickA raw start=((c:Int),(graphV raw 7 5)[c].files[k].path):=by
        unfold pickA
        rw[if_neg c0,hcc,Int.toNat_natCast,hge,if_neg c1,hkk,Int.toNat_natCast]
        simp[List.getD,hkl]
      rw[hv]
      generalize hgg:graphV raw 7 5=g at *
      have r4:1≤(g[c].files.length:Int)∧(g[c].files.length:Int)≤9223372036854775807:=by omega
      simp[x_law31_pick,h1,h2,h3,hp,hgg,c0,hcc,hcl,c1,getD_map,r3,r4,hkk,hkl,show raw.length≤9223372036854775807 by omega]
theorem stepD_form (g:List CommitT) (c:Int) (path:Str) (line:Int):∃(o:OriginT) (b:Bool) (e:Int),stepD g c path line=.tup [Rep.to o,.bool b,.int .i64 e]:=by
  unfold stepD
  split
  · split
    · exact⟨_,_,_,rfl⟩
    · exact⟨_,_,_,rfl⟩
  · exact⟨_,_,_,rfl⟩
theorem blame_len {g:List CommitT} (ho:GraphOk g) (c:Int) (path:Str):(blameL g c path).length≤9223372036854775807:=by
  unfold blameL
  split
  · rename_i he
    obtain⟨c0,h1,h2,_⟩:=begE_ok he
    have:=checkT_lines ((GV.of c0 ho).blob (c:=c.toNat) (by omega) path)
    rw[blS_len]
    unfold fileN
    omega
  · simp
@[simp] def S_law31_AnnotateBlames:List D→Prop × D:=spec3 (α:=List Int) (β:=Int) (γ:=Int) (fun raw _ _=>raw.length≤9223372036854775807) (fun _ _ _=>.bool true)
theorem ct_law31_AnnotateBlames {P:Program} {f g1 g2 g3 g4 g5 g6 g7 g8:Nat} {G:Gam} (h:CodeOf P f 3 23 [3] (x_law31_AnnotateBlames g1 g2 g3 g4 g5 g6 g7 g8)) (hG:GamOk P G) (h1:G.find g1=some S_law31_pick) (h2:G.find g2=some S_annotate_Blame) (h3:G.find g3=some S_ref31_Blame) (h4:G.find g4=some S_annotate_Step) (h5:G.find g5=some S_ref31_Step) (h6:G.find g6=some S_gen_Mod) (h7:G.find g7=some S_gen_Origins) (h8:G.find g8=some S_law31_awake):Has P f S_law31_AnnotateBlames:=h.has3 hG fun raw start line hp=>by
  have o:=(graphV_ok raw (n:=7) (lines:=5) (by omega) (by omega) (by omega) (by decide)).2
  obtain⟨o1,b1,e1,s1⟩:=stepD_form (graphV raw 7 5) (pickA raw start).1 (pickA raw start).2 line
  obtain⟨o2,b2,e2,s2⟩:=stepD_form (graphV raw 7 5) (pickA raw start).1 (pickA raw start).2 (modV line 6)
  have hbl:=blame_len o (pickA raw start).1 (pickA raw start).2
  generalize hgg:graphV raw 7 5=g at *
  generalize hcp:pickA raw start=cp at *
  obtain⟨c,path⟩:=cp
  simp only at s1 s2 hbl
  simp[x_law31_AnnotateBlames,h1,h2,h3,h4,h5,h6,h7,h8,hp,hgg,hcp,o,s1,s2,hbl,eSeq,cellsEq,cellEq]
theorem law31_AnnotateBlames_pre (raw:List Int) (start:Int) (line:Int) (w0:Arg.wf raw) (w1:Arg.wf start) (w2:Arg.wf line):raw.length≤9223372036854775807:=by
  have:=len_wf w0
  omega
@[simp] def S_law31_AnnotateRefuses:List D→Prop × D:=spec5 (α:=List Int) (β:=Int) (γ:=Str) (δ:=Int) (ε:=List CommitT) (fun raw _ path _ g=>raw.length≤9223372036854775807∧path.length≤9223372036854775807∧g.length≤9223372036854775807∧ComsOk g) (fun _ _ _ _ _=>.bool true)
theorem ct_law31_AnnotateRefuses {P:Program} {f g1 g2 g3 g4 g5 g6 g7 g8:Nat} {G:Gam} (h:CodeOf P f 5 20 [5] (x_law31_AnnotateRefuses g1 g2 g3 g4 g5 g6 g7 g8)) (hG:GamOk P G) (h1:G.find g1=some S_law31_awake) (h2:G.find g2=some S_gen_Graph) (h3:G.find g3=some S_annotate_Blame) (h4:G.find g4=some S_ref31_Blame) (h5:G.find g5=some S_annotate_Step) (h6:G.find g6=some S_ref31_Step) (h7:G.find g7=some S_gen_Origins) (h8:G.find g8=some S_ref23_Check):Has P f S_law31_AnnotateRefuses:=h.has5 hG fun raw start path line w hp=>by
  obtain⟨p1,p2,p3,p4⟩:=hp
  by_cases k1:5<w.length
  · simp[x_law31_AnnotateRefuses,h1,show (5:Int)<w.length by omega]
  · by_cases k2:40<path.length
    · simp[x_law31_AnnotateRefuses,h1,show ¬(5:Int)<w.length by omega,show (40:Int)<path.length by omega]
    · have o:=(graphV_ok raw (n:=5) (lines:=3) (by omega) (by omega) (by omega) (by decide)).2
      have ow:GraphOk w:=⟨by omega,p4⟩
      obtain⟨o1,b1,e1,s1⟩:=stepD_form (graphV raw 5 3) start [97] line
      have hbl:=blame_len o start path
      generalize hgg:graphV raw 5 3=g at *
      by_cases c0:dagC w=0
      · simp[x_law31_AnnotateRefuses,h1,h2,h3,h4,h5,h6,h7,h8,p1,hgg,o,ow,s1,hbl,eSeq,cellsEq,cellEq,c0,show ¬(5:Int)<w.length by omega,show ¬(40:Int)<path.length by omega]
      · have hbe:begE w start path=dagC w:=by unfold begE;rw[if_neg c0]
        have hsd:stepD w start path line=.tup [Rep.to (origO none),.bool false,.int .i64 (dagC w)]:=by unfold stepD;rw[if_neg (by rw[hbe];exact c0),hbe]
        simp[x_law31_AnnotateRefuses,h1,h2,h3,h4,h5,h6,h7,h8,p1,hgg,o,ow,s1,hbl,eSeq,cellsEq,cellEq,c0,hbe,hsd,show ¬(5:Int)<w.length by omega,show ¬(40:Int)<path.length by omega]
theorem law31_AnnotateRefuses_pre (raw:List Int) (start:Int) (path:List UInt8) (line:Int) (g:List CommitT) (w0:Arg.wf raw) (w1:Arg.wf start) (w2:Arg.wf path) (w3:Arg.wf line) (w4:Arg.wf g):raw.length≤9223372036854775807∧path.length≤9223372036854775807∧g.length≤9223372036854775807∧ComsOk g:=⟨len_wf w0,str_wf w2,len_wf w4,coms_wf w4⟩
end Go.AE
namespace Go.AE
open Go Go.Proofs Go.RowKit
def SeqW {α:Type} (n:Nat) (P:Program) (gfn:Nat) (caps:Array Value) (encs:α→Array Value) (n₀ own:Nat) (xs:List α) (w0:World):Prop :=
  ∀(l:Nat) (J Jx:List α→World→Prop) (W:World),Below n₀ w0 W→(∀pre A v,J pre A→J pre (A.setCell ⟨own,0,none⟩ v)) →
    (∀pre x A,J pre A→pre.length<xs.length→YieldAt Fence.wide (n-1) P l (encs x) A fun e B =>
      (e=.returned (.bool true)∧J (pre++[x]) B∧Below n₀ A B)∨(e=.returned (.bool false)∧Jx (pre++[x]) B)) →
    J [] W→CallsIn Fence.wide n P gfn (#[.func (.yield l) #[] #[]]++caps) W fun e B=>(∃v,e=.returned v)∧(J xs B∨∃pre,pre <+: xs∧Jx pre B)
def roundW {α:Type} (n₀:Nat) (I Ix:List α→World→Prop) (xs:List α) (A:World):Exit→Act→World→Prop
  | .normal,_,B=>KeepsOthers A B∧Below n₀ A B∧I xs B
  | .ret,_,B=>KeepsOthers A B∧Ix xs B
  | _,_,_=>False
variable {n:Nat} {P:Program}
theorem rangeW {α:Type} {g:Operand} {ps:Array Tmp} {assign body:Code} {Q:Exit→Act→World→Prop} {a:Act} {w:World}
    (h1:1≤n) {gfn:Nat} {caps:Array Value} (hg:a.eval g=.func (.func gfn) #[] caps) (eg:∀args w,(callFunc gfn args).run P w=.ok (.enter gfn args) w)
    {encs:α→Array Value} {own:Nat} (hown:own<w.heap.size) {xs:List α} (hseq:SeqW (n-1) P gfn caps encs w.heap.size own xs w) (hps:∀x,(encs x).size=ps.size)
    (I Ix:List α→World→Prop)
    (hI1:∀pre A o,w.heap.size≤A.heap.size→I pre A→I pre (A.alloc o)) (hI2:∀pre A l o,w.heap.size≤l→I pre A→I pre (A.putObj l o)) (hI3:∀pre A v,I pre A→I pre (A.setCell ⟨own,0,none⟩ v))
    (hX2:∀pre A l o,w.heap.size≤l→Ix pre A→Ix pre (A.putObj l o))
    (h0:I [] w) (a₁:α→Act)
    (hassign:∀(l:Nat) (x:α) (A:World) (K:Act→World→Prop),K (a₁ x) A →
      assign.wpIn (Fence.wide.inRound l) (n-1-1) P (Exit.then K (fun _ _ _=>False)) { tmps:=(ps.zip (encs x)).foldl (fun t (p,v)=>t.setIfInBounds p v) a.tmps,defers:=[] } A)
    (hbody:∀(l:Nat) (pre:List α) (x:α) (A:World),I pre A→pre.length<xs.length→body.wpIn (Fence.wide.inRound l) (n-1-1) P (roundW w.heap.size I Ix (pre++[x]) A) (a₁ x) A)
    (hdone:∀(D:Nat) (B:World),w.heap.size≤D→I xs B→B.heap[D]?=some (.deferred (some []))→Q .normal { a with defers:={ target:=.collected D,args:=#[] }::a.defers } B)
    (hstop:∀(D:Nat) (pre:List α) (B:World),w.heap.size≤D→pre <+: xs→Ix pre B→B.heap[D]?=some (.deferred (some []))→Code.ret.wpIn Fence.wide n P Q { a with defers:={ target:=.collected D,args:=#[] }::a.defers } B) :
    (Code.rangeFunc g ps assign body).wpIn Fence.wide n P Q a w:=by
  refine wpIn_rangeFunc ?_
  intro fn hfn
  show ∃_,_
  rw[show Fence.wide.round=none from rfl]
  obtain⟨lp,hlp⟩:∃lp:LoopState→Option Code→Loop,lp=fun st pe=>{ state:=st,pending:=pe,fn,tmps:=a.tmps,params:=ps,assign,body,defers:=w.heap.size }:=⟨_,rfl⟩
  obtain⟨V,hV⟩:∃V,(w.alloc (.deferred (some []))).alloc (.loop (lp .ready none))=V:=⟨_,rfl⟩
  have rL:V.heap[w.heap.size+1]?=some (.loop (lp .ready none)):=by
    have:=World.alloc_heap_new (w.alloc (.deferred (some []))) (.loop (lp .ready none))
    rw[World.size_alloc,hV] at this
    exact this
  have rD:V.heap[w.heap.size]?=some (.deferred (some [])):=by
    rw[← hV]
    exact (Below.heap_alloc _ _ _ (by simp)).trans (World.alloc_heap_new w _)
  have rI:I [] V:=by
    rw[← hV]
    exact hI1 _ _ _ (by simp) (hI1 _ _ _ (Nat.le_refl _) h0)
  have rB:Below w.heap.size w V:=by
    rw[← hV]
    exact ((Below.refl _ w).alloc (Nat.le_refl _) _).alloc (by simp) _
  refine⟨w.heap.size+1,[{ target:=.collected w.heap.size,args:=#[] }],V,{ target:=.fn (.func gfn) caps,args:=#[.func (.yield (w.heap.size+1)) #[] #[]] },V,gfn,
    #[.func (.yield (w.heap.size+1)) #[] #[]]++caps,V,?_,?_,?_,?_,fun _=>h1,?_⟩
  · rw[← hV,hlp]
    exact run_enterLoop_outer _ _ _ _ _
  · simp only[resolve,hg]
    simp[go_sem]
  · intro f' hf'
    trivial
  · simp[invoke,go_sem,eg]
  have key:=hseq (w.heap.size+1)
    (fun pre A=>I pre A∧A.heap[w.heap.size+1]?=some (.loop (lp .ready none))∧A.heap[w.heap.size]?=some (.deferred (some [])))
    (fun pre A=>Ix pre A∧A.heap[w.heap.size+1]?=some (.loop (lp .done (some .ret)))∧A.heap[w.heap.size]?=some (.deferred (some [])))
    V rB ?_ ?_ ⟨rI,rL,rD⟩
  · refine key.mono ?_
    rintro e B ⟨⟨v,rfl⟩,(⟨hi,hl,hk⟩ | ⟨pre,hpre,hi,hl,hk⟩)⟩
    · have hr:=run_endLoop (P:=P) hl (by rw[hlp];simp)
      rw[hlp] at hr
      exact⟨none,_,hr,hdone _ _ (Nat.le_refl _) (hI2 _ _ _ _ (by omega) hi) ((World.putObj_heap_other (by omega)).trans hk)⟩
    · have hr:=run_endLoop (P:=P) hl (by rw[hlp];simp)
      rw[hlp] at hr
      exact⟨some .ret,_,hr,hstop _ pre _ (Nat.le_refl _) hpre (hX2 _ _ _ _ (by omega) hi) ((World.putObj_heap_other (by omega)).trans hk)⟩
  · rintro pre A v ⟨hi,hl,hk⟩
    refine⟨hI3 _ _ _ hi,?_,?_⟩
    · rw[Below.heap_setCell _ _ _ _ (by show w.heap.size+1≠own;omega)];exact hl
    · rw[Below.heap_setCell _ _ _ _ (by show w.heap.size≠own;omega)];exact hk
  · rintro pre x A ⟨hi,hl,hk⟩ hlen
    have hlt:w.heap.size+1<A.heap.size:=(Array.getElem?_eq_some_iff.1 hl).1
    have hy:=run_yield (P:=P) (args:=encs x) hl (by rw[hlp];exact hps x)
    rw[hlp] at hy
    refine⟨fn,_,assign,body,hy,roundIn_of_wpIn hfn (hassign _ x A _ ⟨_,run_beginRound hl (by rw[hlp]),?_⟩)⟩
    have hl2:(A.putObj (w.heap.size+1) (.loop { lp .ready none with state:=.busy })).heap[w.heap.size+1]?=some (.loop { lp .ready none with state:=.busy }):=World.putObj_heap_same hlt
    have hk2:(A.putObj (w.heap.size+1) (.loop { lp .ready none with state:=.busy })).heap[w.heap.size]?=some (.deferred (some [])):=(World.putObj_heap_other (by omega)).trans hk
    have hb2:Below w.heap.size A (A.putObj (w.heap.size+1) (.loop { lp .ready none with state:=.busy })):=belowK_b (Nat.le_refl _) _ _ _ _ (by omega) hl rfl rfl
    refine wpIn_mono (hbody _ pre x _ (hI2 _ _ _ _ (by omega) hi) hlen) ?_
    have fin:∀(jump:Option Code) (B:World),KeepsOthers (A.putObj (w.heap.size+1) (.loop { lp .ready none with state:=.busy })) B →
        (Instr.endRound (w.heap.size+1) jump).run P B=.ok (.bool jump.isNone) (B.putObj (w.heap.size+1) (.loop (lp (if jump.isNone then .ready else .done) jump))) ∧
        B.heap[w.heap.size+1]?=some (.loop { lp .ready none with state:=.busy }) ∧
        (B.putObj (w.heap.size+1) (.loop (lp (if jump.isNone then .ready else .done) jump))).heap[w.heap.size+1]?=some (.loop (lp (if jump.isNone then .ready else .done) jump)) ∧
        (B.putObj (w.heap.size+1) (.loop (lp (if jump.isNone then .ready else .done) jump))).heap[w.heap.size]?=some (.deferred (some [])):=fun jump B hk3=>by
      have hl3:=hk3.same _ _ hl2 rfl
      have:=run_endRound (P:=P) jump hl3
      rw[hlp] at this ⊢
      exact⟨this,by rw[hlp] at hl3;exact hl3,World.putObj_heap_same (Array.getElem?_eq_some_iff.1 hl3).1,(World.putObj_heap_other (by omega)).trans (hk3.same _ _ hk2 rfl)⟩
    rintro e a3 B hp
    cases e with
    | normal =>
      obtain⟨hk3,hb3,hi3⟩:=hp
      obtain⟨hr,hl3,hl4,hk4⟩:=fin none B hk3
      exact⟨_,_,hr,.inl ⟨rfl,⟨hI2 _ _ _ _ (by omega) hi3,hl4,hk4⟩,(hb2.trans hb3).trans (belowK_b (Nat.le_refl _) _ _ _ _ (by omega) hl3 rfl rfl)⟩⟩
    | ret =>
      obtain⟨hk3,hi3⟩:=hp
      obtain⟨hr,hl3,hl4,hk4⟩:=fin (some .ret) B hk3
      exact⟨_,_,hr,.inr ⟨rfl,hX2 _ _ _ _ (by omega) hi3,hl4,hk4⟩⟩
    | exit id=>exact hp.elim
    | goto t=>exact hp.elim
    | panic ch=>exact hp.elim
    | outgrown=>exact hp.elim
end Go.AE
