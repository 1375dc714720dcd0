/-
  The log of a range of lines: what the final state says.
-/
import Derived.Test.YtchgnhinilehiaaGreatDoorCona2
import Derived.Test.YtchgnhinilehiaaGreatDoorCode1
import Derived.Test.YtchgnhinilehiaaGreatDoorCona1
import Derived.Lib.Repeat
import Derived.LoopIn
import Derived.LoopNIn
import Derived.OwnWalkIn
import Derived.RangeFuncBound
import Derived.RangeFuncCalls
import Derived.RangeFuncLeaves
import Derived.RangeFuncNested
import Derived.Shelf.Abstract
import Derived.Shelf.RegionOpen
import Derived.TacticsInMore
import Derived.WalkKit

set_option linter.unusedSimpArgs false
set_option linter.unusedVariables false
set_option linter.unnecessarySimpa false
set_option maxRecDepth 20000
set_option maxHeartbeats 8000000
namespace Go.AE
theorem fix_rank {g:List CommitT} {h:List Int} (hf:Fix (parG g) h):∀c (hc:c<g.length),∀p,p∈g[c].parents→h.getD p.toNat 0<h.getD c 0:=fun c hc p hp=>by
  have:=hf.ge c (by rw[parG_len];exact hc) p (by rw[parG_get hc];exact hp)
  omega
theorem order_P {g:List CommitT} (R:List Bool) (hcl:∀c,R.getD c false=true→True):OrdP g (orderV g R):=by
  have hs:=(orderV_ok g R).steps
  refine⟨hs.rng,hs.nodup,fun k hk p hp hm=>?_⟩
  obtain⟨i,hi,e⟩:=List.mem_take_iff_getElem.1 hm
  have hr:=hs.rng _ (List.getElem_mem hk)
  have hcn:(orderV g R)[k].toNat<g.length:=by omega
  have hR:=hs.inR (orderV g R)[k].toNat (by rw[Int.toNat_of_nonneg hr.1];exact List.getElem_mem hk)
  have hpr:=hs.rng p (List.mem_of_mem_take hm)
  have hb:=hs.before (k:=i) (c:=(orderV g R)[k].toNat) (i:=p.toNat) (by omega) (by rw[e];omega) hcn (by rw[Int.toNat_of_nonneg hpr.1];exact hp) hR
  obtain⟨j,hj,e2⟩:=List.mem_take_iff_getElem.1 hb
  have hn:=hs.nodup
  rw[List.nodup_iff_pairwise_ne,List.pairwise_iff_getElem] at hn
  exact hn j k (by omega) hk (by omega) (by rw[e2];omega)
structure StartOk (g:List CommitT) (path:Str) (start:Nat) (s:SpanT):Prop where
  c:start<g.length
  f:hasF g path start=true
  s0:0≤s.fr
  s1:s.fr<s.to
  s2:s.to≤((linesV (blobG g path start)).length:Int)
theorem track_good {g:List CommitT} (hrel:relG g=true) {path:Str} {start:Nat} {s:SpanT} (hs:StartOk g path start s) {vis:List Int} (hv:∀c:Nat,(c:Int)∈vis→c<g.length) {R:List SpanT} {p:Nat} {x:Int} (h:TrackP g path start s vis R p x):p<g.length∧hasF g path p=true∧0≤x∧x<((linesV (blobG g path p)).length:Int):=by
  rcases h with ⟨rfl,h1,h2⟩ | ⟨c,h1,h2,hf,j,_,_,h5,h6⟩
  · exact⟨hs.c,hs.f,by have:=hs.s0;omega,by have:=hs.s2;omega⟩
  · have hc:=hv c h1
    rw[show g.getD c default=g[c] by simp[List.getD,hc]] at h2
    have hr:=rel_rng hrel hc _ h2
    have hp:=part_rng (blobG g path p) (blobG g path c) j
    rw[show partV (blobG g path p) (blobG g path c) j=partL (prt g path p c) j from rfl] at hp
    exact⟨by omega,hf,h6,by omega⟩
theorem ne_good {g:List CommitT} (hrel:relG g=true) {path:Str} {start:Nat} {s:SpanT} (hs:StartOk g path start s) {vis:List Int} (hv:∀c:Nat,(c:Int)∈vis→c<g.length) {R:List SpanT} {p:Nat} (hh:IsHull (TrackP g path start s vis R p) (R.getD p z0)) (h:(R.getD p z0).fr<(R.getD p z0).to):hasF g path p=true∧0≤(R.getD p z0).fr∧(R.getD p z0).to≤((linesV (blobG g path p)).length:Int):=by
  have h1:=track_good hrel hs hv (hh.low h)
  have h2:=track_good hrel hs hv (hh.high h)
  exact⟨h1.2.1,h1.2.2.1,by omega⟩
structure LogF (g:List CommitT) (path:Str) (start:Nat) (s:SpanT) (o:List Int) (st:LogS):Prop where
  inv:LogI g path start s o st
  mem:∀p,p<g.length→(st.R.getD p z0).fr<(st.R.getD p z0).to→(p:Int)∈o
  good:∀p,p<g.length→(st.R.getD p z0).fr<(st.R.getD p z0).to→hasF g path p=true∧0≤(st.R.getD p z0).fr∧(st.R.getD p z0).to≤((linesV (blobG g path p)).length:Int)
theorem log_F {g:List CommitT} (hrel:relG g=true) {h:List Int} (hf:Fix (parG g) h) {path:Str} {start:Nat} {s:SpanT} (hs:StartOk g path start s):LogF g path start s (orderS g start) (followS g path start s):=by
  have ho:=order_P (g:=g) (reachV (parG g) [(start:Int)]) (fun _ _=>trivial)
  have hi:=follow_I hrel (path:=path) (s:=s) ho hs.c hs.s1 (orderS g start).length (Nat.le_refl _)
  rw[show orderV g (reachV (parG g) [(start:Int)])=orderS g start from rfl] at hi ho
  rw[List.take_length] at hi
  have hi':LogI g path start s (orderS g start) (followS g path start s):=hi
  have hall:=(orderV_ok g (reachV (parG g) [(start:Int)])).all (fun c=>h.getD c 0) (fix_rank hf)
  have hin:=(orderV_ok g (reachV (parG g) [(start:Int)])).steps.inR
  have hv:∀c:Nat,(c:Int)∈orderS g start→c<g.length:=fun c hc=>by have:=ho.rng _ hc;omega
  refine⟨hi',fun p hp hne=>?_,fun p hp hne=>ne_good hrel hs hv (hi'.hull p hp) hne⟩
  rcases (hi'.hull p hp).low hne with ⟨rfl,_⟩ | ⟨c,h1,h2,_⟩
  · refine hall p hp (reach_from (p:=(p:Int)) (by simp) (by rw[parG_len];simpa using hp))
  · have hc:=hv c h1
    refine hall p hp ?_
    have:=reach_closed (hin c h1) (by rw[parG_len];exact hc) (p:=(p:Int)) (by rw[parG_get hc,show g[c]=g.getD c default by simp[List.getD,hc]];exact h2) (by rw[parG_len];simpa using hp)
    simpa using this
/-! ### lists of visits -/
def findV (l:List VisitT) (c:Int):Option SpanT:=(l.find? fun v=>decide (v.commit=c)).map VisitT.lines
theorem findV_map {R:List SpanT} {q:Int→Bool} {c:Int}:∀{o:List Int},findV ((o.filter q).map (visV R)) c=if c∈o∧q c=true then some (R.getD c.toNat z0) else none
  | []=>by simp[findV]
  | x::o=>by
    have ih:=findV_map (R:=R) (q:=q) (c:=c) (o:=o)
    unfold findV at ih ⊢
    rw[List.filter_cons]
    by_cases hq:q x=true
    · rw[if_pos hq,List.map_cons,List.find?_cons]
      by_cases e:x=c
      · subst e
        simp[visV,hq]
      · have:decide ((visV R x).commit=c)=false:=by simpa [visV] using e
        rw[this]
        simp only
        rw[ih]
        have:c∈x::o↔c∈o:=by rw[List.mem_cons];exact⟨fun h=>h.elim (fun h=>(e h.symm).elim) id,.inr⟩
        simp only[this]
    · rw[if_neg hq,ih]
      by_cases e:x=c
      · subst e
        simp[hq]
      · have:c∈x::o↔c∈o:=by rw[List.mem_cons];exact⟨fun h=>h.elim (fun h=>(e h.symm).elim) id,.inr⟩
        simp only[this]
theorem LogF.find {g:List CommitT} {path:Str} {start:Nat} {s:SpanT} {o:List Int} {st:LogS} (h:LogF g path start s o st) {c:Nat} (hc:c<g.length):findV st.V (c:Int)=if (st.R.getD c z0).fr<(st.R.getD c z0).to then some (st.R.getD c z0) else none:=by
  rw[h.inv.V,findV_map,Int.toNat_natCast]
  by_cases e:(st.R.getD c z0).fr<(st.R.getD c z0).to
  · rw[if_pos e,if_pos ⟨h.mem c hc e,by unfold neS;rw[Int.toNat_natCast];exact decide_eq_true e⟩]
  · rw[if_neg e,if_neg]
    rintro⟨_,h2⟩
    unfold neS at h2
    rw[Int.toNat_natCast] at h2
    exact e (of_decide_eq_true h2)
end Go.AE
namespace Go.AE
def partF:List ChangeT→Int→Int→Int→Int
  | [],i,j,x=>i+(x-j)
  | c::l,i,j,x=>if x<c.new then i+(x-j) else if x<c.new+c.newLen then -1 else partF l (c.old+c.oldLen) (c.new+c.newLen) x
theorem partL_run:∀(k:Nat) (i j x:Int) (r:List SpanT),partL (runN k i j++r) x=if j≤x∧x<j+k then i+(x-j) else partL r x
  | 0,i,j,x,r=>by rw[if_neg (by omega)];rfl
  | k+1,i,j,x,r=>by
    rw[runN,List.cons_append,partL]
    simp only
    by_cases e:j=x
    · rw[if_pos e,if_pos (by omega)];omega
    · rw[if_neg e,partL_run k]
      by_cases h:j+1≤x∧x<j+1+k
      · rw[if_pos h,if_pos (by omega)];omega
      · rw[if_neg h,if_neg (by omega)]
theorem partL_mat:∀(l:List ChangeT) (i j m n:Int) (fst:Bool) (x:Int),okV l i j fst m n=true→j≤x→x<n→partL (matV l i j m) x=partF l i j x
  | [],i,j,m,n,fst,x,h,h1,h2=>by
    simp only[okV,Bool.and_eq_true,decide_eq_true_eq] at h
    have:=partL_run (m-i).toNat i j x []
    rw[List.append_nil] at this
    rw[matV,this,if_pos (by omega)]
    rfl
  | c::l,i,j,m,n,fst,x,h,h1,h2=>by
    simp only[okV,Bool.and_eq_true] at h
    obtain⟨a1,a2,a3,a4,a5,a6,a7,a8⟩:=stepV_true h.1
    rw[matV,partL_run,partF]
    by_cases e1:x<c.new
    · rw[if_pos (by omega),if_pos e1]
    · rw[if_neg (by omega),if_neg e1]
      by_cases e2:x<c.new+c.newLen
      · rw[if_pos e2]
        exact partL_no fun s hs=>by have:=matV_mem _ _ _ _ _ _ h.2 s hs;omega
      · rw[if_neg e2]
        exact partL_mat l _ _ m n false x h.2 (by omega) h2
theorem partF_add:∀(l:List ChangeT) (i j m n:Int) (fst:Bool) (x:Int),okV l i j fst m n=true→0≤i→j≤x→x<n→partF l i j x<0→∃c,c∈l∧c.new≤x∧x<c.new+c.newLen
  | [],i,j,m,n,fst,x,h,hi,h1,h2,h3=>by unfold partF at h3;omega
  | c::l,i,j,m,n,fst,x,h,hi,h1,h2,h3=>by
    simp only[okV,Bool.and_eq_true] at h
    obtain⟨a1,a2,a3,a4,a5,a6,a7,a8⟩:=stepV_true h.1
    rw[partF] at h3
    by_cases e1:x<c.new
    · rw[if_pos e1] at h3;omega
    · rw[if_neg e1] at h3
      by_cases e2:x<c.new+c.newLen
      · exact⟨c,by simp,by omega,e2⟩
      · rw[if_neg e2] at h3
        obtain⟨c',b1,b2⟩:=partF_add l _ _ m n false x h.2 (by omega) (by omega) h2 h3
        exact⟨c',List.mem_cons_of_mem _ b1,b2⟩
theorem okV_news:∀(l:List ChangeT) (i j m n:Int) (fst:Bool),okV l i j fst m n=true→∀c,c∈l→j≤c.new∧(fst=false→j<c.new)∧c.new+c.newLen≤n
  | [],_,_,_,_,_,_,c,hc=>by cases hc
  | d::l,i,j,m,n,fst,h,c,hc=>by
    have hle:=okV_le _ _ _ _ _ _ h
    simp only[okV,Bool.and_eq_true] at h
    obtain⟨a1,a2,a3,a4,a5,a6,a7,a8⟩:=stepV_true h.1
    have hle2:=okV_le _ _ _ _ _ _ h.2
    rcases List.mem_cons.1 hc with rfl | hc
    · refine⟨by omega,fun hf=>?_,by omega⟩
      have:=a8 hf
      omega
    · have:=okV_news l _ _ m n false h.2 c hc
      refine⟨by omega,fun _=>by have:=this.2.1 rfl;omega,by omega⟩
theorem add_partF:∀(l:List ChangeT) (i j m n:Int) (fst:Bool) (x:Int),okV l i j fst m n=true→∀c,c∈l→c.new≤x→x<c.new+c.newLen→partF l i j x=-1
  | [],_,_,_,_,_,_,_,c,hc,_,_=>by cases hc
  | d::l,i,j,m,n,fst,x,h,c,hc,h1,h2=>by
    simp only[okV,Bool.and_eq_true] at h
    obtain⟨a1,a2,a3,a4,a5,a6,a7,a8⟩:=stepV_true h.1
    rw[partF]
    rcases List.mem_cons.1 hc with rfl | hc
    · rw[if_neg (by omega),if_pos h2]
    · have:=okV_news l _ _ m n false h.2 c hc
      rw[if_neg (by omega),if_neg (by omega)]
      exact add_partF l _ _ m n false x h.2 c hc h1 h2
theorem jump_del:∀(l:List ChangeT) (i j m n:Int) (fst:Bool) (x:Int),okV l i j fst m n=true→0≤i→j<x→x<n→0≤partF l i j (x-1)→0≤partF l i j x→partF l i j x≠partF l i j (x-1)+1→∃c,c∈l∧c.newLen=0∧c.new=x
  | [],i,j,m,n,fst,x,h,hi,h1,h2,h3,h4,h5=>by unfold partF at h5;omega
  | c::l,i,j,m,n,fst,x,h,hi,h1,h2,h3,h4,h5=>by
    simp only[okV,Bool.and_eq_true] at h
    obtain⟨a1,a2,a3,a4,a5,a6,a7,a8⟩:=stepV_true h.1
    rw[partF] at h3 h4
    rw[partF,partF] at h5
    by_cases e1:x<c.new
    · rw[if_pos e1,if_pos (by omega)] at h5;omega
    · rw[if_neg e1] at h4 h5
      by_cases e2:x<c.new+c.newLen
      · rw[if_pos e2] at h4;omega
      · rw[if_neg e2] at h4 h5
        by_cases e3:x-1<c.new
        · refine⟨c,by simp,by omega,by omega⟩
        · rw[if_neg e3] at h3 h5
          by_cases e4:x-1<c.new+c.newLen
          · rw[if_pos e4] at h3;omega
          · rw[if_neg e4] at h3 h5
            obtain⟨c',b1,b2⟩:=jump_del l _ _ m n false x h.2 (by omega) (by omega) h2 h3 h4 h5
            exact⟨c',List.mem_cons_of_mem _ b1,b2⟩
theorem del_jump:∀(l:List ChangeT) (i j m n:Int) (fst:Bool) (x:Int),okV l i j fst m n=true→0≤i→j<x→x<n→∀c,c∈l→c.newLen=0→c.new=x→partF l i j (x-1)<0∨partF l i j x<0∨partF l i j x≠partF l i j (x-1)+1
  | [],_,_,_,_,_,_,_,_,_,_,c,hc,_,_=>by cases hc
  | d::l,i,j,m,n,fst,x,h,hi,h1,h2,c,hc,h3,h4=>by
    simp only[okV,Bool.and_eq_true] at h
    obtain⟨a1,a2,a3,a4,a5,a6,a7,a8⟩:=stepV_true h.1
    rcases List.mem_cons.1 hc with rfl | hc
    · have hnx:partF l (c.old+c.oldLen) (c.new+c.newLen) x=c.old+c.oldLen:=by
        cases l with
        | nil=>unfold partF;omega
        | cons e l =>
          have:=okV_news _ _ _ m n false h.2 e (by simp)
          have h5:=this.2.1 rfl
          rw[partF,if_pos (by omega)]
          omega
      right;right
      rw[partF,partF,if_neg (by omega),if_neg (by omega),if_pos (by omega),hnx]
      omega
    · have hn:=okV_news l _ _ m n false h.2 c hc
      have hlt:=hn.2.1 rfl
      have eA:partF (d::l) i j x=partF l (d.old+d.oldLen) (d.new+d.newLen) x:=by rw[partF,if_neg (by omega),if_neg (by omega)]
      rw[eA,partF]
      by_cases e3:x-1<d.new
      · omega
      · rw[if_neg e3]
        by_cases e4:x-1<d.new+d.newLen
        · rw[if_pos e4];left;omega
        · rw[if_neg e4]
          exact del_jump l _ _ m n false x h.2 (by omega) (by omega) h2 c hc h3 h4
def overV (l:List ChangeT) (s:SpanT):Bool:=l.any fun c=>(decide (c.new<s.to) && (decide (s.fr<c.new+c.newLen) && decide (0<c.newLen))) || (decide (c.newLen=0) && (decide (s.fr<c.new) && decide (c.new<s.to)))
theorem touch_over {l:List ChangeT} {m n:Int} (h:checkV l m n=true) {s:SpanT} (h0:0≤s.fr) (h1:s.fr<s.to) (h2:s.to≤n):touchP (matV l 0 0 m) s=overV l s:=by
  simp only[checkV,Bool.and_eq_true] at h
  have hm:=fun x (a:0≤x) (b:x<n)=>partL_mat l 0 0 m n true x h.2 a b
  rw[Bool.eq_iff_iff]
  unfold touchP overV
  rw[List.any_eq_true,List.any_eq_true]
  constructor
  · rintro⟨k,hk,ht⟩
    rw[List.mem_range] at hk
    rw[Bool.or_eq_true,Bool.and_eq_true,decide_eq_true_eq,decide_eq_true_eq,decide_eq_true_eq,hm _ (by omega) (by omega)] at ht
    by_cases e1:partF l 0 0 (s.fr+k)<0
    · obtain⟨c,c1,c2,c3⟩:=partF_add l 0 0 m n true _ h.2 (by omega) (by omega) (by omega) e1
      exact⟨c,c1,by simp;omega⟩
    · obtain⟨hk0,hne⟩:=ht.resolve_left e1
      rw[hm _ (by omega) (by omega)] at hne
      by_cases e2:partF l 0 0 (s.fr+k-1)<0
      · obtain⟨c,c1,c2,c3⟩:=partF_add l 0 0 m n true _ h.2 (by omega) (by omega) (by omega) e2
        exact⟨c,c1,by simp;omega⟩
      · obtain⟨c,c1,c2,c3⟩:=jump_del l 0 0 m n true _ h.2 (by omega) (by omega) (by omega) (by omega) (by omega) hne
        exact⟨c,c1,by simp;omega⟩
  · rintro⟨c,hc,ho⟩
    have hcn:=okV_news l 0 0 m n true h.2 c hc
    have hcl:0≤c.newLen:=by
      have:∀(l:List ChangeT) (i j:Int) (f:Bool),okV l i j f m n=true→∀c,c∈l→0≤c.newLen:=by
        intro l
        induction l with
        | nil=>intro _ _ _ _ c hc;cases hc
        | cons d l ih =>
          intro i j f h c hc
          simp only[okV,Bool.and_eq_true] at h
          rcases List.mem_cons.1 hc with rfl | hc
          · exact (stepV_true h.1).2.2.2.1.1
          · exact ih _ _ _ h.2 c hc
      exact this l 0 0 true h.2 c hc
    simp only[Bool.or_eq_true,Bool.and_eq_true,decide_eq_true_eq] at ho
    rcases ho with ⟨o1,o2,o3⟩ | ⟨o1,o2,o3⟩
    · -- the first line of the range that the change adds
      obtain⟨x,hx⟩:∃x,x=max c.new s.fr:=⟨_,rfl⟩
      have hp:=add_partF l 0 0 m n true x h.2 c hc (by omega) (by omega)
      refine⟨(x-s.fr).toNat,List.mem_range.2 (by omega),?_⟩
      rw[show s.fr+((x-s.fr).toNat:Int)=x by omega,hm x (by omega) (by omega),hp]
      simp
    · have hj:=del_jump l 0 0 m n true c.new h.2 (by omega) (by omega) (by omega) c hc o1 rfl
      have q1:=hm c.new (by omega) (by omega)
      have q2:=hm (c.new-1) (by omega) (by omega)
      by_cases e1:partF l 0 0 (c.new-1)<0
      · refine⟨(c.new-1-s.fr).toNat,List.mem_range.2 (by omega),?_⟩
        rw[show s.fr+((c.new-1-s.fr).toNat:Int)=c.new-1 by omega,q2]
        simp[e1]
      · refine⟨(c.new-s.fr).toNat,List.mem_range.2 (by omega),?_⟩
        rw[show s.fr+((c.new-s.fr).toNat:Int)=c.new by omega,q1,q2]
        have e2:=hj.resolve_left e1
        have:0<(c.new-s.fr).toNat:=by omega
        simp only[Bool.or_eq_true,Bool.and_eq_true,decide_eq_true_eq]
        rcases e2 with e2 | e2
        · exact .inl e2
        · exact .inr ⟨this,e2⟩
/-! ### the origin of a line is tracked -/
end Go.AE
namespace Go.AE
/-! ### sources and visits as data -/
deriving instance DecidableEq,Inhabited for SrcT
instance:Rep SrcT where
  size:=2
  to x:=.agg [.int .i64 x.parent,Rep.to x.lines]
  of
    | .agg [.int .i64 a,b]=>(Rep.of (α:=List Int) b).map fun r=>⟨a,r⟩
    | _=>none
  of_to x:=by simp only[Rep.of_to];rfl
  rep d x h w I v r:=by
    split at h
    · rename_i a b
      simp only[Option.map_eq_some_iff] at h
      obtain⟨rows,h1,rfl⟩:=h
      cases r with
      | agg cs vs hl ho hr =>
        refine .agg _ _ (by simpa using hl) rfl (fun k hk=>?_)
        have hk':k<2:=by simpa using hk
        match k,hk' with
        | 0,_=>exact hr 0 (by simp)
        | 1,_=>exact Rep.rep _ _ h1 _ _ _ (hr 1 (by simp))
    · simp at h
  fits x:=rfl
@[simp] theorem to_Src (x:SrcT):Rep.to x=D.agg [.int .i64 x.parent,.sl 1 (x.lines.map Rep.to)]:=rfl
@[simp] theorem size_Src:Rep.size SrcT=2:=rfl
@[simp] theorem of_Src (a:Int) (b:D):Rep.of (α:=SrcT) (.agg [.int .i64 a,b])=(Rep.of (α:=List Int) b).map fun r=>⟨a,r⟩:=rfl
instance:Rep VisitT where
  size:=3
  to x:=.agg [.int .i64 x.commit,.int .i64 x.lines.fr,.int .i64 x.lines.to]
  of
    | .agg [.int .i64 a,.int .i64 b,.int .i64 c]=>some ⟨a,⟨b,c⟩⟩
    | _=>none
  of_to x:=rfl
  rep d x h w I v r:=by
    split at h
    · simp at h;subst h;exact r
    · simp at h
  fits x:=rfl
@[simp] theorem to_Visit (x:VisitT):Rep.to x=D.agg [.int .i64 x.commit,.int .i64 x.lines.fr,.int .i64 x.lines.to]:=rfl
@[simp] theorem size_Visit:Rep.size VisitT=3:=rfl
@[simp] theorem of_Visit (a b c:Int):Rep.of (α:=VisitT) (.agg [.int .i64 a,.int .i64 b,.int .i64 c])=some ⟨a,⟨b,c⟩⟩:=rfl
/-! ### files found -/
theorem find_hit:∀{l:List FileT} {p:Str} {i:Nat} (h:i<l.length),(∀k (hk:k<l.length),k<i→l[k].path≠p)→l[i].path=p→inB l p=true∧blobF l p=l[i].blob
  | f::l,p,0,h,_,e=>by
    simp only[List.getElem_cons_zero] at e ⊢
    exact⟨by simp[inB,e],by rw[blobF,if_pos e]⟩
  | f::l,p,i+1,h,hn,e=>by
    simp only[List.getElem_cons_succ] at e ⊢
    have h0:f.path≠p:=hn 0 (by simp) (by omega)
    obtain⟨h1,h2⟩:=find_hit (l:=l) (i:=i) (by simpa using h) (fun k hk hki=>by
      have:=hn (k+1) (by simp;omega) (by omega)
      simpa using this) e
    exact⟨by simp[inB,h1],by rw[blobF,if_neg h0];exact h2⟩
theorem find_miss:∀{l:List FileT} {p:Str},(∀k (hk:k<l.length),l[k].path≠p)→inB l p=false∧blobF l p=[]
  | [],_,_=>⟨rfl,rfl⟩
  | f::l,p,hn=>by
    have h0:f.path≠p:=hn 0 (by simp)
    obtain⟨h1,h2⟩:=find_miss (l:=l) (p:=p) (fun k hk=>by
      have:=hn (k+1) (by simp;omega)
      simpa using this)
    exact⟨by simp[inB,h1,h0],by rw[blobF,if_neg h0];exact h2⟩
/-! ### the pairs of a script -/
theorem okV_bound:∀(l:List ChangeT) (i j m n:Int) (fst:Bool),okV l i j fst m n=true→i≤m∧j≤n∧(∀c,c∈l→c.old≤m∧c.new≤n)
  | [],i,j,m,n,fst,h=>by
    simp only[okV,Bool.and_eq_true,decide_eq_true_eq] at h
    exact⟨by omega,by omega,fun c hc=>by cases hc⟩
  | c::l,i,j,m,n,fst,h=>by
    simp only[okV,Bool.and_eq_true] at h
    obtain⟨h1,h1',h3⟩:=okV_bound l _ _ _ _ _ h.2
    have h2:=stepV_true h.1
    refine⟨by omega,by omega,fun d hd=>?_⟩
    rcases List.mem_cons.1 hd with rfl | hd
    · omega
    · exact h3 d hd
theorem run_asc {p:List SpanT} {m n:Int}:∀(k:Nat) (i j:Int),i+k≤m→j+k≤n→ascB p (i+k) (j+k) m n=true→ascB (runN k i j++p) i j m n=true
  | 0,i,j,_,_,h=>by simpa [runN] using h
  | k+1,i,j,h1,h2,h=>by
    have ih:=run_asc (p:=p) (m:=m) (n:=n) k (i+1) (j+1) (by omega) (by omega) (by
      rw[show i+1+(k:Int)=i+((k+1:Nat):Int) by omega,show j+1+(k:Int)=j+((k+1:Nat):Int) by omega];exact h)
    simp only[runN,List.cons_append,ascB,Bool.and_eq_true,decide_eq_true_eq]
    exact⟨⟨⟨⟨by omega,by omega⟩,by omega⟩,by omega⟩,ih⟩
theorem asc_weak:∀{p:List SpanT} {i j i' j' m n:Int},i'≤i→j'≤j→ascB p i j m n=true→ascB p i' j' m n=true
  | [],_,_,_,_,_,_,_,_,_=>rfl
  | s::p,i,j,i',j',m,n,h1,h2,h=>by
    simp only[ascB,Bool.and_eq_true,decide_eq_true_eq] at h ⊢
    exact⟨⟨⟨⟨by omega,h.1.1.1.2⟩,by omega⟩,h.1.2⟩,h.2⟩
theorem matV_asc:∀(l:List ChangeT) (i j m n:Int) (fst:Bool),okV l i j fst m n=true→ascB (matV l i j m) i j m n=true
  | [],i,j,m,n,fst,h=>by
    simp only[okV,Bool.and_eq_true,decide_eq_true_eq] at h
    have:=run_asc (p:=[]) (m:=m) (n:=n) (m-i).toNat i j (by omega) (by omega) rfl
    simpa [matV] using this
  | c::l,i,j,m,n,fst,h=>by
    have hb:=(okV_bound _ _ _ _ _ _ h).2.2 c (by simp)
    simp only[okV,Bool.and_eq_true] at h
    have h2:=stepV_true h.1
    have ih:=matV_asc l _ _ _ _ _ h.2
    rw[matV]
    refine run_asc _ _ _ (by omega) (by omega) (asc_weak (by omega) (by omega) ih)
theorem check_asc {l:List ChangeT} {m n:Int} (h:checkV l m n=true):(0≤m∧m≤4096)∧(0≤n∧n≤4096)∧ascB (matV l 0 0 m) 0 0 m n=true∧(matV l 0 0 m).length≤4096:=by
  simp only[checkV,Bool.and_eq_true] at h
  have h1:=inV_true h.1.1
  have h2:=inV_true h.1.2
  have h3:=matV_len _ _ _ _ _ _ h.2
  exact⟨h1,h2,matV_asc _ _ _ _ _ _ h.2,by omega⟩
/-! ### partners of a span -/
def trkK (p:List SpanT) (s:SpanT) (k:Nat):List Int:=(List.range (s.to-s.fr).toNat).map fun (j:Nat)=>partL (p.take k) (s.fr+j)
def trkV (p:List SpanT) (s:SpanT):List Int:=(List.range (s.to-s.fr).toNat).map fun (j:Nat)=>partL p (s.fr+j)
theorem trkK_len (p:List SpanT) (s:SpanT) (k:Nat):(trkK p s k).length=(s.to-s.fr).toNat:=by simp[trkK]
theorem trkV_len (p:List SpanT) (s:SpanT):(trkV p s).length=(s.to-s.fr).toNat:=by simp[trkV]
theorem trkK_all (p:List SpanT) (s:SpanT):trkK p s p.length=trkV p s:=by unfold trkK trkV;rw[List.take_length]
theorem trkK_zero (p:List SpanT) (s:SpanT):trkK p s 0=List.replicate (s.to-s.fr).toNat (-1):=by
  unfold trkK
  apply List.ext_getElem
  · simp
  · intro i h1 h2
    simp[partL]
theorem trkV_get {p:List SpanT} {s:SpanT} {k:Nat} (h:k<(trkV p s).length):(trkV p s)[k]=partL p (s.fr+k):=by simp[trkV]
theorem trkK_succ {p:List SpanT} {s:SpanT} {k:Nat} (hp:p.Pairwise fun x y=>x.to<y.to) (h:k<p.length):trkK p s (k+1)=if s.fr≤p[k].to∧p[k].to<s.to then (trkK p s k).set (p[k].to-s.fr).toNat p[k].fr else trkK p s k:=by
  have ht:p.take (k+1)=p.take k++[p[k]]:=List.take_succ_eq_append_getElem h
  have hno:∀x,x∈p.take k→x.to≠p[k].to:=fun x hx=>by
    obtain⟨q,hq,rfl⟩:=List.mem_take_iff_getElem.1 hx
    rw[List.pairwise_iff_getElem] at hp
    have:=hp q k (by omega) h (by omega)
    omega
  split
  · rename_i hr
    apply List.ext_getElem
    · simp[trkK]
    · intro i h1 h2
      have hi:i<(s.to-s.fr).toNat:=by simpa [trkK] using h1
      rw[List.getElem_set]
      simp only[trkK,List.getElem_map,List.getElem_range,ht,partL_snoc]
      by_cases e:(p[k].to-s.fr).toNat=i
      · rw[if_pos e,if_pos]
        exact⟨fun x hx=>by have:=hno x hx;omega,by omega⟩
      · rw[if_neg e,if_neg]
        rintro⟨_,e2⟩
        omega
  · rename_i hr
    apply List.ext_getElem
    · simp[trkK]
    · intro i h1 h2
      have hi:i<(s.to-s.fr).toNat:=by simpa [trkK] using h1
      simp only[trkK,List.getElem_map,List.getElem_range,ht,partL_snoc]
      rw[if_neg]
      rintro⟨_,e2⟩
      omega
def touchK (p:List SpanT) (fr:Int) (k:Nat):Bool:=(List.range k).any fun (k:Nat)=>decide (partL p (fr+k)<0) || (decide (0<k) && decide (partL p (fr+k)≠partL p (fr+k-1)+1))
theorem touchK_zero (p:List SpanT) (fr:Int):touchK p fr 0=false:=rfl
theorem touchK_succ (p:List SpanT) (fr:Int) (k:Nat):touchK p fr (k+1)=(touchK p fr k || (decide (partL p (fr+k)<0) || (decide (0<k) && decide (partL p (fr+k)≠partL p (fr+k-1)+1)))):=by
  unfold touchK
  rw[List.range_succ,List.any_append]
  simp
theorem touchK_hit {p:List SpanT} {fr:Int} {k m:Nat} (hk:k<m) (h:partL p (fr+k)<0∨(0<k∧partL p (fr+k)≠partL p (fr+k-1)+1)):touchK p fr m=true:=by
  unfold touchK
  rw[List.any_eq_true]
  refine⟨k,by simpa using hk,?_⟩
  simpa using h
theorem filesE_all {g:List CommitT} (h:filesE g=0):∀c,c∈g→treeE c.files=0:=by
  unfold filesE at h
  split at h
  · rename_i c hc
    have:=List.find?_some hc
    simp at this
    exact (this h).elim
  · rename_i hn
    rw[List.find?_eq_none] at hn
    intro c hc
    simpa using hn c hc
theorem tree_blobs {l:List FileT} (h:treeE l=0):l.length≤200∧∀f,f∈l→checkT f.blob=0:=by
  unfold treeE at h
  split at h
  · cases h
  · rename_i h1
    split at h
    · cases h
    · split at h
      · split at h
        · cases h
        · rename_i h3
          refine⟨by omega,fun f hf=>?_⟩
          rw[Bool.not_eq_true,List.any_eq_false] at h3
          have:=h3 f hf
          simpa using this
      · cases h
structure GV (g:List CommitT):Prop where
  c:dagC g=0
  ok:GraphOk g
  rel:relG g=true
  files:∀c,c∈g→c.files.length≤200∧∀f,f∈c.files→checkT f.blob=0
  par:∀c,c∈g→c.parents.length≤32
  len:g.length≤300
theorem GV.of {g:List CommitT} (h:dagC g=0) (ho:GraphOk g):GV g:=by
  have hl:=dagC_lim h
  refine⟨h,ho,hl.2.1,fun c hc=>tree_blobs (filesE_all hl.2.2.2.2 c hc),fun c hc=>lim_par hl.1 c hc,?_⟩
  have:=hl.1
  unfold limB at this
  simp only[Bool.and_eq_true,decide_eq_true_eq] at this
  exact this.1
theorem GV.fix {g:List CommitT} (h:GV g):∃hh,Fix (parG g) hh:=⟨_,hUp_fix (relG_ok h.rel) (by rw[parG_len];exact (dagC_lim h.c).2.2.1)⟩
theorem check_nil:checkT []=0:=by decide
theorem check_len {s:Str} (h:checkT s=0):s.length≤1048576:=by
  unfold checkT at h
  split at h
  · rename_i h2;exact h2.1
  · cases h
theorem check_blobF {l:List FileT} {p:Str} (h:∀f,f∈l→checkT f.blob=0):checkT (blobF l p)=0:=by
  by_cases e:inB l p=true
  · obtain⟨f,h1,_,h2⟩:=blobF_mem e
    rw[← h2]
    exact h f h1
  · rw[blobF_none (by simpa using e)]
    exact check_nil
theorem GV.blob {g:List CommitT} (h:GV g) {c:Nat} (hc:c<g.length) (path:Str):checkT (blobG g path c)=0:=by
  unfold blobG
  rw[show g.getD c default=g[c] by simp[List.getD,hc]]
  exact check_blobF (h.files _ (List.getElem_mem hc)).2
theorem GV.prng {g:List CommitT} (h:GV g) {c:Nat} (hc:c<g.length):∀p,p∈g[c].parents→0≤p∧p<(g.length:Int):=rel_rng h.rel hc
/-! ### the script of two blobs -/
def scr (a b:Str):List ChangeT:=scriptV ((ids2 a b).getD 0 []) ((ids2 a b).getD 1 [])
theorem ids2_l0 (a b:Str):((ids2 a b).getD 0 []).length=(linesV a).length:=by rw[ids2_0];simp
theorem ids2_l1 (a b:Str):((ids2 a b).getD 1 []).length=(linesV b).length:=by rw[ids2_1];simp
theorem scr_ok {a b:Str} (ha:checkT a=0) (hb:checkT b=0):checkV (scr a b) (linesV a).length (linesV b).length=true∧matV (scr a b) 0 0 (linesV a).length=pairsS a b:=by
  have h1:=checkT_lines ha
  have h2:=checkT_lines hb
  have h:=script_ok (a:=(ids2 a b).getD 0 []) (b:=(ids2 a b).getD 1 []) (by rw[ids2_l0];exact h1) (by rw[ids2_l1];exact h2)
  rw[ids2_l0,ids2_l1] at h
  exact⟨h.1,h.2.1⟩
theorem scr_blobs {a b:Str} (ha:checkT a=0) (hb:checkT b=0):blobsD a b=.tup [Rep.to (scr a b),.int .i64 0]:=by
  unfold blobsD
  rw[if_pos ha,if_pos hb]
  rfl
theorem okV_len:∀(l:List ChangeT) (i j m n:Int) (fst:Bool),0≤i→0≤j→okV l i j fst m n=true→(l.length:Int)≤(m-i)+(n-j)
  | [],i,j,m,n,fst,_,_,h=>by
    simp only[okV,Bool.and_eq_true,decide_eq_true_eq] at h
    simp
    omega
  | c::l,i,j,m,n,fst,h0,h1,h=>by
    simp only[okV,Bool.and_eq_true] at h
    have h2:=stepV_true h.1
    have ih:=okV_len l _ _ _ _ _ (by omega) (by omega) h.2
    simp
    omega
theorem check_clen {l:List ChangeT} {m n:Int} (h:checkV l m n=true):l.length≤8192:=by
  simp only[checkV,Bool.and_eq_true] at h
  have h1:=inV_true h.1.1
  have h2:=inV_true h.1.2
  have:=okV_len _ _ _ _ _ _ (by omega) (by omega) h.2
  omega
@[simp] def S_tree_Find:List D→Prop × D:=spec2 (α:=List FileT) (β:=Str) (fun l _=>l.length≤9223372036854775807) (fun l p=>.tup [.str (blobF l p),.bool (inB l p)])
theorem ct_tree_Find {P:Program} {f:Nat} {G:Gam} (h:CodeOf P f 2 10 [2,3] x_tree_Find) (hG:GamOk P G):Has P f S_tree_Find:=h.has2 hG fun l p hp=>by
  simp[x_tree_Find]
  refine vc_lp (σ:=Nat) (fun i=>i≤l.length∧∀k (h:k<l.length),k<i→l[k].path≠p) (fun i=>l.length-i)
    (fun i=>[.d (Rep.to l),.d (.str p),.any,.any,.any,.d (Rep.to l),.d (.int .i64 l.length),.d (.int .i64 i),.any,.any]) (fun _=>[]) 0 (by simp) (by simp) ⟨by simp,by simp⟩ ?_
  rintro i ⟨hi,hn⟩
  by_cases hil:i<l.length
  · have w1:IntKind.i64.wrap ((i:Int)+1)=(i:Int)+1:=wrap_in (by omega) (by omega)
    by_cases e:l[i].path=p
    · obtain⟨h1,h2⟩:=find_hit hil hn e
      simp[hil,getD_map,e,h1,h2]
    · have hnx:∀k (h:k<l.length),k<i+1→l[k].path≠p:=fun k h hk=>by
        by_cases e2:k=i
        · subst e2;exact e
        · exact hn k h (by omega)
      simp[hil,getD_map,e,w1]
      exact Nxt.mk (i+1) (by omega) (by simp) (by simp) ⟨by omega,hnx⟩
  · have h9:i=l.length:=by omega
    subst h9
    obtain⟨h1,h2⟩:=find_miss (l:=l) (p:=p) fun k hk=>hn k hk hk
    simp[h1,h2]
@[simp] def S_ref21_Find:List D→Prop × D:=spec2 (α:=List FileT) (β:=Str) (fun l _=>l.length≤9223372036854775807) (fun l p=>.tup [.str (blobF l p),.bool (inB l p)])
theorem ct_ref21_Find {P:Program} {f:Nat} {G:Gam} (h:CodeOf P f 2 7 [2,3] x_ref21_Find) (hG:GamOk P G):Has P f S_ref21_Find:=h.has2 hG fun l p hp=>by
  simp[x_ref21_Find]
  refine vc_lp (σ:=Nat) (fun i=>i≤l.length∧∀k (h:k<l.length),k<i→l[k].path≠p) (fun i=>l.length-i)
    (fun i=>[.d (Rep.to l),.d (.str p),.any,.any,.d (.int .i64 i),.any,.any]) (fun _=>[]) 0 (by simp) (by simp) ⟨by simp,by simp⟩ ?_
  rintro i ⟨hi,hn⟩
  by_cases hil:i<l.length
  · have w1:IntKind.i64.wrap ((i:Int)+1)=(i:Int)+1:=wrap_in (by omega) (by omega)
    by_cases e:l[i].path=p
    · obtain⟨h1,h2⟩:=find_hit hil hn e
      simp[hil,getD_map,e,h1,h2]
    · have hnx:∀k (h:k<l.length),k<i+1→l[k].path≠p:=fun k h hk=>by
        by_cases e2:k=i
        · subst e2;exact e
        · exact hn k h (by omega)
      simp[hil,getD_map,e,w1]
      exact Nxt.mk (i+1) (by omega) (by simp) (by simp) ⟨by omega,hnx⟩
  · have h9:i=l.length:=by omega
    subst h9
    obtain⟨h1,h2⟩:=find_miss (l:=l) (p:=p) fun k hk=>hn k hk hk
    simp[h1,h2]
@[simp] def S_gen_Visits:List D→Prop × D:=spec2 (α:=List VisitT) (β:=List VisitT) (fun a _=>a.length≤9223372036854775807) (fun a b=>Rep.to (decide (a=b)))
theorem visit_ext {x y:VisitT} (h1:x.commit=y.commit) (h2:x.lines.fr=y.lines.fr) (h3:x.lines.to=y.lines.to):x=y:=by
  obtain⟨a,b,c⟩:=x
  obtain⟨d,e,f⟩:=y
  simp_all
theorem ct_gen_Visits {P:Program} {f:Nat} {G:Gam} (h:CodeOf P f 2 7 [2] x_gen_Visits) (hG:GamOk P G):Has P f S_gen_Visits:=h.has2 hG fun a b hp=>by
  by_cases hl:a.length=b.length
  · simp[x_gen_Visits,hl]
    refine vc_lp (σ:=Nat) (fun i=>i≤a.length∧∀k (h:k<a.length),k<i→a[k]=b[k]) (fun i=>a.length-i)
      (fun i=>[.d (Rep.to a),.d (Rep.to b),.any,.d (.int .i64 i),.any,.any,.any]) (fun _=>[]) 0 (by simp) (by simp) ⟨by simp,by simp⟩ ?_
    rintro i ⟨hi,hn⟩
    by_cases hil:i<a.length
    · have hib:i<b.length:=by omega
      have w1:IntKind.i64.wrap ((i:Int)+1)=(i:Int)+1:=wrap_in (by omega) (by omega)
      by_cases e:a[i]=b[i]
      · have hnx:∀k (h:k<a.length),k<i+1→a[k]=b[k]:=fun k h hk=>by
          by_cases e2:k=i
          · subst e2;exact e
          · exact hn k h (by omega)
        simp[hil,hib,hl,getD_map,e,w1,eSeq,cellsEq,cellEq]
        exact Nxt.mk (i+1) (by omega) (by simp) (by simp) ⟨by omega,fun k h hk=>hnx k (by omega) hk⟩
      · have hne:a≠b:=fun h=>e (by subst h;rfl)
        by_cases e1:a[i].commit=b[i].commit
        · by_cases e2:a[i].lines.fr=b[i].lines.fr
          · have e3:¬a[i].lines.to=b[i].lines.to:=fun h=>e (visit_ext e1 e2 h)
            simp[hil,hib,hl,getD_map,e1,e2,e3,hne,eSeq,cellsEq,cellEq]
          · simp[hil,hib,hl,getD_map,e1,e2,hne,eSeq,cellsEq,cellEq]
        · simp[hil,hib,hl,getD_map,e1,hne,eSeq,cellsEq,cellEq]
    · have h9:i=a.length:=by omega
      subst h9
      have he:a=b:=List.ext_getElem hl fun k h1 h2=>hn k h1 h1
      simp[he]
  · have hne:a≠b:=fun h=>hl (by rw[h])
    simp[x_gen_Visits,hne,show ¬(a.length:Int)=b.length by omega]
structure TrkOk (l:List ChangeT) (m n:Int) (s:SpanT):Prop where
  ok:checkV l m n=true
  s0:0≤s.fr
  s1:s.fr<s.to
  s2:s.to≤n
theorem TrkOk.len {l:List ChangeT} {m n:Int} {s:SpanT} (h:TrkOk l m n s):l.length≤100000∧m≤4096∧n≤4096∧0≤m:=by
  have:=check_clen h.ok
  have:=check_asc h.ok
  omega
theorem partL_rng {l:List ChangeT} {m n:Int} (h:checkV l m n=true) (j:Int):-1≤partL (matV l 0 0 m) j∧partL (matV l 0 0 m) j<4096:=by
  have ha:=check_asc h
  have hm:=asc_mem _ _ _ _ _ ha.2.2.1
  generalize matV l 0 0 m=p at *
  clear ha
  have h4:m≤4096:=by
    simp only[checkV,Bool.and_eq_true] at h
    have:=inV_true h.1.1
    omega
  clear h
  induction p with
  | nil=>simp[partL]
  | cons x p ih =>
    unfold partL
    split
    · have:=hm x (by simp);omega
    · exact ih fun s hs=>hm s (List.mem_cons_of_mem _ hs)
def backD (o:Option SpanT):D:=.tup [Rep.to (o.getD ⟨0,0⟩),.bool o.isSome,.int .i64 0]
@[simp] def S_track_Hull:List D→Prop × D:=spec2 (α:=SpanT) (β:=SpanT) (fun _ _=>True) (fun a b=>Rep.to (hullS a b))
theorem ct_track_Hull {P:Program} {f:Nat} {G:Gam} (h:CodeOf P f 2 8 [22004] x_track_Hull) (hG:GamOk P G):Has P f S_track_Hull:=h.has2 hG fun a b _=>by
  obtain⟨a1,a2⟩:=a
  obtain⟨b1,b2⟩:=b
  by_cases c1:a2≤a1
  · by_cases c2:b2≤b1
    · simp[x_track_Hull,c1,c2,hullS]
    · simp[x_track_Hull,c1,c2,hullS]
  · by_cases c2:b2≤b1
    · simp[x_track_Hull,c1,c2,hullS]
    · simp[x_track_Hull,c1,c2,hullS]
/-! ### the pairs of a script -/
def paApp (ps:List SpanT) (n:Nat) (i j:Int):List SpanT:=ps++runN n i j
structure PaX where
  e:Int
  old:Int
  now:Int
  ps:List SpanT
@[simp] def paS (x:PaX):Store:=[.cells 0 1 [.d (.int .i64 x.old)],.cells 0 1 [.gr 3 2 (x.ps.map Rep.to)],.cells 0 1 [.d (.int .i64 x.now)],.tip x.ps.length]
@[simp] def F_script_pairs_1:RF PaX where
  new:=0
  view a s:=⟨(a.getD 0 .any).gi,((s.getD 0 .dead).at 0 0).gi,((s.getD 2 .dead).at 0 0).gi,((s.getD 1 .dead).at 0 0).gl SpanT⟩
  args x:=[.d (.int .i64 x.e),.ref 0 0 0 0,.ref 1 0 0 0,.ref 2 0 0 0]
  st x:=paS x
  pre x:=0≤x.old∧x.old≤x.e∧x.e≤100000∧0≤x.now∧x.now≤100000∧x.ps.length≤100000
  res _:=.tup []
  st' x:=paS ⟨x.e,x.e,x.now+(x.e-x.old),paApp x.ps (x.e-x.old).toNat x.old x.now⟩
abbrev R_script_pairs_1:RSpec:=F_script_pairs_1.spec
theorem ct_script_pairs_1 {P:Program} {f:Nat} {G:Gam} (hc:CodeOf P f 4 5 [] x_script_pairs_1) (hG:GamOk P G):RSpec.Ok P f R_script_pairs_1:=by
  refine RF.ok hc.call fun x hx=>hc.rcalls hG rfl ?_
  obtain⟨e,old,now,ps⟩:=x
  obtain⟨p1,p2,p3,p4,p5,p6⟩:=hx
  simp only at p1 p2 p3 p4 p5 p6
  obtain⟨N,hN⟩:∃N:Nat,N=(e-old).toNat:=⟨_,rfl⟩
  have he:e=old+N:=by omega
  obtain⟨Q,hQ⟩:∃Q:Nat→List SpanT,∀i,Q i=ps++runN i old now:=⟨_,fun _=>rfl⟩
  have hq0:Q 0=ps:=by rw[hQ];simp[runN]
  have hql:∀i,(Q i).length=ps.length+i:=fun i=>by rw[hQ];simp[runN_len]
  have hqs:∀i,Q (i+1)=Q i++[⟨old+i,now+i⟩]:=fun i=>by rw[hQ,hQ,runN_snoc,List.append_assoc]
  have hqN:paApp ps (e-old).toNat old now=Q N:=by rw[hQ,hN];rfl
  simp only[F_script_pairs_1,hqN]
  clear hQ hqN
  simp[x_script_pairs_1,startA]
  refine vc_lp (σ:=Nat) (fun i=>i≤N) (fun i=>N-i)
    (fun i=>[.d (.int .i64 e),.ref 0 0 0 0,.ref 1 0 0 0,.ref 2 0 0 0,.any])
    (fun i=>[.cells 0 1 [.d (.int .i64 (old+i))],.cells 0 1 [.gr 3 2 ((Q i).map Rep.to)],.cells 0 1 [.d (.int .i64 (now+i))],.tip (Q i).length]) 0 (by simp) (by simp[hq0]) (by simp) ?_
  intro i hi
  have hq1:=hql i
  have hq2:=hqs i
  by_cases hil:i<N
  · have w1:IntKind.i64.wrap (old+(i:Int)+1)=old+(i:Int)+1:=wrap_in (by omega) (by omega)
    have w2:IntKind.i64.wrap (now+(i:Int)+1)=now+(i:Int)+1:=wrap_in (by omega) (by omega)
    have c1:old+(i:Int)<e:=by omega
    simp[c1,w1,w2]
    exact⟨by unfold room;omega,Nxt.mk (i+1) (by omega) (by simp) (by simp[hq2,Int.add_assoc]) (by omega)⟩
  · have h9:i=N:=by omega
    have c9:¬old+(i:Int)<e:=by omega
    have e1:old+(i:Int)=e:=by omega
    have e2:now+(i:Int)=now+(e-old):=by omega
    rw[← h9]
    simp[c9]
    exact FinR.done (by simp) (by simp[e1,e2]) rfl (by simp[resOf]) (by simp) (by simp)
structure PsX where
  k:Nat
  i:Int
  j:Int
  ps:List SpanT
@[simp] def S_script_pairs:List D→Prop × D:=spec2 (α:=List ChangeT) (β:=Int) (fun l m=>∃n,checkV l m n=true) (fun l m=>Rep.to (matV l 0 0 m))
theorem ct_script_pairs {P:Program} {f g1:Nat} {G:Gam} (h:CodeOf P f 2 12 [2] (x_script_pairs g1)) (hG:GamOk P G) (h1:G.findR g1=some R_script_pairs_1):Has P f S_script_pairs:=h.has2 hG fun l m hp=>by
  obtain⟨n,hc⟩:=hp
  have hasc:=check_asc hc
  have hcl:=check_clen hc
  have hok:okV l 0 0 true m n=true:=by simp only[checkV,Bool.and_eq_true] at hc;exact hc.2
  simp[x_script_pairs]
  refine vc_lpR (σ:=PsX) (fun x=>x.k≤l.length∧0≤x.i∧x.i≤4096∧0≤x.j∧x.j≤4096∧okV (l.drop x.k) x.i x.j (decide (x.k=0)) m n=true∧x.ps++matV (l.drop x.k) x.i x.j m=matV l 0 0 m) (fun x=>l.length-x.k)
    (fun x=>[.d (Rep.to l),.d (.int .i64 m),.any,.ref 0 0 0 0,.ref 1 0 0 0,.ref 2 0 0 0,.fn (.func g1) [] [.ref 1 0 0 0,.ref 0 0 0 0,.ref 2 0 0 0],.any,.d (Rep.to l),.d (.int .i64 l.length),.d (.int .i64 x.k),.any])
    (fun x=>[.cells 0 1 [.gr 3 2 (x.ps.map Rep.to)],.cells 0 1 [.d (.int .i64 x.i)],.cells 0 1 [.d (.int .i64 x.j)],.tip x.ps.length])
    ⟨0,0,0,[]⟩ ?_ ⟨by simp,by simp,by simp,by simp,by simp,by simpa using hok,by simp⟩ ?_
  · refine Re.weak (k:=[.tip 0]) (s':=[.cells 0 1 [.gr 3 2 []],.cells 0 1 [.d (.int .i64 0)],.cells 0 1 [.d (.int .i64 0)]]) (by simp) (by simp) (by simp) ⟨.cellsL ⟨⟨rfl,⟨Wk.fresh 3 [.tip 0] 2 0 rfl,trivial⟩⟩,trivial⟩,.inl rfl,.inl rfl,trivial⟩
  rintro⟨k,i,j,ps⟩ ⟨q1,q2,q3,q4,q5,q6,q7⟩
  simp only at q1 q2 q3 q4 q5 q6 q7
  have hpl:ps.length≤4096:=by
    have:=congrArg List.length q7
    rw[List.length_append] at this
    omega
  by_cases hil:k<l.length
  · rw[List.drop_eq_getElem_cons hil] at q6 q7
    simp only[okV,Bool.and_eq_true] at q6
    have hst:=stepV_true q6.1
    have hok2:=q6.2
    rw[matV,← List.append_assoc] at q7
    have w1:IntKind.i64.wrap ((k:Int)+1)=(k:Int)+1:=wrap_in (by omega) (by omega)
    generalize hg:l[k]=c at *
    have w2:IntKind.i64.wrap (c.old+c.oldLen)=c.old+c.oldLen:=wrap_in (by omega) (by omega)
    have w3:IntKind.i64.wrap (j+(c.old-i)+c.newLen)=j+(c.old-i)+c.newLen:=wrap_in (by omega) (by omega)
    have e3:j+(c.old-i)+c.newLen=c.new+c.newLen:=by omega
    have hb:=okV_bound _ _ _ _ _ _ hok2
    have w4:IntKind.i64.wrap (c.new+c.newLen)=c.new+c.newLen:=wrap_in (by omega) (by omega)
    have hps:paApp ps (c.old-i).toNat i j=ps++runN (c.old-i).toNat i j:=rfl
    rw[← hps] at q7
    clear hps
    generalize hps:paApp ps (c.old-i).toNat i j=ps2 at *
    simp[hil,getD_map,hg,eCallv,eRCall,h1,q2,q4,hst.2.2.2.2.2.2.1,show c.old≤100000 by omega,show j≤100000 by omega,show ps.length≤100000 by omega,w1,w2,w3,w4,hps,e3]
    exact Nxt.mk (⟨k+1,c.old+c.oldLen,c.new+c.newLen,ps2⟩:PsX) (by simp;omega) (by simp) (by simp) ⟨by simp;omega,by simp;omega,by simp;omega,by simp;omega,by simp;omega,by simpa using hok2,by simpa using q7⟩
  · have h9:k=l.length:=by omega
    subst h9
    rw[List.drop_length] at q6 q7
    simp only[okV,Bool.and_eq_true,decide_eq_true_eq] at q6
    rw[matV,show ps++runN (m-i).toNat i j=paApp ps (m-i).toNat i j from rfl] at q7
    simp[eCallv,eRCall,h1,q2,q4,q6.2,show m≤100000 by omega,show j≤100000 by omega,show ps.length≤100000 by omega,q7]
@[simp] def S_script_Check:List D→Prop × D:=spec3 (α:=List ChangeT) (β:=Int) (γ:=Int) (fun l m n=>checkV l m n=true) (fun _ _ _=>.int .i64 0)
theorem ct_script_Check {P:Program} {f g1:Nat} {G:Gam} (h:CodeOf P f 3 17 [3] (x_script_Check g1)) (hG:GamOk P G) (h1:G.find g1=some S_script_length):Has P f S_script_Check:=h.has3 hG fun l m n hp=>by
  have hcl:=check_clen hp
  have hok:=hp
  simp only[checkV,Bool.and_eq_true] at hok
  obtain⟨⟨b1,b2⟩,hok⟩:=hok
  have b1:=inV_true b1
  have b2:=inV_true b2
  simp[x_script_Check,h1,b1,b2]
  refine vc_lp (σ:=PsX) (fun x=>x.k≤l.length∧0≤x.i∧x.i≤8192∧0≤x.j∧x.j≤8192∧okV (l.drop x.k) x.i x.j (decide (x.k=0)) m n=true) (fun x=>l.length-x.k)
    (fun x=>[.d (Rep.to l),.d (.int .i64 m),.d (.int .i64 n),.any,.d (.int .i64 x.i),.d (.int .i64 x.j),.any,.any,.any,.any,.d (Rep.to l),.d (.int .i64 l.length),.d (.int .i64 x.k),.any,.any,.any,.any]) (fun _=>[])
    ⟨0,0,0,[]⟩ (by simp) (by simp) ⟨by simp,by simp,by simp,by simp,by simp,by simpa using hok⟩ ?_
  rintro⟨k,i,j,ps⟩ ⟨q1,q2,q3,q4,q5,q6⟩
  simp only at q1 q2 q3 q4 q5 q6
  by_cases hil:k<l.length
  · rw[List.drop_eq_getElem_cons hil] at q6
    simp only[okV,Bool.and_eq_true] at q6
    obtain⟨s1,s2,s3,s4,s5,s6,s7,s8⟩:=stepV_true q6.1
    have hok2:=q6.2
    have w1:IntKind.i64.wrap ((k:Int)+1)=(k:Int)+1:=wrap_in (by omega) (by omega)
    generalize hg:l[k]=c at *
    have w2:IntKind.i64.wrap (c.old+c.oldLen)=c.old+c.oldLen:=wrap_in (by omega) (by omega)
    have w3:IntKind.i64.wrap (c.new+c.newLen)=c.new+c.newLen:=wrap_in (by omega) (by omega)
    have w4:IntKind.i64.wrap (c.oldLen+c.newLen)=c.oldLen+c.newLen:=wrap_in (by omega) (by omega)
    have w5:IntKind.i64.wrap (c.old-i)=c.old-i:=wrap_in (by omega) (by omega)
    have w6:IntKind.i64.wrap (c.new-j)=c.new-j:=wrap_in (by omega) (by omega)
    have hmin:¬c.old-i<min (k:Int) 1:=by
      by_cases e:k=0
      · subst e;omega
      · have:=s8 (by simp[e]);omega
    have hmin2:¬c.new-j<min (k:Int) 1:=by omega
    simp[hil,getD_map,hg,h1,s1,s2,s3,s4,s5,s6,w1,w2,w3,w4,w5,w6,hmin,hmin2]
    exact Nxt.mk (⟨k+1,c.old+c.oldLen,c.new+c.newLen,ps⟩:PsX) (by simp;omega) (by simp) (by simp) ⟨by simp;omega,by simp;omega,by simp;omega,by simp;omega,by simp;omega,by simpa using hok2⟩
  · have h9:k=l.length:=by omega
    subst h9
    rw[List.drop_length] at q6
    simp only[okV,Bool.and_eq_true,decide_eq_true_eq] at q6
    have w5:IntKind.i64.wrap (m-i)=m-i:=wrap_in (by omega) (by omega)
    have w6:IntKind.i64.wrap (n-j)=n-j:=wrap_in (by omega) (by omega)
    simp[w5,w6,q6.1,show ¬m<i by omega]
@[simp] def S_script_Pairs:List D→Prop × D:=spec3 (α:=List ChangeT) (β:=Int) (γ:=Int) (fun l m n=>checkV l m n=true) (fun l m _=>.tup [Rep.to (matV l 0 0 m),.int .i64 0])
theorem ct_script_Pairs {P:Program} {f g1 g2:Nat} {G:Gam} (h:CodeOf P f 3 7 [3,4] (x_script_Pairs g1 g2)) (hG:GamOk P G) (h1:G.find g1=some S_script_Check) (h2:G.find g2=some S_script_pairs):Has P f S_script_Pairs:=h.has3 hG fun l m n hp=>by
  have p2:∃n,checkV l m n=true:=⟨n,hp⟩
  simp[x_script_Pairs,h1,h2,hp,p2]
/-! ### the partners of a range -/
theorem fillT_set {N i:Nat} (hil:i<N):(cntC (List.replicate i (-1)++List.replicate (N-i) 0)).set i (.d (.int .i64 (-1)))=cntC (List.replicate (i+1) (-1)++List.replicate (N-(i+1)) 0):=by
  rw[cntC_set]
  congr 1
  refine getD_ext (by simp;omega) fun k hk=>?_
  simp at hk
  by_cases e:i=k
  · subst e
    simp[List.getD,List.getElem?_append,hil,show i<i+(N-i) by omega]
  · simp only[List.getD,List.getElem?_set_ne e]
    by_cases e2:k<i
    · simp[List.getElem?_append,e2,show k<i+1 by omega]
    · simp[List.getElem?_append,e2,show ¬k<i+1 by omega,List.getElem?_replicate,show k-i<N-i by omega,show k-(i+1)<N-(i+1) by omega]
theorem fillT_len {N i:Nat} (hi:i≤N):(cntC (List.replicate i (-1)++List.replicate (N-i) 0)).length=N:=by rw[cntC_len];simp;omega
@[simp] def S_track_partners:List D→Prop × D:=spec4 (α:=List ChangeT) (β:=Int) (γ:=Int) (δ:=SpanT) (fun l m n s=>TrkOk l m n s) (fun l m _ s=>.tup [Rep.to (trkV (matV l 0 0 m) s),.int .i64 0])
theorem ct_track_partners {P:Program} {f g1:Nat} {G:Gam} (h:CodeOf P f 4 22 [5,6] (x_track_partners g1)) (hG:GamOk P G) (h1:G.find g1=some S_script_Pairs):Has P f S_track_partners:=h.has4 hG fun l m n s hp=>by
  have hl:=hp.len
  have h3:=hp.ok
  have h4:=hp.s0
  have h5:=hp.s1
  have h6:=hp.s2
  have hasc:=check_asc h3
  have hpw:=asc_pair _ _ _ _ _ hasc.2.2.1
  have hrg:=asc_mem _ _ _ _ _ hasc.2.2.1
  have hpl:=hasc.2.2.2
  obtain⟨N,hN⟩:∃N:Nat,N=(s.to-s.fr).toNat:=⟨_,rfl⟩
  have hNN:s.to-s.fr=(N:Int):=by omega
  have hk0:=trkK_zero (matV l 0 0 m) s
  have hka:=trkK_all (matV l 0 0 m) s
  have hkl:=trkK_len (matV l 0 0 m) s
  have hks:=fun k (h:k<(matV l 0 0 m).length)=>trkK_succ (s:=s) hpw h
  rw[← hN] at hk0 hkl
  obtain⟨fr,to⟩:=s
  simp only at h4 h5 h6 hN hNN hks
  have w0:IntKind.i64.wrap (to-fr)=(N:Int):=by rw[wrap_in (by omega) (by omega)];exact hNN
  simp[x_track_partners,h1,h3,show ¬fr<0 by omega,show ¬to≤fr by omega,show ¬n<to by omega,w0]
  generalize matV l 0 0 m=p at *
  refine⟨by unfold room;omega,?_⟩
  refine vc_lp (σ:=Nat) (fun i=>i≤N) (fun i=>N-i)
    (fun i=>[.d (Rep.to l),.d (.int .i64 m),.d (.int .i64 n),.any,.ref 0 0 0 0,.any,.any,.d (Rep.to p),.any,.own 1 0 0 N,.any,.any,.any,.any,.d (.int .i64 N),.d (.int .i64 i),.any,.any,.any,.any,.any,.any])
    (fun i=>[.cells 0 2 [.d (.agg [.int .i64 fr,.int .i64 to])],.cells 0 1 (cntC (List.replicate i (-1)++List.replicate (N-i) 0))]) 0 (by simp) (by simp[cntC]) (by simp) ?_
  intro i hi
  by_cases hil:i<N
  · have w1:IntKind.i64.wrap ((i:Int)+1)=(i:Int)+1:=wrap_in (by omega) (by omega)
    have hset:=fillT_set hil
    have hbl:=fillT_len hi
    generalize cntC (List.replicate i (-1)++List.replicate (N-i) 0)=bc at *
    simp[hil,hbl,hset,w1]
    exact Nxt.mk (i+1) (by omega) (by simp) (by simp) (by omega)
  · have h9:i=N:=by omega
    rw[h9]
    clear hi hil h9 i
    simp only[Nat.sub_self,List.replicate_zero,List.append_nil]
    rw[← hk0]
    simp
    refine vc_lp (σ:=Nat) (fun k=>k≤p.length) (fun k=>p.length-k)
      (fun k=>[.d (Rep.to l),.d (.int .i64 m),.d (.int .i64 n),.any,.ref 0 0 0 0,.any,.any,.any,.any,.own 1 0 0 N,.any,.any,.any,.any,.any,.any,.any,.d (Rep.to p),.d (.int .i64 p.length),.d (.int .i64 k),.any,.any])
      (fun k=>[.cells 0 2 [.d (.agg [.int .i64 fr,.int .i64 to])],.cells 0 1 (cntC (trkK p ⟨fr,to⟩ k))]) 0 (by simp) (by simp) (by simp) ?_
    intro k hk
    have hkl':=hkl k
    have hbl:=cntC_len (trkK p ⟨fr,to⟩ k)
    rw[hkl'] at hbl
    by_cases hkp:k<p.length
    · have w1:IntKind.i64.wrap ((k:Int)+1)=(k:Int)+1:=wrap_in (by omega) (by omega)
      have hs:=hks k hkp
      have hr:=hrg _ (List.getElem_mem hkp)
      have hset:=cntC_set (trkK p ⟨fr,to⟩ k) (p[k].to-fr).toNat p[k].fr
      generalize hg:p[k]=x at *
      by_cases c1:fr≤x.to
      · by_cases c2:x.to<to
        · rw[if_pos ⟨c1,c2⟩] at hs
          have w2:IntKind.i64.wrap (x.to-fr)=x.to-fr:=wrap_in (by omega) (by omega)
          rw[← hs] at hset
          generalize hbc:cntC (trkK p ⟨fr,to⟩ k)=bc at *
          simp[hkp,getD_map,hg,c1,c2,w1,w2,hbl,hset,show x.to-fr<(N:Int) by omega]
          exact Nxt.mk (k+1) (by omega) (by simp) (by simp) (by omega)
        · rw[if_neg (fun h=>c2 h.2)] at hs
          simp[hkp,getD_map,hg,c1,c2,w1]
          exact Nxt.mk (k+1) (by omega) (by simp) (by simp[hs]) (by omega)
      · rw[if_neg (fun h=>c1 h.1)] at hs
        simp[hkp,getD_map,hg,c1,w1]
        exact Nxt.mk (k+1) (by omega) (by simp) (by simp[hs]) (by omega)
    · have h9:k=p.length:=by omega
      subst h9
      rw[hka] at hkl'
      have hb:=bor_ints [.cells 0 2 [.d (.agg [.int .i64 fr,.int .i64 to])],.cells 0 1 (cntC (trkV p ⟨fr,to⟩))] 1 0 (trkV p ⟨fr,to⟩) rfl
      rw[hkl'] at hb
      simp[hka,hb]
@[simp] def S_track_Back:List D→Prop × D:=spec4 (α:=List ChangeT) (β:=Int) (γ:=Int) (δ:=SpanT) (fun l m n s=>TrkOk l m n s) (fun l m _ s=>backD (backP (matV l 0 0 m) s))
theorem ct_track_Back {P:Program} {f g1 g2:Nat} {G:Gam} (h:CodeOf P f 4 19 [22005,6,7] (x_track_Back g1 g2)) (hG:GamOk P G) (h1:G.find g1=some S_track_partners) (h2:G.find g2=some S_track_Hull):Has P f S_track_Back:=h.has4 hG fun l m n s hp=>by
  have h3:=hp.ok
  have h4:=hp.s0
  have h5:=hp.s1
  have h6:=hp.s2
  have hl:=hp.len
  have hasc:=check_asc h3
  have hap:=asc_P _ _ _ _ _ (by omega) hasc.2.2.1
  have hr:=partL_rng h3
  have hvl:=trkV_len (matV l 0 0 m) s
  have hvg:=fun k (h:k<(trkV (matV l 0 0 m) s).length)=>trkV_get h
  have hb:backP (matV l 0 0 m) s=backN (matV l 0 0 m) s.fr (s.to-s.fr).toNat:=rfl
  rw[hb]
  simp[x_track_Back,h1,hp]
  generalize hp':matV l 0 0 m=p at *
  generalize hv:trkV p s=v at *
  rw[← hvl]
  refine vc_lp (σ:=Nat) (fun i=>i≤v.length) (fun i=>v.length-i)
    (fun i=>[.d (Rep.to l),.d (.int .i64 m),.d (.int .i64 n),.any,.ref 0 0 0 0,.ref 1 0 0 0,.any,.any,.any,.any,.ref 2 0 0 0,.d (.bool (backN p s.fr i).isSome),.any,.any,.d (Rep.to v),.d (.int .i64 v.length),.d (.int .i64 i),.any,.any])
    (fun i=>[.cells 0 2 [.d (.agg [.int .i64 s.fr,.int .i64 s.to])],.cells 0 2 [.d (.agg [.int .i64 0,.int .i64 0])],.cells 0 2 [.d (.agg [.int .i64 ((backN p s.fr i).getD ⟨0,0⟩).fr,.int .i64 ((backN p s.fr i).getD ⟨0,0⟩).to])]]) 0 (by simp[backN]) (by simp[backN]) (by simp) ?_
  intro i hi
  by_cases hil:i<v.length
  · have hri:=hr (s.fr+i)
    have hvi:=hvg i hil
    have w1:IntKind.i64.wrap ((i:Int)+1)=(i:Int)+1:=wrap_in (by omega) (by omega)
    have w2:IntKind.i64.wrap (partL p (s.fr+i)+1)=partL p (s.fr+i)+1:=wrap_in (by omega) (by omega)
    by_cases e:partL p (s.fr+i)<0
    · have hs:backN p s.fr (i+1)=backN p s.fr i:=by rw[backN,if_pos e]
      simp[hil,getD_map,hvi,e,show ¬0≤partL p (s.fr+i) by omega,w1]
      exact Nxt.mk (i+1) (by omega) (by simp[hs]) (by simp[hs]) (by omega)
    · have hs:=backN_hull hap s.fr i e
      simp[hil,getD_map,hvi,e,show 0≤partL p (s.fr+i) by omega,w1,w2,h2]
      exact Nxt.mk (i+1) (by omega) (by simp[hs]) (by simp[hs]) (by omega)
  · have h9:i=v.length:=by omega
    subst h9
    simp[backD]
@[simp] def S_track_Touches:List D→Prop × D:=spec4 (α:=List ChangeT) (β:=Int) (γ:=Int) (δ:=SpanT) (fun l m n s=>TrkOk l m n s) (fun l m _ s=>.tup [.bool (touchP (matV l 0 0 m) s),.int .i64 0])
theorem ct_track_Touches {P:Program} {f g1:Nat} {G:Gam} (h:CodeOf P f 4 17 [5,6] (x_track_Touches g1)) (hG:GamOk P G) (h1:G.find g1=some S_track_partners):Has P f S_track_Touches:=h.has4 hG fun l m n s hp=>by
  have h3:=hp.ok
  have h4:=hp.s0
  have h5:=hp.s1
  have h6:=hp.s2
  have hl:=hp.len
  have hr:=partL_rng h3
  have hvl:=trkV_len (matV l 0 0 m) s
  have hvg:=fun k (h:k<(trkV (matV l 0 0 m) s).length)=>trkV_get h
  have hb:touchP (matV l 0 0 m) s=touchK (matV l 0 0 m) s.fr (s.to-s.fr).toNat:=rfl
  rw[hb]
  simp[x_track_Touches,h1,hp]
  generalize hp':matV l 0 0 m=p at *
  generalize hv:trkV p s=v at *
  rw[← hvl]
  refine vc_lp (σ:=Nat) (fun i=>i≤v.length∧touchK p s.fr i=false) (fun i=>v.length-i)
    (fun i=>[.d (Rep.to l),.d (.int .i64 m),.d (.int .i64 n),.any,.ref 0 0 0 0,.any,.any,.d (Rep.to v),.any,.any,.any,.any,.d (Rep.to v),.d (.int .i64 v.length),.d (.int .i64 i),.any,.any])
    (fun i=>[.cells 0 2 [.d (.agg [.int .i64 s.fr,.int .i64 s.to])]]) 0 (by simp) (by simp) ⟨by simp,touchK_zero _ _⟩ ?_
  rintro i ⟨hi,ht⟩
  by_cases hil:i<v.length
  · have hri:=hr (s.fr+i)
    have hri2:=hr (s.fr+i-1)
    have hvi:=hvg i hil
    have hits:=@touchK_hit p s.fr i v.length hil
    have hsucc:=touchK_succ p s.fr i
    have w1:IntKind.i64.wrap ((i:Int)+1)=(i:Int)+1:=wrap_in (by omega) (by omega)
    by_cases e:partL p (s.fr+i)<0
    · simp[hil,getD_map,hvi,e,hits (.inl e)]
    · by_cases e0:0<i
      · have hvj:=hvg (i-1) (by omega)
        rw[show s.fr+((i-1:Nat):Int)=s.fr+i-1 by omega] at hvj
        have w2:IntKind.i64.wrap (partL p (s.fr+i-1)+1)=partL p (s.fr+i-1)+1:=wrap_in (by omega) (by omega)
        have w3:IntKind.i64.wrap ((i:Int)-1)=((i-1:Nat):Int):=by rw[wrap_in (by omega) (by omega)];omega
        by_cases e2:partL p (s.fr+i)=partL p (s.fr+i-1)+1
        · have hv2:touchK p s.fr (i+1)=false:=by rw[hsucc,ht];simp[e,e2];omega
          have e':¬partL p (s.fr+i-1)+1<0:=by omega
          simp[hil,getD_map,hvi,hvj,e',e0,e2,w1,w2,w3,show i-1<v.length by omega]
          exact Nxt.mk (i+1) (by omega) (by simp) (by simp) ⟨by omega,hv2⟩
        · simp[hil,getD_map,hvi,hvj,e,e0,e2,w2,w3,show i-1<v.length by omega,hits (.inr ⟨e0,e2⟩)]
      · have hz:i=0:=by omega
        subst hz
        have hv2:touchK p s.fr (0+1)=false:=by rw[hsucc,ht];simp;simpa using e
        have hvi':v[0]=partL p s.fr:=by simpa using hvi
        have e':¬partL p s.fr<0:=by simpa using e
        have w1':IntKind.i64.wrap 1=1:=wrap_in (by omega) (by omega)
        clear hvi hvg
        simp[hil,getD_map,hvi',e',w1']
        exact Nxt.mk 1 (by omega) (by simp) (by simp) ⟨by omega,hv2⟩
  · have h9:i=v.length:=by omega
    subst h9
    simp[ht]
theorem ids_pair (a b:Str):∃i0 i1,idsV [linesV a,linesV b]=[i0,i1]∧i0.length=(linesV a).length∧i1.length=(linesV b).length∧scriptV i0 i1=scr a b :=
  ⟨(ids2 a b).getD 0 [],(ids2 a b).getD 1 [],rfl,ids2_l0 a b,ids2_l1 a b,rfl⟩
theorem small_pair {a b:Str} (ha:checkT a=0) (hb:checkT b=0):smallL [linesV a,linesV b]:=by
  have:=checkT_lines ha
  have:=checkT_lines hb
  refine⟨by simp,?_⟩
  simp
  omega
def begE (g:List CommitT) (c:Int) (path:Str):Int:=if dagC g=0 then (if 0≤c∧c<(g.length:Int)∧hasF g path c.toNat=true then 0 else 5) else dagC g
def fileN (g:List CommitT) (c:Int) (path:Str):Nat:=(linesV (blobG g path c.toNat)).length
theorem begE_ok {g:List CommitT} {c:Int} {path:Str} (h:begE g c path=0):dagC g=0∧0≤c∧c<(g.length:Int)∧hasF g path c.toNat=true:=by
  unfold begE at h
  split at h
  · rename_i h1
    split at h
    · rename_i h2;exact⟨h1,h2⟩
    · cases h
  · rename_i h1;exact (h1 h).elim
@[simp] def S_linelog_lines:List D→Prop × D:=spec1 (α:=Str) (fun s=>checkT s=0) (fun s=>Rep.to (linesV s))
theorem ct_linelog_lines {P:Program} {f g1:Nat} {G:Gam} (h:CodeOf P f 1 3 [1] (x_linelog_lines g1)) (hG:GamOk P G) (h1:G.find g1=some S_text_Split):Has P f S_linelog_lines:=h.has1 hG fun s hp=>by
  have:=check_len hp
  simp[x_linelog_lines,h1,splitD_ok hp,show s.length≤4194304 by omega]
structure HndOk (g:List CommitT) (path:Str) (c p:Nat) (s:SpanT):Prop where
  gv:GV g
  cl:c<g.length
  pl:p<g.length
  s0:0≤s.fr
  s1:s.fr<s.to
  s2:s.to≤((linesV (blobG g path c)).length:Int)
theorem HndOk.trk {g:List CommitT} {path:Str} {c p:Nat} {s:SpanT} (h:HndOk g path c p s):TrkOk (scr (blobG g path p) (blobG g path c)) (linesV (blobG g path p)).length (linesV (blobG g path c)).length s∧matV (scr (blobG g path p) (blobG g path c)) 0 0 (linesV (blobG g path p)).length=prt g path p c:=by
  obtain⟨h1,h2⟩:=scr_ok (h.gv.blob h.pl path) (h.gv.blob h.cl path)
  exact⟨⟨h1,h.s0,h.s1,h.s2⟩,h2⟩
def spD (l:List SpanT):List A:=l.map fun s=>.d (.agg [.int .i64 s.fr,.int .i64 s.to])
theorem spD_len (l:List SpanT):(spD l).length=l.length:=by simp[spD]
theorem spD_get {l:List SpanT} {i:Nat} (h:i<l.length):(spD l)[i]?=some (.d (.agg [.int .i64 l[i].fr,.int .i64 l[i].to])):=by simp[spD,h]
theorem spD_set (l:List SpanT) (i:Nat) (s:SpanT):(spD l).set i (.d (.agg [.int .i64 s.fr,.int .i64 s.to]))=spD (l.set i s):=by simp[spD,List.map_set]
theorem spD_under (l:List SpanT) (n:Nat):∀x,x∈spD l→A.under n x=true:=by
  intro x hx
  obtain⟨y,_,rfl⟩:=List.mem_map.1 hx
  rfl
@[simp] theorem spD_underS (m:Nat) (l:List SpanT):(∀x,x∈spD l→A.under m x=true)=True:=eq_true (spD_under l m)
@[simp] theorem spD_objs:∀l:List SpanT,A.objsL (spD l)=[]
  | []=>rfl
  | x::l=>by
    have:=spD_objs l
    unfold spD at this ⊢
    simp[this]
@[simp] theorem spD_ren (q:Nat→Nat) (l:List SpanT):(spD l).map (A.ren q)=spD l:=by simp[spD]
def Ob.spans:Ob→List SpanT
  | .cells _ _ xs=>xs.map fun x=>x.gv SpanT
  | _=>[]
@[simp] theorem spans_spD (v e:Nat) (l:List SpanT):Ob.spans (.cells v e (spD l))=l:=by simp[Ob.spans,spD,Function.comp_def]
@[simp] def trS (g:List CommitT) (path:Str) (st:LogS):Store:=[.cells 0 5 [.agg [.d (Rep.to g),.d (.str path),.own 1 0 0 g.length,.gr 2 3 (st.V.map Rep.to),.gr 3 3 (st.L.map Rep.to)]],.cells 0 2 (spD st.R),.tip st.V.length,.tip st.L.length]
def trV (s:Store):LogS:=⟨(s.getD 1 .dead).spans,((s.getD 0 .dead).at 0 3).gl VisitT,((s.getD 0 .dead).at 0 4).gl VisitT⟩
structure HaX where
  g:List CommitT
  path:Str
  st:LogS
  c:Nat
  p:Nat
@[simp] def F_linelog_tracker_hand:RF HaX where
  new:=0
  view a s:=⟨((s.getD 0 .dead).at 0 0).gl CommitT,((s.getD 0 .dead).at 0 1).gs,trV s,(a.getD 1 .any).gi.toNat,(a.getD 2 .any).gi.toNat⟩
  args x:=[.ref 0 0 0 0,.d (.int .i64 x.c),.d (.int .i64 x.p),.d (.str (blobG x.g x.path x.c))]
  st x:=trS x.g x.path x.st
  pre x:=HndOk x.g x.path x.c x.p (x.st.R.getD x.c z0)∧x.c≠x.p∧x.st.R.length=x.g.length
  res x:=.d (.bool (handT x.g x.path x.c x.st.R x.p))
  st' x:=trS x.g x.path { x.st with R:=handR x.g x.path x.c x.st.R x.p }
abbrev R_linelog_tracker_hand:RSpec:=F_linelog_tracker_hand.spec
theorem ct_linelog_tracker_hand {P:Program} {f g1 g2 g3 g4 g5 g6 g7:Nat} {G:Gam} (hc:CodeOf P f 4 16 [4] (x_linelog_tracker_hand g1 g2 g3 g4 g5 g6 g7)) (hG:GamOk P G) (h1:G.find g1=some S_tree_Find) (h2:G.find g2=some S_linelog_lines) (h3:G.find g3=some S_intern_Ids) (h4:G.find g4=some S_shortest_Script) (h5:G.find g5=some S_track_Back) (h6:G.find g6=some S_track_Hull) (h7:G.find g7=some S_track_Touches):RSpec.Ok P f R_linelog_tracker_hand:=by
  refine RF.ok hc.call fun x hx=>hc.rcalls hG rfl ?_
  obtain⟨g,path,⟨R,V,L⟩,c,p⟩:=x
  obtain⟨hh,hne,hRl⟩:=hx
  simp only at hh hne hRl
  have hg:=hh.gv
  have hcl:=hh.cl
  have hpl:=hh.pl
  have hpf:=(hg.files _ (List.getElem_mem hpl)).1
  have e1:blobF g[p].files path=blobG g path p:=by unfold blobG;simp[List.getD,hpl]
  have e2:inB g[p].files path=hasF g path p:=by unfold hasF;simp[List.getD,hpl]
  have hcb:=hg.blob hcl path
  have hpb:=hg.blob hpl path
  have hcn:=checkT_lines hcb
  have hpn:=checkT_lines hpb
  have hsm:=small_pair hpb hcb
  obtain⟨i0,i1,hid,n0,n1,hsc⟩:=ids_pair (blobG g path p) (blobG g path c)
  have hnl:¬longV i0 i1:=by unfold longV;omega
  obtain⟨ht,hm⟩:=hh.trk
  have hcR:c<R.length:=by omega
  have hpR:p<R.length:=by omega
  have er:R.getD c z0=R[c]:=by simp[List.getD,hcR]
  have ep:R.getD p z0=R[p]:=by simp[List.getD,hpR]
  rw[er] at ht
  have gc:=spD_get hcR
  have gp:=spD_get hpR
  obtain⟨_,gc2⟩:=List.getElem?_eq_some_iff.1 gc
  obtain⟨_,gp2⟩:=List.getElem?_eq_some_iff.1 gp
  have hsl:=spD_len R
  have hset:=spD_set R p
  simp only[F_linelog_tracker_hand,handT,handR,trS,Int.toNat_natCast,er,ep]
  cases hf:hasF g path p with
  | true =>
    cases hb:backP (prt g path p c) R[c] with
    | some s =>
      have hset1:=hset (hullS R[p] s)
      simp only[if_true]
      rw[← hset1]
      have gcs:((spD R).set p (.d (.agg [.int .i64 (hullS R[p] s).fr,.int .i64 (hullS R[p] s).to])))[c]?=some (.d (.agg [.int .i64 R[c].fr,.int .i64 R[c].to])):=by rw[List.getElem?_set_ne (fun h=>hne h.symm)];exact gc
      obtain⟨_,gcs2⟩:=List.getElem?_eq_some_iff.1 gcs
      have hsu:∀x,x∈(spD R).set p (.d (.agg [.int .i64 (hullS R[p] s).fr,.int .i64 (hullS R[p] s).to]))→A.under 4 x=true:=by rw[hset1];exact spD_under _ _
      generalize spD R=sp at *
      simp[x_linelog_tracker_hand,startA,hpl,getD_map,h1,show g[p].files.length≤9223372036854775807 by omega,e1,e2,hf,h2,hpb,hcb,h3,hsm,hid,h4,n0,n1,show (linesV (blobG g path p)).length≤1048576 by omega,show (linesV (blobG g path c)).length≤1048576 by omega,hnl,hsc,h5,hcl,gc,gc2,hsl,hRl,ht,hm,hb,backD,h6,gp,gp2,h7,gcs,gcs2]
      exact FinR.done (by simp) (by simp) rfl (by simp[resOf,resE]) (by simpa using hsu) (by simp)
    | none =>
      simp only[if_true]
      have hsu:=spD_under R 4
      generalize spD R=sp at *
      simp[x_linelog_tracker_hand,startA,hpl,getD_map,h1,show g[p].files.length≤9223372036854775807 by omega,e1,e2,hf,h2,hpb,hcb,h3,hsm,hid,h4,n0,n1,show (linesV (blobG g path p)).length≤1048576 by omega,show (linesV (blobG g path c)).length≤1048576 by omega,hnl,hsc,h5,hcl,gc,gc2,hsl,hRl,ht,hm,hb,backD,h7]
      exact FinR.done (by simp) (by simp) rfl (by simp[resOf,resE]) (by simpa using hsu) (by simp)
  | false =>
    simp only[Bool.false_eq_true,if_false]
    simp[x_linelog_tracker_hand,startA,hpl,getD_map,h1,show g[p].files.length≤9223372036854775807 by omega,e1,e2,hf]
    exact FinR.done (by simp) (by simp) rfl (by simp[resOf,resE]) (by simp) (by simp)
theorem handsR_snoc (g:List CommitT) (path:Str) (c:Nat) (a:List Int) (p:Int) (R:List SpanT):handsR g path c (a++[p]) R=handR g path c (handsR g path c a R) p:=by simp[handsR]
theorem handsT_snoc (g:List CommitT) (path:Str) (c:Nat):∀(a:List Int) (p:Int) (R:List SpanT),handsT g path c (a++[p]) R=(handsT g path c a R || handT g path c (handsR g path c a R) p)
  | [],p,R=>by simp[handsT,handsR]
  | q::a,p,R=>by
    rw[List.cons_append,handsT,handsT,handsT_snoc g path c a p,Bool.or_assoc]
    rfl
structure ViX where
  g:List CommitT
  path:Str
  st:LogS
  c:Nat
@[simp] def F_linelog_tracker_visit:RF ViX where
  new:=0
  view a s:=⟨((s.getD 0 .dead).at 0 0).gl CommitT,((s.getD 0 .dead).at 0 1).gs,trV s,(a.getD 1 .any).gi.toNat⟩
  args x:=[.ref 0 0 0 0,.d (.int .i64 x.c)]
  st x:=trS x.g x.path x.st
  pre x:=GV x.g∧x.c<x.g.length∧x.st.R.length=x.g.length∧x.st.V.length≤100000∧x.st.L.length≤100000∧((x.st.R.getD x.c z0).fr<(x.st.R.getD x.c z0).to→hasF x.g x.path x.c=true∧0≤(x.st.R.getD x.c z0).fr∧(x.st.R.getD x.c z0).to≤((linesV (blobG x.g x.path x.c)).length:Int))
  res _:=.tup []
  st' x:=trS x.g x.path (visitS x.g x.path x.st x.c)
abbrev R_linelog_tracker_visit:RSpec:=F_linelog_tracker_visit.spec
theorem ct_linelog_tracker_visit {P:Program} {f g1 g2:Nat} {G:Gam} (hc:CodeOf P f 2 14 [] (x_linelog_tracker_visit g1 g2)) (hG:GamOk P G) (h1:G.find g1=some S_tree_Find) (h2:G.findR g2=some R_linelog_tracker_hand):RSpec.Ok P f R_linelog_tracker_visit:=by
  refine RF.ok hc.call fun x hx=>hc.rcalls hG rfl ?_
  obtain⟨g,path,⟨R,V,L⟩,c⟩:=x
  obtain⟨hg,hcl,hRl,hVl,hLl,hgood⟩:=hx
  simp only at hg hcl hRl hVl hLl hgood
  have hcf:=(hg.files _ (List.getElem_mem hcl)).1
  have e1:blobF g[c].files path=blobG g path c:=by unfold blobG;simp[List.getD,hcl]
  have e2:inB g[c].files path=hasF g path c:=by unfold hasF;simp[List.getD,hcl]
  have hcR:c<R.length:=by omega
  have er:R.getD c z0=R[c]:=by simp[List.getD,hcR]
  have eg:g.getD c default=g[c]:=by simp[List.getD,hcl]
  have gc:=spD_get hcR
  obtain⟨_,gc2⟩:=List.getElem?_eq_some_iff.1 gc
  have hsl:=spD_len R
  have hpl:=hg.par _ (List.getElem_mem hcl)
  have hrg:=hg.prng hcl
  obtain⟨hh,hfix⟩:=hg.fix
  have hpc:∀p,p∈g[c].parents→p.toNat≠c:=fun p hp e=>by
    have:=fix_rank hfix c hcl p hp
    rw[e] at this
    omega
  simp only[F_linelog_tracker_visit,visitS,er,eg,trS]
  by_cases hne:R[c].to≤R[c].fr
  · rw[if_pos hne]
    have hsu:=spD_under R 4
    generalize spD R=sp at *
    cases hf:hasF g path c with
    | true =>
      simp[x_linelog_tracker_visit,startA,hcl,getD_map,h1,show g[c].files.length≤9223372036854775807 by omega,e1,e2,hf,gc,gc2,hsl,hRl,hne]
      exact FinR.done (by simp) (by simp) rfl (by simp[resOf]) (by simpa using hsu) (by simp)
    | false =>
      simp[x_linelog_tracker_visit,startA,hcl,getD_map,h1,show g[c].files.length≤9223372036854775807 by omega,e1,e2,hf]
      exact FinR.done (by simp) (by simp) rfl (by simp[resOf]) (by simpa using hsu) (by simp)
  · rw[if_neg hne]
    obtain⟨hf,hs0,hs2⟩:=hgood (by rw[er];omega)
    rw[er] at hs0 hs2
    obtain⟨VV,hVV⟩:∃VV,VV=V++[(⟨(c:Int),R[c]⟩:VisitT)]:=⟨_,rfl⟩
    obtain⟨LL,hLL⟩:∃LL,LL=L++[(⟨(c:Int),R[c]⟩:VisitT)]:=⟨_,rfl⟩
    have hVVl:VV.length=V.length+1:=by rw[hVV];simp
    have hLLl:LL.length=L.length+1:=by rw[hLL];simp
    rw[← hVV,← hLL]
    generalize hps:g[c].parents=ps at *
    obtain⟨Rf,hRf⟩:∃Rf:Nat→List SpanT,∀i,Rf i=handsR g path c (ps.take i) R:=⟨_,fun _=>rfl⟩
    obtain⟨fl,hfl⟩:∃fl:Nat→Bool,∀i,fl i=(decide (ps=[]) || handsT g path c (ps.take i) R):=⟨_,fun _=>rfl⟩
    have hRN:handsR g path c ps R=Rf ps.length:=by rw[hRf,List.take_length]
    have hfN:(decide (ps=[]) || handsT g path c ps R)=fl ps.length:=by rw[hfl,List.take_length]
    have hR0:Rf 0=R:=by rw[hRf];rfl
    have hf0:fl 0=decide ((ps.length:Int)=0):=by
      rw[hfl]
      simp[handsT]
    have hRs:∀i (h:i<ps.length),Rf (i+1)=handR g path c (Rf i) ps[i]:=fun i h=>by rw[hRf,hRf,List.take_succ_eq_append_getElem h,handsR_snoc]
    have hfs:∀i (h:i<ps.length),fl (i+1)=(fl i || handT g path c (Rf i) ps[i]):=fun i h=>by rw[hfl,hfl,hRf,List.take_succ_eq_append_getElem h,handsT_snoc,Bool.or_assoc]
    have hRl2:∀i,(Rf i).length=g.length:=fun i=>by rw[hRf,handsR_len];exact hRl
    have hRc:∀i,(Rf i).getD c z0=R[c]:=fun i=>by
      rw[hRf,handsR_other fun p hp=>hpc p (List.mem_of_mem_take hp),er]
    rw[hRN,hfN]
    clear hRN hfN hRf hfl
    have hgr:∀(T:List VisitT),(T++[(⟨(c:Int),R[c]⟩:VisitT)]).map Rep.to=T.map Rep.to++[D.agg [.int .i64 c,.int .i64 R[c].fr,.int .i64 R[c].to]]:=fun T=>by simp
    have hVm:=hgr V
    have hLm:=hgr L
    rw[← hVV] at hVm
    rw[← hLL] at hLm
    simp[x_linelog_tracker_visit,startA,hcl,getD_map,h1,show g[c].files.length≤9223372036854775807 by omega,e1,e2,hf,gc,gc2,hsl,hRl,hne,hps]
    refine⟨by unfold room;omega,?_⟩
    refine vc_lp (σ:=Nat) (fun i=>i≤ps.length) (fun i=>ps.length-i)
      (fun i=>[.ref 0 0 0 0,.d (.int .i64 c),.d (.str (blobG g path c)),.any,.ref 4 0 0 0,.d (.bool (fl i)),.any,.any,.d (Rep.to ps),.d (.int .i64 ps.length),.d (.int .i64 i),.any,.any,.any])
      (fun i=>[.cells 0 5 [.agg [.d (Rep.to g),.d (.str path),.own 1 0 0 g.length,.gr 2 3 (VV.map Rep.to),.gr 3 3 (L.map Rep.to)]],.cells 0 2 (spD (Rf i)),.tip VV.length,.tip L.length,.cells 0 3 [.agg [.d (.int .i64 c),.d (.int .i64 R[c].fr),.d (.int .i64 R[c].to)]]]) 0 (by simp[hf0]) (by simp[hR0,hVm,hVVl]) (by simp) ?_
    intro i hi
    by_cases hil:i<ps.length
    · have w1:IntKind.i64.wrap ((i:Int)+1)=(i:Int)+1:=wrap_in (by omega) (by omega)
      obtain⟨r1,r2⟩:=hrg _ (List.getElem_mem hil)
      obtain⟨q,hq⟩:=Int.eq_ofNat_of_zero_le r1
      have hql:q<g.length:=by omega
      have hqc:c≠q:=fun h=>hpc _ (List.getElem_mem hil) (by rw[hq];simpa using h.symm)
      have hok:HndOk g path c q ((Rf i).getD c z0):=by rw[hRc];exact⟨hg,hcl,hql,hs0,by omega,hs2⟩
      have hs1:=hRs i hil
      have hs2':=hfs i hil
      have hl:=hRl2 i
      rw[hq] at hs1 hs2'
      generalize Rf i=Ri at *
      have hok':HndOk g path c q (Ri[c]?.getD z0):=by simpa using hok
      cases ht:handT g path c Ri (q:Int) with
      | true =>
        rw[ht,Bool.or_true] at hs2'
        simp[hil,getD_map,hq,eRCall,h2,trV,hok',hqc,hl,ht,w1]
        exact Nxt.mk (i+1) (by omega) (by simp[hs2']) (by simp[hs1]) (by omega)
      | false =>
        rw[ht,Bool.or_false] at hs2'
        simp[hil,getD_map,hq,eRCall,h2,trV,hok',hqc,hl,ht,w1]
        exact Nxt.mk (i+1) (by omega) (by simp[hs2']) (by simp[hs1]) (by omega)
    · have h9:i=ps.length:=by omega
      rw[h9]
      generalize Rf ps.length=RN at *
      have hsu:=spD_under RN 4
      cases hfl:fl ps.length with
      | true =>
        generalize spD RN=sp at *
        simp
        refine⟨by unfold room;omega,?_⟩
        exact FinR.done (by simp) (by simp[hLm,hLLl]) rfl (by simp[resOf]) (by simpa using hsu) (by simp)
      | false =>
        generalize spD RN=sp at *
        simp
        exact FinR.done (by simp) (by simp) rfl (by simp[resOf]) (by simpa using hsu) (by simp)
def folE (g:List CommitT) (c:Int) (path:Str) (s:SpanT):Int:=if begE g c path=0 then (if 0≤s.fr∧s.fr<s.to∧s.to≤(fileN g c path:Int) then 0 else 3) else begE g c path
theorem folE_ok {g:List CommitT} {c:Int} {path:Str} {s:SpanT} (h:folE g c path s=0):begE g c path=0∧0≤s.fr∧s.fr<s.to∧s.to≤(fileN g c path:Int):=by
  unfold folE at h
  split at h
  · rename_i h1
    split at h
    · rename_i h2;exact⟨h1,h2⟩
    · cases h
  · rename_i h1;exact (h1 h).elim
theorem folE_start {g:List CommitT} {c:Nat} {path:Str} {s:SpanT} (h:folE g (c:Int) path s=0):StartOk g path c s:=by
  obtain⟨h1,h2,h3,h4⟩:=folE_ok h
  obtain⟨_,h5,h6,h7⟩:=begE_ok h1
  rw[Int.toNat_natCast] at h7
  exact⟨by omega,h7,h2,h3,by unfold fileN at h4;rwa [Int.toNat_natCast] at h4⟩
theorem orderD_one {g:List CommitT} (h:dagC g=0) {c:Nat} (hc:c<g.length):orderD g [(c:Int)]=.tup [Rep.to (orderS g c),.int .i64 0]:=by
  unfold orderD
  rw[if_pos h,if_pos]
  · rfl
  · unfold startsB
    simp
    omega
structure FoX where
  g:List CommitT
  c:Int
  path:Str
  s:SpanT
@[simp] def F_linelog_follow:RF FoX where
  new:=4
  view a _:=⟨(a.getD 0 .any).gl CommitT,(a.getD 1 .any).gi,(a.getD 2 .any).gs,⟨((a.getD 3 .any).cells.getD 0 .any).gi,((a.getD 3 .any).cells.getD 1 .any).gi⟩⟩
  args x:=[.d (Rep.to x.g),.d (.int .i64 x.c),.d (.str x.path),.agg [.d (.int .i64 x.s.fr),.d (.int .i64 x.s.to)]]
  st _:=[.res,.res,.res,.res]
  pre x:=GraphOk x.g
  res x:=if folE x.g x.c x.path x.s=0 then .tup [.ref 0 0 0 0,.d (.int .i64 0)] else .tup [.d .nilp,.d (.int .i64 (folE x.g x.c x.path x.s))]
  st' x:=if folE x.g x.c x.path x.s=0 then trS x.g x.path (followS x.g x.path x.c.toNat x.s) else [.res,.res,.res,.res]
abbrev R_linelog_follow:RSpec:=F_linelog_follow.spec
theorem spD_form {n:Nat} {k:List Ob} {v:Nat} {xs:List A} {l:List SpanT} (h:xs.length=l.length) (hc:∀i (hi:i<l.length),(xs.getD i .any).cells=[.d (.int .i64 l[i].fr),.d (.int .i64 l[i].to)]):WkO n k (.cells v 2 xs) (.cells v 2 (spD l)):=by
  refine .inr ⟨v,2,_,_,rfl,rfl,by rw[h,spD_len],fun i hi=>?_⟩
  have hil:i<l.length:=by omega
  have e2:(spD l).getD i .any=.d (.agg [.int .i64 l[i].fr,.int .i64 l[i].to]):=by rw[List.getD,spD_get hil];rfl
  rw[e2,hc i hil]
  exact⟨rfl,WkL.refl' _ _ _⟩
theorem ct_linelog_follow {P:Program} {f g1 g2 g3 g4 g5 g6:Nat} {G:Gam} (hc:CodeOf P f 4 21 [5,6] (x_linelog_follow g1 g2 g3 g4 g5 g6)) (hG:GamOk P G) (h1:G.find g1=some S_dag_Check) (h2:G.find g2=some S_dag_Is) (h3:G.find g3=some S_tree_Find) (h4:G.find g4=some S_linelog_lines) (h5:G.find g5=some S_walk_Order) (h6:G.findR g6=some R_linelog_tracker_visit):RSpec.Ok P f R_linelog_follow:=by
  refine RF.ok hc.call fun x hx=>hc.rcalls hG rfl ?_
  obtain⟨g,c,path,⟨fr,to⟩⟩:=x
  have hok:GraphOk g:=hx
  simp only[F_linelog_follow]
  by_cases c0:dagC g=0
  · have hg:=GV.of c0 hok
    by_cases c1:0≤c∧c<(g.length:Int)
    · obtain⟨n,rfl⟩:=Int.eq_ofNat_of_zero_le c1.1
      have hcl:n<g.length:=by omega
      have hfl:=(hg.files _ (List.getElem_mem hcl)).1
      have e1:blobF g[n].files path=blobG g path n:=by unfold blobG;simp[List.getD,hcl]
      have e2:inB g[n].files path=hasF g path n:=by unfold hasF;simp[List.getD,hcl]
      have hb:=hg.blob hcl path
      have hbn:=checkT_lines hb
      cases hf:hasF g path n with
      | true =>
        have he:begE g (n:Int) path=0:=by unfold begE;rw[if_pos c0,if_pos ⟨c1.1,c1.2,by simpa using hf⟩]
        have hfn:fileN g (n:Int) path=(linesV (blobG g path n)).length:=by unfold fileN;rw[Int.toNat_natCast]
        by_cases k1:fr<0
        · have hv:folE g (n:Int) path ⟨fr,to⟩=3:=by unfold folE;rw[if_pos he,if_neg (by simp only;omega)]
          simp only[hv]
          simp[x_linelog_follow,startA,h1,h2,h3,hok,c0,hcl,getD_map,show g[n].files.length≤9223372036854775807 by omega,e1,e2,hf,k1]
          exact FinR.done (by simp) (by simp) rfl (by simp[resOf,resE]) (by simp) (by simp)
        · by_cases k2:to≤fr
          · have hv:folE g (n:Int) path ⟨fr,to⟩=3:=by unfold folE;rw[if_pos he,if_neg (by simp only;omega)]
            simp only[hv]
            simp[x_linelog_follow,startA,h1,h2,h3,hok,c0,hcl,getD_map,show g[n].files.length≤9223372036854775807 by omega,e1,e2,hf,k1,k2]
            exact FinR.done (by simp) (by simp) rfl (by simp[resOf,resE]) (by simp) (by simp)
          · by_cases k3:((linesV (blobG g path n)).length:Int)<to
            · have hv:folE g (n:Int) path ⟨fr,to⟩=3:=by unfold folE;rw[if_pos he,if_neg (by simp only;omega)]
              simp only[hv]
              simp[x_linelog_follow,startA,h1,h2,h3,h4,hok,c0,hcl,getD_map,show g[n].files.length≤9223372036854775807 by omega,e1,e2,hf,k1,k2,k3,hb]
              exact FinR.done (by simp) (by simp) rfl (by simp[resOf,resE]) (by simp) (by simp)
            · have hv:folE g (n:Int) path ⟨fr,to⟩=0:=by unfold folE;rw[if_pos he,if_pos (by simp only;omega)]
              have hst:=folE_start hv
              simp only[hv,if_true,Int.toNat_natCast]
              have hod:=orderD_one c0 hcl
              have hgl:=hok.1
              have hs2:startS0 g n ⟨fr,to⟩=⟨(List.replicate g.length z0).set n ⟨fr,to⟩,[],[]⟩:=rfl
              obtain⟨o,hoo⟩:∃o,o=orderS g n:=⟨_,rfl⟩
              have hord:OrdP g o:=by rw[hoo];exact order_P _ (fun _ _=>trivial)
              have hfI:=fun k hk=>follow_I hg.rel (path:=path) hord hst.c hst.s1 k hk
              have hol:o.length≤g.length:=nodup_le _ _ hord.nd hord.rng
              obtain⟨St,hSt⟩:∃St:Nat→LogS,∀k,St k=followK g path (startS0 g n ⟨fr,to⟩) (o.take k):=⟨_,fun _=>rfl⟩
              have hS0:St 0=⟨(List.replicate g.length z0).set n ⟨fr,to⟩,[],[]⟩:=by rw[hSt,← hs2];rfl
              have hSn:∀k (h:k<o.length),St (k+1)=visitS g path (St k) o[k].toNat:=fun k h=>by
                rw[hSt,hSt,List.take_succ_eq_append_getElem h]
                unfold followK
                rw[List.foldl_append]
                rfl
              have hSN:followS g path n ⟨fr,to⟩=St o.length:=by rw[hSt,List.take_length];unfold followS;rw[← hoo]
              have hI:∀k,k≤o.length→LogI g path n ⟨fr,to⟩ (o.take k) (St k):=fun k hk=>by rw[hSt];exact hfI k hk
              have hVl:∀k,k≤o.length→(St k).V.length≤1000:=fun k hk=>by
                rw[(hI k hk).V]
                have:=List.length_filter_le (neS (St k).R) (o.take k)
                have:(o.take k).length≤o.length:=by simp;omega
                simp
                omega
              have hLl:∀k,k≤o.length→(St k).L.length≤1000:=fun k hk=>by
                rw[(hI k hk).L]
                have:=List.length_filter_le (fun c=>neS (St k).R c && showB g path (St k).R c) (o.take k)
                have:(o.take k).length≤o.length:=by simp;omega
                simp only[List.length_map]
                omega
              have hgd:∀k,k≤o.length→∀p,p<g.length→((St k).R.getD p z0).fr<((St k).R.getD p z0).to→hasF g path p=true∧0≤((St k).R.getD p z0).fr∧((St k).R.getD p z0).to≤((linesV (blobG g path p)).length:Int):=fun k hk p hp h =>
                ne_good hg.rel hst (fun c hc=>by have:=hord.rng _ (List.mem_of_mem_take hc);omega) ((hI k hk).hull p hp) h
              rw[← hoo] at hod
              rw[hSN]
              clear hSt hfI hs2 hSN
              simp[x_linelog_follow,startA,h1,h2,h3,h4,h5,hok,c0,hcl,getD_map,show g[n].files.length≤9223372036854775807 by omega,e1,e2,hf,k1,k2,k3,hb,hod]
              refine⟨by unfold room;omega,?_⟩
              refine vc_lpR (σ:=Nat) (fun k=>k≤o.length) (fun k=>o.length-k)
                (fun k=>[.d (Rep.to g),.d (.int .i64 n),.d (.str path),.any,.any,.any,.any,.any,.any,.any,.ref 6 0 0 0,.any,.any,.any,.any,.any,.any,.d (Rep.to o),.d (.int .i64 o.length),.d (.int .i64 k),.any])
                (fun k=>[.res,.res,.res,.res,.cells 0 2 [.agg [.d (.int .i64 fr),.d (.int .i64 to)]],.cells 0 2 (spD (St k).R),.cells 0 5 [.agg [.d (Rep.to g),.d (.str path),.own 5 0 0 g.length,.gr 7 3 ((St k).V.map Rep.to),.gr 8 3 ((St k).L.map Rep.to)]],.tip (St k).V.length,.tip (St k).L.length]) 0 ?_ (by simp) ?_
              · rw[hS0]
                refine Re.weak (k:=[.tip 0,.tip 0]) (s':=[.res,.res,.res,.res,.cells 0 2 [.agg [.d (.int .i64 fr),.d (.int .i64 to)]],.cells 0 2 (spD ((List.replicate g.length z0).set n ⟨fr,to⟩)),.cells 0 5 [.agg [.d (Rep.to g),.d (.str path),.own 5 0 0 g.length,.gr 7 3 [],.gr 8 3 []]]]) (by simp) (by simp) (by simp) ⟨.inl rfl,.inl rfl,.inl rfl,.inl rfl,.inl rfl,spD_form (by simp) (fun i hi=>?_),.cellsL ⟨⟨rfl,⟨Wk.refl _ _ _,Wk.refl _ _ _,Wk.refl _ _ _,Wk.fresh 7 [.tip 0,.tip 0] 3 0 rfl,Wk.fresh 7 [.tip 0,.tip 0] 3 1 rfl,trivial⟩⟩,trivial⟩,trivial⟩
                simp at hi
                by_cases e:n=i
                · subst e;simp[List.getD,hcl]
                · simp[List.getD,List.getElem?_set_ne e,List.getElem_set_ne e,hi,z0]
              intro k hk
              by_cases hkl:k<o.length
              · have w1:IntKind.i64.wrap ((k:Int)+1)=(k:Int)+1:=wrap_in (by omega) (by omega)
                obtain⟨r1,r2⟩:=hord.rng _ (List.getElem_mem hkl)
                obtain⟨q,hq⟩:=Int.eq_ofNat_of_zero_le r1
                have hql:q<g.length:=by omega
                have hnx:=hSn k hkl
                rw[hq,Int.toNat_natCast] at hnx
                have v1:=hVl k hk
                have v2:=hLl k hk
                have v3:=hgd k hk q hql
                have v4:=(hI k hk).len
                generalize St k=st at *
                obtain⟨R,V,L⟩:=st
                simp only at v1 v2 v3 v4
                have v3':(R[q]?.getD z0).fr<(R[q]?.getD z0).to→hasF g path q=true∧0≤(R[q]?.getD z0).fr∧(R[q]?.getD z0).to≤((linesV (blobG g path q)).length:Int):=v3
                simp[hkl,getD_map,hq,eRCall,h6,trV,hg,hql,v4,show V.length≤100000 by omega,show L.length≤100000 by omega,w1]
                exact⟨by simpa [List.getD,show q<R.length by omega] using v3,Nxt.mk (k+1) (by omega) (by simp) (by simp[hnx]) (by omega)⟩
              · have h9:k=o.length:=by omega
                subst h9
                generalize St o.length=st at *
                simp
                exact⟨by simp[resPre,resE],[6,5,7,8],rfl,⟨by decide,by simp,by simp[pickS,Ob.ren,A.ren,A.rens]⟩,fun k hk=>(by match k,hk with | 0,_=>exact .inr rfl | 1,_=>exact .inr rfl | 2,_=>exact .inr rfl | 3,_=>exact .inr rfl),by simp[pickS,Ob.ren,A.ren,A.rens,idxIn] <;> decide,by simp[resOf,resE,A.ren,A.rens,idxIn] <;> rfl,by simp⟩
      | false =>
        have he:begE g (n:Int) path=5:=by unfold begE;rw[if_pos c0,if_neg];rintro⟨_,_,h⟩;rw[Int.toNat_natCast,hf] at h;cases h
        have hv:folE g (n:Int) path ⟨fr,to⟩=5:=by unfold folE;rw[if_neg (by rw[he];decide),he]
        simp only[hv]
        simp[x_linelog_follow,startA,h1,h2,h3,hok,c0,hcl,getD_map,show g[n].files.length≤9223372036854775807 by omega,e1,e2,hf]
        exact FinR.done (by simp) (by simp) rfl (by simp[resOf,resE]) (by simp) (by simp)
    · have he:begE g c path=5:=by unfold begE;rw[if_pos c0,if_neg];rintro⟨a,b,_⟩;exact c1 ⟨a,b⟩
      have hv:folE g c path ⟨fr,to⟩=5:=by unfold folE;rw[if_neg (by rw[he];decide),he]
      simp only[hv]
      by_cases k1:0≤c
      · have k2:¬c<(g.length:Int):=fun h=>c1 ⟨k1,h⟩
        simp[x_linelog_follow,startA,h1,h2,hok,c0,k1,k2]
        exact FinR.done (by simp) (by simp) rfl (by simp[resOf,resE]) (by simp) (by simp)
      · simp[x_linelog_follow,startA,h1,h2,hok,c0,k1]
        exact FinR.done (by simp) (by simp) rfl (by simp[resOf,resE]) (by simp) (by simp)
  · have he:begE g c path=dagC g:=by unfold begE;rw[if_neg c0]
    have hv:folE g c path ⟨fr,to⟩=dagC g:=by unfold folE;rw[if_neg (by rw[he];exact c0),he]
    simp only[hv]
    simp[x_linelog_follow,startA,h1,hok,c0]
    exact FinR.done (by simp) (by simp) rfl (by simp[resOf,resE]) (by simp) (by simp)
def logL (g:List CommitT) (c:Int) (path:Str) (s:SpanT):List VisitT:=if folE g c path s=0 then (followS g path c.toNat s).L else []
def trkL (g:List CommitT) (c:Int) (path:Str) (s:SpanT):List VisitT:=if folE g c path s=0 then (followS g path c.toNat s).V else []
@[simp] def S_linelog_Log:List D→Prop × D:=spec4 (α:=List CommitT) (β:=Int) (γ:=Str) (δ:=SpanT) (fun g _ _ _=>GraphOk g) (fun g c path s=>.tup [Rep.to (logL g c path s),.int .i64 (folE g c path s)])
theorem ct_linelog_Log {P:Program} {f g1:Nat} {G:Gam} (h:CodeOf P f 4 10 [5,6] (x_linelog_Log g1)) (hG:GamOk P G) (h1:G.findR g1=some R_linelog_follow):Has P f S_linelog_Log:=h.has4 hG fun g c path s hok=>by
  obtain⟨fr,to⟩:=s
  by_cases he:folE g c path ⟨fr,to⟩=0
  · have hv:logL g c path ⟨fr,to⟩=(followS g path c.toNat ⟨fr,to⟩).L:=by unfold logL;rw[if_pos he]
    rw[hv]
    generalize hst:followS g path c.toNat ⟨fr,to⟩=st at *
    simp[x_linelog_Log,eRCall,h1,hok,he,hst]
  · have hv:logL g c path ⟨fr,to⟩=[]:=by unfold logL;rw[if_neg he]
    rw[hv]
    simp[x_linelog_Log,eRCall,h1,hok,he]
@[simp] def S_linelog_Tracked:List D→Prop × D:=spec4 (α:=List CommitT) (β:=Int) (γ:=Str) (δ:=SpanT) (fun g _ _ _=>GraphOk g) (fun g c path s=>.tup [Rep.to (trkL g c path s),.int .i64 (folE g c path s)])
theorem ct_linelog_Tracked {P:Program} {f g1:Nat} {G:Gam} (h:CodeOf P f 4 10 [5,6] (x_linelog_Tracked g1)) (hG:GamOk P G) (h1:G.findR g1=some R_linelog_follow):Has P f S_linelog_Tracked:=h.has4 hG fun g c path s hok=>by
  obtain⟨fr,to⟩:=s
  by_cases he:folE g c path ⟨fr,to⟩=0
  · have hv:trkL g c path ⟨fr,to⟩=(followS g path c.toNat ⟨fr,to⟩).V:=by unfold trkL;rw[if_pos he]
    rw[hv]
    generalize hst:followS g path c.toNat ⟨fr,to⟩=st at *
    simp[x_linelog_Tracked,eRCall,h1,hok,he,hst]
  · have hv:trkL g c path ⟨fr,to⟩=[]:=by unfold trkL;rw[if_neg he]
    rw[hv]
    simp[x_linelog_Tracked,eRCall,h1,hok,he]
end Go.AE
namespace Go.AE
def exG:List CommitT:=[⟨[],0,[⟨[120],[97,10,98,10]⟩]⟩,⟨[0],0,[⟨[120],[97,10,99,10]⟩]⟩]
theorem exG_ok:GraphOk exG:=by
  refine⟨by decide,fun c hc=>?_⟩
  unfold exG at hc
  simp at hc
  rcases hc with rfl | rfl
  · exact⟨by simp,by simp,fun f hf=>by simp at hf;subst hf;exact⟨by simp,by simp⟩⟩
  · exact⟨by simp,by simp,fun f hf=>by simp at hf;subst hf;exact⟨by simp,by simp⟩⟩
theorem aw30a:folE exG 1 [120] ⟨0,1⟩=0:=by decide +kernel
theorem aw30b:logL exG 1 [120] ⟨0,1⟩=[⟨0,⟨0,1⟩⟩]:=by decide +kernel
theorem aw30c:folE exG 1 [120] ⟨1,2⟩=0:=by decide +kernel
theorem aw30d:logL exG 1 [120] ⟨1,2⟩=[⟨1,⟨1,2⟩⟩]:=by decide +kernel
@[simp] def S_law30_awake:List D→Prop × D:=spec0 True (.bool true)
theorem ct_law30_awake {P:Program} {f g1 g2:Nat} {G:Gam} (h:CodeOf P f 0 6 [0] (x_law30_awake g1 g2)) (hG:GamOk P G) (h1:G.find g1=some S_linelog_Log) (h2:G.find g2=some S_gen_Visits):Has P f S_law30_awake:=h.has0 hG fun _=>by
  have e2:ofAll (Rep.of (α:=VisitT)) [.agg [.int .i64 0,.int .i64 0,.int .i64 1]]=some [⟨0,⟨0,1⟩⟩]:=rfl
  have e3:ofAll (Rep.of (α:=VisitT)) [.agg [.int .i64 1,.int .i64 1,.int .i64 2]]=some [⟨1,⟨1,2⟩⟩]:=rfl
  have a1:=aw30a
  have a2:=aw30b
  have a3:=aw30c
  have a4:=aw30d
  have a5:=exG_ok
  simp only[exG] at a1 a2 a3 a4 a5
  simp[x_law30_awake,h1,h2,e2,e3,a1,a2,a3,a4,a5]
theorem findV_hit {l:List VisitT} {c:Int} {i:Nat} (h:i<l.length) (hn:∀k (hk:k<l.length),k<i→l[k].commit≠c) (e:l[i].commit=c):findV l c=some l[i].lines:=by
  unfold findV
  have:l.find? (fun v=>decide (v.commit=c))=some l[i]:=by
    rw[List.find?_eq_some_iff_getElem]
    exact⟨by simpa using e,i,h,rfl,fun j hj=>by simpa using hn j (by omega) hj⟩
  rw[this]
  rfl
theorem findV_miss {l:List VisitT} {c:Int} (hn:∀k (hk:k<l.length),l[k].commit≠c):findV l c=none:=by
  unfold findV
  have:l.find? (fun v=>decide (v.commit=c))=none:=by
    rw[List.find?_eq_none]
    intro x hx
    obtain⟨k,hk,rfl⟩:=List.mem_iff_getElem.1 hx
    simpa using hn k hk
  rw[this]
  rfl
@[simp] def S_law30_find:List D→Prop × D:=spec2 (α:=List VisitT) (β:=Int) (fun l _=>l.length≤1048576) (fun l c=>.tup [Rep.to ((findV l c).getD ⟨0,0⟩),.bool (findV l c).isSome])
theorem ct_law30_find {P:Program} {f:Nat} {G:Gam} (h:CodeOf P f 2 7 [22002,3] x_law30_find) (hG:GamOk P G):Has P f S_law30_find:=h.has2 hG fun l c hp=>by
  simp[x_law30_find]
  refine vc_lp (σ:=Nat) (fun i=>i≤l.length∧∀k (h:k<l.length),k<i→l[k].commit≠c) (fun i=>l.length-i)
    (fun i=>[.d (Rep.to l),.d (.int .i64 c),.ref 0 0 0 0,.any,.d (.int .i64 i),.any,.any]) (fun _=>[.cells 0 2 [.d (.agg [.int .i64 0,.int .i64 0])]]) 0 (by simp) (by simp) ⟨by simp,by simp⟩ ?_
  rintro i ⟨hi,hn⟩
  by_cases hil:i<l.length
  · have w1:IntKind.i64.wrap ((i:Int)+1)=(i:Int)+1:=wrap_in (by omega) (by omega)
    by_cases e:l[i].commit=c
    · have hv:=findV_hit hil hn e
      simp[hil,getD_map,e,hv]
    · have hnx:∀k (h:k<l.length),k<i+1→l[k].commit≠c:=fun k h hk=>by
        by_cases e2:k=i
        · subst e2;exact e
        · exact hn k h (by omega)
      simp[hil,getD_map,e,w1]
      exact Nxt.mk (i+1) (by omega) (by simp) (by simp) ⟨by omega,hnx⟩
  · have h9:i=l.length:=by omega
    subst h9
    have hv:=findV_miss (l:=l) (c:=c) fun k hk=>hn k hk hk
    simp[hv]
def overC (s:SpanT) (c:ChangeT):Bool:=(decide (c.new<s.to) && (decide (s.fr<c.new+c.newLen) && decide (0<c.newLen))) || (decide (c.newLen=0) && (decide (s.fr<c.new) && decide (c.new<s.to)))
theorem okV_fld:∀(l:List ChangeT) (i j m n:Int) (fst:Bool),okV l i j fst m n=true→∀c,c∈l→(0≤c.new∧c.new≤4096)∧0≤c.newLen∧c.newLen≤4096
  | [],_,_,_,_,_,_,c,h=>by cases h
  | d::l,i,j,m,n,fst,h,c,hc=>by
    simp only[okV,Bool.and_eq_true] at h
    rcases List.mem_cons.1 hc with rfl | hc
    · have:=stepV_true h.1
      exact⟨this.2.2.1,this.2.2.2.1⟩
    · exact okV_fld l _ _ _ _ _ h.2 c hc
@[simp] def S_law30_overlaps:List D→Prop × D:=spec2 (α:=List ChangeT) (β:=SpanT) (fun l _=>∃m n,checkV l m n=true) (fun l s=>.bool (overV l s))
theorem ct_law30_overlaps {P:Program} {f:Nat} {G:Gam} (h:CodeOf P f 2 8 [3] x_law30_overlaps) (hG:GamOk P G):Has P f S_law30_overlaps:=h.has2 hG fun l s hp=>by
  obtain⟨m,n,hc⟩:=hp
  have hcl:=check_clen hc
  have hfd:∀c,c∈l→(0≤c.new∧c.new≤4096)∧0≤c.newLen∧c.newLen≤4096:=by
    simp only[checkV,Bool.and_eq_true] at hc
    exact okV_fld _ _ _ _ _ _ hc.2
  have hov:overV l s=l.any (overC s):=rfl
  rw[hov]
  clear hov hc
  obtain⟨fr,to⟩:=s
  simp[x_law30_overlaps]
  refine vc_lp (σ:=Nat) (fun i=>i≤l.length∧∀k (h:k<l.length),k<i→overC ⟨fr,to⟩ l[k]=false) (fun i=>l.length-i)
    (fun i=>[.d (Rep.to l),.any,.ref 0 0 0 0,.any,.d (.int .i64 i),.any,.any,.any]) (fun _=>[.cells 0 2 [.d (.agg [.int .i64 fr,.int .i64 to])]]) 0 (by simp) (by simp) ⟨by simp,by simp⟩ ?_
  rintro i ⟨hi,hn⟩
  by_cases hil:i<l.length
  · have w1:IntKind.i64.wrap ((i:Int)+1)=(i:Int)+1:=wrap_in (by omega) (by omega)
    obtain⟨f1,f2⟩:=hfd _ (List.getElem_mem hil)
    have hit:overC ⟨fr,to⟩ l[i]=true→l.any (overC ⟨fr,to⟩)=true:=fun h=>List.any_eq_true.2 ⟨_,List.getElem_mem hil,h⟩
    have hnx:overC ⟨fr,to⟩ l[i]=false→∀k (h:k<l.length),k<i+1→overC ⟨fr,to⟩ l[k]=false:=fun e k h hk=>by
      by_cases e2:k=i
      · subst e2;exact e
      · exact hn k h (by omega)
    generalize hg:l[i]=c at *
    have w2:IntKind.i64.wrap (c.new+c.newLen)=c.new+c.newLen:=wrap_in (by omega) (by omega)
    by_cases k1:c.new<to
    · by_cases k2:fr<c.new+c.newLen
      · by_cases k3:0<c.newLen
        · have hv:=hit (by simp[overC,k1,k2,k3])
          simp[hil,getD_map,hg,w2,k1,k2,k3,hv]
        · have k4:c.newLen=0:=by omega
          rw[k4] at k2 w2
          simp only[Int.add_zero] at k2 w2
          have hv:=hit (by simp[overC,k1,k2,k4])
          simp[hil,getD_map,hg,w2,k1,k2,k4,hv]
      · by_cases k4:c.newLen=0
        · rw[k4] at k2 w2
          simp only[Int.add_zero] at k2 w2
          have hv:=hnx (by simp[overC,k1,k2,k4])
          simp[hil,getD_map,hg,w2,k1,k2,k4,w1]
          exact Nxt.mk (i+1) (by omega) (by simp) (by simp) ⟨by omega,hv⟩
        · have hv:=hnx (by simp[overC,k1,k2,k4])
          simp[hil,getD_map,hg,w2,k1,k2,k4,w1]
          exact Nxt.mk (i+1) (by omega) (by simp) (by simp) ⟨by omega,hv⟩
    · have hv:=hnx (by simp[overC,k1])
      by_cases k4:c.newLen=0
      · by_cases k5:fr<c.new
        · simp[hil,getD_map,hg,k1,k4,k5,w1]
          exact Nxt.mk (i+1) (by omega) (by simp) (by simp) ⟨by omega,hv⟩
        · simp[hil,getD_map,hg,k1,k4,k5,w1]
          exact Nxt.mk (i+1) (by omega) (by simp) (by simp) ⟨by omega,hv⟩
      · simp[hil,getD_map,hg,k1,k4,w1]
        exact Nxt.mk (i+1) (by omega) (by simp) (by simp) ⟨by omega,hv⟩
  · have h9:i=l.length:=by omega
    subst h9
    have hv:l.any (overC ⟨fr,to⟩)=false:=by
      rw[List.any_eq_false]
      intro x hx
      obtain⟨k,hk,rfl⟩:=List.mem_iff_getElem.1 hx
      simp[hn k hk hk]
    simp[hv]
theorem tree_ord {l:List FileT} (h:treeE l=0):ordV (l.map FileT.path)=true:=by
  unfold treeE at h
  split at h
  · cases h
  · split at h
    · cases h
    · split at h
      · rename_i h3;exact h3
      · cases h
theorem GV.uniq {g:List CommitT} (hg:GV g) {c:Nat} (hc:c<g.length) {k:Nat} (hk:k<g[c].files.length):hasF g g[c].files[k].path c=true∧blobG g g[c].files[k].path c=g[c].files[k].blob:=by
  have ho:=tree_ord (filesE_all (dagC_lim hg.c).2.2.2.2 _ (List.getElem_mem hc))
  have hn:∀j (hj:j<g[c].files.length),j<k→g[c].files[j].path≠g[c].files[k].path:=fun j hj hjk e=>by
    unfold ordV at ho
    rw[List.all_eq_true] at ho
    have:=asc_all (ps:=g[c].files.map FileT.path) (fun i hi=>by
      have:=ho i (by simpa using hi)
      rw[Bool.and_eq_true] at this
      exact this.1) k j hjk (by simpa using hk)
    have e1:(g[c].files.map FileT.path).getD j []=g[c].files[j].path:=by simp[List.getD,hj]
    have e2:(g[c].files.map FileT.path).getD k []=g[c].files[k].path:=by simp[List.getD,hk]
    rw[e1,e2,e,bl_irrefl] at this
    cases this
  obtain⟨h1,h2⟩:=find_hit hk hn rfl
  unfold hasF blobG
  rw[show g.getD c default=g[c] by simp[List.getD,hc]]
  exact⟨h1,h2⟩
def pick30 (raw:List Int) (start fr to:Int):Int × Str × SpanT × Bool :=
  if (graphV raw 7 5).length=0 then (0,[],⟨0,0⟩,false) else
    if ((graphV raw 7 5).getD (modV start (graphV raw 7 5).length).toNat default).files.length=0 then (modV start (graphV raw 7 5).length,[],⟨0,0⟩,false) else
      pick30f (modV start (graphV raw 7 5).length) (((graphV raw 7 5).getD (modV start (graphV raw 7 5).length).toNat default).files.getD (modV (atV raw 5) ((graphV raw 7 5).getD (modV start (graphV raw 7 5).length).toNat default).files.length).toNat default) fr to
where pick30f (c:Int) (x:FileT) (fr to:Int):Int × Str × SpanT × Bool :=
  if (linesV x.blob).length=0 then (c,x.path,⟨0,0⟩,false) else (c,x.path,⟨modV fr (linesV x.blob).length,modV fr (linesV x.blob).length+1+modV to ((linesV x.blob).length-modV fr (linesV x.blob).length)⟩,true)
structure Pk30 (g:List CommitT) (x:Int × Str × SpanT × Bool):Prop where
  ok:x.2.2.2=true→folE g x.1 x.2.1 x.2.2.1=0
theorem ct_law30_pick_aux (raw:List Int) (start fr to:Int):Pk30 (graphV raw 7 5) (pick30 raw start fr to)∧((graphV raw 7 5).length=0∧pick30 raw start fr to=(0,[],⟨0,0⟩,false) ∨
    ∃(c:Nat) (hc:c<(graphV raw 7 5).length),modV start (graphV raw 7 5).length=(c:Int)∧((graphV raw 7 5)[c].files.length=0∧pick30 raw start fr to=((c:Int),[],⟨0,0⟩,false) ∨
      ∃(k:Nat) (hk:k<(graphV raw 7 5)[c].files.length),modV (atV raw 5) (graphV raw 7 5)[c].files.length=(k:Int)∧pick30 raw start fr to=pick30.pick30f c (graphV raw 7 5)[c].files[k] fr to)):=by
  have o:=graphV_ok raw (n:=7) (lines:=5) (by omega) (by omega) (by omega) (by decide)
  have hg:=GV.of o.1 o.2
  by_cases c0:(graphV raw 7 5).length=0
  · have hv:pick30 raw start fr to=(0,[],⟨0,0⟩,false):=by unfold pick30;rw[if_pos c0]
    exact⟨⟨fun h=>by rw[hv] at h;cases h⟩,.inl ⟨c0,hv⟩⟩
  · have hc:=modV_lt start (n:=(graphV raw 7 5).length) (by omega)
    obtain⟨c,hcc⟩:=Int.eq_ofNat_of_zero_le hc.1
    have hcl:c<(graphV raw 7 5).length:=by omega
    have hge:(graphV raw 7 5).getD c default=(graphV raw 7 5)[c]:=by simp[List.getD,hcl]
    by_cases c1:(graphV raw 7 5)[c].files.length=0
    · have hv:pick30 raw start fr to=((c:Int),[],⟨0,0⟩,false):=by
        unfold pick30
        rw[if_neg c0,hcc,Int.toNat_natCast,hge,if_pos c1]
      exact⟨⟨fun h=>by rw[hv] at h;cases h⟩,.inr ⟨c,hcl,hcc,.inl ⟨c1,hv⟩⟩⟩
    · have hk:=modV_lt (atV raw 5) (n:=(graphV raw 7 5)[c].files.length) (by omega)
      obtain⟨k,hkk⟩:=Int.eq_ofNat_of_zero_le hk.1
      have hkl:k<(graphV raw 7 5)[c].files.length:=by omega
      have hv:pick30 raw start fr to=pick30.pick30f c (graphV raw 7 5)[c].files[k] fr to:=by
        unfold pick30
        rw[if_neg c0,hcc,Int.toNat_natCast,hge,if_neg c1,hkk,Int.toNat_natCast]
        congr 1
        simp[List.getD,hkl]
      refine⟨⟨fun h=>?_⟩,.inr ⟨c,hcl,hcc,.inr ⟨k,hkl,hkk,hv⟩⟩⟩
      rw[hv] at h ⊢
      unfold pick30.pick30f at h ⊢
      obtain⟨u1,u2⟩:=hg.uniq hcl hkl
      by_cases c2:(linesV (graphV raw 7 5)[c].files[k].blob).length=0
      · rw[if_pos c2] at h;cases h
      · rw[if_neg c2]
        simp only
        have m1:=modV_lt fr (n:=((linesV (graphV raw 7 5)[c].files[k].blob).length:Int)) (by omega)
        have m2:=modV_lt to (n:=((linesV (graphV raw 7 5)[c].files[k].blob).length:Int)-modV fr ((linesV (graphV raw 7 5)[c].files[k].blob).length:Int)) (by omega)
        have he:begE (graphV raw 7 5) (c:Int) (graphV raw 7 5)[c].files[k].path=0:=by
          unfold begE
          rw[if_pos hg.c,if_pos ⟨by omega,by omega,by simpa using u1⟩]
        have hf:fileN (graphV raw 7 5) (c:Int) (graphV raw 7 5)[c].files[k].path=(linesV (graphV raw 7 5)[c].files[k].blob).length:=by
          unfold fileN
          rw[Int.toNat_natCast,u2]
        unfold folE
        rw[if_pos he,if_pos]
        rw[hf]
        simp only
        exact⟨m1.1,by omega,by omega⟩
@[simp] def S_law30_pick:List D→Prop × D:=spec4 (α:=List Int) (β:=Int) (γ:=Int) (δ:=Int) (fun raw _ _ _=>raw.length≤9223372036854775807) (fun raw start fr to=>.tup [Rep.to (graphV raw 7 5),.int .i64 (pick30 raw start fr to).1,.str (pick30 raw start fr to).2.1,Rep.to (pick30 raw start fr to).2.2.1,.bool (pick30 raw start fr to).2.2.2])
theorem ct_law30_pick {P:Program} {f g1 g2 g3 g4:Nat} {G:Gam} (h:CodeOf P f 4 16 [4,5,6,22007,8] (x_law30_pick g1 g2 g3 g4)) (hG:GamOk P G) (h1:G.find g1=some S_gen_Graph) (h2:G.find g2=some S_gen_Mod) (h3:G.find g3=some S_gen_At) (h4:G.find g4=some S_ref02_Lines):Has P f S_law30_pick:=h.has4 hG fun raw start fr to hp=>by
  have o:=graphV_ok raw (n:=7) (lines:=5) (by omega) (by omega) (by omega) (by decide)
  have hg:=GV.of o.1 o.2
  have hol:=o.2.1
  obtain⟨-,hx⟩:=ct_law30_pick_aux raw start fr to
  rcases hx with ⟨c0,hv⟩ | ⟨c,hcl,hcc,⟨c1,hv⟩ | ⟨k,hkl,hkk,hv⟩⟩
  · rw[hv]
    simp[x_law30_pick,h1,hp,c0]
  · rw[hv]
    generalize hgg:graphV raw 7 5=g at *
    have r3:1≤(g.length:Int)∧(g.length:Int)≤9223372036854775807:=by omega
    simp[x_law30_pick,h1,h2,hp,hgg,show ¬g.length=0 by omega,hcc,hcl,c1,getD_map,r3]
  · rw[hv]
    generalize hgg:graphV raw 7 5=g at *
    have r3:1≤(g.length:Int)∧(g.length:Int)≤9223372036854775807:=by omega
    have hfl:=(hg.files _ (List.getElem_mem hcl)).1
    have hfb:=(hg.files _ (List.getElem_mem hcl)).2 _ (List.getElem_mem hkl)
    have r4:1≤(g[c].files.length:Int)∧(g[c].files.length:Int)≤9223372036854775807:=by omega
    have hbl:=check_len hfb
    have hbn:=checkT_lines hfb
    have hfn:¬g[c].files.length=0:=by omega
    unfold pick30.pick30f
    generalize hx:g[c].files[k]=x at *
    obtain⟨xp,xb⟩:=x
    simp only at hbl hbn hfb ⊢
    by_cases c2:(linesV xb).length=0
    · rw[if_pos c2]
      simp[x_law30_pick,h1,h2,h3,h4,hp,hgg,show ¬g.length=0 by omega,hcc,hcl,hfn,hkk,hkl,hx,getD_map,r3,r4,show raw.length≤9223372036854775807 by omega,show xb.length≤4194304 by omega,c2]
    · rw[if_neg c2]
      have m1:=modV_lt fr (n:=((linesV xb).length:Int)) (by omega)
      have m2:=modV_lt to (n:=((linesV xb).length:Int)-modV fr ((linesV xb).length:Int)) (by omega)
      generalize hn:(linesV xb).length=n at *
      generalize hm1:modV fr (n:Int)=a at *
      generalize hm2:modV to ((n:Int)-a)=b at *
      have w1:IntKind.i64.wrap ((n:Int)-a)=(n:Int)-a:=wrap_in (by omega) (by omega)
      have w2:IntKind.i64.wrap (a+1)=a+1:=wrap_in (by omega) (by omega)
      have w3:IntKind.i64.wrap (a+1+b)=a+1+b:=wrap_in (by omega) (by omega)
      have r5:1≤(n:Int)∧(n:Int)≤9223372036854775807:=by omega
      have r6:1≤(n:Int)-a∧(n:Int)-a≤9223372036854775807:=by omega
      simp[x_law30_pick,h1,h2,h3,h4,hp,hgg,show ¬g.length=0 by omega,hcc,hcl,hfn,hkk,hkl,hx,getD_map,r3,r4,show raw.length≤9223372036854775807 by omega,show xb.length≤4194304 by omega,hn,c2,r5,hm1,w1,w2,r6,hm2,w3]
theorem follow_len {g:List CommitT} (hg:GV g) {path:Str} {c:Nat} {s:SpanT} (hs:StartOk g path c s):(followS g path c s).V.length≤300∧(followS g path c s).L.length≤300:=by
  obtain⟨hh,hf⟩:=hg.fix
  have hl:=(log_F hg.rel hf hs).inv
  have hord:OrdP g (orderS g c):=order_P _ (fun _ _=>trivial)
  have hol:(orderS g c).length≤g.length:=nodup_le _ _ hord.nd hord.rng
  have:=hg.len
  rw[hl.V,hl.L,List.length_map,List.length_map]
  have h1:=List.length_filter_le (neS (followS g path c s).R) (orderS g c)
  have h2:=List.length_filter_le (fun x=>neS (followS g path c s).R x && showB g path (followS g path c s).R x) (orderS g c)
  omega
theorem trk_len {g:List CommitT} (ho:GraphOk g) (c:Int) (path:Str) (s:SpanT):(trkL g c path s).length≤300∧(logL g c path s).length≤300:=by
  unfold trkL logL
  by_cases h:folE g c path s=0
  · rw[if_pos h,if_pos h]
    obtain⟨h1,_⟩:=folE_ok h
    obtain⟨h2,h3,h4,_⟩:=begE_ok h1
    obtain⟨n,rfl⟩:=Int.eq_ofNat_of_zero_le h3
    rw[Int.toNat_natCast]
    exact follow_len (GV.of h2 ho) (folE_start h)
  · rw[if_neg h,if_neg h]
    simp
def TC (g:List CommitT) (path:Str) (start:Nat) (s:SpanT) (R:List SpanT) (p c:Nat) (x:Int):Prop:=(p=start∧s.fr≤x∧x<s.to)∨∃c':Nat,c'<c∧(p:Int)∈(g.getD c' default).parents∧HandP g path R c' p x
theorem IsHull.span {s:SpanT} (h:s.fr<s.to):IsHull (fun x=>s.fr≤x∧x<s.to) s:=⟨fun x hx=>hx,fun q=>⟨by omega,by omega⟩,fun q=>⟨by omega,by omega⟩⟩
theorem TC.zero {g:List CommitT} {path:Str} {start:Nat} {s:SpanT} {R:List SpanT} {p:Nat} (h:s.fr<s.to):IsHull (TC g path start s R p 0) (if p=start then s else ⟨0,0⟩):=by
  split
  · rename_i e
    refine (IsHull.span h).congr fun x=>⟨fun hx=>.inl ⟨e,hx⟩,fun hx=>?_⟩
    rcases hx with ⟨_,hx⟩ | ⟨c,hc,_⟩
    · exact hx
    · omega
  · rename_i e
    refine IsHull.none fun x hx=>?_
    rcases hx with ⟨h,_⟩ | ⟨c,hc,_⟩
    · exact e h
    · omega
theorem TC.succ {g:List CommitT} {path:Str} {start:Nat} {s:SpanT} {R:List SpanT} {p c:Nat} (x:Int):TC g path start s R p (c+1) x↔TC g path start s R p c x∨((p:Int)∈(g.getD c default).parents∧HandP g path R c p x):=by
  unfold TC
  constructor
  · rintro (h | ⟨c',h1,h2,h3⟩)
    · exact .inl (.inl h)
    · by_cases e:c'=c
      · subst e;exact .inr ⟨h2,h3⟩
      · exact .inl (.inr ⟨c',by omega,h2,h3⟩)
  · rintro ((h | ⟨c',h1,h2,h3⟩) | ⟨h2,h3⟩)
    · exact .inl h
    · exact .inr ⟨c',by omega,h2,h3⟩
    · exact .inr ⟨c,by omega,h2,h3⟩
theorem TC.skip {g:List CommitT} {path:Str} {start:Nat} {s:SpanT} {R:List SpanT} {p c:Nat} {w:SpanT} (h:IsHull (TC g path start s R p c) w) (hn:(p:Int)∈(g.getD c default).parents→∀x,¬HandP g path R c p x):IsHull (TC g path start s R p (c+1)) w :=
  h.congr fun x=>⟨fun hx=>(TC.succ x).2 (.inl hx),fun hx=>((TC.succ x).1 hx).elim id fun⟨a,b⟩=>(hn a x b).elim⟩
theorem TC.all {g:List CommitT} {path:Str} {start:Nat} {s:SpanT} {o:List Int} {st:LogS} (hl:LogF g path start s o st) (hr:∀x,x∈o→0≤x∧x<(g.length:Int)) {p:Nat} (x:Int):TC g path start s st.R p g.length x↔TrackP g path start s o st.R p x:=by
  unfold TC TrackP
  constructor
  · rintro (h | ⟨c,h1,h2,h3⟩)
    · exact .inl h
    · refine .inr ⟨c,?_,h2,h3⟩
      obtain⟨_,j,h4,h5,_⟩:=h3
      exact hl.mem c h1 (by omega)
  · rintro (h | ⟨c,h1,h2,h3⟩)
    · exact .inl h
    · exact .inr ⟨c,by have:=hr _ h1;omega,h2,h3⟩
def QC (q:List SpanT) (t:SpanT) (k:Nat) (x:Int):Prop:=∃(k':Nat) (h:k'<q.length),k'<k∧t.fr≤q[k'].to∧q[k'].to<t.to∧q[k'].fr=x
theorem QC.none {q:List SpanT} {t:SpanT} (x:Int):¬QC q t 0 x:=by
  rintro⟨k,_,h,_⟩
  omega
theorem QC.succ {q:List SpanT} {t:SpanT} {k:Nat} (hk:k<q.length) (x:Int):QC q t (k+1) x↔QC q t k x∨(t.fr≤q[k].to∧q[k].to<t.to∧q[k].fr=x):=by
  constructor
  · rintro⟨k',h,h1,h2,h3,h4⟩
    by_cases e:k'=k
    · subst e;exact .inr ⟨h2,h3,h4⟩
    · exact .inl ⟨k',h,by omega,h2,h3,h4⟩
  · rintro (⟨k',h,h1,h2,h3,h4⟩ | ⟨h2,h3,h4⟩)
    · exact⟨k',h,by omega,h2,h3,h4⟩
    · exact⟨k,hk,by omega,h2,h3,h4⟩
theorem partL_at:∀{p:List SpanT} {i:Nat} (h:i<p.length),p.Pairwise (fun x y=>x.to<y.to)→partL p p[i].to=p[i].fr
  | s::p,0,h,hp=>by rw[List.getElem_cons_zero,partL,if_pos rfl]
  | s::p,i+1,h,hp=>by
    rw[List.getElem_cons_succ]
    rw[List.pairwise_cons] at hp
    have:=hp.1 _ (List.getElem_mem (by simpa using h:i<p.length))
    rw[partL,if_neg (by omega)]
    exact partL_at (by simpa using h) hp.2
theorem QC.all {g:List CommitT} {path:Str} {R:List SpanT} {c p:Nat} (hf:hasF g path p=true) (x:Int):QC (prt g path p c) (R.getD c z0) (prt g path p c).length x↔HandP g path R c p x:=by
  have hasc:=pairs_asc (blobG g path p) (blobG g path c)
  have hpw:=asc_pair _ _ _ _ _ hasc
  have hm:=asc_mem _ _ _ _ _ hasc
  constructor
  · rintro⟨k,h,_,h1,h2,h3⟩
    have h4:=partL_at h hpw
    have h5:=hm _ (List.getElem_mem h)
    exact⟨hf,(prt g path p c)[k].to,h1,h2,by rw[h4];exact h3,by rw[← h3];exact h5.1⟩
  · rintro⟨_,j,h1,h2,h3,h4⟩
    obtain⟨s,m1,m2,m3⟩:=partL_mem (p:=prt g path p c) (j:=j) (fun s hs=>(hm s hs).1) (by rw[h3];exact h4)
    obtain⟨k,hk,rfl⟩:=List.mem_iff_getElem.1 m1
    exact⟨k,hk,hk,by omega,by omega,by rw[m3];exact h3⟩
theorem IsHull.one {T:Int→Prop} {w:SpanT} (h:IsHull T w) (a:Int):IsHull (fun x=>T x∨a=x) (hullS w ⟨a,a+1⟩):=by
  refine (h.hull (b:=⟨a,a+1⟩) (U:=fun x=>a=x) ⟨fun x hx=>by simp only;omega,fun _=>rfl,fun _=>by simp only;omega⟩)
theorem hull_one (w:SpanT) (a:Int):hullS w ⟨a,a+1⟩=if w.to≤w.fr then ⟨a,a+1⟩ else ⟨min w.fr a,max w.to (a+1)⟩:=by
  unfold hullS
  simp only
  split
  · rw[if_neg (by omega)]
  · rw[if_neg (by omega)]
/-! ### lists filtered -/
theorem filter_at {α:Type} {q:α→Bool}:∀{o:List α} {i:Nat} (h:i<o.length),q o[i]=true→(o.filter q)[((o.take i).filter q).length]?=some o[i]
  | a::o,0,h,hq=>by simp only[List.getElem_cons_zero] at hq ⊢;simp[hq]
  | a::o,i+1,h,hq=>by
    simp only[List.getElem_cons_succ] at hq ⊢
    have ih:=filter_at (q:=q) (o:=o) (i:=i) (by simpa using h) hq
    rw[List.take_succ_cons,List.filter_cons,List.filter_cons]
    by_cases e:q a=true
    · rw[if_pos e,if_pos e]
      simpa using ih
    · rw[if_neg e,if_neg e]
      exact ih
theorem filter_step {α:Type} {q:α→Bool} {o:List α} {i:Nat} (h:i<o.length):((o.take (i+1)).filter q).length=((o.take i).filter q).length+(if q o[i]=true then 1 else 0):=by
  rw[List.take_succ_eq_append_getElem h,List.filter_append,List.length_append]
  congr 1
  by_cases e:q o[i]=true
  · simp[e]
  · simp[e]
def showK (g:List CommitT) (path:Str) (R:List SpanT) (c k:Nat):Bool:=decide ((g.getD c default).parents=[]) || ((g.getD c default).parents.take k).any (handT g path c R)
theorem showK_all (g:List CommitT) (path:Str) (R:List SpanT) (c:Nat):showK g path R c (g.getD c default).parents.length=showB g path R (c:Int):=by
  unfold showK showB
  rw[List.take_length,Int.toNat_natCast]
theorem showK_succ {g:List CommitT} {path:Str} {R:List SpanT} {c k:Nat} (h:k<(g.getD c default).parents.length):showK g path R c (k+1)=(showK g path R c k || handT g path c R (g.getD c default).parents[k]):=by
  unfold showK
  rw[List.take_succ_eq_append_getElem h,List.any_append,Bool.or_assoc]
  simp
structure LgAll (g:List CommitT) (path:Str) (c:Nat) (s:SpanT) (st:LogS):Prop where
  gv:GV g
  so:StartOk g path c s
  lf:LogF g path c s (orderS g c) st
  ord:OrdP g (orderS g c)
  ol:(orderS g c).length≤g.length
theorem lgAll {g:List CommitT} (ho:GraphOk g) {c:Nat} {path:Str} {s:SpanT} (h:folE g (c:Int) path s=0):LgAll g path c s (followS g path c s)∧trkL g (c:Int) path s=(followS g path c s).V∧logL g (c:Int) path s=(followS g path c s).L:=by
  obtain⟨h1,_⟩:=folE_ok h
  obtain⟨h2,_⟩:=begE_ok h1
  have hg:=GV.of h2 ho
  obtain⟨hh,hf⟩:=hg.fix
  have hs:=folE_start h
  have hord:OrdP g (orderS g c):=order_P _ (fun _ _=>trivial)
  refine⟨⟨hg,hs,log_F hg.rel hf hs,hord,nodup_le _ _ hord.nd hord.rng⟩,?_,?_⟩
  · unfold trkL;rw[if_pos h,Int.toNat_natCast]
  · unfold logL;rw[if_pos h,Int.toNat_natCast]
theorem folE_c {g:List CommitT} {c:Int} {path:Str} {s:SpanT} (h:folE g c path s=0):∃n:Nat,c=(n:Int):=by
  obtain⟨h1,_⟩:=folE_ok h
  obtain⟨_,h2,_⟩:=begE_ok h1
  exact Int.eq_ofNat_of_zero_le h2
structure HwX where
  c:Nat
  w:SpanT
@[simp] def S_law30_LinelogHandsDown:List D→Prop × D:=spec4 (α:=List Int) (β:=Int) (γ:=Int) (δ:=Int) (fun raw _ _ _=>raw.length≤9223372036854775807) (fun _ _ _ _=>.bool true)
theorem ct_law30_LinelogHandsDown {P:Program} {f g1 g2 g3 g4 g5 g6 g7 g8 g9:Nat} {G:Gam} (h:CodeOf P f 4 34 [4] (x_law30_LinelogHandsDown g1 g2 g3 g4 g5 g6 g7 g8 g9)) (hG:GamOk P G) (h1:G.find g1=some S_law30_pick) (h2:G.find g2=some S_law30_awake) (h3:G.find g3=some S_linelog_Tracked) (h4:G.find g4=some S_ref21_Find) (h5:G.find g5=some S_law30_find) (h6:G.find g6=some S_ref23_Has) (h7:G.find g7=some S_ref09_Blobs) (h8:G.find g8=some S_ref02_Lines) (h9:G.find g9=some S_ref08_Matched):Has P f S_law30_LinelogHandsDown:=h.has4 hG fun raw start0 fr0 to0 hp=>by
  have o:=(graphV_ok raw (n:=7) (lines:=5) (by omega) (by omega) (by omega) (by decide)).2
  obtain⟨⟨hpk⟩,-⟩:=ct_law30_pick_aux raw start0 fr0 to0
  generalize hgg:graphV raw 7 5=g at *
  generalize hcp:pick30 raw start0 fr0 to0=x at *
  obtain⟨c,path,⟨fr,to⟩,b⟩:=x
  simp only at hpk
  cases b with
  | false=>simp[x_law30_LinelogHandsDown,h1,h2,hp,hgg,hcp]
  | true =>
    have hv:=hpk rfl
    obtain⟨start,rfl⟩:=folE_c hv
    obtain⟨A,ht,-⟩:=lgAll o hv
    have htl:=(trk_len o (start:Int) path ⟨fr,to⟩).1
    rw[ht] at htl
    have hfind:=fun c (h:c<g.length)=>A.lf.find (c:=c) h
    have hg:=A.gv
    have hgl:=hg.len
    have hsf:=A.so.s1
    simp only at hsf
    have hgood:=A.lf.good
    have hrl:=A.lf.inv.len
    have hall:=fun (p:Nat) x=>TC.all (p:=p) A.lf A.ord.rng x
    have hhull:=A.lf.inv.hull
    generalize followS g path start ⟨fr,to⟩=st at *
    obtain⟨R,V,L⟩:=st
    simp only at hfind hall hhull hgood hrl htl ht
    clear A
    simp[x_law30_LinelogHandsDown,h1,h3,hp,hgg,hcp,o,hv,ht]
    refine vc_lp (σ:=Nat) (fun p=>p≤g.length) (fun p=>g.length-p)
      (fun p=>[.any,.d (.int .i64 start),.any,.any,.any,.d (Rep.to g),.d (.str path),.ref 0 0 0 0,.any,.d (Rep.to V),.any,.d (.int .i64 p),.any,.any,.any,.any,.any,.any,.any,.any,.any,.any,.any,.any,.any,.any,.any,.any,.any,.any,.any,.any,.any,.any])
      (fun _=>[.cells 0 2 [.d (.agg [.int .i64 fr,.int .i64 to])]]) 0 (by simp) (by simp) (by simp) ?_
    intro p hpi
    by_cases hpl:p<g.length
    · have w1:IntKind.i64.wrap ((p:Int)+1)=(p:Int)+1:=wrap_in (by omega) (by omega)
      have hpf:=(hg.files _ (List.getElem_mem hpl)).1
      have e1:blobF g[p].files path=blobG g path p:=by unfold blobG;simp[List.getD,hpl]
      have e2:inB g[p].files path=hasF g path p:=by unfold hasF;simp[List.getD,hpl]
      have hpb:=hg.blob hpl path
      have hpn:=check_len hpb
      have hz:=TC.zero (g:=g) (path:=path) (start:=start) (s:=⟨fr,to⟩) (R:=R) (p:=p) hsf
      have hrp:R.getD p z0=R[p]:=by simp[List.getD,show p<R.length by omega]
      have hfp:=hfind p hpl
      rw[hrp] at hfp
      have hend:∀w,IsHull (TC g path start ⟨fr,to⟩ R p g.length) w→(w.fr<w.to↔R[p].fr<R[p].to)∧(w.fr<w.to→w=R[p]):=fun w hw=>by
        have:=(hw.congr (hall p)).uniq (hhull p hpl)
        rw[hrp] at this
        exact this
      simp[hpl,getD_map,h4,show g[p].files.length≤9223372036854775807 by omega,e1,e2]
      refine⟨fun hps=>?_,fun hps=>?_⟩
      all_goals
        refine vc_lp (σ:=HwX) (fun x=>x.c≤g.length∧IsHull (TC g path start ⟨fr,to⟩ R p x.c) x.w) (fun x=>g.length-x.c)
          (fun x=>[.any,.d (.int .i64 start),.any,.any,.any,.d (Rep.to g),.d (.str path),.ref 0 0 0 0,.any,.d (Rep.to V),.any,.d (.int .i64 p),.d (.str (blobG g path p)),.d (.bool (hasF g path p)),.ref 1 0 0 0,.d (.int .i64 x.c),.any,.any,.any,.any,.any,.any,.any,.any,.any,.any,.any,.any,.any,.any,.any,.any,.any,.any])
          (fun x=>[.cells 0 2 [.d (.agg [.int .i64 fr,.int .i64 to])],.cells 0 2 [.agg [.d (.int .i64 x.w.fr),.d (.int .i64 x.w.to)]]])
          ⟨0,if p=start then ⟨fr,to⟩ else ⟨0,0⟩⟩ (by simp) (by first | (have hps':p=start:=by omega);simp[hps'] | (have hps':¬p=start:=by omega);simp[hps']) ⟨by simp,hz⟩ ?_
        rintro⟨c,w⟩ ⟨hci,hw⟩
        simp only at hci hw
        by_cases hcl:c<g.length
        · have w2:IntKind.i64.wrap ((c:Int)+1)=(c:Int)+1:=wrap_in (by omega) (by omega)
          have hcf:=(hg.files _ (List.getElem_mem hcl)).1
          have c1:blobF g[c].files path=blobG g path c:=by unfold blobG;simp[List.getD,hcl]
          have hcb:=hg.blob hcl path
          have hcn:=check_len hcb
          have hcp:=hg.par _ (List.getElem_mem hcl)
          have eg:g.getD c default=g[c]:=by simp[List.getD,hcl]
          have hrc:R.getD c z0=R[c]:=by simp[List.getD,show c<R.length by omega]
          have hfc:=hfind c hcl
          rw[hrc] at hfc
          by_cases hne:R[c].fr<R[c].to
          · rw[if_pos hne] at hfc
            cases hf:hasF g path p with
            | true =>
              by_cases hm:(p:Int)∈g[c].parents
              · obtain⟨hck,hmat⟩:=scr_ok hpb hcb
                have hbd:=scr_blobs hpb hcb
                have hcn2:=check_clen hck
                have hex:∃n,checkV (scr (blobG g path p) (blobG g path c)) (linesV (blobG g path p)).length n=true:=⟨_,hck⟩
                have hqa:=fun x=>QC.all (g:=g) (path:=path) (R:=R) (c:=c) (p:=p) hf x
                rw[hrc,show prt g path p c=pairsS (blobG g path p) (blobG g path c) from rfl] at hqa
                have hasc:=check_asc hck
                rw[hmat] at hasc
                have hrg:=asc_mem _ _ _ _ _ hasc.2.2.1
                have hsucc:=fun x=>TC.succ (g:=g) (path:=path) (start:=start) (s:=⟨fr,to⟩) (R:=R) (p:=p) (c:=c) x
                rw[eg] at hsucc
                generalize pairsS (blobG g path p) (blobG g path c)=q at *
                simp[hcl,getD_map,h5,show V.length≤1048576 by omega,hfc,hf,h6,show g[c].parents.length≤9223372036854775807 by omega,hm,h4,show g[c].files.length≤9223372036854775807 by omega,c1,h7,show (blobG g path p).length≤4194304 by omega,show (blobG g path c).length≤4194304 by omega,hbd,h8,h9,show (scr (blobG g path p) (blobG g path c)).length≤100000 by omega,hex,hmat]
                refine vc_lp (σ:=HwX) (fun x=>x.c≤q.length∧IsHull (fun y=>TC g path start ⟨fr,to⟩ R p c y∨QC q R[c] x.c y) x.w) (fun x=>q.length-x.c)
                  (fun x=>[.any,.d (.int .i64 start),.any,.any,.any,.d (Rep.to g),.d (.str path),.ref 0 0 0 0,.any,.d (Rep.to V),.any,.d (.int .i64 p),.d (.str (blobG g path p)),.d (.bool true),.ref 1 0 0 0,.d (.int .i64 c),.ref 2 0 0 0,.any,.any,.any,.d (Rep.to q),.d (.int .i64 x.c),.any,.any,.any,.any,.any,.any,.any,.any,.any,.any,.any,.any])
                  (fun x=>[.cells 0 2 [.d (.agg [.int .i64 fr,.int .i64 to])],.cells 0 2 [.agg [.d (.int .i64 x.w.fr),.d (.int .i64 x.w.to)]],.cells 0 2 [.d (.agg [.int .i64 R[c].fr,.int .i64 R[c].to])]])
                  ⟨0,w⟩ (by simp) (by simp) ⟨by simp,hw.congr fun y=>⟨.inl,fun h=>h.elim id fun h=>(QC.none y h).elim⟩⟩ ?_
                rintro⟨k,v⟩ ⟨hki,hv⟩
                simp only at hki hv
                by_cases hkl:k<q.length
                · have w3:IntKind.i64.wrap ((k:Int)+1)=(k:Int)+1:=wrap_in (by omega) (by omega)
                  have hr:=hrg _ (List.getElem_mem hkl)
                  have hqs:=fun y=>QC.succ (t:=R[c]) hkl y
                  generalize hgk:q[k]=a at *
                  have w4:IntKind.i64.wrap (a.fr+1)=a.fr+1:=wrap_in (by omega) (by omega)
                  by_cases k1:a.to<R[c].fr
                  · simp[hkl,getD_map,hgk,k1,w3]
                    exact Nxt.mk (⟨k+1,v⟩:HwX) (by simp only;omega) (by simp) (by simp) ⟨by simp only;omega,hv.congr fun y=>by
                      rw[hqs]
                      exact⟨fun h=>h.imp id .inl,fun h=>h.imp id fun h=>h.elim id fun h=>by omega⟩⟩
                  · by_cases k2:R[c].to≤a.to
                    · simp[hkl,getD_map,hgk,k1,k2,w3]
                      exact Nxt.mk (⟨k+1,v⟩:HwX) (by simp only;omega) (by simp) (by simp) ⟨by simp only;omega,hv.congr fun y=>by
                        rw[hqs]
                        exact⟨fun h=>h.imp id .inl,fun h=>h.imp id fun h=>h.elim id fun h=>by omega⟩⟩
                    · have ho:=(hv.one a.fr).congr (U:=fun y=>TC g path start ⟨fr,to⟩ R p c y∨QC q R[c] (k+1) y) fun y=>by
                        rw[hqs]
                        constructor
                        · rintro ((h | h) | h)
                          · exact .inl h
                          · exact .inr (.inl h)
                          · exact .inr (.inr ⟨by omega,by omega,h⟩)
                        · rintro (h | h | ⟨_,_,h⟩)
                          · exact .inl (.inl h)
                          · exact .inl (.inr h)
                          · exact .inr h
                      rw[hull_one] at ho
                      by_cases k3:v.to≤v.fr
                      · rw[if_pos k3] at ho
                        simp[hkl,getD_map,hgk,k1,k2,k3,w3,w4]
                        exact Nxt.mk (⟨k+1,⟨a.fr,a.fr+1⟩⟩:HwX) (by simp only;omega) (by simp) (by simp) ⟨by simp only;omega,ho⟩
                      · rw[if_neg k3] at ho
                        simp[hkl,getD_map,hgk,k1,k2,k3,w3,w4]
                        exact Nxt.mk (⟨k+1,⟨min v.fr a.fr,max v.to (a.fr+1)⟩⟩:HwX) (by simp only;omega) (by simp) (by simp) ⟨by simp only;omega,ho⟩
                · have h9':k=q.length:=by omega
                  subst h9'
                  simp[w2]
                  exact Nxt.mk (⟨c+1,v⟩:HwX) (by simp only;omega) (by simp) (by simp) ⟨by simp only;omega,hv.congr fun y=>by
                    rw[hsucc,hqa]
                    exact⟨fun h=>h.imp id fun h=>⟨hm,h⟩,fun h=>h.imp id fun h=>h.2⟩⟩
              · simp[hcl,getD_map,h5,show V.length≤1048576 by omega,hfc,hf,h6,show g[c].parents.length≤9223372036854775807 by omega,hm,w2]
                exact Nxt.mk (⟨c+1,w⟩:HwX) (by simp only;omega) (by simp[hf]) (by simp) ⟨by simp only;omega,TC.skip hw (fun h=>(hm (by rwa [eg] at h)).elim)⟩
            | false =>
              simp[hcl,getD_map,h5,show V.length≤1048576 by omega,hfc,hf,w2]
              exact Nxt.mk (⟨c+1,w⟩:HwX) (by simp only;omega) (by simp[hf]) (by simp) ⟨by simp only;omega,TC.skip hw (fun _ x h=>by have:=h.1;rw[hf] at this;cases this)⟩
          · rw[if_neg hne] at hfc
            simp[hcl,getD_map,h5,show V.length≤1048576 by omega,hfc,w2]
            exact Nxt.mk (⟨c+1,w⟩:HwX) (by simp only;omega) (by simp) (by simp) ⟨by simp only;omega,TC.skip hw (fun _ x h=>by
              obtain⟨_,j,h1,h2,_⟩:=h
              rw[hrc] at h1 h2
              omega)⟩
        · have h9':c=g.length:=by omega
          subst h9'
          obtain⟨u1,u2⟩:=hend w hw
          by_cases hne:R[p].fr<R[p].to
          · rw[if_pos hne] at hfp
            have u3:=u2 (u1.2 hne)
            subst u3
            simp[h5,show V.length≤1048576 by omega,hfp,hne,eSeq,cellsEq,cellEq,w1]
            exact Nxt.mk (p+1) (by omega) (by simp) (by simp) (by omega)
          · rw[if_neg hne] at hfp
            have u3:¬w.fr<w.to:=fun h=>hne (u1.1 h)
            simp[h5,show V.length≤1048576 by omega,hfp,u3,w1]
            exact Nxt.mk (p+1) (by omega) (by simp) (by simp) (by omega)
    · have h9':p=g.length:=by omega
      subst h9'
      simp[h2]
theorem law30_LinelogHandsDown_pre (raw:List Int) (start:Int) (fr:Int) (to:Int) (w0:Arg.wf raw) (w1:Arg.wf start) (w2:Arg.wf fr) (w3:Arg.wf to):raw.length≤9223372036854775807:=by
  have:=len_wf w0
  omega
end Go.AE
namespace Go.AE
open Go Go.Proofs Go.RowKit
def SeqW {α:Type} (n:Nat) (P:Program) (gfn:Nat) (caps:Array Value) (encs:α→Array Value) (n₀ own:Nat) (xs:List α) (w0:World):Prop :=
  ∀(l:Nat) (J Jx:List α→World→Prop) (W:World),Below n₀ w0 W→(∀pre A v,J pre A→J pre (A.setCell ⟨own,0,none⟩ v)) →
    (∀pre x A,J pre A→pre.length<xs.length→YieldAt Fence.wide (n-1) P l (encs x) A fun e B =>
      (e=.returned (.bool true)∧J (pre++[x]) B∧Below n₀ A B)∨(e=.returned (.bool false)∧Jx (pre++[x]) B)) →
    J [] W→CallsIn Fence.wide n P gfn (#[.func (.yield l) #[] #[]]++caps) W fun e B=>(∃v,e=.returned v)∧(J xs B∨∃pre,pre <+: xs∧Jx pre B)
def roundW {α:Type} (n₀:Nat) (I Ix:List α→World→Prop) (xs:List α) (A:World):Exit→Act→World→Prop
  | .normal,_,B=>KeepsOthers A B∧Below n₀ A B∧I xs B
  | .ret,_,B=>KeepsOthers A B∧Ix xs B
  | _,_,_=>False
variable {n:Nat} {P:Program}
theorem rangeW {α:Type} {g:Operand} {ps:Array Tmp} {assign body:Code} {Q:Exit→Act→World→Prop} {a:Act} {w:World}
    (h1:1≤n) {gfn:Nat} {caps:Array Value} (hg:a.eval g=.func (.func gfn) #[] caps) (eg:∀args w,(callFunc gfn args).run P w=.ok (.enter gfn args) w)
    {encs:α→Array Value} {own:Nat} (hown:own<w.heap.size) {xs:List α} (hseq:SeqW (n-1) P gfn caps encs w.heap.size own xs w) (hps:∀x,(encs x).size=ps.size)
    (I Ix:List α→World→Prop)
    (hI1:∀pre A o,w.heap.size≤A.heap.size→I pre A→I pre (A.alloc o)) (hI2:∀pre A l o,w.heap.size≤l→I pre A→I pre (A.putObj l o)) (hI3:∀pre A v,I pre A→I pre (A.setCell ⟨own,0,none⟩ v))
    (hX2:∀pre A l o,w.heap.size≤l→Ix pre A→Ix pre (A.putObj l o))
    (h0:I [] w) (a₁:α→Act)
    (hassign:∀(l:Nat) (x:α) (A:World) (K:Act→World→Prop),K (a₁ x) A →
      assign.wpIn (Fence.wide.inRound l) (n-1-1) P (Exit.then K (fun _ _ _=>False)) { tmps:=(ps.zip (encs x)).foldl (fun t (p,v)=>t.setIfInBounds p v) a.tmps,defers:=[] } A)
    (hbody:∀(l:Nat) (pre:List α) (x:α) (A:World),I pre A→pre.length<xs.length→body.wpIn (Fence.wide.inRound l) (n-1-1) P (roundW w.heap.size I Ix (pre++[x]) A) (a₁ x) A)
    (hdone:∀(D:Nat) (B:World),w.heap.size≤D→I xs B→B.heap[D]?=some (.deferred (some []))→Q .normal { a with defers:={ target:=.collected D,args:=#[] }::a.defers } B)
    (hstop:∀(D:Nat) (pre:List α) (B:World),w.heap.size≤D→pre <+: xs→Ix pre B→B.heap[D]?=some (.deferred (some []))→Code.ret.wpIn Fence.wide n P Q { a with defers:={ target:=.collected D,args:=#[] }::a.defers } B) :
    (Code.rangeFunc g ps assign body).wpIn Fence.wide n P Q a w:=by
  refine wpIn_rangeFunc ?_
  intro fn hfn
  show ∃_,_
  rw[show Fence.wide.round=none from rfl]
  obtain⟨lp,hlp⟩:∃lp:LoopState→Option Code→Loop,lp=fun st pe=>{ state:=st,pending:=pe,fn,tmps:=a.tmps,params:=ps,assign,body,defers:=w.heap.size }:=⟨_,rfl⟩
  obtain⟨V,hV⟩:∃V,(w.alloc (.deferred (some []))).alloc (.loop (lp .ready none))=V:=⟨_,rfl⟩
  have rL:V.heap[w.heap.size+1]?=some (.loop (lp .ready none)):=by
    have:=World.alloc_heap_new (w.alloc (.deferred (some []))) (.loop (lp .ready none))
    rw[World.size_alloc,hV] at this
    exact this
  have rD:V.heap[w.heap.size]?=some (.deferred (some [])):=by
    rw[← hV]
    exact (Below.heap_alloc _ _ _ (by simp)).trans (World.alloc_heap_new w _)
  have rI:I [] V:=by
    rw[← hV]
    exact hI1 _ _ _ (by simp) (hI1 _ _ _ (Nat.le_refl _) h0)
  have rB:Below w.heap.size w V:=by
    rw[← hV]
    exact ((Below.refl _ w).alloc (Nat.le_refl _) _).alloc (by simp) _
  refine⟨w.heap.size+1,[{ target:=.collected w.heap.size,args:=#[] }],V,{ target:=.fn (.func gfn) caps,args:=#[.func (.yield (w.heap.size+1)) #[] #[]] },V,gfn,
    #[.func (.yield (w.heap.size+1)) #[] #[]]++caps,V,?_,?_,?_,?_,fun _=>h1,?_⟩
  · rw[← hV,hlp]
    exact run_enterLoop_outer _ _ _ _ _
  · simp only[resolve,hg]
    simp[go_sem]
  · intro f' hf'
    trivial
  · simp[invoke,go_sem,eg]
  have key:=hseq (w.heap.size+1)
    (fun pre A=>I pre A∧A.heap[w.heap.size+1]?=some (.loop (lp .ready none))∧A.heap[w.heap.size]?=some (.deferred (some [])))
    (fun pre A=>Ix pre A∧A.heap[w.heap.size+1]?=some (.loop (lp .done (some .ret)))∧A.heap[w.heap.size]?=some (.deferred (some [])))
    V rB ?_ ?_ ⟨rI,rL,rD⟩
  · refine key.mono ?_
    rintro e B ⟨⟨v,rfl⟩,(⟨hi,hl,hk⟩ | ⟨pre,hpre,hi,hl,hk⟩)⟩
    · have hr:=run_endLoop (P:=P) hl (by rw[hlp];simp)
      rw[hlp] at hr
      exact⟨none,_,hr,hdone _ _ (Nat.le_refl _) (hI2 _ _ _ _ (by omega) hi) ((World.putObj_heap_other (by omega)).trans hk)⟩
    · have hr:=run_endLoop (P:=P) hl (by rw[hlp];simp)
      rw[hlp] at hr
      exact⟨some .ret,_,hr,hstop _ pre _ (Nat.le_refl _) hpre (hX2 _ _ _ _ (by omega) hi) ((World.putObj_heap_other (by omega)).trans hk)⟩
  · rintro pre A v ⟨hi,hl,hk⟩
    refine⟨hI3 _ _ _ hi,?_,?_⟩
    · rw[Below.heap_setCell _ _ _ _ (by show w.heap.size+1≠own;omega)];exact hl
    · rw[Below.heap_setCell _ _ _ _ (by show w.heap.size≠own;omega)];exact hk
  · rintro pre x A ⟨hi,hl,hk⟩ hlen
    have hlt:w.heap.size+1<A.heap.size:=(Array.getElem?_eq_some_iff.1 hl).1
    have hy:=run_yield (P:=P) (args:=encs x) hl (by rw[hlp];exact hps x)
    rw[hlp] at hy
    refine⟨fn,_,assign,body,hy,roundIn_of_wpIn hfn (hassign _ x A _ ⟨_,run_beginRound hl (by rw[hlp]),?_⟩)⟩
    have hl2:(A.putObj (w.heap.size+1) (.loop { lp .ready none with state:=.busy })).heap[w.heap.size+1]?=some (.loop { lp .ready none with state:=.busy }):=World.putObj_heap_same hlt
    have hk2:(A.putObj (w.heap.size+1) (.loop { lp .ready none with state:=.busy })).heap[w.heap.size]?=some (.deferred (some [])):=(World.putObj_heap_other (by omega)).trans hk
    have hb2:Below w.heap.size A (A.putObj (w.heap.size+1) (.loop { lp .ready none with state:=.busy })):=belowK_b (Nat.le_refl _) _ _ _ _ (by omega) hl rfl rfl
    refine wpIn_mono (hbody _ pre x _ (hI2 _ _ _ _ (by omega) hi) hlen) ?_
    have fin:∀(jump:Option Code) (B:World),KeepsOthers (A.putObj (w.heap.size+1) (.loop { lp .ready none with state:=.busy })) B →
        (Instr.endRound (w.heap.size+1) jump).run P B=.ok (.bool jump.isNone) (B.putObj (w.heap.size+1) (.loop (lp (if jump.isNone then .ready else .done) jump))) ∧
        B.heap[w.heap.size+1]?=some (.loop { lp .ready none with state:=.busy }) ∧
        (B.putObj (w.heap.size+1) (.loop (lp (if jump.isNone then .ready else .done) jump))).heap[w.heap.size+1]?=some (.loop (lp (if jump.isNone then .ready else .done) jump)) ∧
        (B.putObj (w.heap.size+1) (.loop (lp (if jump.isNone then .ready else .done) jump))).heap[w.heap.size]?=some (.deferred (some [])):=fun jump B hk3=>by
      have hl3:=hk3.same _ _ hl2 rfl
      have:=run_endRound (P:=P) jump hl3
      rw[hlp] at this ⊢
      exact⟨this,by rw[hlp] at hl3;exact hl3,World.putObj_heap_same (Array.getElem?_eq_some_iff.1 hl3).1,(World.putObj_heap_other (by omega)).trans (hk3.same _ _ hk2 rfl)⟩
    rintro e a3 B hp
    cases e with
    | normal =>
      obtain⟨hk3,hb3,hi3⟩:=hp
      obtain⟨hr,hl3,hl4,hk4⟩:=fin none B hk3
      exact⟨_,_,hr,.inl ⟨rfl,⟨hI2 _ _ _ _ (by omega) hi3,hl4,hk4⟩,(hb2.trans hb3).trans (belowK_b (Nat.le_refl _) _ _ _ _ (by omega) hl3 rfl rfl)⟩⟩
    | ret =>
      obtain⟨hk3,hi3⟩:=hp
      obtain⟨hr,hl3,hl4,hk4⟩:=fin (some .ret) B hk3
      exact⟨_,_,hr,.inr ⟨rfl,hX2 _ _ _ _ (by omega) hi3,hl4,hk4⟩⟩
    | exit id=>exact hp.elim
    | goto t=>exact hp.elim
    | panic ch=>exact hp.elim
    | outgrown=>exact hp.elim
end Go.AE
