/-
  Contracts: a range handed to a parent.
-/
import Derived.Test.YtchgnhinilehiaaGreatDoorCona3
import Derived.Test.YtchgnhinilehiaaGreatDoorCona2
import Derived.Test.YtchgnhinilehiaaGreatDoorCode1

set_option linter.unusedSimpArgs false
set_option linter.unusedVariables false
set_option linter.unnecessarySimpa false
set_option maxRecDepth 20000
set_option maxHeartbeats 8000000
namespace Go.AE
@[simp] def S_linelog_lines:List D→Prop × D:=spec1 (α:=Str) (fun s=>checkT s=0) (fun s=>Rep.to (linesV s))
theorem ct_linelog_lines {P:Program} {f g1:Nat} {G:Gam} (h:CodeOf P f 1 3 [1] (x_linelog_lines g1)) (hG:GamOk P G) (h1:G.find g1=some S_text_Split):Has P f S_linelog_lines:=h.has1 hG fun s hp=>by
  have:=check_len hp
  simp[x_linelog_lines,h1,splitD_ok hp,show s.length≤4194304 by omega]
structure HndOk (g:List CommitT) (path:Str) (c p:Nat) (s:SpanT):Prop where
  gv:GV g
  cl:c<g.length
  pl:p<g.length
  s0:0≤s.fr
  s1:s.fr<s.to
  s2:s.to≤((linesV (blobG g path c)).length:Int)
theorem HndOk.trk {g:List CommitT} {path:Str} {c p:Nat} {s:SpanT} (h:HndOk g path c p s):TrkOk (scr (blobG g path p) (blobG g path c)) (linesV (blobG g path p)).length (linesV (blobG g path c)).length s∧matV (scr (blobG g path p) (blobG g path c)) 0 0 (linesV (blobG g path p)).length=prt g path p c:=by
  obtain⟨h1,h2⟩:=scr_ok (h.gv.blob h.pl path) (h.gv.blob h.cl path)
  exact⟨⟨h1,h.s0,h.s1,h.s2⟩,h2⟩
def spD (l:List SpanT):List A:=l.map fun s=>.d (.agg [.int .i64 s.fr,.int .i64 s.to])
theorem spD_len (l:List SpanT):(spD l).length=l.length:=by simp[spD]
theorem spD_get {l:List SpanT} {i:Nat} (h:i<l.length):(spD l)[i]?=some (.d (.agg [.int .i64 l[i].fr,.int .i64 l[i].to])):=by simp[spD,h]
theorem spD_set (l:List SpanT) (i:Nat) (s:SpanT):(spD l).set i (.d (.agg [.int .i64 s.fr,.int .i64 s.to]))=spD (l.set i s):=by simp[spD,List.map_set]
theorem spD_under (l:List SpanT) (n:Nat):∀x,x∈spD l→A.under n x=true:=by
  intro x hx
  obtain⟨y,_,rfl⟩:=List.mem_map.1 hx
  rfl
@[simp] theorem spD_underS (m:Nat) (l:List SpanT):(∀x,x∈spD l→A.under m x=true)=True:=eq_true (spD_under l m)
@[simp] theorem spD_objs:∀l:List SpanT,A.objsL (spD l)=[]
  | []=>rfl
  | x::l=>by
    have:=spD_objs l
    unfold spD at this ⊢
    simp[this]
@[simp] theorem spD_ren (q:Nat→Nat) (l:List SpanT):(spD l).map (A.ren q)=spD l:=by simp[spD]
def Ob.spans:Ob→List SpanT
  | .cells _ _ xs=>xs.map fun x=>x.gv SpanT
  | _=>[]
@[simp] theorem spans_spD (v e:Nat) (l:List SpanT):Ob.spans (.cells v e (spD l))=l:=by simp[Ob.spans,spD,Function.comp_def]
@[simp] def trS (g:List CommitT) (path:Str) (st:LogS):Store:=[.cells 0 5 [.agg [.d (Rep.to g),.d (.str path),.own 1 0 0 g.length,.gr 2 3 (st.V.map Rep.to),.gr 3 3 (st.L.map Rep.to)]],.cells 0 2 (spD st.R),.tip st.V.length,.tip st.L.length]
def trV (s:Store):LogS:=⟨(s.getD 1 .dead).spans,((s.getD 0 .dead).at 0 3).gl VisitT,((s.getD 0 .dead).at 0 4).gl VisitT⟩
structure HaX where
  g:List CommitT
  path:Str
  st:LogS
  c:Nat
  p:Nat
@[simp] def F_linelog_tracker_hand:RF HaX where
  new:=0
  view a s:=⟨((s.getD 0 .dead).at 0 0).gl CommitT,((s.getD 0 .dead).at 0 1).gs,trV s,(a.getD 1 .any).gi.toNat,(a.getD 2 .any).gi.toNat⟩
  args x:=[.ref 0 0 0 0,.d (.int .i64 x.c),.d (.int .i64 x.p),.d (.str (blobG x.g x.path x.c))]
  st x:=trS x.g x.path x.st
  pre x:=HndOk x.g x.path x.c x.p (x.st.R.getD x.c z0)∧x.c≠x.p∧x.st.R.length=x.g.length
  res x:=.d (.bool (handT x.g x.path x.c x.st.R x.p))
  st' x:=trS x.g x.path { x.st with R:=handR x.g x.path x.c x.st.R x.p }
abbrev R_linelog_tracker_hand:RSpec:=F_linelog_tracker_hand.spec
theorem ct_linelog_tracker_hand {P:Program} {f g1 g2 g3 g4 g5 g6 g7:Nat} {G:Gam} (hc:CodeOf P f 4 16 [4] (x_linelog_tracker_hand g1 g2 g3 g4 g5 g6 g7)) (hG:GamOk P G) (h1:G.find g1=some S_tree_Find) (h2:G.find g2=some S_linelog_lines) (h3:G.find g3=some S_intern_Ids) (h4:G.find g4=some S_shortest_Script) (h5:G.find g5=some S_track_Back) (h6:G.find g6=some S_track_Hull) (h7:G.find g7=some S_track_Touches):RSpec.Ok P f R_linelog_tracker_hand:=by
  refine RF.ok hc.call fun x hx=>hc.rcalls hG rfl ?_
  obtain⟨g,path,⟨R,V,L⟩,c,p⟩:=x
  obtain⟨hh,hne,hRl⟩:=hx
  simp only at hh hne hRl
  have hg:=hh.gv
  have hcl:=hh.cl
  have hpl:=hh.pl
  have hpf:=(hg.files _ (List.getElem_mem hpl)).1
  have e1:blobF g[p].files path=blobG g path p:=by unfold blobG;simp[List.getD,hpl]
  have e2:inB g[p].files path=hasF g path p:=by unfold hasF;simp[List.getD,hpl]
  have hcb:=hg.blob hcl path
  have hpb:=hg.blob hpl path
  have hcn:=checkT_lines hcb
  have hpn:=checkT_lines hpb
  have hsm:=small_pair hpb hcb
  obtain⟨i0,i1,hid,n0,n1,hsc⟩:=ids_pair (blobG g path p) (blobG g path c)
  have hnl:¬longV i0 i1:=by unfold longV;omega
  obtain⟨ht,hm⟩:=hh.trk
  have hcR:c<R.length:=by omega
  have hpR:p<R.length:=by omega
  have er:R.getD c z0=R[c]:=by simp[List.getD,hcR]
  have ep:R.getD p z0=R[p]:=by simp[List.getD,hpR]
  rw[er] at ht
  have gc:=spD_get hcR
  have gp:=spD_get hpR
  obtain⟨_,gc2⟩:=List.getElem?_eq_some_iff.1 gc
  obtain⟨_,gp2⟩:=List.getElem?_eq_some_iff.1 gp
  have hsl:=spD_len R
  have hset:=spD_set R p
  simp only[F_linelog_tracker_hand,handT,handR,trS,Int.toNat_natCast,er,ep]
  cases hf:hasF g path p with
  | true =>
    cases hb:backP (prt g path p c) R[c] with
    | some s =>
      have hset1:=hset (hullS R[p] s)
      simp only[if_true]
      rw[← hset1]
      have gcs:((spD R).set p (.d (.agg [.int .i64 (hullS R[p] s).fr,.int .i64 (hullS R[p] s).to])))[c]?=some (.d (.agg [.int .i64 R[c].fr,.int .i64 R[c].to])):=by rw[List.getElem?_set_ne (fun h=>hne h.symm)];exact gc
      obtain⟨_,gcs2⟩:=List.getElem?_eq_some_iff.1 gcs
      have hsu:∀x,x∈(spD R).set p (.d (.agg [.int .i64 (hullS R[p] s).fr,.int .i64 (hullS R[p] s).to]))→A.under 4 x=true:=by rw[hset1];exact spD_under _ _
      generalize spD R=sp at *
      simp[x_linelog_tracker_hand,startA,hpl,getD_map,h1,show g[p].files.length≤9223372036854775807 by omega,e1,e2,hf,h2,hpb,hcb,h3,hsm,hid,h4,n0,n1,show (linesV (blobG g path p)).length≤1048576 by omega,show (linesV (blobG g path c)).length≤1048576 by omega,hnl,hsc,h5,hcl,gc,gc2,hsl,hRl,ht,hm,hb,backD,h6,gp,gp2,h7,gcs,gcs2]
      exact FinR.done (by simp) (by simp) rfl (by simp[resOf,resE]) (by simpa using hsu) (by simp)
    | none =>
      simp only[if_true]
      have hsu:=spD_under R 4
      generalize spD R=sp at *
      simp[x_linelog_tracker_hand,startA,hpl,getD_map,h1,show g[p].files.length≤9223372036854775807 by omega,e1,e2,hf,h2,hpb,hcb,h3,hsm,hid,h4,n0,n1,show (linesV (blobG g path p)).length≤1048576 by omega,show (linesV (blobG g path c)).length≤1048576 by omega,hnl,hsc,h5,hcl,gc,gc2,hsl,hRl,ht,hm,hb,backD,h7]
      exact FinR.done (by simp) (by simp) rfl (by simp[resOf,resE]) (by simpa using hsu) (by simp)
  | false =>
    simp only[Bool.false_eq_true,if_false]
    simp[x_linelog_tracker_hand,startA,hpl,getD_map,h1,show g[p].files.length≤9223372036854775807 by omega,e1,e2,hf]
    exact FinR.done (by simp) (by simp) rfl (by simp[resOf,resE]) (by simp) (by simp)
theorem handsR_snoc (g:List CommitT) (path:Str) (c:Nat) (a:List Int) (p:Int) (R:List SpanT):handsR g path c (a++[p]) R=handR g path c (handsR g path c a R) p:=by simp[handsR]
theorem handsT_snoc (g:List CommitT) (path:Str) (c:Nat):∀(a:List Int) (p:Int) (R:List SpanT),handsT g path c (a++[p]) R=(handsT g path c a R || handT g path c (handsR g path c a R) p)
  | [],p,R=>by simp[handsT,handsR]
  | q::a,p,R=>by
    rw[List.cons_append,handsT,handsT,handsT_snoc g path c a p,Bool.or_assoc]
    rfl
structure ViX where
  g:List CommitT
  path:Str
  st:LogS
  c:Nat
@[simp] def F_linelog_tracker_visit:RF ViX where
  new:=0
  view a s:=⟨((s.getD 0 .dead).at 0 0).gl CommitT,((s.getD 0 .dead).at 0 1).gs,trV s,(a.getD 1 .any).gi.toNat⟩
  args x:=[.ref 0 0 0 0,.d (.int .i64 x.c)]
  st x:=trS x.g x.path x.st
  pre x:=GV x.g∧x.c<x.g.length∧x.st.R.length=x.g.length∧x.st.V.length≤100000∧x.st.L.length≤100000∧((x.st.R.getD x.c z0).fr<(x.st.R.getD x.c z0).to→hasF x.g x.path x.c=true∧0≤(x.st.R.getD x.c z0).fr∧(x.st.R.getD x.c z0).to≤((linesV (blobG x.g x.path x.c)).length:Int))
  res _:=.tup []
  st' x:=trS x.g x.path (visitS x.g x.path x.st x.c)
abbrev R_linelog_tracker_visit:RSpec:=F_linelog_tracker_visit.spec
theorem ct_linelog_tracker_visit {P:Program} {f g1 g2:Nat} {G:Gam} (hc:CodeOf P f 2 14 [] (x_linelog_tracker_visit g1 g2)) (hG:GamOk P G) (h1:G.find g1=some S_tree_Find) (h2:G.findR g2=some R_linelog_tracker_hand):RSpec.Ok P f R_linelog_tracker_visit:=by
  refine RF.ok hc.call fun x hx=>hc.rcalls hG rfl ?_
  obtain⟨g,path,⟨R,V,L⟩,c⟩:=x
  obtain⟨hg,hcl,hRl,hVl,hLl,hgood⟩:=hx
  simp only at hg hcl hRl hVl hLl hgood
  have hcf:=(hg.files _ (List.getElem_mem hcl)).1
  have e1:blobF g[c].files path=blobG g path c:=by unfold blobG;simp[List.getD,hcl]
  have e2:inB g[c].files path=hasF g path c:=by unfold hasF;simp[List.getD,hcl]
  have hcR:c<R.length:=by omega
  have er:R.getD c z0=R[c]:=by simp[List.getD,hcR]
  have eg:g.getD c default=g[c]:=by simp[List.getD,hcl]
  have gc:=spD_get hcR
  obtain⟨_,gc2⟩:=List.getElem?_eq_some_iff.1 gc
  have hsl:=spD_len R
  have hpl:=hg.par _ (List.getElem_mem hcl)
  have hrg:=hg.prng hcl
  obtain⟨hh,hfix⟩:=hg.fix
  have hpc:∀p,p∈g[c].parents→p.toNat≠c:=fun p hp e=>by
    have:=fix_rank hfix c hcl p hp
    rw[e] at this
    omega
  simp only[F_linelog_tracker_visit,visitS,er,eg,trS]
  by_cases hne:R[c].to≤R[c].fr
  · rw[if_pos hne]
    have hsu:=spD_under R 4
    generalize spD R=sp at *
    cases hf:hasF g path c with
    | true =>
      simp[x_linelog_tracker_visit,startA,hcl,getD_map,h1,show g[c].files.length≤9223372036854775807 by omega,e1,e2,hf,gc,gc2,hsl,hRl,hne]
      exact FinR.done (by simp) (by simp) rfl (by simp[resOf]) (by simpa using hsu) (by simp)
    | false =>
      simp[x_linelog_tracker_visit,startA,hcl,getD_map,h1,show g[c].files.length≤9223372036854775807 by omega,e1,e2,hf]
      exact FinR.done (by simp) (by simp) rfl (by simp[resOf]) (by simpa using hsu) (by simp)
  · rw[if_neg hne]
    obtain⟨hf,hs0,hs2⟩:=hgood (by rw[er];omega)
    rw[er] at hs0 hs2
    obtain⟨VV,hVV⟩:∃VV,VV=V++[(⟨(c:Int),R[c]⟩:VisitT)]:=⟨_,rfl⟩
    obtain⟨LL,hLL⟩:∃LL,LL=L++[(⟨(c:Int),R[c]⟩:VisitT)]:=⟨_,rfl⟩
    have hVVl:VV.length=V.length+1:=by rw[hVV];simp
    have hLLl:LL.length=L.length+1:=by rw[hLL];simp
    rw[← hVV,← hLL]
    generalize hps:g[c].parents=ps at *
    obtain⟨Rf,hRf⟩:∃Rf:Nat→List SpanT,∀i,Rf i=handsR g path c (ps.take i) R:=⟨_,fun _=>rfl⟩
    obtain⟨fl,hfl⟩:∃fl:Nat→Bool,∀i,fl i=(decide (ps=[]) || handsT g path c (ps.take i) R):=⟨_,fun _=>rfl⟩
    have hRN:handsR g path c ps R=Rf ps.length:=by rw[hRf,List.take_length]
    have hfN:(decide (ps=[]) || handsT g path c ps R)=fl ps.length:=by rw[hfl,List.take_length]
    have hR0:Rf 0=R:=by rw[hRf];rfl
    have hf0:fl 0=decide ((ps.length:Int)=0):=by
      rw[hfl]
      simp[handsT]
    have hRs:∀i (h:i<ps.length),Rf (i+1)=handR g path c (Rf i) ps[i]:=fun i h=>by rw[hRf,hRf,List.take_succ_eq_append_getElem h,handsR_snoc]
    have hfs:∀i (h:i<ps.length),fl (i+1)=(fl i || handT g path c (Rf i) ps[i]):=fun i h=>by rw[hfl,hfl,hRf,List.take_succ_eq_append_getElem h,handsT_snoc,Bool.or_assoc]
    have hRl2:∀i,(Rf i).length=g.length:=fun i=>by rw[hRf,handsR_len];exact hRl
    have hRc:∀i,(Rf i).getD c z0=R[c]:=fun i=>by
      rw[hRf,handsR_other fun p hp=>hpc p (List.mem_of_mem_take hp),er]
    rw[hRN,hfN]
    clear hRN hfN hRf hfl
    have hgr:∀(T:List VisitT),(T++[(⟨(c:Int),R[c]⟩:VisitT)]).map Rep.to=T.map Rep.to++[D.agg [.int .i64 c,.int .i64 R[c].fr,.int .i64 R[c].to]]:=fun T=>by simp
    have hVm:=hgr V
    have hLm:=hgr L
    rw[← hVV] at hVm
    rw[← hLL] at hLm
    simp[x_linelog_tracker_visit,startA,hcl,getD_map,h1,show g[c].files.length≤9223372036854775807 by omega,e1,e2,hf,gc,gc2,hsl,hRl,hne,hps]
    refine⟨by unfold room;omega,?_⟩
    refine vc_lp (σ:=Nat) (fun i=>i≤ps.length) (fun i=>ps.length-i)
      (fun i=>[.ref 0 0 0 0,.d (.int .i64 c),.d (.str (blobG g path c)),.any,.ref 4 0 0 0,.d (.bool (fl i)),.any,.any,.d (Rep.to ps),.d (.int .i64 ps.length),.d (.int .i64 i),.any,.any,.any])
      (fun i=>[.cells 0 5 [.agg [.d (Rep.to g),.d (.str path),.own 1 0 0 g.length,.gr 2 3 (VV.map Rep.to),.gr 3 3 (L.map Rep.to)]],.cells 0 2 (spD (Rf i)),.tip VV.length,.tip L.length,.cells 0 3 [.agg [.d (.int .i64 c),.d (.int .i64 R[c].fr),.d (.int .i64 R[c].to)]]]) 0 (by simp[hf0]) (by simp[hR0,hVm,hVVl]) (by simp) ?_
    intro i hi
    by_cases hil:i<ps.length
    · have w1:IntKind.i64.wrap ((i:Int)+1)=(i:Int)+1:=wrap_in (by omega) (by omega)
      obtain⟨r1,r2⟩:=hrg _ (List.getElem_mem hil)
      obtain⟨q,hq⟩:=Int.eq_ofNat_of_zero_le r1
      have hql:q<g.length:=by omega
      have hqc:c≠q:=fun h=>hpc _ (List.getElem_mem hil) (by rw[hq];simpa using h.symm)
      have hok:HndOk g path c q ((Rf i).getD c z0):=by rw[hRc];exact⟨hg,hcl,hql,hs0,by omega,hs2⟩
      have hs1:=hRs i hil
      have hs2':=hfs i hil
      have hl:=hRl2 i
      rw[hq] at hs1 hs2'
      generalize Rf i=Ri at *
      have hok':HndOk g path c q (Ri[c]?.getD z0):=by simpa using hok
      cases ht:handT g path c Ri (q:Int) with
      | true =>
        rw[ht,Bool.or_true] at hs2'
        simp[hil,getD_map,hq,eRCall,h2,trV,hok',hqc,hl,ht,w1]
        exact Nxt.mk (i+1) (by omega) (by simp[hs2']) (by simp[hs1]) (by omega)
      | false =>
        rw[ht,Bool.or_false] at hs2'
        simp[hil,getD_map,hq,eRCall,h2,trV,hok',hqc,hl,ht,w1]
        exact Nxt.mk (i+1) (by omega) (by simp[hs2']) (by simp[hs1]) (by omega)
    · have h9:i=ps.length:=by omega
      rw[h9]
      generalize Rf ps.length=RN at *
      have hsu:=spD_under RN 4
      cases hfl:fl ps.length with
      | true =>
        generalize spD RN=sp at *
        simp
        refine⟨by unfold room;omega,?_⟩
        exact FinR.done (by simp) (by simp[hLm,hLLl]) rfl (by simp[resOf]) (by simpa using hsu) (by simp)
      | false =>
        generalize spD RN=sp at *
        simp
        exact FinR.done (by simp) (by simp) rfl (by simp[resOf]) (by simpa using hsu) (by simp)
def folE (g:List CommitT) (c:Int) (path:Str) (s:SpanT):Int:=if begE g c path=0 then (if 0≤s.fr∧s.fr<s.to∧s.to≤(fileN g c path:Int) then 0 else 3) else begE g c path
theorem folE_ok {g:List CommitT} {c:Int} {path:Str} {s:SpanT} (h:folE g c path s=0):begE g c path=0∧0≤s.fr∧s.fr<s.to∧s.to≤(fileN g c path:Int):=by
  unfold folE at h
  split at h
  · rename_i h1
    split at h
    · rename_i h2;exact⟨h1,h2⟩
    · cases h
  · rename_i h1;exact (h1 h).elim
theorem folE_start {g:List CommitT} {c:Nat} {path:Str} {s:SpanT} (h:folE g (c:Int) path s=0):StartOk g path c s:=by
  obtain⟨h1,h2,h3,h4⟩:=folE_ok h
  obtain⟨_,h5,h6,h7⟩:=begE_ok h1
  rw[Int.toNat_natCast] at h7
  exact⟨by omega,h7,h2,h3,by unfold fileN at h4;rwa [Int.toNat_natCast] at h4⟩
theorem orderD_one {g:List CommitT} (h:dagC g=0) {c:Nat} (hc:c<g.length):orderD g [(c:Int)]=.tup [Rep.to (orderS g c),.int .i64 0]:=by
  unfold orderD
  rw[if_pos h,if_pos]
  · rfl
  · unfold startsB
    simp
    omega
structure FoX where
  g:List CommitT
  c:Int
  path:Str
  s:SpanT
@[simp] def F_linelog_follow:RF FoX where
  new:=4
  view a _:=⟨(a.getD 0 .any).gl CommitT,(a.getD 1 .any).gi,(a.getD 2 .any).gs,⟨((a.getD 3 .any).cells.getD 0 .any).gi,((a.getD 3 .any).cells.getD 1 .any).gi⟩⟩
  args x:=[.d (Rep.to x.g),.d (.int .i64 x.c),.d (.str x.path),.agg [.d (.int .i64 x.s.fr),.d (.int .i64 x.s.to)]]
  st _:=[.res,.res,.res,.res]
  pre x:=GraphOk x.g
  res x:=if folE x.g x.c x.path x.s=0 then .tup [.ref 0 0 0 0,.d (.int .i64 0)] else .tup [.d .nilp,.d (.int .i64 (folE x.g x.c x.path x.s))]
  st' x:=if folE x.g x.c x.path x.s=0 then trS x.g x.path (followS x.g x.path x.c.toNat x.s) else [.res,.res,.res,.res]
abbrev R_linelog_follow:RSpec:=F_linelog_follow.spec
theorem spD_form {n:Nat} {k:List Ob} {v:Nat} {xs:List A} {l:List SpanT} (h:xs.length=l.length) (hc:∀i (hi:i<l.length),(xs.getD i .any).cells=[.d (.int .i64 l[i].fr),.d (.int .i64 l[i].to)]):WkO n k (.cells v 2 xs) (.cells v 2 (spD l)):=by
  refine .inr ⟨v,2,_,_,rfl,rfl,by rw[h,spD_len],fun i hi=>?_⟩
  have hil:i<l.length:=by omega
  have e2:(spD l).getD i .any=.d (.agg [.int .i64 l[i].fr,.int .i64 l[i].to]):=by rw[List.getD,spD_get hil];rfl
  rw[e2,hc i hil]
  exact⟨rfl,WkL.refl' _ _ _⟩
theorem ct_linelog_follow {P:Program} {f g1 g2 g3 g4 g5 g6:Nat} {G:Gam} (hc:CodeOf P f 4 21 [5,6] (x_linelog_follow g1 g2 g3 g4 g5 g6)) (hG:GamOk P G) (h1:G.find g1=some S_dag_Check) (h2:G.find g2=some S_dag_Is) (h3:G.find g3=some S_tree_Find) (h4:G.find g4=some S_linelog_lines) (h5:G.find g5=some S_walk_Order) (h6:G.findR g6=some R_linelog_tracker_visit):RSpec.Ok P f R_linelog_follow:=by
  refine RF.ok hc.call fun x hx=>hc.rcalls hG rfl ?_
  obtain⟨g,c,path,⟨fr,to⟩⟩:=x
  have hok:GraphOk g:=hx
  simp only[F_linelog_follow]
  by_cases c0:dagC g=0
  · have hg:=GV.of c0 hok
    by_cases c1:0≤c∧c<(g.length:Int)
    · obtain⟨n,rfl⟩:=Int.eq_ofNat_of_zero_le c1.1
      have hcl:n<g.length:=by omega
      have hfl:=(hg.files _ (List.getElem_mem hcl)).1
      have e1:blobF g[n].files path=blobG g path n:=by unfold blobG;simp[List.getD,hcl]
      have e2:inB g[n].files path=hasF g path n:=by unfold hasF;simp[List.getD,hcl]
      have hb:=hg.blob hcl path
      have hbn:=checkT_lines hb
      cases hf:hasF g path n with
      | true =>
        have he:begE g (n:Int) path=0:=by unfold begE;rw[if_pos c0,if_pos ⟨c1.1,c1.2,by simpa using hf⟩]
        have hfn:fileN g (n:Int) path=(linesV (blobG g path n)).length:=by unfold fileN;rw[Int.toNat_natCast]
        by_cases k1:fr<0
        · have hv:folE g (n:Int) path ⟨fr,to⟩=3:=by unfold folE;rw[if_pos he,if_neg (by simp only;omega)]
          simp only[hv]
          simp[x_linelog_follow,startA,h1,h2,h3,hok,c0,hcl,getD_map,show g[n].files.length≤9223372036854775807 by omega,e1,e2,hf,k1]
          exact FinR.done (by simp) (by simp) rfl (by simp[resOf,resE]) (by simp) (by simp)
        · by_cases k2:to≤fr
          · have hv:folE g (n:Int) path ⟨fr,to⟩=3:=by unfold folE;rw[if_pos he,if_neg (by simp only;omega)]
            simp only[hv]
            simp[x_linelog_follow,startA,h1,h2,h3,hok,c0,hcl,getD_map,show g[n].files.length≤9223372036854775807 by omega,e1,e2,hf,k1,k2]
            exact FinR.done (by simp) (by simp) rfl (by simp[resOf,resE]) (by simp) (by simp)
          · by_cases k3:((linesV (blobG g path n)).length:Int)<to
            · have hv:folE g (n:Int) path ⟨fr,to⟩=3:=by unfold folE;rw[if_pos he,if_neg (by simp only;omega)]
              simp only[hv]
              simp[x_linelog_follow,startA,h1,h2,h3,h4,hok,c0,hcl,getD_map,show g[n].files.length≤9223372036854775807 by omega,e1,e2,hf,k1,k2,k3,hb]
              exact FinR.done (by simp) (by simp) rfl (by simp[resOf,resE]) (by simp) (by simp)
            · have hv:folE g (n:Int) path ⟨fr,to⟩=0:=by unfold folE;rw[if_pos he,if_pos (by simp only;omega)]
              have hst:=folE_start hv
              simp only[hv,if_true,Int.toNat_natCast]
              have hod:=orderD_one c0 hcl
              have hgl:=hok.1
              have hs2:startS0 g n ⟨fr,to⟩=⟨(List.replicate g.length z0).set n ⟨fr,to⟩,[],[]⟩:=rfl
              obtain⟨o,hoo⟩:∃o,o=orderS g n:=⟨_,rfl⟩
              have hord:OrdP g o:=by rw[hoo];exact order_P _ (fun _ _=>trivial)
              have hfI:=fun k hk=>follow_I hg.rel (path:=path) hord hst.c hst.s1 k hk
              have hol:o.length≤g.length:=nodup_le _ _ hord.nd hord.rng
              obtain⟨St,hSt⟩:∃St:Nat→LogS,∀k,St k=followK g path (startS0 g n ⟨fr,to⟩) (o.take k):=⟨_,fun _=>rfl⟩
              have hS0:St 0=⟨(List.replicate g.length z0).set n ⟨fr,to⟩,[],[]⟩:=by rw[hSt,← hs2];rfl
              have hSn:∀k (h:k<o.length),St (k+1)=visitS g path (St k) o[k].toNat:=fun k h=>by
                rw[hSt,hSt,List.take_succ_eq_append_getElem h]
                unfold followK
                rw[List.foldl_append]
                rfl
              have hSN:followS g path n ⟨fr,to⟩=St o.length:=by rw[hSt,List.take_length];unfold followS;rw[← hoo]
              have hI:∀k,k≤o.length→LogI g path n ⟨fr,to⟩ (o.take k) (St k):=fun k hk=>by rw[hSt];exact hfI k hk
              have hVl:∀k,k≤o.length→(St k).V.length≤1000:=fun k hk=>by
                rw[(hI k hk).V]
                have:=List.length_filter_le (neS (St k).R) (o.take k)
                have:(o.take k).length≤o.length:=by simp;omega
                simp
                omega
              have hLl:∀k,k≤o.length→(St k).L.length≤1000:=fun k hk=>by
                rw[(hI k hk).L]
                have:=List.length_filter_le (fun c=>neS (St k).R c && showB g path (St k).R c) (o.take k)
                have:(o.take k).length≤o.length:=by simp;omega
                simp only[List.length_map]
                omega
              have hgd:∀k,k≤o.length→∀p,p<g.length→((St k).R.getD p z0).fr<((St k).R.getD p z0).to→hasF g path p=true∧0≤((St k).R.getD p z0).fr∧((St k).R.getD p z0).to≤((linesV (blobG g path p)).length:Int):=fun k hk p hp h =>
                ne_good hg.rel hst (fun c hc=>by have:=hord.rng _ (List.mem_of_mem_take hc);omega) ((hI k hk).hull p hp) h
              rw[← hoo] at hod
              rw[hSN]
              clear hSt hfI hs2 hSN
              simp[x_linelog_follow,startA,h1,h2,h3,h4,h5,hok,c0,hcl,getD_map,show g[n].files.length≤9223372036854775807 by omega,e1,e2,hf,k1,k2,k3,hb,hod]
              refine⟨by unfold room;omega,?_⟩
              refine vc_lpR (σ:=Nat) (fun k=>k≤o.length) (fun k=>o.length-k)
                (fun k=>[.d (Rep.to g),.d (.int .i64 n),.d (.str path),.any,.any,.any,.any,.any,.any,.any,.ref 6 0 0 0,.any,.any,.any,.any,.any,.any,.d (Rep.to o),.d (.int .i64 o.length),.d (.int .i64 k),.any])
                (fun k=>[.res,.res,.res,.res,.cells 0 2 [.agg [.d (.int .i64 fr),.d (.int .i64 to)]],.cells 0 2 (spD (St k).R),.cells 0 5 [.agg [.d (Rep.to g),.d (.str path),.own 5 0 0 g.length,.gr 7 3 ((St k).V.map Rep.to),.gr 8 3 ((St k).L.map Rep.to)]],.tip (St k).V.length,.tip (St k).L.length]) 0 ?_ (by simp) ?_
              · rw[hS0]
                refine Re.weak (k:=[.tip 0,.tip 0]) (s':=[.res,.res,.res,.res,.cells 0 2 [.agg [.d (.int .i64 fr),.d (.int .i64 to)]],.cells 0 2 (spD ((List.replicate g.length z0).set n ⟨fr,to⟩)),.cells 0 5 [.agg [.d (Rep.to g),.d (.str path),.own 5 0 0 g.length,.gr 7 3 [],.gr 8 3 []]]]) (by simp) (by simp) (by simp) ⟨.inl rfl,.inl rfl,.inl rfl,.inl rfl,.inl rfl,spD_form (by simp) (fun i hi=>?_),.cellsL ⟨⟨rfl,⟨Wk.refl _ _ _,Wk.refl _ _ _,Wk.refl _ _ _,Wk.fresh 7 [.tip 0,.tip 0] 3 0 rfl,Wk.fresh 7 [.tip 0,.tip 0] 3 1 rfl,trivial⟩⟩,trivial⟩,trivial⟩
                simp at hi
                by_cases e:n=i
                · subst e;simp[List.getD,hcl]
                · simp[List.getD,List.getElem?_set_ne e,List.getElem_set_ne e,hi,z0]
              intro k hk
              by_cases hkl:k<o.length
              · have w1:IntKind.i64.wrap ((k:Int)+1)=(k:Int)+1:=wrap_in (by omega) (by omega)
                obtain⟨r1,r2⟩:=hord.rng _ (List.getElem_mem hkl)
                obtain⟨q,hq⟩:=Int.eq_ofNat_of_zero_le r1
                have hql:q<g.length:=by omega
                have hnx:=hSn k hkl
                rw[hq,Int.toNat_natCast] at hnx
                have v1:=hVl k hk
                have v2:=hLl k hk
                have v3:=hgd k hk q hql
                have v4:=(hI k hk).len
                generalize St k=st at *
                obtain⟨R,V,L⟩:=st
                simp only at v1 v2 v3 v4
                have v3':(R[q]?.getD z0).fr<(R[q]?.getD z0).to→hasF g path q=true∧0≤(R[q]?.getD z0).fr∧(R[q]?.getD z0).to≤((linesV (blobG g path q)).length:Int):=v3
                simp[hkl,getD_map,hq,eRCall,h6,trV,hg,hql,v4,show V.length≤100000 by omega,show L.length≤100000 by omega,w1]
                exact⟨by simpa [List.getD,show q<R.length by omega] using v3,Nxt.mk (k+1) (by omega) (by simp) (by simp[hnx]) (by omega)⟩
              · have h9:k=o.length:=by omega
                subst h9
                generalize St o.length=st at *
                simp
                exact⟨by simp[resPre,resE],[6,5,7,8],rfl,⟨by decide,by simp,by simp[pickS,Ob.ren,A.ren,A.rens]⟩,fun k hk=>(by match k,hk with | 0,_=>exact .inr rfl | 1,_=>exact .inr rfl | 2,_=>exact .inr rfl | 3,_=>exact .inr rfl),by simp[pickS,Ob.ren,A.ren,A.rens,idxIn] <;> decide,by simp[resOf,resE,A.ren,A.rens,idxIn] <;> rfl,by simp⟩
      | false =>
        have he:begE g (n:Int) path=5:=by unfold begE;rw[if_pos c0,if_neg];rintro⟨_,_,h⟩;rw[Int.toNat_natCast,hf] at h;cases h
        have hv:folE g (n:Int) path ⟨fr,to⟩=5:=by unfold folE;rw[if_neg (by rw[he];decide),he]
        simp only[hv]
        simp[x_linelog_follow,startA,h1,h2,h3,hok,c0,hcl,getD_map,show g[n].files.length≤9223372036854775807 by omega,e1,e2,hf]
        exact FinR.done (by simp) (by simp) rfl (by simp[resOf,resE]) (by simp) (by simp)
    · have he:begE g c path=5:=by unfold begE;rw[if_pos c0,if_neg];rintro⟨a,b,_⟩;exact c1 ⟨a,b⟩
      have hv:folE g c path ⟨fr,to⟩=5:=by unfold folE;rw[if_neg (by rw[he];decide),he]
      simp only[hv]
      by_cases k1:0≤c
      · have k2:¬c<(g.length:Int):=fun h=>c1 ⟨k1,h⟩
        simp[x_linelog_follow,startA,h1,h2,hok,c0,k1,k2]
        exact FinR.done (by simp) (by simp) rfl (by simp[resOf,resE]) (by simp) (by simp)
      · simp[x_linelog_follow,startA,h1,h2,hok,c0,k1]
        exact FinR.done (by simp) (by simp) rfl (by simp[resOf,resE]) (by simp) (by simp)
  · have he:begE g c path=dagC g:=by unfold begE;rw[if_neg c0]
    have hv:folE g c path ⟨fr,to⟩=dagC g:=by unfold folE;rw[if_neg (by rw[he];exact c0),he]
    simp only[hv]
    simp[x_linelog_follow,startA,h1,hok,c0]
    exact FinR.done (by simp) (by simp) rfl (by simp[resOf,resE]) (by simp) (by simp)
def logL (g:List CommitT) (c:Int) (path:Str) (s:SpanT):List VisitT:=if folE g c path s=0 then (followS g path c.toNat s).L else []
def trkL (g:List CommitT) (c:Int) (path:Str) (s:SpanT):List VisitT:=if folE g c path s=0 then (followS g path c.toNat s).V else []
@[simp] def S_linelog_Log:List D→Prop × D:=spec4 (α:=List CommitT) (β:=Int) (γ:=Str) (δ:=SpanT) (fun g _ _ _=>GraphOk g) (fun g c path s=>.tup [Rep.to (logL g c path s),.int .i64 (folE g c path s)])
theorem ct_linelog_Log {P:Program} {f g1:Nat} {G:Gam} (h:CodeOf P f 4 10 [5,6] (x_linelog_Log g1)) (hG:GamOk P G) (h1:G.findR g1=some R_linelog_follow):Has P f S_linelog_Log:=h.has4 hG fun g c path s hok=>by
  obtain⟨fr,to⟩:=s
  by_cases he:folE g c path ⟨fr,to⟩=0
  · have hv:logL g c path ⟨fr,to⟩=(followS g path c.toNat ⟨fr,to⟩).L:=by unfold logL;rw[if_pos he]
    rw[hv]
    generalize hst:followS g path c.toNat ⟨fr,to⟩=st at *
    simp[x_linelog_Log,eRCall,h1,hok,he,hst]
  · have hv:logL g c path ⟨fr,to⟩=[]:=by unfold logL;rw[if_neg he]
    rw[hv]
    simp[x_linelog_Log,eRCall,h1,hok,he]
@[simp] def S_linelog_Tracked:List D→Prop × D:=spec4 (α:=List CommitT) (β:=Int) (γ:=Str) (δ:=SpanT) (fun g _ _ _=>GraphOk g) (fun g c path s=>.tup [Rep.to (trkL g c path s),.int .i64 (folE g c path s)])
theorem ct_linelog_Tracked {P:Program} {f g1:Nat} {G:Gam} (h:CodeOf P f 4 10 [5,6] (x_linelog_Tracked g1)) (hG:GamOk P G) (h1:G.findR g1=some R_linelog_follow):Has P f S_linelog_Tracked:=h.has4 hG fun g c path s hok=>by
  obtain⟨fr,to⟩:=s
  by_cases he:folE g c path ⟨fr,to⟩=0
  · have hv:trkL g c path ⟨fr,to⟩=(followS g path c.toNat ⟨fr,to⟩).V:=by unfold trkL;rw[if_pos he]
    rw[hv]
    generalize hst:followS g path c.toNat ⟨fr,to⟩=st at *
    simp[x_linelog_Tracked,eRCall,h1,hok,he,hst]
  · have hv:trkL g c path ⟨fr,to⟩=[]:=by unfold trkL;rw[if_neg he]
    rw[hv]
    simp[x_linelog_Tracked,eRCall,h1,hok,he]
end Go.AE
namespace Go.AE
theorem tree_ord {l:List FileT} (h:treeE l=0):ordV (l.map FileT.path)=true:=by
  unfold treeE at h
  split at h
  · cases h
  · split at h
    · cases h
    · split at h
      · rename_i h3;exact h3
      · cases h
theorem GV.uniq {g:List CommitT} (hg:GV g) {c:Nat} (hc:c<g.length) {k:Nat} (hk:k<g[c].files.length):hasF g g[c].files[k].path c=true∧blobG g g[c].files[k].path c=g[c].files[k].blob:=by
  have ho:=tree_ord (filesE_all (dagC_lim hg.c).2.2.2.2 _ (List.getElem_mem hc))
  have hn:∀j (hj:j<g[c].files.length),j<k→g[c].files[j].path≠g[c].files[k].path:=fun j hj hjk e=>by
    unfold ordV at ho
    rw[List.all_eq_true] at ho
    have:=asc_all (ps:=g[c].files.map FileT.path) (fun i hi=>by
      have:=ho i (by simpa using hi)
      rw[Bool.and_eq_true] at this
      exact this.1) k j hjk (by simpa using hk)
    have e1:(g[c].files.map FileT.path).getD j []=g[c].files[j].path:=by simp[List.getD,hj]
    have e2:(g[c].files.map FileT.path).getD k []=g[c].files[k].path:=by simp[List.getD,hk]
    rw[e1,e2,e,bl_irrefl] at this
    cases this
  obtain⟨h1,h2⟩:=find_hit hk hn rfl
  unfold hasF blobG
  rw[show g.getD c default=g[c] by simp[List.getD,hc]]
  exact⟨h1,h2⟩
theorem follow_len {g:List CommitT} (hg:GV g) {path:Str} {c:Nat} {s:SpanT} (hs:StartOk g path c s):(followS g path c s).V.length≤300∧(followS g path c s).L.length≤300:=by
  obtain⟨hh,hf⟩:=hg.fix
  have hl:=(log_F hg.rel hf hs).inv
  have hord:OrdP g (orderS g c):=order_P _ (fun _ _=>trivial)
  have hol:(orderS g c).length≤g.length:=nodup_le _ _ hord.nd hord.rng
  have:=hg.len
  rw[hl.V,hl.L,List.length_map,List.length_map]
  have h1:=List.length_filter_le (neS (followS g path c s).R) (orderS g c)
  have h2:=List.length_filter_le (fun x=>neS (followS g path c s).R x && showB g path (followS g path c s).R x) (orderS g c)
  omega
theorem trk_len {g:List CommitT} (ho:GraphOk g) (c:Int) (path:Str) (s:SpanT):(trkL g c path s).length≤300∧(logL g c path s).length≤300:=by
  unfold trkL logL
  by_cases h:folE g c path s=0
  · rw[if_pos h,if_pos h]
    obtain⟨h1,_⟩:=folE_ok h
    obtain⟨h2,h3,h4,_⟩:=begE_ok h1
    obtain⟨n,rfl⟩:=Int.eq_ofNat_of_zero_le h3
    rw[Int.toNat_natCast]
    exact follow_len (GV.of h2 ho) (folE_start h)
  · rw[if_neg h,if_neg h]
    simp
theorem IsHull.span {s:SpanT} (h:s.fr<s.to):IsHull (fun x=>s.fr≤x∧x<s.to) s:=⟨fun x hx=>hx,fun q=>⟨by omega,by omega⟩,fun q=>⟨by omega,by omega⟩⟩
theorem IsHull.one {T:Int→Prop} {w:SpanT} (h:IsHull T w) (a:Int):IsHull (fun x=>T x∨a=x) (hullS w ⟨a,a+1⟩):=by
  refine (h.hull (b:=⟨a,a+1⟩) (U:=fun x=>a=x) ⟨fun x hx=>by simp only;omega,fun _=>rfl,fun _=>by simp only;omega⟩)
structure LgAll (g:List CommitT) (path:Str) (c:Nat) (s:SpanT) (st:LogS):Prop where
  gv:GV g
  so:StartOk g path c s
  lf:LogF g path c s (orderS g c) st
  ord:OrdP g (orderS g c)
  ol:(orderS g c).length≤g.length
theorem lgAll {g:List CommitT} (ho:GraphOk g) {c:Nat} {path:Str} {s:SpanT} (h:folE g (c:Int) path s=0):LgAll g path c s (followS g path c s)∧trkL g (c:Int) path s=(followS g path c s).V∧logL g (c:Int) path s=(followS g path c s).L:=by
  obtain⟨h1,_⟩:=folE_ok h
  obtain⟨h2,_⟩:=begE_ok h1
  have hg:=GV.of h2 ho
  obtain⟨hh,hf⟩:=hg.fix
  have hs:=folE_start h
  have hord:OrdP g (orderS g c):=order_P _ (fun _ _=>trivial)
  refine⟨⟨hg,hs,log_F hg.rel hf hs,hord,nodup_le _ _ hord.nd hord.rng⟩,?_,?_⟩
  · unfold trkL;rw[if_pos h,Int.toNat_natCast]
  · unfold logL;rw[if_pos h,Int.toNat_natCast]
theorem tracked_ok {g:List CommitT} (ho:GraphOk g) {c:Nat} {path:Str} {line:Nat} (he:begE g (c:Int) path=0) (hl:line<fileN g (c:Int) path) :
    folE g (c:Int) path ⟨line,(line:Int)+1⟩=0∧(∃v,v∈trkL g (c:Int) path ⟨line,(line:Int)+1⟩∧v.commit=(blV g path ⟨c,line⟩).commit∧v.lines.fr≤(blV g path ⟨c,line⟩).line∧(blV g path ⟨c,line⟩).line<v.lines.to)∧∃v,v∈logL g (c:Int) path ⟨line,(line:Int)+1⟩∧v.commit=(blV g path ⟨c,line⟩).commit:=by
  have hv:folE g (c:Int) path ⟨line,(line:Int)+1⟩=0:=by unfold folE;rw[if_pos he,if_pos (by simp only;omega)]
  obtain⟨A,ht,ht2⟩:=lgAll ho hv
  have hgo:=goodO_of he (line:=(line:Int)) (by omega)
  have hg:=A.gv
  obtain⟨hh,hf⟩:=hg.fix
  have hr:=blV_ok hg.rel hf hgo
  have hI:InR (followS g path c ⟨line,(line:Int)+1⟩).R ⟨c,line⟩:=by
    have:=(A.lf.inv.hull c A.so.c).sub (line:Int) (.inl ⟨rfl,by simp only;omega,by simp only;omega⟩)
    unfold InR
    simpa using this
  have hle:=fix_le (relG_ok hg.rel) hf c
  rw[parG_len] at hle
  have hT:InR (followS g path c ⟨line,(line:Int)+1⟩).R (blV g path ⟨c,line⟩):=track_origin hg.rel hf A.lf (g.length+1) ⟨c,line⟩ hgo hI (by simp only[Int.toNat_natCast];omega)
  generalize blV g path ⟨c,line⟩=r at *
  have hrc:=hr.good.c
  have hrl:r.commit.toNat<g.length:=by omega
  have hsh:=origin_shown hT hrc.1 hr.none
  unfold InR at hT
  have hm:=A.lf.mem r.commit.toNat hrl (by omega)
  rw[Int.toNat_of_nonneg hrc.1] at hm
  have hne:neS (followS g path c ⟨line,(line:Int)+1⟩).R r.commit=true:=by unfold neS;rw[decide_eq_true_eq];omega
  refine⟨hv,⟨visV (followS g path c ⟨line,(line:Int)+1⟩).R r.commit,?_,rfl,hT⟩,⟨visV (followS g path c ⟨line,(line:Int)+1⟩).R r.commit,?_,rfl⟩⟩
  · rw[ht,A.lf.inv.V]
    exact List.mem_map_of_mem (List.mem_filter.2 ⟨hm,hne⟩)
  · rw[ht2,A.lf.inv.L]
    exact List.mem_map_of_mem (List.mem_filter.2 ⟨hm,by rw[hne,hsh];rfl⟩)
def hitT (r:OriginT) (v:VisitT):Bool:=decide (v.commit=r.commit) && (decide (v.lines.fr≤r.line) && decide (r.line<v.lines.to))
theorem any_snoc {α:Type} {q:α→Bool} {l:List α} {i:Nat} (h:i<l.length):(l.take (i+1)).any q=((l.take i).any q || q l[i]):=by
  rw[List.take_succ_eq_append_getElem h,List.any_append]
  simp
@[simp] def S_law31_AnnotateTracked:List D→Prop × D:=spec3 (α:=List Int) (β:=Int) (γ:=Int) (fun raw _ _=>raw.length≤9223372036854775807) (fun _ _ _=>.bool true)
theorem ct_law31_AnnotateTracked {P:Program} {f g1 g2 g3 g4 g5 g6:Nat} {G:Gam} (h:CodeOf P f 3 21 [3] (x_law31_AnnotateTracked g1 g2 g3 g4 g5 g6)) (hG:GamOk P G) (h1:G.find g1=some S_law31_pick) (h2:G.find g2=some S_annotate_Blame) (h3:G.find g3=some S_law31_awake) (h4:G.find g4=some S_gen_Mod) (h5:G.find g5=some S_linelog_Tracked) (h6:G.find g6=some S_linelog_Log):Has P f S_law31_AnnotateTracked:=h.has3 hG fun raw start line0 hp=>by
  have o:=(graphV_ok raw (n:=7) (lines:=5) (by omega) (by omega) (by omega) (by decide)).2
  generalize hgg:graphV raw 7 5=g at *
  generalize hcp:pickA raw start=x at *
  obtain⟨c,path⟩:=x
  by_cases he:begE g c path=0
  · have hbl:blameL g c path=blS g path c (fileN g c path):=by unfold blameL;rw[if_pos he]
    obtain⟨b1,b2,b3,_⟩:=begE_ok he
    obtain⟨n,rfl⟩:=Int.eq_ofNat_of_zero_le b2
    have hfl:fileN g (n:Int) path≤4096:=checkT_lines ((GV.of b1 o).blob (c:=(n:Int).toNat) (by omega) path)
    have hbn:=blS_len g path (n:Int) (fileN g (n:Int) path)
    by_cases h0:fileN g (n:Int) path=0
    · have hb0:blS g path (n:Int) 0=[]:=rfl
      simp[x_law31_AnnotateTracked,h1,h2,h3,hp,hgg,hcp,o,he,hbl,hbn,h0,hb0]
    · have m1:=modV_lt line0 (n:=(fileN g (n:Int) path:Int)) (by omega)
      obtain⟨line,hline⟩:=Int.eq_ofNat_of_zero_le m1.1
      have hll:line<fileN g (n:Int) path:=by omega
      obtain⟨t1,t2,t3⟩:=tracked_ok o he hll
      obtain⟨t4,t5⟩:=trk_len o (n:Int) path ⟨line,(line:Int)+1⟩
      have hbi:∀h:line<(blS g path (n:Int) (fileN g (n:Int) path)).length,(blS g path (n:Int) (fileN g (n:Int) path))[line]=blV g path ⟨(n:Int),(line:Int)⟩:=fun h=>by simp[blS]
      have w1:IntKind.i64.wrap ((line:Int)+1)=(line:Int)+1:=wrap_in (by omega) (by omega)
      have r3:1≤(fileN g (n:Int) path:Int)∧(fileN g (n:Int) path:Int)≤9223372036854775807:=by omega
      generalize blV g path ⟨(n:Int),(line:Int)⟩=r at *
      generalize hV:trkL g (n:Int) path ⟨line,(line:Int)+1⟩=V at *
      generalize hL:logL g (n:Int) path ⟨line,(line:Int)+1⟩=L at *
      generalize hbs:blS g path (n:Int) (fileN g (n:Int) path)=bs at *
      have hbi:=hbi (by omega)
      have a1:V.any (hitT r)=true:=by
        obtain⟨v,v1,v2,v3,v4⟩:=t2
        exact List.any_eq_true.2 ⟨v,v1,by simp[hitT,v2,v3,v4]⟩
      have a2:L.any (fun v=>decide (v.commit=r.commit))=true:=by
        obtain⟨v,v1,v2⟩:=t3
        exact List.any_eq_true.2 ⟨v,v1,by simp[v2]⟩
      simp[x_law31_AnnotateTracked,h1,h2,h4,h5,h6,hp,hgg,hcp,o,he,hbl,hbn,h0,hline,r3,w1,t1,hV,hL]
      refine vc_lp (σ:=Nat) (fun i=>i≤V.length) (fun i=>V.length-i)
        (fun i=>[.any,.any,.d (.int .i64 line),.any,.any,.any,.any,.d (Rep.to bs),.any,.d (Rep.to V),.any,.d (Rep.to L),.any,.d (.bool ((V.take i).any (hitT r))),.d (.bool false),.d (.int .i64 i),.any,.any,.any,.any,.any])
        (fun _=>[]) 0 (by simp) (by simp) (by simp) ?_
      intro i hi
      by_cases hil:i<V.length
      · have w2:IntKind.i64.wrap ((i:Int)+1)=(i:Int)+1:=wrap_in (by omega) (by omega)
        have hs:=any_snoc (q:=hitT r) hil
        obtain⟨af,haf⟩:∃af:Nat→Bool,∀i,af i=(V.take i).any (hitT r):=⟨_,fun _=>rfl⟩
        simp only[← haf] at hs ⊢
        generalize hgi:V[i]=v at *
        unfold hitT at hs
        cases hbi2:af i with
        | true =>
          rw[hbi2,Bool.true_or] at hs
          simp[hil,getD_map,hgi,hbn,hll,hbi,w2]
          exact Nxt.mk (i+1) (by omega) (by simp[hs]) (by simp) (by omega)
        | false =>
          rw[hbi2,Bool.false_or] at hs
          by_cases k1:v.commit=r.commit
          · by_cases k2:v.lines.fr≤r.line
            · simp[hil,getD_map,hgi,hbn,hll,hbi,k1,k2,w2]
              exact Nxt.mk (i+1) (by omega) (by simp[hs,k1,k2]) (by simp) (by omega)
            · simp[hil,getD_map,hgi,hbn,hll,hbi,k1,k2,w2]
              exact Nxt.mk (i+1) (by omega) (by simp[hs,k1,k2]) (by simp) (by omega)
          · simp[hil,getD_map,hgi,hbn,hll,hbi,k1,w2]
            exact Nxt.mk (i+1) (by omega) (by simp[hs,k1]) (by simp) (by omega)
      · have h9':i=V.length:=by omega
        subst h9'
        rw[List.take_length,a1]
        simp
        refine vc_lp (σ:=Nat) (fun i=>i≤L.length) (fun i=>L.length-i)
          (fun i=>[.any,.any,.d (.int .i64 line),.any,.any,.any,.any,.d (Rep.to bs),.any,.any,.any,.d (Rep.to L),.any,.d (.bool true),.d (.bool ((L.take i).any fun v=>decide (v.commit=r.commit))),.any,.d (.int .i64 i),.any,.any,.any,.any])
          (fun _=>[]) 0 (by simp) (by simp) (by simp) ?_
        intro i hi
        by_cases hil:i<L.length
        · have w2:IntKind.i64.wrap ((i:Int)+1)=(i:Int)+1:=wrap_in (by omega) (by omega)
          have hs:=any_snoc (q:=fun v:VisitT=>decide (v.commit=r.commit)) hil
          obtain⟨af,haf⟩:∃af:Nat→Bool,∀i,af i=(L.take i).any fun v=>decide (v.commit=r.commit):=⟨_,fun _=>rfl⟩
          simp only[← haf] at hs ⊢
          generalize hgi:L[i]=v at *
          cases hbi2:af i with
          | true =>
            rw[hbi2,Bool.true_or] at hs
            simp[hil,getD_map,hgi,hbn,hll,hbi,w2]
            exact Nxt.mk (i+1) (by omega) (by simp[hs]) (by simp) (by omega)
          | false =>
            rw[hbi2,Bool.false_or] at hs
            by_cases k1:v.commit=r.commit
            · simp[hil,getD_map,hgi,hbn,hll,hbi,k1,w2]
              exact Nxt.mk (i+1) (by omega) (by simp[hs,k1]) (by simp) (by omega)
            · simp[hil,getD_map,hgi,hbn,hll,hbi,k1,w2]
              exact Nxt.mk (i+1) (by omega) (by simp[hs,k1]) (by simp) (by omega)
        · have h9':i=L.length:=by omega
          subst h9'
          rw[List.take_length,a2]
          simp[h3]
  · simp[x_law31_AnnotateTracked,h1,h2,h3,hp,hgg,hcp,o,he]
theorem law31_AnnotateTracked_pre (raw:List Int) (start:Int) (line:Int) (w0:Arg.wf raw) (w1:Arg.wf start) (w2:Arg.wf line):raw.length≤9223372036854775807:=by
  have:=len_wf w0
  omega
end Go.AE
