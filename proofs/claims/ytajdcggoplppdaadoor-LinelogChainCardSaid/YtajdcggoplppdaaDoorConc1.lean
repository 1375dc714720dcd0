/-
  Contracts: a range handed to a parent.
-/
import Derived.Test.YtajdcggoplppdaaDoorCona3
import Derived.Test.YtajdcggoplppdaaDoorCona2
import Derived.Test.YtajdcggoplppdaaDoorCode1

set_option linter.unusedSimpArgs false
set_option linter.unusedVariables false
set_option linter.unnecessarySimpa false
set_option maxRecDepth 20000
set_option maxHeartbeats 8000000
namespace Go.AE
@[simp] def S_linelog_lines:List D→Prop × D:=spec1 (α:=Str) (fun s=>checkT s=0) (fun s=>Rep.to (linesV s))
theorem ct_linelog_lines {P:Program} {f g1:Nat} {G:Gam} (h:CodeOf P f 1 3 [1] (x_linelog_lines g1)) (hG:GamOk P G) (h1:G.find g1=some S_text_Split):Has P f S_linelog_lines:=h.has1 hG fun s hp=>by
  have:=check_len hp
  simp[x_linelog_lines,h1,splitD_ok hp,show s.length≤4194304 by omega]
structure HndOk (g:List CommitT) (path:Str) (c p:Nat) (s:SpanT):Prop where
  gv:GV g
  cl:c<g.length
  pl:p<g.length
  s0:0≤s.fr
  s1:s.fr<s.to
  s2:s.to≤((linesV (blobG g path c)).length:Int)
theorem HndOk.trk {g:List CommitT} {path:Str} {c p:Nat} {s:SpanT} (h:HndOk g path c p s):TrkOk (scr (blobG g path p) (blobG g path c)) (linesV (blobG g path p)).length (linesV (blobG g path c)).length s∧matV (scr (blobG g path p) (blobG g path c)) 0 0 (linesV (blobG g path p)).length=prt g path p c:=by
  obtain⟨h1,h2⟩:=scr_ok (h.gv.blob h.pl path) (h.gv.blob h.cl path)
  exact⟨⟨h1,h.s0,h.s1,h.s2⟩,h2⟩
def spD (l:List SpanT):List A:=l.map fun s=>.d (.agg [.int .i64 s.fr,.int .i64 s.to])
theorem spD_len (l:List SpanT):(spD l).length=l.length:=by simp[spD]
theorem spD_get {l:List SpanT} {i:Nat} (h:i<l.length):(spD l)[i]?=some (.d (.agg [.int .i64 l[i].fr,.int .i64 l[i].to])):=by simp[spD,h]
theorem spD_set (l:List SpanT) (i:Nat) (s:SpanT):(spD l).set i (.d (.agg [.int .i64 s.fr,.int .i64 s.to]))=spD (l.set i s):=by simp[spD,List.map_set]
theorem spD_under (l:List SpanT) (n:Nat):∀x,x∈spD l→A.under n x=true:=by
  intro x hx
  obtain⟨y,_,rfl⟩:=List.mem_map.1 hx
  rfl
@[simp] theorem spD_underS (m:Nat) (l:List SpanT):(∀x,x∈spD l→A.under m x=true)=True:=eq_true (spD_under l m)
@[simp] theorem spD_objs:∀l:List SpanT,A.objsL (spD l)=[]
  | []=>rfl
  | x::l=>by
    have:=spD_objs l
    unfold spD at this ⊢
    simp[this]
@[simp] theorem spD_ren (q:Nat→Nat) (l:List SpanT):(spD l).map (A.ren q)=spD l:=by simp[spD]
def Ob.spans:Ob→List SpanT
  | .cells _ _ xs=>xs.map fun x=>x.gv SpanT
  | _=>[]
@[simp] theorem spans_spD (v e:Nat) (l:List SpanT):Ob.spans (.cells v e (spD l))=l:=by simp[Ob.spans,spD,Function.comp_def]
@[simp] def trS (g:List CommitT) (path:Str) (st:LogS):Store:=[.cells 0 5 [.agg [.d (Rep.to g),.d (.str path),.own 1 0 0 g.length,.gr 2 3 (st.V.map Rep.to),.gr 3 3 (st.L.map Rep.to)]],.cells 0 2 (spD st.R),.tip st.V.length,.tip st.L.length]
def trV (s:Store):LogS:=⟨(s.getD 1 .dead).spans,((s.getD 0 .dead).at 0 3).gl VisitT,((s.getD 0 .dead).at 0 4).gl VisitT⟩
structure HaX where
  g:List CommitT
  path:Str
  st:LogS
  c:Nat
  p:Nat
@[simp] def F_linelog_tracker_hand:RF HaX where
  new:=0
  view a s:=⟨((s.getD 0 .dead).at 0 0).gl CommitT,((s.getD 0 .dead).at 0 1).gs,trV s,(a.getD 1 .any).gi.toNat,(a.getD 2 .any).gi.toNat⟩
  args x:=[.ref 0 0 0 0,.d (.int .i64 x.c),.d (.int .i64 x.p),.d (.str (blobG x.g x.path x.c))]
  st x:=trS x.g x.path x.st
  pre x:=HndOk x.g x.path x.c x.p (x.st.R.getD x.c z0)∧x.c≠x.p∧x.st.R.length=x.g.length
  res x:=.d (.bool (handT x.g x.path x.c x.st.R x.p))
  st' x:=trS x.g x.path { x.st with R:=handR x.g x.path x.c x.st.R x.p }
abbrev R_linelog_tracker_hand:RSpec:=F_linelog_tracker_hand.spec
theorem ct_linelog_tracker_hand {P:Program} {f g1 g2 g3 g4 g5 g6 g7:Nat} {G:Gam} (hc:CodeOf P f 4 16 [4] (x_linelog_tracker_hand g1 g2 g3 g4 g5 g6 g7)) (hG:GamOk P G) (h1:G.find g1=some S_tree_Find) (h2:G.find g2=some S_linelog_lines) (h3:G.find g3=some S_intern_Ids) (h4:G.find g4=some S_shortest_Script) (h5:G.find g5=some S_track_Back) (h6:G.find g6=some S_track_Hull) (h7:G.find g7=some S_track_Touches):RSpec.Ok P f R_linelog_tracker_hand:=by
  refine RF.ok hc.call fun x hx=>hc.rcalls hG rfl ?_
  obtain⟨g,path,⟨R,V,L⟩,c,p⟩:=x
  obtain⟨hh,hne,hRl⟩:=hx
  simp only at hh hne hRl
  have hg:=hh.gv
  have hcl:=hh.cl
  have hpl:=hh.pl
  have hpf:=(hg.files _ (List.getElem_mem hpl)).1
  have e1:blobF g[p].files path=blobG g path p:=by unfold blobG;simp[List.getD,hpl]
  have e2:inB g[p].files path=hasF g path p:=by unfold hasF;simp[List.getD,hpl]
  have hcb:=hg.blob hcl path
  have hpb:=hg.blob hpl path
  have hcn:=checkT_lines hcb
  have hpn:=checkT_lines hpb
  have hsm:=small_pair hpb hcb
  obtain⟨i0,i1,hid,n0,n1,hsc⟩:=ids_pair (blobG g path p) (blobG g path c)
  have hnl:¬longV i0 i1:=by unfold longV;omega
  obtain⟨ht,hm⟩:=hh.trk
  have hcR:c<R.length:=by omega
  have hpR:p<R.length:=by omega
  have er:R.getD c z0=R[c]:=by simp[List.getD,hcR]
  have ep:R.getD p z0=R[p]:=by simp[List.getD,hpR]
  rw[er] at ht
  have gc:=spD_get hcR
  have gp:=spD_get hpR
  obtain⟨_,gc2⟩:=List.getElem?_eq_some_iff.1 gc
  obtain⟨_,gp2⟩:=List.getElem?_eq_some_iff.1 gp
  have hsl:=spD_len R
  have hset:=spD_set R p
  simp only[F_linelog_tracker_hand,handT,handR,trS,Int.toNat_natCast,er,ep]
  cases hf:hasF g path p with
  | true =>
    cases hb:backP (prt g path p c) R[c] with
    | some s =>
      have hset1:=hset (hullS R[p] s)
      simp only[if_true]
      rw[← hset1]
      have gcs:((spD R).set p (.d (.agg [.int .i64 (hullS R[p] s).fr,.int .i64 (hullS R[p] s).to])))[c]?=some (.d (.agg [.int .i64 R[c].fr,.int .i64 R[c].to])):=by rw[List.getElem?_set_ne (fun h=>hne h.symm)];exact gc
      obtain⟨_,gcs2⟩:=List.getElem?_eq_some_iff.1 gcs
      have hsu:∀x,x∈(spD R).set p (.d (.agg [.int .i64 (hullS R[p] s).fr,.int .i64 (hullS R[p] s).to]))→A.under 4 x=true:=by rw[hset1];exact spD_under _ _
      generalize spD R=sp at *
      simp[x_linelog_tracker_hand,startA,hpl,getD_map,h1,show g[p].files.length≤9223372036854775807 by omega,e1,e2,hf,h2,hpb,hcb,h3,hsm,hid,h4,n0,n1,show (linesV (blobG g path p)).length≤1048576 by omega,show (linesV (blobG g path c)).length≤1048576 by omega,hnl,hsc,h5,hcl,gc,gc2,hsl,hRl,ht,hm,hb,backD,h6,gp,gp2,h7,gcs,gcs2]
      exact FinR.done (by simp) (by simp) rfl (by simp[resOf,resE]) (by simpa using hsu) (by simp)
    | none =>
      simp only[if_true]
      have hsu:=spD_under R 4
      generalize spD R=sp at *
      simp[x_linelog_tracker_hand,startA,hpl,getD_map,h1,show g[p].files.length≤9223372036854775807 by omega,e1,e2,hf,h2,hpb,hcb,h3,hsm,hid,h4,n0,n1,show (linesV (blobG g path p)).length≤1048576 by omega,show (linesV (blobG g path c)).length≤1048576 by omega,hnl,hsc,h5,hcl,gc,gc2,hsl,hRl,ht,hm,hb,backD,h7]
      exact FinR.done (by simp) (by simp) rfl (by simp[resOf,resE]) (by simpa using hsu) (by simp)
  | false =>
    simp only[Bool.false_eq_true,if_false]
    simp[x_linelog_tracker_hand,startA,hpl,getD_map,h1,show g[p].files.length≤9223372036854775807 by omega,e1,e2,hf]
    exact FinR.done (by simp) (by simp) rfl (by simp[resOf,resE]) (by simp) (by simp)
theorem handsR_snoc (g:List CommitT) (path:Str) (c:Nat) (a:List Int) (p:Int) (R:List SpanT):handsR g path c (a++[p]) R=handR g path c (handsR g path c a R) p:=by simp[handsR]
theorem handsT_snoc (g:List CommitT) (path:Str) (c:Nat):∀(a:List Int) (p:Int) (R:List SpanT),handsT g path c (a++[p]) R=(handsT g path c a R || handT g path c (handsR g path c a R) p)
  | [],p,R=>by simp[handsT,handsR]
  | q::a,p,R=>by
    rw[List.cons_append,handsT,handsT,handsT_snoc g path c a p,Bool.or_assoc]
    rfl
structure ViX where
  g:List CommitT
  path:Str
  st:LogS
  c:Nat
@[simp] def F_linelog_tracker_visit:RF ViX where
  new:=0
  view a s:=⟨((s.getD 0 .dead).at 0 0).gl CommitT,((s.getD 0 .dead).at 0 1).gs,trV s,(a.getD 1 .any).gi.toNat⟩
  args x:=[.ref 0 0 0 0,.d (.int .i64 x.c)]
  st x:=trS x.g x.path x.st
  pre x:=GV x.g∧x.c<x.g.length∧x.st.R.length=x.g.length∧x.st.V.length≤100000∧x.st.L.length≤100000∧((x.st.R.getD x.c z0).fr<(x.st.R.getD x.c z0).to→hasF x.g x.path x.c=true∧0≤(x.st.R.getD x.c z0).fr∧(x.st.R.getD x.c z0).to≤((linesV (blobG x.g x.path x.c)).length:Int))
  res _:=.tup []
  st' x:=trS x.g x.path (visitS x.g x.path x.st x.c)
abbrev R_linelog_tracker_visit:RSpec:=F_linelog_tracker_visit.spec
theorem ct_linelog_tracker_visit {P:Program} {f g1 g2:Nat} {G:Gam} (hc:CodeOf P f 2 14 [] (x_linelog_tracker_visit g1 g2)) (hG:GamOk P G) (h1:G.find g1=some S_tree_Find) (h2:G.findR g2=some R_linelog_tracker_hand):RSpec.Ok P f R_linelog_tracker_visit:=by
  refine RF.ok hc.call fun x hx=>hc.rcalls hG rfl ?_
  obtain⟨g,path,⟨R,V,L⟩,c⟩:=x
  obtain⟨hg,hcl,hRl,hVl,hLl,hgood⟩:=hx
  simp only at hg hcl hRl hVl hLl hgood
  have hcf:=(hg.files _ (List.getElem_mem hcl)).1
  have e1:blobF g[c].files path=blobG g path c:=by unfold blobG;simp[List.getD,hcl]
  have e2:inB g[c].files path=hasF g path c:=by unfold hasF;simp[List.getD,hcl]
  have hcR:c<R.length:=by omega
  have er:R.getD c z0=R[c]:=by simp[List.getD,hcR]
  have eg:g.getD c default=g[c]:=by simp[List.getD,hcl]
  have gc:=spD_get hcR
  obtain⟨_,gc2⟩:=List.getElem?_eq_some_iff.1 gc
  have hsl:=spD_len R
  have hpl:=hg.par _ (List.getElem_mem hcl)
  have hrg:=hg.prng hcl
  obtain⟨hh,hfix⟩:=hg.fix
  have hpc:∀p,p∈g[c].parents→p.toNat≠c:=fun p hp e=>by
    have:=fix_rank hfix c hcl p hp
    rw[e] at this
    omega
  simp only[F_linelog_tracker_visit,visitS,er,eg,trS]
  by_cases hne:R[c].to≤R[c].fr
  · rw[if_pos hne]
    have hsu:=spD_under R 4
    generalize spD R=sp at *
    cases hf:hasF g path c with
    | true =>
      simp[x_linelog_tracker_visit,startA,hcl,getD_map,h1,show g[c].files.length≤9223372036854775807 by omega,e1,e2,hf,gc,gc2,hsl,hRl,hne]
      exact FinR.done (by simp) (by simp) rfl (by simp[resOf]) (by simpa using hsu) (by simp)
    | false =>
      simp[x_linelog_tracker_visit,startA,hcl,getD_map,h1,show g[c].files.length≤9223372036854775807 by omega,e1,e2,hf]
      exact FinR.done (by simp) (by simp) rfl (by simp[resOf]) (by simpa using hsu) (by simp)
  · rw[if_neg hne]
    obtain⟨hf,hs0,hs2⟩:=hgood (by rw[er];omega)
    rw[er] at hs0 hs2
    obtain⟨VV,hVV⟩:∃VV,VV=V++[(⟨(c:Int),R[c]⟩:VisitT)]:=⟨_,rfl⟩
    obtain⟨LL,hLL⟩:∃LL,LL=L++[(⟨(c:Int),R[c]⟩:VisitT)]:=⟨_,rfl⟩
    have hVVl:VV.length=V.length+1:=by rw[hVV];simp
    have hLLl:LL.length=L.length+1:=by rw[hLL];simp
    rw[← hVV,← hLL]
    generalize hps:g[c].parents=ps at *
    obtain⟨Rf,hRf⟩:∃Rf:Nat→List SpanT,∀i,Rf i=handsR g path c (ps.take i) R:=⟨_,fun _=>rfl⟩
    obtain⟨fl,hfl⟩:∃fl:Nat→Bool,∀i,fl i=(decide (ps=[]) || handsT g path c (ps.take i) R):=⟨_,fun _=>rfl⟩
    have hRN:handsR g path c ps R=Rf ps.length:=by rw[hRf,List.take_length]
    have hfN:(decide (ps=[]) || handsT g path c ps R)=fl ps.length:=by rw[hfl,List.take_length]
    have hR0:Rf 0=R:=by rw[hRf];rfl
    have hf0:fl 0=decide ((ps.length:Int)=0):=by
      rw[hfl]
      simp[handsT]
    have hRs:∀i (h:i<ps.length),Rf (i+1)=handR g path c (Rf i) ps[i]:=fun i h=>by rw[hRf,hRf,List.take_succ_eq_append_getElem h,handsR_snoc]
    have hfs:∀i (h:i<ps.length),fl (i+1)=(fl i || handT g path c (Rf i) ps[i]):=fun i h=>by rw[hfl,hfl,hRf,List.take_succ_eq_append_getElem h,handsT_snoc,Bool.or_assoc]
    have hRl2:∀i,(Rf i).length=g.length:=fun i=>by rw[hRf,handsR_len];exact hRl
    have hRc:∀i,(Rf i).getD c z0=R[c]:=fun i=>by
      rw[hRf,handsR_other fun p hp=>hpc p (List.mem_of_mem_take hp),er]
    rw[hRN,hfN]
    clear hRN hfN hRf hfl
    have hgr:∀(T:List VisitT),(T++[(⟨(c:Int),R[c]⟩:VisitT)]).map Rep.to=T.map Rep.to++[D.agg [.int .i64 c,.int .i64 R[c].fr,.int .i64 R[c].to]]:=fun T=>by simp
    have hVm:=hgr V
    have hLm:=hgr L
    rw[← hVV] at hVm
    rw[← hLL] at hLm
    simp[x_linelog_tracker_visit,startA,hcl,getD_map,h1,show g[c].files.length≤9223372036854775807 by omega,e1,e2,hf,gc,gc2,hsl,hRl,hne,hps]
    refine⟨by unfold room;omega,?_⟩
    refine vc_lp (σ:=Nat) (fun i=>i≤ps.length) (fun i=>ps.length-i)
      (fun i=>[.ref 0 0 0 0,.d (.int .i64 c),.d (.str (blobG g path c)),.any,.ref 4 0 0 0,.d (.bool (fl i)),.any,.any,.d (Rep.to ps),.d (.int .i64 ps.length),.d (.int .i64 i),.any,.any,.any])
      (fun i=>[.cells 0 5 [.agg [.d (Rep.to g),.d (.str path),.own 1 0 0 g.length,.gr 2 3 (VV.map Rep.to),.gr 3 3 (L.map Rep.to)]],.cells 0 2 (spD (Rf i)),.tip VV.length,.tip L.length,.cells 0 3 [.agg [.d (.int .i64 c),.d (.int .i64 R[c].fr),.d (.int .i64 R[c].to)]]]) 0 (by simp[hf0]) (by simp[hR0,hVm,hVVl]) (by simp) ?_
    intro i hi
    by_cases hil:i<ps.length
    · have w1:IntKind.i64.wrap ((i:Int)+1)=(i:Int)+1:=wrap_in (by omega) (by omega)
      obtain⟨r1,r2⟩:=hrg _ (List.getElem_mem hil)
      obtain⟨q,hq⟩:=Int.eq_ofNat_of_zero_le r1
      have hql:q<g.length:=by omega
      have hqc:c≠q:=fun h=>hpc _ (List.getElem_mem hil) (by rw[hq];simpa using h.symm)
      have hok:HndOk g path c q ((Rf i).getD c z0):=by rw[hRc];exact⟨hg,hcl,hql,hs0,by omega,hs2⟩
      have hs1:=hRs i hil
      have hs2':=hfs i hil
      have hl:=hRl2 i
      rw[hq] at hs1 hs2'
      generalize Rf i=Ri at *
      have hok':HndOk g path c q (Ri[c]?.getD z0):=by simpa using hok
      cases ht:handT g path c Ri (q:Int) with
      | true =>
        rw[ht,Bool.or_true] at hs2'
        simp[hil,getD_map,hq,eRCall,h2,trV,hok',hqc,hl,ht,w1]
        exact Nxt.mk (i+1) (by omega) (by simp[hs2']) (by simp[hs1]) (by omega)
      | false =>
        rw[ht,Bool.or_false] at hs2'
        simp[hil,getD_map,hq,eRCall,h2,trV,hok',hqc,hl,ht,w1]
        exact Nxt.mk (i+1) (by omega) (by simp[hs2']) (by simp[hs1]) (by omega)
    · have h9:i=ps.length:=by omega
      rw[h9]
      generalize Rf ps.length=RN at *
      have hsu:=spD_under RN 4
      cases hfl:fl ps.length with
      | true =>
        generalize spD RN=sp at *
        simp
        refine⟨by unfold room;omega,?_⟩
        exact FinR.done (by simp) (by simp[hLm,hLLl]) rfl (by simp[resOf]) (by simpa using hsu) (by simp)
      | false =>
        generalize spD RN=sp at *
        simp
        exact FinR.done (by simp) (by simp) rfl (by simp[resOf]) (by simpa using hsu) (by simp)
def folE (g:List CommitT) (c:Int) (path:Str) (s:SpanT):Int:=if begE g c path=0 then (if 0≤s.fr∧s.fr<s.to∧s.to≤(fileN g c path:Int) then 0 else 3) else begE g c path
theorem folE_ok {g:List CommitT} {c:Int} {path:Str} {s:SpanT} (h:folE g c path s=0):begE g c path=0∧0≤s.fr∧s.fr<s.to∧s.to≤(fileN g c path:Int):=by
  unfold folE at h
  split at h
  · rename_i h1
    split at h
    · rename_i h2;exact⟨h1,h2⟩
    · cases h
  · rename_i h1;exact (h1 h).elim
theorem folE_start {g:List CommitT} {c:Nat} {path:Str} {s:SpanT} (h:folE g (c:Int) path s=0):StartOk g path c s:=by
  obtain⟨h1,h2,h3,h4⟩:=folE_ok h
  obtain⟨_,h5,h6,h7⟩:=begE_ok h1
  rw[Int.toNat_natCast] at h7
  exact⟨by omega,h7,h2,h3,by unfold fileN at h4;rwa [Int.toNat_natCast] at h4⟩
theorem orderD_one {g:List CommitT} (h:dagC g=0) {c:Nat} (hc:c<g.length):orderD g [(c:Int)]=.tup [Rep.to (orderS g c),.int .i64 0]:=by
  unfold orderD
  rw[if_pos h,if_pos]
  · rfl
  · unfold startsB
    simp
    omega
structure FoX where
  g:List CommitT
  c:Int
  path:Str
  s:SpanT
@[simp] def F_linelog_follow:RF FoX where
  new:=4
  view a _:=⟨(a.getD 0 .any).gl CommitT,(a.getD 1 .any).gi,(a.getD 2 .any).gs,⟨((a.getD 3 .any).cells.getD 0 .any).gi,((a.getD 3 .any).cells.getD 1 .any).gi⟩⟩
  args x:=[.d (Rep.to x.g),.d (.int .i64 x.c),.d (.str x.path),.agg [.d (.int .i64 x.s.fr),.d (.int .i64 x.s.to)]]
  st _:=[.res,.res,.res,.res]
  pre x:=GraphOk x.g
  res x:=if folE x.g x.c x.path x.s=0 then .tup [.ref 0 0 0 0,.d (.int .i64 0)] else .tup [.d .nilp,.d (.int .i64 (folE x.g x.c x.path x.s))]
  st' x:=if folE x.g x.c x.path x.s=0 then trS x.g x.path (followS x.g x.path x.c.toNat x.s) else [.res,.res,.res,.res]
abbrev R_linelog_follow:RSpec:=F_linelog_follow.spec
theorem spD_form {n:Nat} {k:List Ob} {v:Nat} {xs:List A} {l:List SpanT} (h:xs.length=l.length) (hc:∀i (hi:i<l.length),(xs.getD i .any).cells=[.d (.int .i64 l[i].fr),.d (.int .i64 l[i].to)]):WkO n k (.cells v 2 xs) (.cells v 2 (spD l)):=by
  refine .inr ⟨v,2,_,_,rfl,rfl,by rw[h,spD_len],fun i hi=>?_⟩
  have hil:i<l.length:=by omega
  have e2:(spD l).getD i .any=.d (.agg [.int .i64 l[i].fr,.int .i64 l[i].to]):=by rw[List.getD,spD_get hil];rfl
  rw[e2,hc i hil]
  exact⟨rfl,WkL.refl' _ _ _⟩
theorem ct_linelog_follow {P:Program} {f g1 g2 g3 g4 g5 g6:Nat} {G:Gam} (hc:CodeOf P f 4 21 [5,6] (x_linelog_follow g1 g2 g3 g4 g5 g6)) (hG:GamOk P G) (h1:G.find g1=some S_dag_Check) (h2:G.find g2=some S_dag_Is) (h3:G.find g3=some S_tree_Find) (h4:G.find g4=some S_linelog_lines) (h5:G.find g5=some S_walk_Order) (h6:G.findR g6=some R_linelog_tracker_visit):RSpec.Ok P f R_linelog_follow:=by
  refine RF.ok hc.call fun x hx=>hc.rcalls hG rfl ?_
  obtain⟨g,c,path,⟨fr,to⟩⟩:=x
  have hok:GraphOk g:=hx
  simp only[F_linelog_follow]
  by_cases c0:dagC g=0
  · have hg:=GV.of c0 hok
    by_cases c1:0≤c∧c<(g.length:Int)
    · obtain⟨n,rfl⟩:=Int.eq_ofNat_of_zero_le c1.1
      have hcl:n<g.length:=by omega
      have hfl:=(hg.files _ (List.getElem_mem hcl)).1
      have e1:blobF g[n].files path=blobG g path n:=by unfold blobG;simp[List.getD,hcl]
      have e2:inB g[n].files path=hasF g path n:=by unfold hasF;simp[List.getD,hcl]
      have hb:=hg.blob hcl path
      have hbn:=checkT_lines hb
      cases hf:hasF g path n with
      | true =>
        have he:begE g (n:Int) path=0:=by unfold begE;rw[if_pos c0,if_pos ⟨c1.1,c1.2,by simpa using hf⟩]
        have hfn:fileN g (n:Int) path=(linesV (blobG g path n)).length:=by unfold fileN;rw[Int.toNat_natCast]
        by_cases k1:fr<0
        · have hv:folE g (n:Int) path ⟨fr,to⟩=3:=by unfold folE;rw[if_pos he,if_neg (by simp only;omega)]
          simp only[hv]
          simp[x_linelog_follow,startA,h1,h2,h3,hok,c0,hcl,getD_map,show g[n].files.length≤9223372036854775807 by omega,e1,e2,hf,k1]
          exact FinR.done (by simp) (by simp) rfl (by simp[resOf,resE]) (by simp) (by simp)
        · by_cases k2:to≤fr
          · have hv:folE g (n:Int) path ⟨fr,to⟩=3:=by unfold folE;rw[if_pos he,if_neg (by simp only;omega)]
            simp only[hv]
            simp[x_linelog_follow,startA,h1,h2,h3,hok,c0,hcl,getD_map,show g[n].files.length≤9223372036854775807 by omega,e1,e2,hf,k1,k2]
            exact FinR.done (by simp) (by simp) rfl (by simp[resOf,resE]) (by simp) (by simp)
          · by_cases k3:((linesV (blobG g path n)).length:Int)<to
            · have hv:folE g (n:Int) path ⟨fr,to⟩=3:=by unfold folE;rw[if_pos he,if_neg (by simp only;omega)]
              simp only[hv]
              simp[x_linelog_follow,startA,h1,h2,h3,h4,hok,c0,hcl,getD_map,show g[n].files.length≤9223372036854775807 by omega,e1,e2,hf,k1,k2,k3,hb]
              exact FinR.done (by simp) (by simp) rfl (by simp[resOf,resE]) (by simp) (by simp)
            · have hv:folE g (n:Int) path ⟨fr,to⟩=0:=by unfold folE;rw[if_pos he,if_pos (by simp only;omega)]
              have hst:=folE_start hv
              simp only[hv,if_true,Int.toNat_natCast]
              have hod:=orderD_one c0 hcl
              have hgl:=hok.1
              have hs2:startS0 g n ⟨fr,to⟩=⟨(List.replicate g.length z0).set n ⟨fr,to⟩,[],[]⟩:=rfl
              obtain⟨o,hoo⟩:∃o,o=orderS g n:=⟨_,rfl⟩
              have hord:OrdP g o:=by rw[hoo];exact order_P _ (fun _ _=>trivial)
              have hfI:=fun k hk=>follow_I hg.rel (path:=path) hord hst.c hst.s1 k hk
              have hol:o.length≤g.length:=nodup_le _ _ hord.nd hord.rng
              obtain⟨St,hSt⟩:∃St:Nat→LogS,∀k,St k=followK g path (startS0 g n ⟨fr,to⟩) (o.take k):=⟨_,fun _=>rfl⟩
              have hS0:St 0=⟨(List.replicate g.length z0).set n ⟨fr,to⟩,[],[]⟩:=by rw[hSt,← hs2];rfl
              have hSn:∀k (h:k<o.length),St (k+1)=visitS g path (St k) o[k].toNat:=fun k h=>by
                rw[hSt,hSt,List.take_succ_eq_append_getElem h]
                unfold followK
                rw[List.foldl_append]
                rfl
              have hSN:followS g path n ⟨fr,to⟩=St o.length:=by rw[hSt,List.take_length];unfold followS;rw[← hoo]
              have hI:∀k,k≤o.length→LogI g path n ⟨fr,to⟩ (o.take k) (St k):=fun k hk=>by rw[hSt];exact hfI k hk
              have hVl:∀k,k≤o.length→(St k).V.length≤1000:=fun k hk=>by
                rw[(hI k hk).V]
                have:=List.length_filter_le (neS (St k).R) (o.take k)
                have:(o.take k).length≤o.length:=by simp;omega
                simp
                omega
              have hLl:∀k,k≤o.length→(St k).L.length≤1000:=fun k hk=>by
                rw[(hI k hk).L]
                have:=List.length_filter_le (fun c=>neS (St k).R c && showB g path (St k).R c) (o.take k)
                have:(o.take k).length≤o.length:=by simp;omega
                simp only[List.length_map]
                omega
              have hgd:∀k,k≤o.length→∀p,p<g.length→((St k).R.getD p z0).fr<((St k).R.getD p z0).to→hasF g path p=true∧0≤((St k).R.getD p z0).fr∧((St k).R.getD p z0).to≤((linesV (blobG g path p)).length:Int):=fun k hk p hp h =>
                ne_good hg.rel hst (fun c hc=>by have:=hord.rng _ (List.mem_of_mem_take hc);omega) ((hI k hk).hull p hp) h
              rw[← hoo] at hod
              rw[hSN]
              clear hSt hfI hs2 hSN
              simp[x_linelog_follow,startA,h1,h2,h3,h4,h5,hok,c0,hcl,getD_map,show g[n].files.length≤9223372036854775807 by omega,e1,e2,hf,k1,k2,k3,hb,hod]
              refine⟨by unfold room;omega,?_⟩
              refine vc_lpR (σ:=Nat) (fun k=>k≤o.length) (fun k=>o.length-k)
                (fun k=>[.d (Rep.to g),.d (.int .i64 n),.d (.str path),.any,.any,.any,.any,.any,.any,.any,.ref 6 0 0 0,.any,.any,.any,.any,.any,.any,.d (Rep.to o),.d (.int .i64 o.length),.d (.int .i64 k),.any])
                (fun k=>[.res,.res,.res,.res,.cells 0 2 [.agg [.d (.int .i64 fr),.d (.int .i64 to)]],.cells 0 2 (spD (St k).R),.cells 0 5 [.agg [.d (Rep.to g),.d (.str path),.own 5 0 0 g.length,.gr 7 3 ((St k).V.map Rep.to),.gr 8 3 ((St k).L.map Rep.to)]],.tip (St k).V.length,.tip (St k).L.length]) 0 ?_ (by simp) ?_
              · rw[hS0]
                refine Re.weak (k:=[.tip 0,.tip 0]) (s':=[.res,.res,.res,.res,.cells 0 2 [.agg [.d (.int .i64 fr),.d (.int .i64 to)]],.cells 0 2 (spD ((List.replicate g.length z0).set n ⟨fr,to⟩)),.cells 0 5 [.agg [.d (Rep.to g),.d (.str path),.own 5 0 0 g.length,.gr 7 3 [],.gr 8 3 []]]]) (by simp) (by simp) (by simp) ⟨.inl rfl,.inl rfl,.inl rfl,.inl rfl,.inl rfl,spD_form (by simp) (fun i hi=>?_),.cellsL ⟨⟨rfl,⟨Wk.refl _ _ _,Wk.refl _ _ _,Wk.refl _ _ _,Wk.fresh 7 [.tip 0,.tip 0] 3 0 rfl,Wk.fresh 7 [.tip 0,.tip 0] 3 1 rfl,trivial⟩⟩,trivial⟩,trivial⟩
                simp at hi
                by_cases e:n=i
                · subst e;simp[List.getD,hcl]
                · simp[List.getD,List.getElem?_set_ne e,List.getElem_set_ne e,hi,z0]
              intro k hk
              by_cases hkl:k<o.length
              · have w1:IntKind.i64.wrap ((k:Int)+1)=(k:Int)+1:=wrap_in (by omega) (by omega)
                obtain⟨r1,r2⟩:=hord.rng _ (List.getElem_mem hkl)
                obtain⟨q,hq⟩:=Int.eq_ofNat_of_zero_le r1
                have hql:q<g.length:=by omega
                have hnx:=hSn k hkl
                rw[hq,Int.toNat_natCast] at hnx
                have v1:=hVl k hk
                have v2:=hLl k hk
                have v3:=hgd k hk q hql
                have v4:=(hI k hk).len
                generalize St k=st at *
                obtain⟨R,V,L⟩:=st
                simp only at v1 v2 v3 v4
                have v3':(R[q]?.getD z0).fr<(R[q]?.getD z0).to→hasF g path q=true∧0≤(R[q]?.getD z0).fr∧(R[q]?.getD z0).to≤((linesV (blobG g path q)).length:Int):=v3
                simp[hkl,getD_map,hq,eRCall,h6,trV,hg,hql,v4,show V.length≤100000 by omega,show L.length≤100000 by omega,w1]
                exact⟨by simpa [List.getD,show q<R.length by omega] using v3,Nxt.mk (k+1) (by omega) (by simp) (by simp[hnx]) (by omega)⟩
              · have h9:k=o.length:=by omega
                subst h9
                generalize St o.length=st at *
                simp
                exact⟨by simp[resPre,resE],[6,5,7,8],rfl,⟨by decide,by simp,by simp[pickS,Ob.ren,A.ren,A.rens]⟩,fun k hk=>(by match k,hk with | 0,_=>exact .inr rfl | 1,_=>exact .inr rfl | 2,_=>exact .inr rfl | 3,_=>exact .inr rfl),by simp[pickS,Ob.ren,A.ren,A.rens,idxIn] <;> decide,by simp[resOf,resE,A.ren,A.rens,idxIn] <;> rfl,by simp⟩
      | false =>
        have he:begE g (n:Int) path=5:=by unfold begE;rw[if_pos c0,if_neg];rintro⟨_,_,h⟩;rw[Int.toNat_natCast,hf] at h;cases h
        have hv:folE g (n:Int) path ⟨fr,to⟩=5:=by unfold folE;rw[if_neg (by rw[he];decide),he]
        simp only[hv]
        simp[x_linelog_follow,startA,h1,h2,h3,hok,c0,hcl,getD_map,show g[n].files.length≤9223372036854775807 by omega,e1,e2,hf]
        exact FinR.done (by simp) (by simp) rfl (by simp[resOf,resE]) (by simp) (by simp)
    · have he:begE g c path=5:=by unfold begE;rw[if_pos c0,if_neg];rintro⟨a,b,_⟩;exact c1 ⟨a,b⟩
      have hv:folE g c path ⟨fr,to⟩=5:=by unfold folE;rw[if_neg (by rw[he];decide),he]
      simp only[hv]
      by_cases k1:0≤c
      · have k2:¬c<(g.length:Int):=fun h=>c1 ⟨k1,h⟩
        simp[x_linelog_follow,startA,h1,h2,hok,c0,k1,k2]
        exact FinR.done (by simp) (by simp) rfl (by simp[resOf,resE]) (by simp) (by simp)
      · simp[x_linelog_follow,startA,h1,h2,hok,c0,k1]
        exact FinR.done (by simp) (by simp) rfl (by simp[resOf,resE]) (by simp) (by simp)
  · have he:begE g c path=dagC g:=by unfold begE;rw[if_neg c0]
    have hv:folE g c path ⟨fr,to⟩=dagC g:=by unfold folE;rw[if_neg (by rw[he];exact c0),he]
    simp only[hv]
    simp[x_linelog_follow,startA,h1,hok,c0]
    exact FinR.done (by simp) (by simp) rfl (by simp[resOf,resE]) (by simp) (by simp)
def logL (g:List CommitT) (c:Int) (path:Str) (s:SpanT):List VisitT:=if folE g c path s=0 then (followS g path c.toNat s).L else []
def trkL (g:List CommitT) (c:Int) (path:Str) (s:SpanT):List VisitT:=if folE g c path s=0 then (followS g path c.toNat s).V else []
@[simp] def S_linelog_Log:List D→Prop × D:=spec4 (α:=List CommitT) (β:=Int) (γ:=Str) (δ:=SpanT) (fun g _ _ _=>GraphOk g) (fun g c path s=>.tup [Rep.to (logL g c path s),.int .i64 (folE g c path s)])
theorem ct_linelog_Log {P:Program} {f g1:Nat} {G:Gam} (h:CodeOf P f 4 10 [5,6] (x_linelog_Log g1)) (hG:GamOk P G) (h1:G.findR g1=some R_linelog_follow):Has P f S_linelog_Log:=h.has4 hG fun g c path s hok=>by
  obtain⟨fr,to⟩:=s
  by_cases he:folE g c path ⟨fr,to⟩=0
  · have hv:logL g c path ⟨fr,to⟩=(followS g path c.toNat ⟨fr,to⟩).L:=by unfold logL;rw[if_pos he]
    rw[hv]
    generalize hst:followS g path c.toNat ⟨fr,to⟩=st at *
    simp[x_linelog_Log,eRCall,h1,hok,he,hst]
  · have hv:logL g c path ⟨fr,to⟩=[]:=by unfold logL;rw[if_neg he]
    rw[hv]
    simp[x_linelog_Log,eRCall,h1,hok,he]
@[simp] def S_linelog_Tracked:List D→Prop × D:=spec4 (α:=List CommitT) (β:=Int) (γ:=Str) (δ:=SpanT) (fun g _ _ _=>GraphOk g) (fun g c path s=>.tup [Rep.to (trkL g c path s),.int .i64 (folE g c path s)])
theorem ct_linelog_Tracked {P:Program} {f g1:Nat} {G:Gam} (h:CodeOf P f 4 10 [5,6] (x_linelog_Tracked g1)) (hG:GamOk P G) (h1:G.findR g1=some R_linelog_follow):Has P f S_linelog_Tracked:=h.has4 hG fun g c path s hok=>by
  obtain⟨fr,to⟩:=s
  by_cases he:folE g c path ⟨fr,to⟩=0
  · have hv:trkL g c path ⟨fr,to⟩=(followS g path c.toNat ⟨fr,to⟩).V:=by unfold trkL;rw[if_pos he]
    rw[hv]
    generalize hst:followS g path c.toNat ⟨fr,to⟩=st at *
    simp[x_linelog_Tracked,eRCall,h1,hok,he,hst]
  · have hv:trkL g c path ⟨fr,to⟩=[]:=by unfold trkL;rw[if_neg he]
    rw[hv]
    simp[x_linelog_Tracked,eRCall,h1,hok,he]
end Go.AE
namespace Go.AE
theorem aw30a:folE exG 1 [120] ⟨0,1⟩=0:=by decide +kernel
theorem aw30b:logL exG 1 [120] ⟨0,1⟩=[⟨0,⟨0,1⟩⟩]:=by decide +kernel
theorem aw30c:folE exG 1 [120] ⟨1,2⟩=0:=by decide +kernel
theorem aw30d:logL exG 1 [120] ⟨1,2⟩=[⟨1,⟨1,2⟩⟩]:=by decide +kernel
@[simp] def S_law30_awake:List D→Prop × D:=spec0 True (.bool true)
theorem ct_law30_awake {P:Program} {f g1 g2:Nat} {G:Gam} (h:CodeOf P f 0 6 [0] (x_law30_awake g1 g2)) (hG:GamOk P G) (h1:G.find g1=some S_linelog_Log) (h2:G.find g2=some S_gen_Visits):Has P f S_law30_awake:=h.has0 hG fun _=>by
  have e2:ofAll (Rep.of (α:=VisitT)) [.agg [.int .i64 0,.int .i64 0,.int .i64 1]]=some [⟨0,⟨0,1⟩⟩]:=rfl
  have e3:ofAll (Rep.of (α:=VisitT)) [.agg [.int .i64 1,.int .i64 1,.int .i64 2]]=some [⟨1,⟨1,2⟩⟩]:=rfl
  have a1:=aw30a
  have a2:=aw30b
  have a3:=aw30c
  have a4:=aw30d
  have a5:=exG_ok
  simp only[exG] at a1 a2 a3 a4 a5
  simp[x_law30_awake,h1,h2,e2,e3,a1,a2,a3,a4,a5]
theorem tree_ord {l:List FileT} (h:treeE l=0):ordV (l.map FileT.path)=true:=by
  unfold treeE at h
  split at h
  · cases h
  · split at h
    · cases h
    · split at h
      · rename_i h3;exact h3
      · cases h
theorem GV.uniq {g:List CommitT} (hg:GV g) {c:Nat} (hc:c<g.length) {k:Nat} (hk:k<g[c].files.length):hasF g g[c].files[k].path c=true∧blobG g g[c].files[k].path c=g[c].files[k].blob:=by
  have ho:=tree_ord (filesE_all (dagC_lim hg.c).2.2.2.2 _ (List.getElem_mem hc))
  have hn:∀j (hj:j<g[c].files.length),j<k→g[c].files[j].path≠g[c].files[k].path:=fun j hj hjk e=>by
    unfold ordV at ho
    rw[List.all_eq_true] at ho
    have:=asc_all (ps:=g[c].files.map FileT.path) (fun i hi=>by
      have:=ho i (by simpa using hi)
      rw[Bool.and_eq_true] at this
      exact this.1) k j hjk (by simpa using hk)
    have e1:(g[c].files.map FileT.path).getD j []=g[c].files[j].path:=by simp[List.getD,hj]
    have e2:(g[c].files.map FileT.path).getD k []=g[c].files[k].path:=by simp[List.getD,hk]
    rw[e1,e2,e,bl_irrefl] at this
    cases this
  obtain⟨h1,h2⟩:=find_hit hk hn rfl
  unfold hasF blobG
  rw[show g.getD c default=g[c] by simp[List.getD,hc]]
  exact⟨h1,h2⟩
theorem IsHull.span {s:SpanT} (h:s.fr<s.to):IsHull (fun x=>s.fr≤x∧x<s.to) s:=⟨fun x hx=>hx,fun q=>⟨by omega,by omega⟩,fun q=>⟨by omega,by omega⟩⟩
theorem IsHull.one {T:Int→Prop} {w:SpanT} (h:IsHull T w) (a:Int):IsHull (fun x=>T x∨a=x) (hullS w ⟨a,a+1⟩):=by
  refine (h.hull (b:=⟨a,a+1⟩) (U:=fun x=>a=x) ⟨fun x hx=>by simp only;omega,fun _=>rfl,fun _=>by simp only;omega⟩)
structure LgAll (g:List CommitT) (path:Str) (c:Nat) (s:SpanT) (st:LogS):Prop where
  gv:GV g
  so:StartOk g path c s
  lf:LogF g path c s (orderS g c) st
  ord:OrdP g (orderS g c)
  ol:(orderS g c).length≤g.length
theorem lgAll {g:List CommitT} (ho:GraphOk g) {c:Nat} {path:Str} {s:SpanT} (h:folE g (c:Int) path s=0):LgAll g path c s (followS g path c s)∧trkL g (c:Int) path s=(followS g path c s).V∧logL g (c:Int) path s=(followS g path c s).L:=by
  obtain⟨h1,_⟩:=folE_ok h
  obtain⟨h2,_⟩:=begE_ok h1
  have hg:=GV.of h2 ho
  obtain⟨hh,hf⟩:=hg.fix
  have hs:=folE_start h
  have hord:OrdP g (orderS g c):=order_P _ (fun _ _=>trivial)
  refine⟨⟨hg,hs,log_F hg.rel hf hs,hord,nodup_le _ _ hord.nd hord.rng⟩,?_,?_⟩
  · unfold trkL;rw[if_pos h,Int.toNat_natCast]
  · unfold logL;rw[if_pos h,Int.toNat_natCast]
def chB (raw:List Int):Nat→Str
  | 0=>blobV raw 0 6 4
  | c+1=>nearV (chB raw c) raw (100+50 * c)
theorem chB_B (raw:List Int):∀c,BlobB (7 * 2 ^ c) (chB raw c)
  | 0=>by
    have:=blob_B raw 0 4 (n:=6) (by omega)
    simpa [chB] using this
  | c+1=>by
    have:=(chB_B raw c).near raw (100+50 * c)
    unfold chB
    rw[Nat.pow_succ]
    refine this.mono (by omega)
theorem chB_len (raw:List Int) {c:Nat} (h:c≤6):(chB raw c).length≤1792∧checkT (chB raw c)=0:=by
  obtain⟨h1,h2⟩:=chB_B raw c
  have hp:2 ^ c≤2 ^ 6:=Nat.pow_le_pow_right (by omega) h
  have:(2:Nat) ^ 6=64:=by decide
  exact⟨by omega,check_of (by omega) (by omega)⟩
def chP (c:Nat):D:=if c=0 then .nilsl else .sl 1 [.int .i64 ((c:Int)-1)]
def chD (B:Nat→Str) (c:Nat):D:=.agg [chP c,.int .i64 0,.sl 2 [.agg [.str [102],.str (B c)]]]
def chE (B:Nat→Str) (n:Nat):List D:=(List.range n).map (chD B)
theorem chE_len (B:Nat→Str) (n:Nat):(chE B n).length=n:=by simp[chE]
theorem chE_succ (B:Nat→Str) (n:Nat):chE B (n+1)=chE B n++[chD B n]:=by simp[chE,List.range_succ]
theorem chE_get {B:Nat→Str} {n i:Nat} (h:i<n):(chE B n)[i]?=some (chD B i):=by simp[chE,h]
theorem chP_of (c:Nat):Rep.of (α:=List Int) (chP c)=some (if c=0 then [] else [(c:Int)-1]):=by
  unfold chP
  split
  · rfl
  · rfl
theorem chD_of (B:Nat→Str) (c:Nat):Rep.of (α:=CommitT) (chD B c)=some (chainC B c):=by
  unfold chD chainC
  rw[of_Commit,chP_of]
  rfl
theorem chE_of (B:Nat→Str):∀n,ofAll (Rep.of (α:=CommitT)) (chE B n)=some (chainG B n):=by
  intro n
  have:∀l:List Nat,ofAll (Rep.of (α:=CommitT)) (l.map (chD B))=some (l.map (chainC B)):=by
    intro l
    induction l with
    | nil=>rfl
    | cons a l ih=>simp only[List.map_cons,ofAll,chD_of,ih]
  exact this _
theorem chain_valid {B:Nat→Str} {n:Nat} (hn:n≤300) (hB:∀c,c<n→checkT (B c)=0):dagC (chainG B n)=0∧GraphOk (chainG B n):=by
  have hl:=chain_len B n
  have hm:∀c,c∈chainG B n→∃k,k<n∧c=chainC B k:=fun c hc=>by
    unfold chainG at hc
    rw[List.mem_map] at hc
    obtain⟨k,hk,rfl⟩:=hc
    exact⟨k,by simpa using hk,rfl⟩
  have hpar:∀k,(chainC B k).parents.length≤1:=fun k=>by unfold chainC;simp only;split <;> simp
  have hlim:limB (chainG B n)=true:=by
    unfold limB
    rw[Bool.and_eq_true,Bool.not_eq_true',List.any_eq_false]
    refine⟨by rw[hl];simpa using hn,fun c hc=>?_⟩
    obtain⟨k,hk,rfl⟩:=hm c hc
    have:=hpar k
    simp[conP]
    omega
  have hrel:relG (chainG B n)=true:=by
    unfold relG
    rw[List.all_eq_true]
    intro c hc
    obtain⟨k,hk,rfl⟩:=hm c hc
    unfold relB
    rw[Bool.and_eq_true,List.all_eq_true,decide_eq_true_eq]
    unfold chainC
    simp only
    by_cases e:k=0
    · rw[if_pos e];exact⟨fun p hp=>(by cases hp),List.nodup_nil⟩
    · rw[if_neg e]
      refine⟨fun p hp=>?_,by simp⟩
      simp at hp
      rw[decide_eq_true_eq,hl]
      omega
  have hup:(upV (parG (chainG B n))).length=(chainG B n).length:=by
    have:=up_full (relG_ok hrel) (fun c hc p hp=>by
      rw[parG_len] at hc
      rw[parG_get hc] at hp
      exact (chain_rel B c hc p hp).2)
    rw[parG_len] at this
    exact this
  have hrg:(chainG B n).any rangeB=false:=by
    rw[List.any_eq_false]
    intro c hc
    obtain⟨k,hk,rfl⟩:=hm c hc
    simp[rangeB,chainC]
  have hfe:filesE (chainG B n)=0:=filesE_none fun k hk=>by
    rw[chain_elem]
    unfold chainC
    simp only
    unfold treeE
    rw[if_neg (by simp),if_neg,show ordV (List.map FileT.path [(⟨[102],B k⟩:FileT)])=true from (show ordV [[102]]=true by decide),if_pos rfl,if_neg]
    · simp[hB k (by rw[hl] at hk;exact hk)]
    · simp
      decide
  refine⟨?_,by rw[hl];omega,fun c hc=>?_⟩
  · unfold dagC
    rw[if_pos hlim,if_pos hrel,if_neg (by omega),hrg]
    simpa using hfe
  · obtain⟨k,hk,rfl⟩:=hm c hc
    have h1:=hpar k
    have h2:=check_len (hB k hk)
    refine⟨by omega,by simp[chainC],fun f hf=>?_⟩
    simp[chainC] at hf
    subst hf
    exact⟨by simp,by simp only;omega⟩
@[simp] def S_law30_LinelogChain:List D→Prop × D:=spec4 (α:=List Int) (β:=Int) (γ:=Int) (δ:=Int) (fun raw _ _ _=>raw.length≤9223372036854775807) (fun _ _ _ _=>.bool true)
theorem ct_law30_LinelogChain {P:Program} {f g1 g2 g3 g4 g5 g6:Nat} {G:Gam} (h:CodeOf P f 4 20 [4] (x_law30_LinelogChain g1 g2 g3 g4 g5 g6)) (hG:GamOk P G) (h1:G.find g1=some S_gen_Mod) (h2:G.find g2=some S_gen_Blob) (h3:G.find g3=some S_gen_Near) (h4:G.find g4=some S_ref02_Lines) (h5:G.find g5=some S_law30_awake) (h6:G.find g6=some S_linelog_Tracked):Has P f S_law30_LinelogChain:=h.has4 hG fun raw n0 fr0 to0 hp=>by
  have m0:=modV_lt n0 (n:=6) (by omega)
  obtain⟨n',hn'⟩:=Int.eq_ofNat_of_zero_le m0.1
  have hn6:n'<6:=by omega
  have w0:IntKind.i64.wrap (1+(n':Int))=((n'+1:Nat):Int):=by rw[wrap_in (by omega) (by omega)];omega
  have hB:=fun c (h:c≤6)=>chB_len raw h
  obtain⟨B,hBB⟩:∃B,B=chB raw:=⟨_,rfl⟩
  have b0:blobV raw 0 6 4=B 0:=by rw[hBB];rfl
  have bs:∀c:Nat,nearV (B c) raw (100+50 * c)=B (c+1):=fun c=>by rw[hBB];rfl
  rw[← hBB] at hB
  clear hBB
  simp[x_law30_LinelogChain,h1,hn',w0,h2,hp,b0]
  refine vc_lp (σ:=Nat) (fun c=>c≤n'+1) (fun c=>n'+1-c)
    (fun c=>[.d (Rep.to raw),.d (.int .i64 ((n'+1:Nat):Int)),.d (.int .i64 fr0),.d (.int .i64 to0),.any,.gr 0 3 (chE B c),.d (.str (B c)),.d (.int .i64 c),.any,.any,.any,.any,.any,.any,.any,.any,.any,.any,.any,.any])
    (fun c=>[.tip (chE B c).length]) 0 (by simp[chE]) (by simp[chE]) (by simp) ?_
  intro c hc
  have hel:=chE_len B c
  have hes:=chE_succ B c
  by_cases hcn:c<n'+1
  · obtain⟨bl,-⟩:=hB c (by omega)
    have w1:IntKind.i64.wrap ((c:Int)+1)=(c:Int)+1:=wrap_in (by omega) (by omega)
    have w2:IntKind.i64.wrap (50 * (c:Int))=50 * (c:Int):=wrap_in (by omega) (by omega)
    have w3:IntKind.i64.wrap (100+50 * (c:Int))=100+50 * (c:Int):=wrap_in (by omega) (by omega)
    have w4:IntKind.i64.wrap ((c:Int)-1)=(c:Int)-1:=wrap_in (by omega) (by omega)
    have r1:0≤100+50 * (c:Int)∧100+50 * (c:Int)≤1000000:=by omega
    have hb:=bs c
    generalize chE B c=xs at *
    unfold chD chP at hes
    by_cases e:c=0
    · subst e
      rw[if_pos rfl] at hes
      have r1':nearV (B 0) raw 100=B 1:=by simpa using hb
      have z0:IntKind.i64.wrap 0=0:=wrap_in (by omega) (by omega)
      have z1:IntKind.i64.wrap 1=1:=wrap_in (by omega) (by omega)
      have z2:IntKind.i64.wrap 100=100:=wrap_in (by omega) (by omega)
      simp[h3,hp,show (B 0).length≤4096 by omega,r1',hel,z0,z1,z2]
      exact⟨by unfold room;omega,Nxt.mk 1 (by omega) (by simp[hes]) (by simp[hes,hel]) (by omega)⟩
    · rw[if_neg e] at hes
      simp[show (c:Int)<(n':Int)+1 by omega,show 0<c by omega,w1,w2,w3,w4,h3,hp,show (B c).length≤4096 by omega,r1,hb,hel]
      exact⟨by unfold room;omega,Nxt.mk (c+1) (by omega) (by simp[hes]) (by simp[hes,hel]) (by omega)⟩
  · have h9:c=n'+1:=by omega
    subst h9
    clear hc hcn hes b0 bs
    have hval:=chain_valid (B:=B) (n:=n'+1) (by omega) (fun c hc=>(hB c (by omega)).2)
    have hg:=GV.of hval.1 hval.2
    have hgl:=chain_len B (n'+1)
    have hof:=chE_of B (n'+1)
    have hget:∀i,i<n'+1→(chE B (n'+1))[i]?=some (.agg [chP i,.int .i64 0,.sl 2 [.agg [.str [102],.str (B i)]]]):=fun i hi=>chE_get hi
    have hget2:∀i (h:i<(chE B (n'+1)).length),(chE B (n'+1))[i]=.agg [chP i,.int .i64 0,.sl 2 [.agg [.str [102],.str (B i)]]]:=fun i h=>(List.getElem?_eq_some_iff.1 (hget i (by omega))).2
    have hlow:=chain_order hg.rel (by omega)
    have hlog:=fun s st hs hl=>chain_log hg.rel (by omega) (s:=s) (st:=st) hs hl
    rw[show n'+1-1=n' from rfl] at hlow hlog
    have hcn:(chainG B (n'+1)).getD n' default=chainC B n':=chain_get (by omega)
    have hfb:hasF (chainG B (n'+1)) [102] n'=true:=by unfold hasF;rw[hcn];simp[chainC,inB]
    have hbb:blobG (chainG B (n'+1)) [102] n'=B n':=by unfold blobG;rw[hcn];simp[chainC,blobF]
    have hbe:begE (chainG B (n'+1)) (n':Int) [102]=0:=by unfold begE;rw[if_pos hg.c,if_pos ⟨by omega,by omega,by simpa using hfb⟩]
    have hfn:fileN (chainG B (n'+1)) (n':Int) [102]=(linesV (B n')).length:=by unfold fileN;rw[Int.toNat_natCast,hbb]
    have hbl:=hB n' (by omega)
    have hln:=checkT_lines hbl.2
    have hok:=hval.2
    have hall:=@lgAll (chainG B (n'+1)) hok n' [102]
    have v5:IntKind.i64.wrap ((n':Int)+1-1)=(n':Int):=by rw[wrap_in (by omega) (by omega)];omega
    have v5':IntKind.i64.wrap (n':Int)=(n':Int):=wrap_in (by omega) (by omega)
    generalize hxs:chE B (n'+1)=xs at *
    generalize hgg:chainG B (n'+1)=g at *
    by_cases c2:(linesV (B n')).length=0
    · simp[v5,v5',hel,hget n' (by omega),hget2 n' (by omega),h4,show (B n').length≤4194304 by omega,c2,h5]
      omega
    · have m1:=modV_lt fr0 (n:=((linesV (B n')).length:Int)) (by omega)
      have m2:=modV_lt to0 (n:=((linesV (B n')).length:Int)-modV fr0 ((linesV (B n')).length:Int)) (by omega)
      generalize hn:(linesV (B n')).length=N at *
      generalize hm1:modV fr0 (N:Int)=a at *
      generalize hm2:modV to0 ((N:Int)-a)=b at *
      have hfo:folE g (n':Int) [102] ⟨a,a+1+b⟩=0:=by
        unfold folE
        rw[if_pos hbe,if_pos]
        rw[hfn]
        simp only
        omega
      obtain⟨A,ht,-⟩:=hall hfo
      have hlf:=A.lf
      rw[hlow] at hlf
      obtain⟨q1,q2,q3,q4⟩:=hlog _ _ (by simp only;omega) hlf
      rw[← ht] at q1 q2 q3 q4
      generalize hV:trkL g (n':Int) [102] ⟨a,a+1+b⟩=V at *
      clear hlf hlog A ht hall
      have w1:IntKind.i64.wrap ((N:Int)-a)=(N:Int)-a:=wrap_in (by omega) (by omega)
      have w2:IntKind.i64.wrap (a+1)=a+1:=wrap_in (by omega) (by omega)
      have w3:IntKind.i64.wrap (a+1+b)=a+1+b:=wrap_in (by omega) (by omega)
      have r5:1≤(N:Int)∧(N:Int)≤9223372036854775807:=by omega
      have r6:1≤(N:Int)-a∧(N:Int)-a≤9223372036854775807:=by omega
      have hV0:∀h:0<V.length,V[0]=⟨(n':Int),⟨a,a+1+b⟩⟩:=fun h=>by
        rw[List.getD_eq_getElem?_getD,List.getElem?_eq_getElem h] at q3
        exact q3
      have hV0:=hV0 q1
      simp[v5,v5',hel,hget n' (by omega),hget2 n' (by omega),h1,h4,show (B n').length≤4194304 by omega,hn,c2,r5,hm1,w1,w2,r6,hm2,w3,h6,hof,hok,hV,hfo,show ¬V.length=0 by omega,q1,show ¬(n':Int)+1<(V.length:Int) by omega,hV0,getD_map,eSeq,cellsEq,cellEq]
      refine⟨by omega,?_⟩
      refine vc_lp (σ:=Nat) (fun i=>i≤V.length) (fun i=>V.length-i)
        (fun i=>[.any,.d (.int .i64 ((n':Int)+1)),.any,.any,.any,.d (.sl 3 xs),.any,.any,.any,.any,.any,.d (Rep.to V),.any,.d (.int .i64 i),.any,.any,.any,.any,.any,.any])
        (fun _=>[]) 0 (by simp) (by simp) (by simp) ?_
      intro i hi
      by_cases hil:i<V.length
      · have w4:IntKind.i64.wrap ((i:Int)+1)=(i:Int)+1:=wrap_in (by omega) (by omega)
        have hin:i≤n':=by omega
        have w5:IntKind.i64.wrap ((n':Int)-i)=((n'-i:Nat):Int):=by rw[wrap_in (by omega) (by omega)];omega
        obtain⟨e1,e2,e3,e4⟩:=q4 i hil
        have e1':V[i].commit=((n'-i:Nat):Int):=by rw[e1];omega
        obtain⟨k,hk⟩:∃k,k=n'-i:=⟨_,rfl⟩
        have hk2:k<n'+1:=by omega
        rw[show n'-i=k from hk.symm] at e4
        rw[← hk] at e1' w5
        have hkl:=hB k (by omega)
        have g1:=hget k hk2
        have g2:=hget2 k (by omega)
        obtain⟨v,hgi⟩:∃v,V[i]=v:=⟨_,rfl⟩
        rw[hgi] at e1' e2 e3 e4
        simp[hil,getD_map,hgi,v5,v5',w5,e1',show ¬v.lines.fr<0 by omega,show ¬v.lines.to≤v.lines.fr by omega,hel,hk2,g1,g2,h4,show (B k).length≤4194304 by have:=hkl.1;omega,show ¬((linesV (B k)).length:Int)<v.lines.to by omega,w4]
        exact⟨by omega,Nxt.mk (i+1) (by omega) (by simp) (by simp) (by omega)⟩
      · have h9':i=V.length:=by omega
        subst h9'
        simp[h5]
theorem law30_LinelogChain_pre (raw:List Int) (n:Int) (fr:Int) (to:Int) (w0:Arg.wf raw) (w1:Arg.wf n) (w2:Arg.wf fr) (w3:Arg.wf to):raw.length≤9223372036854775807:=by
  have:=len_wf w0
  omega
end Go.AE
