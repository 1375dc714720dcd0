/-
  Law 24: no ready commit is passed over.
-/
import Derived.Test.YtlkndcbimdcnpaaDoorConb1

set_option linter.unusedSimpArgs false
set_option linter.unusedVariables false
set_option linter.unnecessarySimpa false
set_option maxRecDepth 20000
set_option maxHeartbeats 8000000
namespace Go.AE
structure LatOk (g:List CommitT) (R:List Bool) (o:List Int):Prop where
  rdy:∀k (hk:k<o.length),rdyL g R (flagL g.length (o.take k)) o[k].toNat=true
  best:∀k (hk:k<o.length),∀c (hc:c<g.length) (hb:o[k].toNat<g.length),rdyL g R (flagL g.length (o.take k)) c=true→¬g[o[k].toNat].date<g[c].date∧¬(g[c].date=g[o[k].toNat].date∧(c:Int)<o[k])
  all:∀c,c<g.length→R.getD c false=true→(flagL g.length o).getD c false=true
theorem latOk {M n:Nat} {g:List CommitT} (h:GraphB M n g) (R:List Bool):LatOk g R (orderV g R):=by
  have hio:=orderV_ok g R
  generalize orderV g R=o at *
  obtain⟨rank,hk⟩:=h.acyc
  have hall:=hio.all rank hk
  have hs:=hio.steps
  refine⟨fun k hk=>?_,fun k hk c hc hb hr=>?_,fun c hc hr=>(flagL_get _ _ (fun x hx=>(hs.rng x hx).1) c).2 ⟨hc,hall c hc hr⟩⟩
  · obtain⟨b,e,_,h2,_⟩:=hs.step k hk
    rw[e,Int.toNat_natCast]
    exact h2
  · obtain⟨b,e,h1,_,h3⟩:=hs.step k hk
    have h4:=h3 c hc hr
    simp only[e,Int.toNat_natCast]
    by_cases e2:c=b
    · subst e2;omega
    · have h5:=h4 e2
      unfold befG at h5
      have d1:dateG g (b:Int)=g[b].date:=by simp[dateG,List.getD,h1]
      have d2:dateG g (c:Int)=g[c].date:=by simp[dateG,List.getD,hc]
      rw[d1,d2] at h5
      split at h5
      · have:=of_decide_eq_true h5
        omega
      · have:=of_decide_eq_true h5
        omega
@[simp] def S_law24_WalkLatest:List D→Prop × D:=spec2 (α:=List Int) (β:=List Int) (fun raw l=>raw.length≤9223372036854775807∧l.length≤9223372036854775807) (fun _ _=>.bool true)
theorem ct_law24_WalkLatest {P:Program} {f g1 g2 g3 g4 g5 g6:Nat} {G:Gam} (h:CodeOf P f 2 19 [2] (x_law24_WalkLatest g1 g2 g3 g4 g5 g6)) (hG:GamOk P G) (h1:G.find g1=some S_gen_Graph) (h2:G.find g2=some S_law24_starts) (h3:G.find g3=some S_walk_Order) (h4:G.find g4=some S_ref23_Reach) (h5:G.find g5=some S_ref24_Ready) (h6:G.find g6=some S_law24_awake):Has P f S_law24_WalkLatest:=h.has2 hG fun raw l hp=>by
  obtain⟨p1,p2⟩:=hp
  obtain⟨m,hm,hb⟩:=graphV_B raw (n:=10) (lines:=1) (by omega) (by omega) (N:=2048) (by decide)
  obtain⟨o1,o⟩:=graphB_ok (by omega) (by omega) hb
  have hrel:=(dagC_lim o1).2.1
  have hlim:=(dagC_lim o1).1
  have hp32:∀c,c∈graphV raw 10 1→c.parents.length≤1000:=fun c hc=>by have:=lim_par hlim c hc;omega
  have htop:=fun s=>(topOk hb hrel s).rng
  have htnd:=fun s=>(topOk hb hrel s).nd
  have hlat:=fun R=>latOk hb R
  clear hb hm hlim
  generalize hg:graphV raw 10 1=g at *
  have hs5:=starts_len l g.length
  have hl1:=o.1
  have hsr:=starts_rng l g.length
  have hod:=orderD_ok o1 (starts_B l g.length)
  generalize hss:startsV l g.length=s at *
  have ht:=htop s
  have hol:=nodup_le _ _ (htnd s) ht
  have hla:=hlat (reachV (parG g) s)
  have hRl:=reachV_len (parG g) s
  rw[parG_len] at hRl
  have hpre:g.length≤1000∧(∀c,c∈g→c.parents.length≤1000)∧relG g=true∧s.length≤1048576∧∀p,p∈s→0≤p∧p<(g.length:Int):=⟨hl1,hp32,hrel,by omega,hsr⟩
  simp[x_law24_WalkLatest,h1,h2,h3,p1,p2,hg,hss,o,show (g.length:Int)≤1000 by omega,show s.length≤1048576 by omega,hod,h4,hpre]
  clear htop hod htnd hlat
  generalize reachV (parG g) s=R at *
  generalize orderV g R=ord at *
  refine⟨⟨hp32,hsr⟩,⟨by unfold room;omega,by omega⟩,?_⟩
  refine vc_lp (σ:=Nat) (fun k=>k≤ord.length) (fun k=>ord.length-k)
    (fun k=>[.any,.any,.any,.d (Rep.to g),.any,.d (Rep.to ord),.any,.d (Rep.to R),.own 0 0 0 g.length,.d (.int .i64 k),.any,.any,.any,.any,.any,.any,.any,.any,.any])
    (fun k=>[.cells 0 1 (bolC (flagL g.length (ord.take k)))]) 0 (by simp) (by simp[flagL,markL,bolC]) (by simp) ?_
  intro k hk
  have hal:=flagL_len g.length (ord.take k)
  by_cases hkl:k<ord.length
  · have w1:IntKind.i64.wrap ((k:Int)+1)=(k:Int)+1:=wrap_in (by omega) (by omega)
    have hr1:=ht _ (List.getElem_mem hkl)
    have hrd:=hla.rdy k hkl
    have hbe:=hla.best k hkl
    have hsn:flagL g.length (ord.take (k+1))=(flagL g.length (ord.take k)).set ord[k].toNat true:=by rw[List.take_succ_eq_append_getElem hkl,flagL_snoc]
    obtain⟨b,hc⟩:=Int.eq_ofNat_of_zero_le hr1.1
    simp only[hc,Int.toNat_natCast] at hrd hbe hsn hr1
    have hcg:b<g.length:=by omega
    have hbe2:=fun c hc2=>hbe c hc2 hcg
    generalize flagL g.length (ord.take k)=L at *
    have hbor:=bor_bol [.cells 0 1 (bolC L)] 0 0 L rfl
    rw[hal] at hbor
    have hbf:borFp [.cells 0 1 (bolC L)] (.own 0 0 0 g.length)=[(0,.cells 0 1 (bolC L))]:=rfl
    have hset:=bolC_set L b true
    have hbl:=bolC_len L
    rw[hal] at hbl
    simp[hkl,getD_map,hc,hcg,hRl,h5,hbor,hbf,hal,o,hrd,show ¬(g.length:Int)≤b by omega,show ¬(b:Int)<0 by omega]
    refine vc_lp (σ:=Nat) (fun c=>c≤g.length) (fun c=>g.length-c)
      (fun c=>[.any,.any,.any,.d (Rep.to g),.any,.d (Rep.to ord),.any,.d (Rep.to R),.own 0 0 0 g.length,.d (.int .i64 k),.d (.int .i64 c),.any,.any,.any,.any,.any,.any,.any,.any])
      (fun c=>[.cells 0 1 (bolC L)]) 0 (by simp) (by simp) (by simp) ?_
    intro c hc3
    by_cases hcn:c<g.length
    · have w2:IntKind.i64.wrap ((c:Int)+1)=(c:Int)+1:=wrap_in (by omega) (by omega)
      have hb2:=hbe2 c hcn
      cases hrc:rdyL g R L c with
      | false =>
        simp[hkl,hcn,getD_map,hc,hcg,hRl,h5,hbor,hbf,hal,o,hrc,w2]
        exact Nxt.mk (c+1) (by omega) (by simp) (by simp) (by omega)
      | true =>
        obtain⟨z1,z2⟩:=hb2 hrc
        by_cases z3:g[c].date=g[b].date
        · have z4:¬c<b:=fun h=>z2 ⟨z3,by omega⟩
          simp[hkl,hcn,getD_map,hc,hcg,hRl,h5,hbor,hbf,hal,o,hrc,w2,z1,z3,z4]
          exact Nxt.mk (c+1) (by omega) (by simp) (by simp) (by omega)
        · simp[hkl,hcn,getD_map,hc,hcg,hRl,h5,hbor,hbf,hal,o,hrc,w2,z1,z3]
          exact Nxt.mk (c+1) (by omega) (by simp) (by simp) (by omega)
    · have h9:c=g.length:=by omega
      subst h9
      simp[hkl,getD_map,hc,hcg,hbl,hset,w1]
      exact Nxt.mk (k+1) (by omega) (by simp) (by simp[hsn]) (by omega)
  · have h9:k=ord.length:=by omega
    subst h9
    have hall:=hla.all
    rw[List.take_length] at hal ⊢
    simp
    generalize flagL g.length ord=L at *
    have hbl:=bolC_len L
    rw[hal] at hbl
    refine vc_lp (σ:=Nat) (fun c=>c≤g.length) (fun c=>g.length-c)
      (fun c=>[.any,.any,.any,.d (Rep.to g),.any,.d (Rep.to ord),.any,.d (Rep.to R),.own 0 0 0 g.length,.any,.any,.d (.int .i64 c),.any,.any,.any,.any,.any,.any,.any])
      (fun c=>[.cells 0 1 (bolC L)]) 0 (by simp) (by simp) (by simp) ?_
    intro c hc
    by_cases hcn:c<g.length
    · have w1:IntKind.i64.wrap ((c:Int)+1)=(c:Int)+1:=wrap_in (by omega) (by omega)
      have hget:=bolC_get (l:=L) (i:=c) (by omega)
      obtain⟨_,hget2⟩:=List.getElem?_eq_some_iff.1 hget
      have b1:=hall c hcn
      have hRc:R.getD c false=R[c]'(by omega):=by simp[List.getD,show c<R.length by omega]
      rw[hRc] at b1
      cases hb1:R[c]'(by omega) with
      | true =>
        have b2:=b1 hb1
        rw[b2] at hget hget2
        simp[hcn,getD_map,hRl,show c<R.length by omega,hb1,hget,hget2,hbl,hal,w1]
        exact Nxt.mk (c+1) (by omega) (by simp) (by simp) (by omega)
      | false =>
        simp[hcn,getD_map,hRl,show c<R.length by omega,hb1,w1]
        exact Nxt.mk (c+1) (by omega) (by simp) (by simp) (by omega)
    · have h9:c=g.length:=by omega
      subst h9
      simp[h6]
theorem law24_WalkLatest_pre (raw:List Int) (l:List Int) (w0:Arg.wf raw) (w1:Arg.wf l):raw.length≤9223372036854775807∧l.length≤9223372036854775807:=by
  have:=len_wf w0
  have:=len_wf w1
  omega
end Go.AE
