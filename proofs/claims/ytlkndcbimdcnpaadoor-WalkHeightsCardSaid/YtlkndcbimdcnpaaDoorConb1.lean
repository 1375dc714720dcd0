/-
  Law 24: the order is topological;no ready commit is passed over;heights.
-/
import Derived.Test.YtlkndcbimdcnpaaDoorCona2

set_option linter.unusedSimpArgs false
set_option linter.unusedVariables false
set_option linter.unnecessarySimpa false
set_option maxRecDepth 20000
set_option maxHeartbeats 8000000
namespace Go.AE
def atS (n:Nat) (o:List Int):Nat→List Int
  | 0=>List.replicate n 0
  | k+1=>(atS n o k).set (o.getD k 0).toNat ((k:Int)+1)
theorem atS_len (n:Nat) (o:List Int):∀k,(atS n o k).length=n
  | 0=>by simp[atS]
  | k+1=>by rw[atS,List.length_set,atS_len n o k]
theorem atS_no {n:Nat} {o:List Int} (hr:∀x,x∈o→0≤x∧x<(n:Int)) {i:Nat}:∀k,k≤o.length→(∀j (hj:j<o.length),j<k→o[j]≠(i:Int))→(atS n o k).getD i 0=0
  | 0,_,_=>by
    unfold atS
    by_cases h:i<n <;> simp[List.getD,h,List.getElem?_replicate]
  | k+1,hk,h=>by
    have e:o.getD k 0=o[k]:=by simp[List.getD,show k<o.length by omega]
    have h1:=hr _ (List.getElem_mem (show k<o.length by omega))
    have h2:=h k (by omega) (by omega)
    unfold atS
    rw[e,getI_set _ _ _ _ (by rw[atS_len];omega),if_neg (by omega)]
    exact atS_no hr k (by omega) fun j hj hjk=>h j hj (by omega)
theorem atS_yes {n:Nat} {o:List Int} (hr:∀x,x∈o→0≤x∧x<(n:Int)) (hn:o.Nodup) {j:Nat} (hj:j<o.length):∀k,k≤o.length→j<k→(atS n o k).getD o[j].toNat 0=(j:Int)+1
  | 0,_,h=>by omega
  | k+1,hk,h=>by
    have e:o.getD k 0=o[k]:=by simp[List.getD,show k<o.length by omega]
    have h1:=hr _ (List.getElem_mem (show k<o.length by omega))
    have h2:=hr _ (List.getElem_mem hj)
    unfold atS
    rw[e,getI_set _ _ _ _ (by rw[atS_len];omega)]
    by_cases ejk:j=k
    · subst ejk
      rw[if_pos rfl]
    · rw[if_neg]
      · exact atS_yes hr hn hj k (by omega) (by omega)
      · intro e2
        have e3:o[k]=o[j]:=by omega
        rw[List.nodup_iff_pairwise_ne,List.pairwise_iff_getElem] at hn
        exact hn j k hj (by omega) (by omega) e3.symm
theorem atS_fresh {n:Nat} {o:List Int} (hr:∀x,x∈o→0≤x∧x<(n:Int)) (hn:o.Nodup) {k:Nat} (hk:k<o.length):(atS n o k).getD o[k].toNat 0=0:=by
  refine atS_no hr k (by omega) fun j hj hjk e=>?_
  have h1:=hr _ (List.getElem_mem hk)
  rw[List.nodup_iff_pairwise_ne,List.pairwise_iff_getElem] at hn
  exact hn j k hj hk hjk (by omega)
structure TopOk (g:List CommitT) (R:List Bool) (o:List Int):Prop where
  rng:∀x,x∈o→0≤x∧x<(g.length:Int)
  nd:o.Nodup
  inR:∀i:Nat,(i:Int)∈o→R.getD i false=true
  at1:∀c,c<g.length→(R.getD c false=true↔0<(atS g.length o o.length).getD c 0)
  at2:∀c (hc:c<g.length),R.getD c false=true→∀p,p∈g[c].parents→0≤p∧p<(g.length:Int)∧(atS g.length o o.length).getD c 0<(atS g.length o o.length).getD p.toNat 0
theorem topOk {M n:Nat} {g:List CommitT} (h:GraphB M n g) (hrel:relG g=true) (s:List Int):TopOk g (reachV (parG g) s) (orderV g (reachV (parG g) s)):=by
  have hio:=orderV_ok g (reachV (parG g) s)
  have hcl:=fun {c:Nat} (h:(reachV (parG g) s).getD c false=true) (hc:c<g.length) {p:Int} (hp:p∈g[c].parents) (hl:p.toNat<g.length) =>
    reach_closed h (by rw[parG_len];exact hc) (p:=p) (by rw[parG_get hc];exact hp) (by rw[parG_len];exact hl)
  generalize reachV (parG g) s=R at *
  generalize orderV g R=o at *
  obtain⟨rank,hk⟩:=h.acyc
  have hall:=hio.all rank hk
  have hs:=hio.steps
  have hyes:∀c:Nat,(c:Int)∈o→∃j,∃hj:j<o.length,o[j]=(c:Int)∧(atS g.length o o.length).getD c 0=(j:Int)+1:=fun c hc=>by
    obtain⟨j,hj,e⟩:=List.mem_iff_getElem.1 hc
    have:=atS_yes hs.rng hs.nodup hj o.length (Nat.le_refl _) hj
    rw[e,Int.toNat_natCast] at this
    exact⟨j,hj,e,this⟩
  refine⟨hs.rng,hs.nodup,hs.inR,fun c hc=>⟨fun hr=>?_,fun hp=>?_⟩,fun c hc hr p hp=>?_⟩
  · obtain⟨j,_,_,e⟩:=hyes c (hall c hc hr)
    rw[e];omega
  · apply hs.inR
    apply Classical.byContradiction
    intro hn
    rw[atS_no hs.rng o.length (Nat.le_refl _) fun j hj _ e=>hn (e ▸ List.getElem_mem hj)] at hp
    omega
  · have hpr:=rel_rng hrel hc p hp
    obtain⟨q,rfl⟩:=Int.eq_ofNat_of_zero_le hpr.1
    refine⟨hpr.1,hpr.2,?_⟩
    rw[Int.toNat_natCast]
    have hrq:=hcl hr hc hp (by omega)
    rw[Int.toNat_natCast] at hrq
    obtain⟨j,hj,e1,e2⟩:=hyes c (hall c hc hr)
    obtain⟨k,hkl,e3,e4⟩:=hyes q (hall q (by omega) hrq)
    rw[e2,e4]
    have:=hs.before hkl e3 hc (by simpa [List.getD,hc] using hp) hr
    obtain⟨j2,hj2,e5⟩:=List.mem_take_iff_getElem.1 this
    have hjj:j2=j:=by
      have hn:=hs.nodup
      rw[List.nodup_iff_pairwise_ne,List.pairwise_iff_getElem] at hn
      rcases Nat.lt_trichotomy j j2 with h | h | h
      · exact absurd (e1.trans e5.symm) (hn j j2 hj (by omega) h)
      · exact h.symm
      · exact absurd (e5.trans e1.symm) (hn j2 j (by omega) hj h)
    omega
theorem orderD_ok {g:List CommitT} (h:dagC g=0) {s:List Int} (hs:startsB g.length s=true):orderD g s=.tup [Rep.to (orderV g (reachV (parG g) s)),.int .i64 0]:=by
  unfold orderD
  rw[if_pos h,if_pos hs]
@[simp] def S_law24_WalkTopological:List D→Prop × D:=spec2 (α:=List Int) (β:=List Int) (fun raw l=>raw.length≤9223372036854775807∧l.length≤9223372036854775807) (fun _ _=>.bool true)
theorem ct_law24_WalkTopological {P:Program} {f g1 g2 g3 g4 g5:Nat} {G:Gam} (h:CodeOf P f 2 19 [2] (x_law24_WalkTopological g1 g2 g3 g4 g5)) (hG:GamOk P G) (h1:G.find g1=some S_gen_Graph) (h2:G.find g2=some S_law24_starts) (h3:G.find g3=some S_walk_Order) (h4:G.find g4=some S_ref23_Reach) (h5:G.find g5=some S_law24_awake):Has P f S_law24_WalkTopological:=h.has2 hG fun raw l hp=>by
  obtain⟨p1,p2⟩:=hp
  obtain⟨m,hm,hb⟩:=graphV_B raw (n:=10) (lines:=1) (by omega) (by omega) (N:=2048) (by decide)
  obtain⟨o1,o⟩:=graphB_ok (by omega) (by omega) hb
  have hrel:=(dagC_lim o1).2.1
  have hlim:=(dagC_lim o1).1
  have hp32:∀c,c∈graphV raw 10 1→c.parents.length≤1000:=fun c hc=>by have:=lim_par hlim c hc;omega
  have htop:=fun s=>topOk hb hrel s
  clear hb hm hlim
  generalize hg:graphV raw 10 1=g at *
  have hs5:=starts_len l g.length
  have hl1:=o.1
  have hsr:=starts_rng l g.length
  have hod:=orderD_ok o1 (starts_B l g.length)
  generalize hss:startsV l g.length=s at *
  have ht:=htop s
  have hRl:=reachV_len (parG g) s
  rw[parG_len] at hRl
  have hol:=nodup_le _ _ ht.nd ht.rng
  have hpre:g.length≤1000∧(∀c,c∈g→c.parents.length≤1000)∧relG g=true∧s.length≤1048576∧∀p,p∈s→0≤p∧p<(g.length:Int):=⟨hl1,hp32,hrel,by omega,hsr⟩
  simp[x_law24_WalkTopological,h1,h2,h3,p1,p2,hg,hss,o,show (g.length:Int)≤1000 by omega,show s.length≤1048576 by omega,hod,h4,hpre]
  clear htop hod
  generalize reachV (parG g) s=R at *
  generalize orderV g R=ord at *
  refine⟨⟨hp32,hsr⟩,⟨by unfold room;omega,by omega⟩,?_⟩
  refine vc_lp (σ:=Nat) (fun k=>k≤ord.length) (fun k=>ord.length-k)
    (fun k=>[.any,.any,.any,.d (Rep.to g),.any,.d (Rep.to ord),.any,.d (Rep.to R),.own 0 0 0 g.length,.d (.int .i64 k),.any,.any,.any,.any,.any,.any,.any,.any,.any])
    (fun k=>[.cells 0 1 (cntC (atS g.length ord k))]) 0 (by simp) (by simp[atS,cntC]) (by simp) ?_
  intro k hk
  have hal:=atS_len g.length ord k
  by_cases hkl:k<ord.length
  · have w1:IntKind.i64.wrap ((k:Int)+1)=(k:Int)+1:=wrap_in (by omega) (by omega)
    have hr1:=ht.rng _ (List.getElem_mem hkl)
    have hfr:=atS_fresh ht.rng ht.nd hkl
    have hin:R.getD ord[k].toNat false=true:=ht.inR _ (by rw[Int.toNat_of_nonneg hr1.1];exact List.getElem_mem hkl)
    have hsn:atS g.length ord (k+1)=(atS g.length ord k).set ord[k].toNat ((k:Int)+1):=by simp[atS,List.getD,hkl]
    obtain⟨c,hc⟩:=Int.eq_ofNat_of_zero_le hr1.1
    rw[hc,Int.toNat_natCast] at hfr hin hsn
    have hcg:c<g.length:=by omega
    have hRc:R[c]'(by omega)=true:=by rw[← hin];simp[List.getD,show c<R.length by omega]
    have hset:=cntC_set (atS g.length ord k) c ((k:Int)+1)
    have hget:=cntC_get (l:=atS g.length ord k) (i:=c) (by omega)
    obtain⟨_,hget2⟩:=List.getElem?_eq_some_iff.1 hget
    have hcl:=cntC_len (atS g.length ord k)
    rw[hal] at hcl
    have hf2:(atS g.length ord k)[c]'(by omega)=0:=by rw[← hfr];simp[List.getD,show c<(atS g.length ord k).length by omega]
    simp[hkl,getD_map,hc,hcg,hRl,show c<R.length by omega,hRc,hget,hget2,hf2,hcl,hal,w1,show ¬(g.length:Int)≤c by omega,show ¬(c:Int)<0 by omega,hset]
    exact Nxt.mk (k+1) (by omega) (by simp) (by simp[hsn]) (by omega)
  · have h9:k=ord.length:=by omega
    subst h9
    have ha1:=ht.at1
    have ha2:=ht.at2
    simp
    generalize atS g.length ord ord.length=av at *
    have hcl:=cntC_len av
    rw[hal] at hcl
    refine vc_lp (σ:=Nat) (fun c=>c≤g.length) (fun c=>g.length-c)
      (fun c=>[.any,.any,.any,.d (Rep.to g),.any,.d (Rep.to ord),.any,.d (Rep.to R),.own 0 0 0 g.length,.any,.d (.int .i64 c),.any,.any,.any,.any,.any,.any,.any,.any])
      (fun c=>[.cells 0 1 (cntC av)]) 0 (by simp) (by simp) (by simp) ?_
    intro c hc
    by_cases hcn:c<g.length
    · have w1:IntKind.i64.wrap ((c:Int)+1)=(c:Int)+1:=wrap_in (by omega) (by omega)
      have hget:=cntC_get (l:=av) (i:=c) (by omega)
      obtain⟨_,hget2⟩:=List.getElem?_eq_some_iff.1 hget
      have b1:=ha1 c hcn
      have b2:=ha2 c hcn
      have hRc:R.getD c false=R[c]'(by omega):=by simp[List.getD,show c<R.length by omega]
      have hAc:av.getD c 0=av[c]'(by omega):=by simp[List.getD,show c<av.length by omega]
      have hps:=hp32 _ (List.getElem_mem hcn)
      rw[hRc] at b1 b2
      rw[hAc] at b1 b2
      cases hb1:R[c]'(by omega) with
      | true =>
        have b3:0<av[c]'(by omega):=b1.1 hb1
        have b4:=b2 hb1
        simp[hcn,getD_map,hRl,show c<R.length by omega,hb1,hget,hget2,hcl,hal,b3]
        refine vc_lp (σ:=Nat) (fun j=>j≤g[c].parents.length) (fun j=>g[c].parents.length-j)
          (fun j=>[.any,.any,.any,.d (Rep.to g),.any,.d (Rep.to ord),.any,.d (Rep.to R),.own 0 0 0 g.length,.any,.d (.int .i64 c),.d (.int .i64 j),.any,.any,.any,.any,.any,.any,.any])
          (fun j=>[.cells 0 1 (cntC av)]) 0 (by simp) (by simp) (by simp) ?_
        intro j hj
        by_cases hjl:j<g[c].parents.length
        · have w2:IntKind.i64.wrap ((j:Int)+1)=(j:Int)+1:=wrap_in (by omega) (by omega)
          obtain⟨q1,q2,q3⟩:=b4 _ (List.getElem_mem hjl)
          obtain⟨q,hq⟩:=Int.eq_ofNat_of_zero_le q1
          rw[hq] at q2 q3
          rw[Int.toNat_natCast] at q3
          have hqg:q<g.length:=by omega
          have hAq:av.getD q 0=av[q]'(by omega):=by simp[List.getD,show q<av.length by omega]
          have hgq:=cntC_get (l:=av) (i:=q) (by omega)
          obtain⟨_,hgq2⟩:=List.getElem?_eq_some_iff.1 hgq
          rw[hAq] at q3
          simp[hcn,hjl,getD_map,hRl,show c<R.length by omega,hb1,hget,hget2,hcl,hal,hq,hqg,hgq,hgq2,show ¬av[q]'(by omega)≤av[c]'(by omega) by omega,w2]
          exact Nxt.mk (j+1) (by omega) (by simp) (by simp) (by omega)
        · have h9:j=g[c].parents.length:=by omega
          subst h9
          simp[hcn,getD_map,w1]
          exact Nxt.mk (c+1) (by omega) (by simp) (by simp) (by omega)
      | false =>
        have b3:¬0<av[c]'(by omega):=fun h=>by have:=b1.2 h;rw[hb1] at this;cases this
        simp[hcn,getD_map,hRl,show c<R.length by omega,hb1,hget,hget2,hcl,hal,b3]
        refine vc_lp (σ:=Unit) (fun _=>True) (fun _=>0)
          (fun j=>[.any,.any,.any,.d (Rep.to g),.any,.d (Rep.to ord),.any,.d (Rep.to R),.own 0 0 0 g.length,.any,.d (.int .i64 c),.d (.int .i64 0),.any,.any,.any,.any,.any,.any,.any])
          (fun j=>[.cells 0 1 (cntC av)]) () (by simp) (by simp) (by simp) ?_
        intro _ _
        by_cases hjl:0<g[c].parents.length
        · simp[hcn,hjl,getD_map,hRl,show c<R.length by omega,hb1,w1]
          exact Nxt.mk (c+1) (by omega) (by simp) (by simp) (by omega)
        · simp[hcn,show g[c].parents.length=0 by omega,getD_map,w1]
          exact Nxt.mk (c+1) (by omega) (by simp) (by simp) (by omega)
    · have h9:c=g.length:=by omega
      subst h9
      simp[h5]
theorem law24_WalkTopological_pre (raw:List Int) (l:List Int) (w0:Arg.wf raw) (w1:Arg.wf l):raw.length≤9223372036854775807∧l.length≤9223372036854775807:=by
  have:=len_wf w0
  have:=len_wf w1
  omega
end Go.AE
