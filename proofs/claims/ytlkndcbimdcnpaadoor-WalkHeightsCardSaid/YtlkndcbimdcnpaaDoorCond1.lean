/-
  Law 24: the starts,the heights.
-/
import Derived.Test.YtlkndcbimdcnpaaDoorConc1

set_option linter.unusedSimpArgs false
set_option linter.unusedVariables false
set_option linter.unnecessarySimpa false
set_option maxRecDepth 20000
set_option maxHeartbeats 8000000
namespace Go.AE
def backV (s:List Int) (q:Int):Nat→List Int
  | 0=>[]
  | j+1=>backV s q j++[s.getD (s.length-1-j) 0,q]
theorem backV_len (s:List Int) (q:Int):∀j,(backV s q j).length=2 * j
  | 0=>rfl
  | j+1=>by rw[backV,List.length_append,backV_len s q j];simp;omega
theorem backV_mem {s:List Int} {q:Int} (hq:q∈s) {p:Int}:∀j,j≤s.length→p∈backV s q j→p∈s
  | 0,_,h=>by cases h
  | j+1,hj,h=>by
    rw[backV,List.mem_append] at h
    rcases h with h | h
    · exact backV_mem hq j (by omega) h
    · simp only[List.mem_cons,List.not_mem_nil,or_false] at h
      rcases h with rfl | rfl
      · have:s.length-1-j<s.length:=by omega
        simp[List.getD,this]
      · exact hq
theorem backV_all {s:List Int} {q:Int} {i:Nat} (hi:i<s.length):∀j,s.length-1-i<j→s[i]∈backV s q j
  | 0,h=>by omega
  | j+1,h=>by
    rw[backV,List.mem_append]
    by_cases e:s.length-1-i<j
    · exact .inl (backV_all hi j e)
    · right
      have e2:s.length-1-j=i:=by omega
      rw[e2]
      simp[List.getD,hi]
theorem reach_eq {g:List CommitT} (hrel:relG g=true) {s b:List Int} (hs:∀p,p∈s→0≤p∧p<(g.length:Int)) (h1:∀p,p∈s→p∈b) (h2:∀p,p∈b→p∈s∨0≤p∧(reachV (parG g) s).getD p.toNat false=true):reachV (parG g) b=reachV (parG g) s:=by
  have hok:=relG_ok hrel
  have hgl:=parG_len g
  refine LeB.antisymm ⟨by rw[reachV_len,reachV_len],fun i hi=>?_⟩ ⟨by rw[reachV_len,reachV_len],fun i hi=>?_⟩
  · refine reach_sub hok (fun p hp=>?_) hi
    rcases h2 p hp with h | h
    · have:=hs p h
      exact⟨this.1,reach_from h (by omega)⟩
    · exact h
  · refine reach_sub hok (fun p hp=>?_) hi
    have:=hs p hp
    exact⟨this.1,reach_from (h1 p hp) (by omega)⟩
theorem order_nil {g:List CommitT}:orderV g (reachV (parG g) [])=[]:=by
  have hs:=(orderV_ok g (reachV (parG g) [])).steps
  have hin:=hs.inR
  have hrn:=hs.rng
  cases ho:orderV g (reachV (parG g) []) with
  | nil=>rfl
  | cons x r =>
    rw[ho] at hin hrn
    have h1:=hrn x (by simp)
    have h2:=hin x.toNat (by rw[Int.toNat_of_nonneg h1.1];simp)
    exact (reach_least (fun _=>False) (fun p hp=>by cases hp) (fun _ h=>h.elim) h2).elim
@[simp] def S_law24_WalkStarts:List D→Prop × D:=spec3 (α:=List Int) (β:=List Int) (γ:=Int) (fun raw l _=>raw.length≤9223372036854775807∧l.length≤9223372036854775807) (fun _ _ _=>.bool true)
theorem ct_law24_WalkStarts {P:Program} {f g1 g2 g3 g4 g5 g6:Nat} {G:Gam} (h:CodeOf P f 3 17 [3] (x_law24_WalkStarts g1 g2 g3 g4 g5 g6)) (hG:GamOk P G) (h1:G.find g1=some S_gen_Graph) (h2:G.find g2=some S_law24_starts) (h3:G.find g3=some S_walk_Order) (h4:G.find g4=some S_law24_awake) (h5:G.find g5=some S_gen_Mod) (h6:G.find g6=some S_gen_Ints):Has P f S_law24_WalkStarts:=h.has3 hG fun raw l k hp=>by
  obtain⟨p1,p2⟩:=hp
  obtain⟨m,hm,hb⟩:=graphV_B raw (n:=10) (lines:=1) (by omega) (by omega) (N:=2048) (by decide)
  obtain⟨o1,o⟩:=graphB_ok (by omega) (by omega) hb
  have hrel:=(dagC_lim o1).2.1
  have hall:=fun R=>(orderV_ok (graphV raw 10 1) R).all
  have hac:=hb.acyc
  clear hb hm
  generalize hg:graphV raw 10 1=g at *
  have hs5:=starts_len l g.length
  have hl1:=o.1
  have hsr:=starts_rng l g.length
  have hsb:=starts_B l g.length
  generalize hss:startsV l g.length=s at *
  have hod:=orderD_ok o1 hsb
  by_cases h0:s=[]
  · subst h0
    rw[order_nil] at hod
    simp[x_law24_WalkStarts,h1,h2,h3,h4,p1,p2,hg,hss,o,show (g.length:Int)≤1000 by omega,hod]
  · have h0':¬s.length=0:=fun e=>h0 (List.length_eq_zero_iff.1 e)
    obtain⟨q1,q2⟩:=modV_lt k (n:=s.length) (by omega)
    obtain⟨qn,hqq⟩:=Int.eq_ofNat_of_zero_le q1
    have hqs:qn<s.length:=by omega
    have hq:s[qn]∈s:=List.getElem_mem hqs
    have hgm:1≤(s.length:Int)∧(s.length:Int)≤9223372036854775807:=by omega
    have hst:=(orderV_ok g (reachV (parG g) s)).steps
    have hor:=hst.rng
    have hin:=hst.inR
    have hol:=hst.len
    have hne:orderV g (reachV (parG g) s)≠[]:=by
      intro e
      obtain⟨rank,hk⟩:=hac
      have hz:=hsr _ hq
      have:=hall (reachV (parG g) s) rank hk s[qn].toNat (by omega) (reach_from hq (by rw[parG_len];omega))
      rw[e] at this
      cases this
    have hre:=fun (b:List Int) (e1:∀p,p∈s→p∈b) (e2:∀p,p∈b→p∈s∨0≤p∧(reachV (parG g) s).getD p.toNat false=true)=>reach_eq hrel hsr e1 e2
    have hlt:=fun i=>reach_lt (g:=parG g) (fr:=s) (i:=i)
    have hne':¬(orderV g (reachV (parG g) s)).length=0:=fun e=>hne (List.length_eq_zero_iff.1 e)
    simp[x_law24_WalkStarts,h1,h2,h3,h4,p1,p2,hg,hss,o,show (g.length:Int)≤1000 by omega,show s.length≤1048576 by omega,hod,h0,h0',hne,hne']
    clear hst hall hac
    generalize hR:reachV (parG g) s=R at *
    generalize hO:orderV g R=ord at *
    have w0:IntKind.i64.wrap ((s.length:Int)-1)=(s.length:Int)-1:=wrap_in (by omega) (by omega)
    simp[w0]
    refine vc_lp (σ:=Nat) (fun j=>j≤s.length) (fun j=>s.length-j)
      (fun j=>[.any,.any,.d (.int .i64 k),.any,.d (Rep.to g),.d (Rep.to s),.any,.any,.d (Rep.to ord),.any,.gr 0 1 ((backV s s[qn] j).map Rep.to),.d (.int .i64 ((s.length:Int)-1-j)),.any,.any,.any,.any,.any])
      (fun j=>[.tip (2 * j)]) 0 (by simp[backV]) (by simp) (by simp) ?_
    intro j hj
    have hbl:=backV_len s s[qn] j
    by_cases hjl:j<s.length
    · have w1:IntKind.i64.wrap ((s.length:Int)-1-j-1)=(s.length:Int)-1-(j+1:Nat):=by rw[wrap_in (by omega) (by omega)];omega
      obtain⟨i,hi⟩:=Int.eq_ofNat_of_zero_le (show 0≤(s.length:Int)-1-j by omega)
      have hil:i<s.length:=by omega
      have hs:=show backV s s[qn] (j+1)=backV s s[qn] j++[s.getD (s.length-1-j) 0,s[qn]] from rfl
      have e3:s.length-1-j=i:=by omega
      rw[e3,show s.getD i 0=s[i] by simp[List.getD,hil]] at hs
      rw[hi] at w1
      simp[hi,hil,getD_map,h5,hgm,hqq,hqs,hbl,w1]
      exact⟨by unfold room;omega,Nxt.mk (j+1) (by omega) (by simp[hs]) (by simp;omega) (by omega)⟩
    · have h9:j=s.length:=by omega
      subst h9
      obtain⟨r1,r2⟩:=modV_lt k (n:=ord.length) (by omega)
      obtain⟨rn,hrr⟩:=Int.eq_ofNat_of_zero_le r1
      have hrl:rn<ord.length:=by omega
      have hgo:1≤(ord.length:Int)∧(ord.length:Int)≤9223372036854775807:=by omega
      have hmo:=hor _ (List.getElem_mem hrl)
      have hmi:R.getD ord[rn].toNat false=true:=hin _ (by rw[Int.toNat_of_nonneg hmo.1];exact List.getElem_mem hrl)
      have hbm:=fun p=>backV_mem (s:=s) (q:=s[qn]) hq (p:=p) s.length (Nat.le_refl _)
      have hba:=fun i (hi:i<s.length)=>backV_all (s:=s) (q:=s[qn]) hi s.length (by omega)
      have hR2:reachV (parG g) (backV s s[qn] s.length++[ord[rn]])=R:=hre _ (fun p hp=>by
          obtain⟨i,hi,rfl⟩:=List.mem_iff_getElem.1 hp
          exact List.mem_append_left _ (hba i hi)) (fun p hp=>by
          rw[List.mem_append] at hp
          rcases hp with hp | hp
          · exact .inl (hbm p hp)
          · simp only[List.mem_cons,List.not_mem_nil,or_false] at hp
            subst hp
            exact .inr ⟨hmo.1,hmi⟩)
      have hsb2:startsB g.length (backV s s[qn] s.length++[ord[rn]])=true:=by
        unfold startsB
        rw[List.all_eq_true]
        intro p hp
        rw[List.mem_append] at hp
        rcases hp with hp | hp
        · simpa using hsr p (hbm p hp)
        · simp only[List.mem_cons,List.not_mem_nil,or_false] at hp
          subst hp
          simpa using hmo
      have hod2:=orderD_ok o1 hsb2
      rw[hR2,hO] at hod2
      generalize backV s s[qn] s.length=bk at *
      have hof:ofAll (Rep.of (α:=Int)) (bk.map Rep.to++[.int .i64 ord[rn]])=some (bk++[ord[rn]]):=by
        have:=ofAll_to (bk++[ord[rn]])
        rw[List.map_append] at this
        exact this
      simp[h3,h4,h5,h6,hgo,hrr,hrl,getD_map,show ¬(s.length:Int)≤(s.length:Int)-1 by omega,show (s.length:Int)-1<s.length by omega,hbl,hof,o,hod2,show 2 * s.length+1≤1048576 by omega,show ord.length≤9223372036854775807 by omega]
      unfold room;omega
theorem law24_WalkStarts_pre (raw:List Int) (l:List Int) (k:Int) (w0:Arg.wf raw) (w1:Arg.wf l) (w2:Arg.wf k):raw.length≤9223372036854775807∧l.length≤9223372036854775807:=by
  have:=len_wf w0
  have:=len_wf w1
  omega
/-! ### heights -/
def mostS (h:List Int) (ps:List Int):Int:=ps.foldl (fun m p=>max m (h.getD p.toNat 0)) (-1)
theorem mostS_snoc (h:List Int) (ps:List Int) (p:Int):mostS h (ps++[p])=max (mostS h ps) (h.getD p.toNat 0):=by
  unfold mostS
  rw[List.foldl_append]
  rfl
theorem most_bd (h:List Int) (B:Int):∀(ps:List Int) (m:Int),m≤B→(∀p,p∈ps→h.getD p.toNat 0≤B)→m≤ps.foldl (fun m p=>max m (h.getD p.toNat 0)) m∧ps.foldl (fun m p=>max m (h.getD p.toNat 0)) m≤B∧∀p,p∈ps→h.getD p.toNat 0≤ps.foldl (fun m p=>max m (h.getD p.toNat 0)) m
  | [],m,hm,_=>⟨Int.le_refl _,hm,fun p hp=>by cases hp⟩
  | p::ps,m,hm,hb=>by
    have h1:=hb p (by simp)
    obtain⟨a,b,c⟩:=most_bd h B ps (max m (h.getD p.toNat 0)) (by omega) fun q hq=>hb q (List.mem_cons_of_mem _ hq)
    rw[List.foldl_cons]
    refine⟨by omega,b,fun q hq=>?_⟩
    rcases List.mem_cons.1 hq with rfl | hq
    · omega
    · exact c q hq
theorem mostS_bd (h:List Int) (B:Int) (hB:-1≤B) (ps:List Int) (hb:∀p,p∈ps→h.getD p.toNat 0≤B):-1≤mostS h ps∧mostS h ps≤B∧∀p,p∈ps→h.getD p.toNat 0≤mostS h ps:=most_bd h B ps (-1) hB hb
theorem mostS_fix {g:List (List Int)} {h:List Int} (hf:Fix g h) {c:Nat} (hc:c<g.length):h.getD c 0=mostS h (parV g c)+1:=by
  have hnn:=hf.nn c
  obtain⟨a,b,d⟩:=mostS_bd h (h.getD c 0-1) (by omega) (parV g c) fun p hp=>by have:=hf.ge c hc p hp;omega
  by_cases h0:0<h.getD c 0
  · obtain⟨p,hp,e⟩:=hf.ex c hc h0
    have:=d p hp
    omega
  · omega
@[simp] def S_law24_WalkHeights:List D→Prop × D:=spec1 (α:=List Int) (fun raw=>raw.length≤9223372036854775807) (fun _=>.bool true)
theorem ct_law24_WalkHeights {P:Program} {f g1 g2 g3:Nat} {G:Gam} (h:CodeOf P f 1 12 [1] (x_law24_WalkHeights g1 g2 g3)) (hG:GamOk P G) (h1:G.find g1=some S_gen_Graph) (h2:G.find g2=some S_walk_Levels) (h3:G.find g3=some S_law24_awake):Has P f S_law24_WalkHeights:=h.has1 hG fun raw hp=>by
  obtain⟨o1,o⟩:=graphV_ok raw (n:=10) (lines:=1) (by omega) (by omega) (by omega) (by decide)
  obtain⟨d1,d2,d3,_⟩:=dagC_lim o1
  have hp32:∀c,c∈graphV raw 10 1→c.parents.length≤1000:=fun c hc=>by have:=lim_par d1 c hc;omega
  have hok:=relG_ok d2
  have hfix:=hUp_fix hok (by rw[d3,parG_len])
  have hlv:=levels_fix hok hfix
  have hfle:=fix_le hok hfix
  have hrng:=fun c (hc:c<(graphV raw 10 1).length) p (hp:p∈(graphV raw 10 1)[c].parents)=>rel_rng d2 hc p hp
  have hmost:=fun c (hc:c<(graphV raw 10 1).length)=>mostS_fix hfix (c:=c) (by rw[parG_len];exact hc)
  have hpg:=fun c (h:c<(graphV raw 10 1).length)=>parG_get h
  have hle:=hfix.len
  clear hok d1 d2 d3
  rw[← hlv] at hfle hmost hle
  rw[parG_len] at hfle hle
  clear hfix hlv
  generalize hg:graphV raw 10 1=g at *
  have k1:levelsD g=.tup [Rep.to (levelsV (parG g)),.int .i64 0]:=by unfold levelsD;rw[if_pos o1]
  have hl1:=o.1
  generalize levelsV (parG g)=h at *
  simp[x_law24_WalkHeights,h1,h2,hp,hg,o,k1,hle]
  refine vc_lp (σ:=Nat) (fun c=>c≤g.length) (fun c=>g.length-c)
    (fun c=>[.any,.any,.d (Rep.to g),.d (Rep.to h),.any,.d (.int .i64 c),.any,.any,.any,.any,.any,.any]) (fun _=>[]) 0 (by simp) (by simp) (by simp) ?_
  intro c hc
  by_cases hcn:c<g.length
  · have w1:IntKind.i64.wrap ((c:Int)+1)=(c:Int)+1:=wrap_in (by omega) (by omega)
    have hps:=hp32 _ (List.getElem_mem hcn)
    have hmc:=hmost c hcn
    rw[hpg c hcn] at hmc
    have hhc:h.getD c 0=h[c]'(by omega):=by simp[List.getD,show c<h.length by omega]
    rw[hhc] at hmc
    simp[hcn]
    refine vc_lp (σ:=Nat) (fun j=>j≤g[c].parents.length) (fun j=>g[c].parents.length-j)
      (fun j=>[.any,.any,.d (Rep.to g),.d (Rep.to h),.any,.d (.int .i64 c),.d (.int .i64 (mostS h (g[c].parents.take j))),.d (.int .i64 j),.any,.any,.any,.any]) (fun _=>[]) 0 (by simp[mostS]) (by simp) (by simp) ?_
    intro j hj
    by_cases hjl:j<g[c].parents.length
    · have w2:IntKind.i64.wrap ((j:Int)+1)=(j:Int)+1:=wrap_in (by omega) (by omega)
      obtain⟨q1,q2⟩:=hrng c hcn _ (List.getElem_mem hjl)
      have hms:mostS h (g[c].parents.take (j+1))=max (mostS h (g[c].parents.take j)) (h.getD g[c].parents[j].toNat 0):=by rw[List.take_succ_eq_append_getElem hjl,mostS_snoc]
      obtain⟨q,hq⟩:=Int.eq_ofNat_of_zero_le q1
      rw[hq,Int.toNat_natCast] at hms
      have hqg:q<g.length:=by omega
      have hhq:h.getD q 0=h[q]'(by omega):=by simp[List.getD,show q<h.length by omega]
      rw[hhq] at hms
      generalize mostS h (g[c].parents.take j)=mo at *
      simp[hcn,hjl,getD_map,hq,hqg,show q<h.length by omega,hle,w2]
      exact Nxt.mk (j+1) (by omega) (by simp[hms]) (by simp) (by omega)
    · have h9:j=g[c].parents.length:=by omega
      subst h9
      rw[List.take_length]
      obtain⟨a1,a2,_⟩:=mostS_bd h g.length (by omega) g[c].parents (fun p _=>hfle p.toNat)
      generalize mostS h g[c].parents=mo at *
      have w3:IntKind.i64.wrap (mo+1)=mo+1:=wrap_in (by omega) (by omega)
      simp[hcn,getD_map,show c<h.length by omega,w3,hmc,w1]
      exact Nxt.mk (c+1) (by omega) (by simp) (by simp) (by omega)
  · have h9:c=g.length:=by omega
    subst h9
    simp[h3]
theorem law24_WalkHeights_pre (raw:List Int) (w0:Arg.wf raw):raw.length≤9223372036854775807:=by
  have:=len_wf w0
  omega
end Go.AE
