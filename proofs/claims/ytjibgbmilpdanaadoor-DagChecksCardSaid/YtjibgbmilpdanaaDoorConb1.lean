/-
  Law 23: roots and heads.
-/
import Derived.Test.YtjibgbmilpdanaaDoorCona2

set_option linter.unusedSimpArgs false
set_option linter.unusedVariables false
set_option linter.unnecessarySimpa false
set_option maxRecDepth 20000
set_option maxHeartbeats 8000000
namespace Go.AE
theorem where_pre (q:Nat→Bool) (c:Nat):∀d,∃r,whereV q (c+d)=whereV q c++r
  | 0=>⟨[],by simp⟩
  | d+1=>by
    obtain⟨r,hr⟩:=where_pre q c d
    refine⟨r++(if q (c+d)=true then [((c+d:Nat):Int)] else []),?_⟩
    rw[show c+(d+1)=(c+d)+1 by omega,whereV_succ,hr,List.append_assoc]
theorem where_at {q:Nat→Bool} {c n:Nat} (hc:c<n) (h:q c=true):∃hl:(whereV q c).length<(whereV q n).length,(whereV q n)[(whereV q c).length]=(c:Int):=by
  obtain⟨r,hr⟩:=where_pre q (c+1) (n-(c+1))
  rw[show c+1+(n-(c+1))=n by omega,whereV_succ,h,if_pos rfl] at hr
  have hl:(whereV q c).length<(whereV q n).length:=by rw[hr];simp
  refine⟨hl,?_⟩
  simp only[hr]
  rw[List.getElem_append_left (by simp),List.getElem_append_right (by omega)]
  simp
theorem where_mem {q:Nat→Bool} {n:Nat} {i:Nat}:(i:Int)∈whereV q n↔i<n∧q i=true:=by
  unfold whereV
  rw[List.mem_map]
  constructor
  · rintro⟨j,hj,e⟩
    have:j=i:=by omega
    subst this
    rw[List.mem_filter,List.mem_range] at hj
    exact hj
  · rintro⟨h1,h2⟩
    exact⟨i,List.mem_filter.2 ⟨List.mem_range.2 h1,h2⟩,rfl⟩
theorem where_rng {q:Nat→Bool} {n:Nat}:∀x,x∈whereV q n→0≤x∧x<(n:Int):=by
  intro x hx
  unfold whereV at hx
  rw[List.mem_map] at hx
  obtain⟨j,hj,rfl⟩:=hx
  rw[List.mem_filter,List.mem_range] at hj
  omega
def chmM (g:List CommitT) (c:Nat):List Bool:=(List.range c).foldl (fun (l:List Bool) (k:Nat)=>markL l (kidsV g (k:Int) g.length)) (List.replicate g.length false)
theorem chmM_succ (g:List CommitT) (c:Nat):chmM g (c+1)=markL (chmM g c) (kidsV g (c:Int) g.length):=by
  unfold chmM
  rw[List.range_succ,List.foldl_append]
  rfl
theorem chmM_len (g:List CommitT):∀c,(chmM g c).length=g.length
  | 0=>by simp[chmM]
  | c+1=>by rw[chmM_succ,markL_len,chmM_len g c]
theorem chmM_get (g:List CommitT) (i:Nat):∀c,(chmM g c).getD i false=true↔i<g.length∧∃k,k<c∧(i:Int)∈kidsV g (k:Int) g.length
  | 0=>by
    rw[show chmM g 0=List.replicate g.length false from rfl,getD_rep]
    simp
  | c+1=>by
    rw[chmM_succ,markL_get,chmM_get g i c,chmM_len]
    constructor
    · rintro (⟨h1,k,hk,h2⟩ | ⟨h1,p,hp,h2⟩)
      · exact⟨h1,k,by omega,h2⟩
      · have:=where_rng p hp
        exact⟨h1,c,by omega,by rw[show ((i:Nat):Int)=p by omega];exact hp⟩
    · rintro⟨h1,k,hk,h2⟩
      by_cases e:k=c
      · subst e
        exact .inr ⟨h1,_,h2,by simp⟩
      · exact .inl ⟨h1,k,by omega,h2⟩
theorem chmM_root {g:List CommitT} (hr:relG g=true) {i:Nat} (hi:i<g.length):(!(chmM g g.length).getD i false)=rootB g i:=by
  rw[Bool.eq_iff_iff,Bool.not_eq_true',← Bool.not_eq_true,chmM_get]
  have e:(g.getD i default).parents=g[i].parents:=by simp[List.getD,hi]
  unfold rootB
  rw[decide_eq_true_eq,e]
  constructor
  · intro h
    cases hp:g[i].parents with
    | nil=>rfl
    | cons p r =>
      have hpm:p∈g[i].parents:=by rw[hp];simp
      have:=rel_rng hr hi p hpm
      obtain⟨k,rfl⟩:=Int.eq_ofNat_of_zero_le this.1
      refine absurd ⟨hi,k,by omega,?_⟩ h
      unfold kidsV
      rw[where_mem]
      refine⟨hi,?_⟩
      unfold kidB
      rw[decide_eq_true_eq,e]
      exact hpm
  · rintro h ⟨_,k,hk,hm⟩
    unfold kidsV at hm
    rw[where_mem] at hm
    have:=hm.2
    unfold kidB at this
    rw[decide_eq_true_eq,e,h] at this
    cases this
theorem min_rank (f:Nat→Int):∀n,0<n→∃c,c<n∧∀i,i<n→f c≤f i
  | 0,h=>by omega
  | 1,_=>⟨0,by omega,fun i hi=>by
      have:i=0:=by omega
      subst this
      omega⟩
  | n+2,_=>by
    obtain⟨c,hc,h⟩:=min_rank f (n+1) (by omega)
    by_cases e:f c≤f (n+1)
    · exact⟨c,by omega,fun i hi=>by
        by_cases e2:i=n+1
        · subst e2;exact e
        · exact h i (by omega)⟩
    · exact⟨n+1,by omega,fun i hi=>by
        by_cases e2:i=n+1
        · subst e2;omega
        · have:=h i (by omega);omega⟩
theorem graphB_ends {M n:Nat} {g:List CommitT} (h:GraphB M n g) (h0:0<g.length) (hr:relG g=true):rootsV g≠[]∧headsV g≠[]:=by
  obtain⟨rank,hk⟩:=h.acyc
  constructor
  · obtain⟨c,hc,hm⟩:=min_rank rank g.length h0
    intro he
    unfold rootsV at he
    have:=where_nil.1 he c hc
    unfold rootB at this
    rw[decide_eq_false_iff_not] at this
    have e:(g.getD c default).parents=g[c].parents:=by simp[List.getD,hc]
    rw[e] at this
    cases hp:g[c].parents with
    | nil=>exact this hp
    | cons p r =>
      have hpm:p∈g[c].parents:=by rw[hp];simp
      have h1:=rel_rng hr hc p hpm
      have h2:=hk c hc p hpm
      have h3:=hm p.toNat (by omega)
      omega
  · obtain⟨c,hc,hm⟩:=min_rank (fun i=>- rank i) g.length h0
    intro he
    unfold headsV at he
    have:=where_nil.1 he c hc
    unfold headB at this
    rw[decide_eq_false_iff_not] at this
    refine this ?_
    unfold kidsV
    rw[where_nil]
    intro i hi
    unfold kidB
    rw[decide_eq_false_iff_not]
    have e:(g.getD i default).parents=g[i].parents:=by simp[List.getD,hi]
    rw[e]
    intro hpm
    have h2:=hk i hi _ hpm
    have h3:=hm i hi
    simp only[Int.toNat_natCast] at h2
    omega
@[simp] def S_law23_DagEnds:List D→Prop × D:=spec1 (α:=List Int) (fun raw=>raw.length≤9223372036854775807) (fun _=>.bool true)
theorem ct_law23_DagEnds {P:Program} {f g1 g2 g3 g4 g5:Nat} {G:Gam} (h:CodeOf P f 1 25 [1] (x_law23_DagEnds g1 g2 g3 g4 g5)) (hG:GamOk P G) (h1:G.find g1=some S_gen_Graph) (h2:G.find g2=some S_dag_Roots) (h3:G.find g3=some S_dag_Heads) (h4:G.find g4=some S_dag_Children) (h5:G.find g5=some S_law23_awake):Has P f S_law23_DagEnds:=h.has1 hG fun raw hp=>by
  obtain⟨m,hm,hb⟩:=graphV_B raw (n:=9) (lines:=1) (by omega) (by omega) (N:=2048) (by decide)
  obtain⟨o1,o2⟩:=graphB_ok (by omega) (by omega) hb
  have hrel:=(dagC_lim o1).2.1
  have hends:=graphB_ends hb
  have hlen:=o2.1
  simp[x_law23_DagEnds,h1,hp]
  clear hb
  generalize graphV raw 9 1=g at *
  have k2:rootsD g=.tup [Rep.to (rootsV g),.int .i64 0]:=by unfold rootsD;rw[if_pos o1]
  have k3:headsD g=.tup [Rep.to (headsV g),.int .i64 0]:=by unfold headsD;rw[if_pos o1]
  have hv15:0<g.length→¬(rootsV g).length=0∧¬(headsV g).length=0:=fun h0=>by
    obtain⟨a,b⟩:=hends h0 hrel
    exact⟨fun e=>a (List.length_eq_zero_iff.1 e),fun e=>b (List.length_eq_zero_iff.1 e)⟩
  have hrl:=whereV_len (rootB g) g.length
  have hhl:=whereV_len (headB g) g.length
  have hg0:0<g.length∨g.length=0:=by omega
  have hroot:∀c,c<g.length→(!(chmM g g.length).getD c false)=rootB g c:=fun c hc=>chmM_root hrel hc
  rcases hg0 with hg0 | hg0
  case' inl =>
    obtain⟨z1,z2⟩:=hv15 hg0
    simp[h2,h3,o2,k2,k3,z1,z2,hg0,show (0:Int)<g.length by omega]
  case' inr =>
    simp[h2,h3,o2,k2,k3,show ¬(0:Int)<g.length by omega,show ¬0<g.length by omega]
  all_goals
    refine⟨⟨by unfold room;omega,by omega⟩,?_⟩
    refine vc_lp (σ:=Nat) (fun c=>c≤g.length) (fun c=>g.length-c)
      (fun c=>[.any,.any,.d (Rep.to g),.d (Rep.to (rootsV g)),.any,.d (Rep.to (headsV g)),.any,.d (.int .i64 (whereV (headB g) c).length),.own 0 0 0 g.length,.d (.int .i64 c),.any,.any,.any,.any,.any,.any,.any,.any,.any,.any,.any,.any,.any,.any,.any])
      (fun c=>[.cells 0 1 (bolC (chmM g c))]) 0 (by simp[whereV]) ?_ (by simp) ?_
    · simp[chmM,bolC]
    intro c hc
    have hcl:=chmM_len g c
    by_cases hcn:c<g.length
    · have w1:IntKind.i64.wrap ((c:Int)+1)=(c:Int)+1:=wrap_in (by omega) (by omega)
      have hwl:=whereV_len (headB g) c
      have w2:IntKind.i64.wrap (((whereV (headB g) c).length:Int)+1)=((whereV (headB g) c).length:Int)+1:=wrap_in (by omega) (by omega)
      have kk:kidsD g (c:Int)=.tup [Rep.to (kidsV g (c:Int) g.length),.int .i64 0]:=by unfold kidsD;rw[if_pos o1,if_pos (by omega)]
      have hws:=whereV_succ (headB g) c
      have hhb:headB g c=decide (kidsV g (c:Int) g.length=[]):=rfl
      have hcs:=chmM_succ g c
      have hrng:=where_rng (q:=kidB g (c:Int)) (n:=g.length)
      rw[show whereV (kidB g (c:Int)) g.length=kidsV g (c:Int) g.length from rfl] at hrng
      have hkl:(kidsV g (c:Int) g.length).length≤g.length:=whereV_len _ _
      generalize kidsV g (c:Int) g.length=kl at *
      generalize chmM g c=cm at *
      by_cases hk:kl=[]
      · subst hk
        have hq:headB g c=true:=by rw[hhb];simp
        rw[hq,if_pos rfl] at hws
        obtain⟨a1,a2⟩:=where_at hcn hq
        rw[show whereV (headB g) g.length=headsV g from rfl] at a1
        have a3:(headsV g)[(whereV (headB g) c).length]=(c:Int):=a2
        simp[hcn,show (c:Int)<g.length by omega,h4,o2,kk,a1,show ¬((headsV g).length:Int)≤(whereV (headB g) c).length by omega,getD_map,a3,w2]
        refine vc_lp (σ:=Unit) (fun _=>True) (fun _=>0)
          (fun _=>[.any,.any,.d (Rep.to g),.d (Rep.to (rootsV g)),.any,.d (Rep.to (headsV g)),.any,.d (.int .i64 (whereV (headB g) (c+1)).length),.own 0 0 0 g.length,.d (.int .i64 c),.d (.sl 1 []),.any,.d (.int .i64 0),.any,.any,.any,.any,.any,.any,.any,.any,.any,.any,.any,.any])
          (fun _=>[.cells 0 1 (bolC cm)]) () (by simp[hws]) (by simp) (by simp) ?_
        intro _ _
        simp[w1]
        exact Nxt.mk (c+1) (by omega) (by simp) (by simp[hcs,markL]) (by omega)
      · have hq:headB g c=false:=by rw[hhb];simp[hk]
        rw[hq,if_neg (by simp),List.append_nil] at hws
        have hk':¬kl.length=0:=fun e=>hk (List.length_eq_zero_iff.1 e)
        simp[hcn,show (c:Int)<g.length by omega,h4,o2,kk,hk,hk']
        refine vc_lp (σ:=Nat) (fun j=>j≤kl.length) (fun j=>kl.length-j)
          (fun j=>[.any,.any,.d (Rep.to g),.d (Rep.to (rootsV g)),.any,.d (Rep.to (headsV g)),.any,.d (.int .i64 (whereV (headB g) (c+1)).length),.own 0 0 0 g.length,.d (.int .i64 c),.d (Rep.to kl),.any,.d (.int .i64 j),.any,.any,.any,.any,.any,.any,.any,.any,.any,.any,.any,.any])
          (fun j=>[.cells 0 1 (bolC (markL cm (kl.take j)))]) 0 (by simp[hws]) (by simp[markL]) (by simp) ?_
        intro j hj
        by_cases hjl:j<kl.length
        · have w3:IntKind.i64.wrap ((j:Int)+1)=(j:Int)+1:=wrap_in (by omega) (by omega)
          obtain⟨q1,q2⟩:=hrng _ (List.getElem_mem hjl)
          have hs:=markL_take (l:=cm) hjl
          have hset:=bolC_set (markL cm (kl.take j)) kl[j].toNat true
          rw[← hs] at hset
          have hbl:=bolC_len (markL cm (kl.take j))
          rw[markL_len,hcl] at hbl
          have hpl:kl[j].toNat<g.length:=by omega
          simp[hjl,show (j:Int)<kl.length by omega,getD_map,q1,q2,show ¬kl[j]<0 by omega,show ¬(g.length:Int)≤kl[j] by omega,hpl,hbl,hset,w3]
          exact Nxt.mk (j+1) (by omega) (by simp) (by simp) (by omega)
        · have h9:j=kl.length:=by omega
          subst h9
          rw[List.take_length,← hcs]
          simp[w1]
          exact Nxt.mk (c+1) (by omega) (by simp) (by simp) (by omega)
    · have h9:c=g.length:=by omega
      subst h9
      simp
      generalize chmM g g.length=cm at *
      refine vc_lp (σ:=Nat) (fun c=>c≤g.length) (fun c=>g.length-c)
        (fun c=>[.any,.any,.d (Rep.to g),.d (Rep.to (rootsV g)),.any,.d (Rep.to (headsV g)),.any,.d (.int .i64 (whereV (headB g) g.length).length),.own 0 0 0 g.length,.any,.any,.any,.any,.d (.int .i64 (whereV (rootB g) c).length),.d (.int .i64 c),.any,.any,.any,.any,.any,.any,.any,.any,.any,.any])
        (fun c=>[.cells 0 1 (bolC cm)]) 0 (by simp[whereV]) (by simp) (by simp) ?_
      intro c hc
      by_cases hcn:c<g.length
      · have w1:IntKind.i64.wrap ((c:Int)+1)=(c:Int)+1:=wrap_in (by omega) (by omega)
        have hwl:=whereV_len (rootB g) c
        have w2:IntKind.i64.wrap (((whereV (rootB g) c).length:Int)+1)=((whereV (rootB g) c).length:Int)+1:=wrap_in (by omega) (by omega)
        have hws:=whereV_succ (rootB g) c
        have hr1:=hroot c hcn
        have hbg:=bolC_get (l:=cm) (i:=c) (by omega)
        obtain⟨_,hbg2⟩:=List.getElem?_eq_some_iff.1 hbg
        have hbl:=bolC_len cm
        rw[hcl] at hbl
        cases hq:rootB g c with
        | true =>
          rw[hq] at hr1
          have hr2:cm.getD c false=false:=by simpa using hr1
          rw[hr2] at hbg hbg2
          rw[hq,if_pos rfl] at hws
          obtain⟨a1,a2⟩:=where_at hcn hq
          rw[show whereV (rootB g) g.length=rootsV g from rfl] at a1
          have a3:(rootsV g)[(whereV (rootB g) c).length]=(c:Int):=a2
          simp[hcn,show (c:Int)<g.length by omega,hbl,hbg,hbg2,a1,show ¬((rootsV g).length:Int)≤(whereV (rootB g) c).length by omega,getD_map,a3,w1,w2]
          exact Nxt.mk (c+1) (by omega) (by simp[hws]) (by simp) (by omega)
        | false =>
          rw[hq] at hr1
          have hr2:cm.getD c false=true:=by simpa using hr1
          rw[hr2] at hbg hbg2
          rw[hq,if_neg (by simp),List.append_nil] at hws
          simp[hcn,show (c:Int)<g.length by omega,hbl,hbg,hbg2,w1]
          exact Nxt.mk (c+1) (by omega) (by simp[hws]) (by simp) (by omega)
      · have h9:c=g.length:=by omega
        subst h9
        simp[h5,show (whereV (rootB g) g.length).length=(rootsV g).length from rfl,show (whereV (headB g) g.length).length=(headsV g).length from rfl]
theorem law23_DagEnds_pre (raw:List Int) (w0:Arg.wf raw):raw.length≤9223372036854775807:=by
  have:=len_wf w0
  omega
end Go.AE
