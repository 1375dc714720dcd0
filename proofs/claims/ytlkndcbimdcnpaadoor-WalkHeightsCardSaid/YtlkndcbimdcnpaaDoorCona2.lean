/-
  Contracts: the document's check of a graph,and its lists.
-/
import Derived.Test.YtlkndcbimdcnpaaDoorCona1
import Derived.Test.YtlkndcbimdcnpaaDoorCode1
import Derived.LoopIn
import Derived.LoopNIn
import Derived.OwnWalkIn
import Derived.RangeFuncBound
import Derived.RangeFuncCalls
import Derived.RangeFuncLeaves
import Derived.RangeFuncNested
import Derived.Shelf.Abstract
import Derived.Shelf.RegionOpen
import Derived.TacticsInMore
import Derived.WalkKit

set_option linter.unusedSimpArgs false
set_option linter.unusedVariables false
set_option linter.unnecessarySimpa false
set_option maxRecDepth 20000
set_option maxHeartbeats 8000000
namespace Go.AE
theorem reach_nil (g:List (List Int)) (i:Nat):(reachV g []).getD i false=false:=by
  cases h:(reachV g []).getD i false with
  | false=>rfl
  | true=>exact (reach_least (g:=g) (fr:=[]) (fun _=>False) (fun p hp=>by cases hp) (fun c hc=>hc.elim) h).elim
@[simp] def S_ref23_Check:List D→Prop × D:=spec1 (α:=List CommitT) (fun g=>GraphOk g) (fun g=>.int .i64 (dagC g))
theorem ct_ref23_Check {P:Program} {f g1 g2 g3:Nat} {G:Gam} (h:CodeOf P f 1 22 [1] (x_ref23_Check g1 g2 g3)) (hG:GamOk P G) (h1:G.find g1=some S_ref23_Has) (h2:G.find g2=some S_ref23_Reach) (h3:G.find g3=some S_ref21_Check):Has P f S_ref23_Check:=h.has1 hG fun g hp=>by
  obtain⟨p1,p2⟩:=hp
  by_cases c0:(300:Int)<g.length
  · have hd:dagC g=1:=by
      unfold dagC limB
      rw[if_neg]
      simp
      omega
    simp[x_ref23_Check,c0,hd,show 300<g.length by omega]
  · have c0':¬300<g.length:=by omega
    simp[x_ref23_Check,c0,c0']
    refine vc_lp (σ:=Nat) (fun i=>i≤g.length∧∀k (hk:k<g.length),k<i→g[k].parents.length≤32) (fun i=>g.length-i)
      (fun i=>[.d (Rep.to g),.any,.d (.int .i64 i),.any,.any,.any,.any,.any,.any,.any,.any,.any,.any,.any,.any,.any,.any,.any,.any,.any,.any,.any]) (fun _=>[]) 0 (by simp) (by simp) ⟨by simp,by simp⟩ ?_
    rintro i ⟨hi,hn⟩
    by_cases hil:i<g.length
    · have w1:IntKind.i64.wrap ((i:Int)+1)=(i:Int)+1:=wrap_in (by omega) (by omega)
      by_cases e:(32:Int)<g[i].parents.length
      · have hd:dagC g=1:=by
          unfold dagC
          rw[if_neg]
          intro hl
          have:=lim_par hl _ (List.getElem_mem hil)
          omega
        simp[hil,getD_map,e,show 32<g[i].parents.length by omega,hd]
      · have hnx:∀k (hk:k<g.length),k<i+1→g[k].parents.length≤32:=fun k hk hki=>by
          by_cases e2:k=i
          · subst e2;omega
          · exact hn k hk (by omega)
        simp[hil,getD_map,e,show ¬32<g[i].parents.length by omega,w1]
        exact Nxt.mk (i+1) (by omega) (by simp) (by simp) ⟨by omega,hnx⟩
    · have h9:i=g.length:=by omega
      subst h9
      have hp32:∀k (hk:k<g.length),g[k].parents.length≤32:=fun k hk=>hn k hk hk
      have hlim:limB g=true:=by
        unfold limB
        rw[Bool.and_eq_true,Bool.not_eq_true',List.any_eq_false]
        refine⟨by simp;omega,fun c hc=>?_⟩
        obtain⟨k,hk,rfl⟩:=List.mem_iff_getElem.1 hc
        have:=hp32 k hk
        simp[conP]
        omega
      have hd1:dagC g=if relG g=true then (if (upV (parG g)).length<g.length then 231 else if g.any rangeB=true then 3 else filesE g) else 230:=by unfold dagC;rw[if_pos hlim]
      clear hn hi hil
      simp
      refine vc_lp (σ:=Nat) (fun i=>i≤g.length∧∀k (h:k<g.length),k<i→relB g.length g[k].parents=true) (fun i=>g.length-i)
        (fun i=>[.d (Rep.to g),.any,.any,.d (.int .i64 i),.any,.any,.any,.any,.any,.any,.any,.any,.any,.any,.any,.any,.any,.any,.any,.any,.any,.any]) (fun _=>[]) 0 (by simp) (by simp) ⟨by simp,by simp⟩ ?_
      rintro i ⟨hi,hm⟩
      by_cases hil:i<g.length
      · have w1:IntKind.i64.wrap ((i:Int)+1)=(i:Int)+1:=wrap_in (by omega) (by omega)
        have hpl:=hp32 i hil
        simp[hil]
        refine vc_lp (σ:=Nat) (fun j=>j≤g[i].parents.length∧relP g.length g[i].parents j=true) (fun j=>g[i].parents.length-j)
          (fun j=>[.d (Rep.to g),.any,.any,.d (.int .i64 i),.d (.int .i64 j),.any,.any,.any,.any,.any,.any,.any,.any,.any,.any,.any,.any,.any,.any,.any,.any,.any]) (fun _=>[]) 0 (by simp) (by simp) ⟨by simp,by simp[relP]⟩ ?_
        rintro j ⟨hj,hr⟩
        by_cases hjl:j<g[i].parents.length
        · have w2:IntKind.i64.wrap ((j:Int)+1)=(j:Int)+1:=wrap_in (by omega) (by omega)
          have hs:=relP_succ (n:=g.length) hjl
          rw[hr,Bool.true_and] at hs
          have hbad:relP g.length g[i].parents (j+1)=false→dagC g=230:=fun h=>by
            have h2:=relP_le h
            rw[hd1,if_neg]
            unfold relG
            rw[List.all_eq_true]
            intro h3
            rw[h3 _ (List.getElem_mem hil)] at h2
            cases h2
          have hjle:(j:Int)≤g[i].parents.length:=by omega
          have htl:(g[i].parents.take j).length≤9223372036854775807:=by simp;omega
          by_cases q1:g[i].parents[j]<0
          · have hz:=hbad (by rw[hs];simp;omega)
            simp[hil,hjl,getD_map,q1,hz]
          · by_cases q2:(g.length:Int)≤g[i].parents[j]
            · have hz:=hbad (by rw[hs];simp;omega)
              simp[hil,hjl,getD_map,q1,q2,hz]
            · have hmp:(g[i].parents.map Rep.to).take j=(g[i].parents.take j).map Rep.to:=by rw[List.map_take]
              by_cases q3:g[i].parents[j]∈g[i].parents.take j
              · have hz:=hbad (by rw[hs];simp[q3])
                simp[hil,hjl,getD_map,q1,q2,h1,hz,hjle,q3]
                omega
              · have hz:relP g.length g[i].parents (j+1)=true:=by rw[hs];simp[q3];omega
                simp[hil,hjl,getD_map,q1,q2,h1,q3,w2,hjle]
                exact⟨by omega,Nxt.mk (j+1) (by omega) (by simp) (by simp) ⟨by omega,hz⟩⟩
        · have h9:j=g[i].parents.length:=by omega
          subst h9
          have hz:relB g.length g[i].parents=true:=by unfold relP at hr;rw[List.take_length] at hr;exact hr
          have hnx:∀k (h:k<g.length),k<i+1→relB g.length g[k].parents=true:=fun k h hk=>by
            by_cases e2:k=i
            · subst e2;exact hz
            · exact hm k h (by omega)
          simp[hil,getD_map,w1]
          exact Nxt.mk (i+1) (by omega) (by simp) (by simp) ⟨by omega,hnx⟩
      · have h9:i=g.length:=by omega
        subst h9
        have hrel:relG g=true:=by
          unfold relG
          rw[List.all_eq_true]
          intro c hc
          obtain⟨k,hk,rfl⟩:=List.mem_iff_getElem.1 hc
          exact hm k hk hk
        rw[if_pos hrel] at hd1
        have hok:=relG_ok hrel
        have hup:=up_reach hok
        have hgl:=parG_len g
        rw[hgl] at hup
        have hpar:∀c,c∈g→c.parents.length≤1000:=fun c hc=>by
          obtain⟨k,hk,rfl⟩:=List.mem_iff_getElem.1 hc
          have:=hp32 k hk
          omega
        clear hm hi hil
        simp
        refine vc_lp (σ:=Nat) (fun i=>i≤g.length∧∀k (h:k<g.length),k<i→(reachV (parG g) g[k].parents).getD k false=false) (fun i=>g.length-i)
          (fun i=>[.d (Rep.to g),.any,.any,.any,.any,.any,.d (.int .i64 i),.any,.any,.any,.any,.any,.any,.any,.any,.any,.any,.any,.any,.any,.any,.any]) (fun _=>[]) 0 (by simp) (by simp) ⟨by simp,by simp⟩ ?_
        rintro i ⟨hi,hm⟩
        by_cases hil:i<g.length
        · have w1:IntKind.i64.wrap ((i:Int)+1)=(i:Int)+1:=wrap_in (by omega) (by omega)
          have hrl:=reachV_len (parG g) g[i].parents
          rw[hgl] at hrl
          have hrng:=rel_rng hrel hil
          have hpl:=hp32 i hil
          have hnx:(reachV (parG g) g[i].parents).getD i false=false→∀k (h:k<g.length),k<i+1→(reachV (parG g) g[k].parents).getD k false=false:=fun h k hk hki=>by
            by_cases e2:k=i
            · subst e2;exact h
            · exact hm k hk (by omega)
          by_cases e0:(0:Int)<g[i].parents.length
          · have e0':0<g[i].parents.length:=by omega
            have hgd:(reachV (parG g) g[i].parents).getD i false=(reachV (parG g) g[i].parents)[i]'(by rw[hrl];exact hil):=by simp[List.getD,hrl,hil]
            have hpre:g.length≤1000∧(∀c,c∈g→c.parents.length≤1000)∧relG g=true∧g[i].parents.length≤1048576∧∀p,p∈g[i].parents→0≤p∧p<(g.length:Int):=⟨p1,hpar,hrel,by omega,hrng⟩
            cases er:(reachV (parG g) g[i].parents).getD i false with
            | true =>
              have hz:dagC g=231:=by
                rw[hd1,if_pos]
                exact hup.2 ⟨i,hil,by rw[parG_get hil];exact er⟩
              rw[hgd] at er
              simp[hil,getD_map,e0,e0',h2,hpre,er,hrl,hz]
              exact⟨hpar,hrng⟩
            | false =>
              have hz:=hnx er
              rw[hgd] at er
              simp[hil,getD_map,e0,e0',h2,hpre,er,hrl,w1]
              exact⟨⟨hpar,hrng⟩,Nxt.mk (i+1) (by omega) (by simp) (by simp) ⟨by omega,by simpa using hz⟩⟩
          · have e0':¬0<g[i].parents.length:=by omega
            have hz:=hnx (by
              have:g[i].parents=[]:=List.length_eq_zero_iff.1 (by omega)
              rw[this]
              exact reach_nil _ _)
            simp[hil,getD_map,e0,e0',w1]
            exact Nxt.mk (i+1) (by omega) (by simp) (by simp) ⟨by omega,hz⟩
        · have h9:i=g.length:=by omega
          subst h9
          have hnc:¬(upV (parG g)).length<g.length:=fun h=>by
            obtain⟨c,hc,hr⟩:=hup.1 h
            rw[parG_get hc,hm c hc hc] at hr
            cases hr
          rw[if_neg hnc] at hd1
          clear hm hi hil
          simp
          refine vc_lp (σ:=Nat) (fun i=>i≤g.length∧∀k (h:k<g.length),k<i→rangeB g[k]=false) (fun i=>g.length-i)
            (fun i=>[.d (Rep.to g),.any,.any,.any,.any,.any,.any,.d (.int .i64 i),.any,.any,.any,.any,.any,.any,.any,.any,.any,.any,.any,.any,.any,.any]) (fun _=>[]) 0 (by simp) (by simp) ⟨by simp,by simp⟩ ?_
          rintro i ⟨hi,hm⟩
          by_cases hil:i<g.length
          · have w1:IntKind.i64.wrap ((i:Int)+1)=(i:Int)+1:=wrap_in (by omega) (by omega)
            have hbad:rangeB g[i]=true→dagC g=3:=fun h=>by
              rw[hd1,if_pos]
              exact List.any_eq_true.2 ⟨_,List.getElem_mem hil,h⟩
            by_cases q1:g[i].date<0
            · have hz:=hbad (by simp[rangeB,q1])
              simp[hil,getD_map,q1,hz]
            · by_cases q2:2147483647<g[i].date
              · have hz:=hbad (by simp[rangeB,q2])
                simp[hil,getD_map,q1,q2,hz]
              · have hnx:∀k (h:k<g.length),k<i+1→rangeB g[k]=false:=fun k hk hki=>by
                  by_cases e2:k=i
                  · subst e2;simp[rangeB];omega
                  · exact hm k hk (by omega)
                simp[hil,getD_map,q1,q2,w1]
                exact Nxt.mk (i+1) (by omega) (by simp) (by simp) ⟨by omega,hnx⟩
          · have h9:i=g.length:=by omega
            subst h9
            have hnr:g.any rangeB=false:=by
              rw[List.any_eq_false]
              intro c hc
              obtain⟨k,hk,rfl⟩:=List.mem_iff_getElem.1 hc
              rw[hm k hk hk]
              simp
            rw[hnr,if_neg (by simp)] at hd1
            clear hm hi hil
            simp
            refine vc_lp (σ:=Nat) (fun i=>i≤g.length∧∀k (hk:k<g.length),k<i→treeE g[k].files=0) (fun i=>g.length-i)
              (fun i=>[.d (Rep.to g),.any,.any,.any,.any,.any,.any,.any,.d (.int .i64 i),.any,.any,.any,.any,.any,.any,.any,.any,.any,.any,.any,.any,.any]) (fun _=>[]) 0 (by simp) (by simp) ⟨by simp,by simp⟩ ?_
            rintro i ⟨hi,hn⟩
            by_cases hil:i<g.length
            · have w1:IntKind.i64.wrap ((i:Int)+1)=(i:Int)+1:=wrap_in (by omega) (by omega)
              have hf:=(p2 _ (List.getElem_mem hil)).2
              by_cases e:treeE g[i].files=0
              · have hnx:∀k (hk:k<g.length),k<i+1→treeE g[k].files=0:=fun k hk hki=>by
                  by_cases e2:k=i
                  · subst e2;exact e
                  · exact hn k hk (by omega)
                simp[hil,getD_map,h3,hf,e,w1]
                exact Nxt.mk (i+1) (by omega) (by simp) (by simp) ⟨by omega,hnx⟩
              · have hz:=filesE_some hil e hn
                rw[hz] at hd1
                simp[hil,getD_map,h3,hf,e,hd1]
            · have hz:=filesE_none fun k hk=>hn k hk (by omega)
              rw[hz] at hd1
              simp[hil,hd1]
@[simp] def S_ref23_Kids:List D→Prop × D:=spec2 (α:=List CommitT) (β:=Int) (fun g _=>GraphOk g) (fun g c=>Rep.to (kidsV g c g.length))
theorem ct_ref23_Kids {P:Program} {f g1:Nat} {G:Gam} (h:CodeOf P f 2 7 [2] (x_ref23_Kids g1)) (hG:GamOk P G) (h1:G.find g1=some S_ref23_Has):Has P f S_ref23_Kids:=h.has2 hG fun g c hp=>by
  obtain⟨p1,p2⟩:=hp
  simp[x_ref23_Kids,kidsV]
  generalize hq:kidB g c=q at *
  refine vc_lp (σ:=Nat) (fun i=>i≤g.length) (fun i=>g.length-i)
    (fun i=>[.d (Rep.to g),.d (.int .i64 c),.any,.gr 0 1 ((whereV q i).map Rep.to),.d (.int .i64 i),.any,.any])
    (fun i=>[.tip (whereV q i).length]) 0 (by simp[whereV]) (by simp[whereV]) (by simp) ?_
  intro i hi
  have hkl:=whereV_len q i
  by_cases hil:i<g.length
  · have w1:IntKind.i64.wrap ((i:Int)+1)=(i:Int)+1:=wrap_in (by omega) (by omega)
    have hs:=whereV_succ q i
    have hpl:g[i].parents.length≤9223372036854775807:=by have:=(p2 _ (List.getElem_mem hil)).1;omega
    have hqi:decide (c∈g[i].parents)=q i:=by rw[← hq];unfold kidB;simp[List.getD,hil]
    cases hk:q i with
    | true =>
      rw[hk] at hqi
      rw[hk,if_pos rfl] at hs
      simp at hqi
      simp[hil,getD_map,h1,hpl,hqi,w1]
      exact⟨by unfold room;omega,Nxt.mk (i+1) (by omega) (by simp[hs]) (by simp[hs]) (by omega)⟩
    | false =>
      rw[hk] at hqi
      rw[hk,if_neg (by simp),List.append_nil] at hs
      simp at hqi
      simp[hil,getD_map,h1,hpl,hqi,w1]
      exact Nxt.mk (i+1) (by omega) (by simp[hs]) (by simp[hs]) (by omega)
  · have h9:i=g.length:=by omega
    subst h9
    simp
end Go.AE
namespace Go.AE
end Go.AE
namespace Go.AE
theorem graphOk_small {g:List CommitT} (h:g.length≤1000) (h2:∀c,c∈g→c.parents.length≤1000∧c.files=[]):GraphOk g :=
  ⟨h,fun c hc=>⟨by have:=(h2 c hc).1;omega,by rw[(h2 c hc).2];exact⟨by simp,by simp⟩⟩⟩
def LE (d:D):Prop:=∃(l:D) (ls:List Int) (e:Int),d=.tup [l,.int .i64 e]∧Rep.of (α:=List Int) l=some ls∧ls.length≤9223372036854775807
theorem LE.ok {l:List Int} {e:Int} (h:l.length≤9223372036854775807):LE (.tup [Rep.to l,.int .i64 e]):=⟨_,l,e,rfl,Rep.of_to l,h⟩
theorem LE.nil {e:Int}:LE (.tup [.nilsl,.int .i64 e]):=⟨_,[],e,rfl,rfl,by simp⟩
theorem LE.roots {g:List CommitT} (h:g.length≤1000):LE (rootsD g):=by
  unfold rootsD
  split
  · exact LE.ok (by have:=whereV_len (rootB g) g.length;unfold rootsV;omega)
  · exact LE.nil
theorem LE.heads {g:List CommitT} (h:g.length≤1000):LE (headsD g):=by
  unfold headsD
  split
  · exact LE.ok (by have:=whereV_len (headB g) g.length;unfold headsV;omega)
  · exact LE.nil
theorem graphV_ok (raw:List Int) {n lines:Int} (hn:0≤n) (hn2:n≤10) (hl:0≤lines) (h:(lines.toNat+1) * 2 ^ n.toNat≤2048):dagC (graphV raw n lines)=0∧GraphOk (graphV raw n lines):=by
  obtain⟨m,hm,hb⟩:=graphV_B raw hn hl h
  exact graphB_ok (by omega) (by omega) hb
theorem where_mem {q:Nat→Bool} {n:Nat} {i:Nat}:(i:Int)∈whereV q n↔i<n∧q i=true:=by
  unfold whereV
  rw[List.mem_map]
  constructor
  · rintro⟨j,hj,e⟩
    have:j=i:=by omega
    subst this
    rw[List.mem_filter,List.mem_range] at hj
    exact hj
  · rintro⟨h1,h2⟩
    exact⟨i,List.mem_filter.2 ⟨List.mem_range.2 h1,h2⟩,rfl⟩
theorem where_rng {q:Nat→Bool} {n:Nat}:∀x,x∈whereV q n→0≤x∧x<(n:Int):=by
  intro x hx
  unfold whereV at hx
  rw[List.mem_map] at hx
  obtain⟨j,hj,rfl⟩:=hx
  rw[List.mem_filter,List.mem_range] at hj
  omega
theorem min_rank (f:Nat→Int):∀n,0<n→∃c,c<n∧∀i,i<n→f c≤f i
  | 0,h=>by omega
  | 1,_=>⟨0,by omega,fun i hi=>by
      have:i=0:=by omega
      subst this
      omega⟩
  | n+2,_=>by
    obtain⟨c,hc,h⟩:=min_rank f (n+1) (by omega)
    by_cases e:f c≤f (n+1)
    · exact⟨c,by omega,fun i hi=>by
        by_cases e2:i=n+1
        · subst e2;exact e
        · exact h i (by omega)⟩
    · exact⟨n+1,by omega,fun i hi=>by
        by_cases e2:i=n+1
        · subst e2;omega
        · have:=h i (by omega);omega⟩
def rdyL (g:List CommitT) (R L:List Bool) (c:Nat):Bool:=(kidsV g (c:Int) g.length).all (fun k=>!(R.getD k.toNat false && !L.getD k.toNat false)) && (R.getD c false && !L.getD c false)
theorem rdyL_iff {g:List CommitT} {R L:List Bool} {c:Nat}:rdyL g R L c=true↔(R.getD c false=true∧L.getD c false=false)∧∀k,k<g.length→(c:Int)∈(g.getD k default).parents→R.getD k false=true→L.getD k false=true:=by
  unfold rdyL kidsV
  rw[Bool.and_eq_true,Bool.and_eq_true,List.all_eq_true]
  constructor
  · rintro⟨h1,h2,h3⟩
    have h3':L.getD c false=false:=by
      cases hq:L.getD c false with
      | false=>rfl
      | true=>rw[hq] at h3;cases h3
    refine⟨⟨h2,h3'⟩,fun k hk hm hr=>?_⟩
    have:=h1 (k:Int) (where_mem.2 ⟨hk,by unfold kidB;simpa using hm⟩)
    rw[Int.toNat_natCast,hr] at this
    simpa using this
  · rintro⟨⟨h1,h2⟩,h3⟩
    refine⟨fun k hk=>?_,h1,by rw[h2];rfl⟩
    have hr:=where_rng k hk
    obtain⟨i,rfl⟩:=Int.eq_ofNat_of_zero_le hr.1
    rw[Int.toNat_natCast]
    have hi:=where_mem.1 hk
    have hm:(c:Int)∈(g.getD i default).parents:=by have:=hi.2;unfold kidB at this;simpa using this
    cases hR:R.getD i false with
    | false=>simp
    | true =>
      rw[h3 i hi.1 hm hR]
      simp
def bestS (g:List CommitT) (R L:List Bool):Nat→Int
  | 0=>-1
  | k+1=>if rdyL g R L k=true∧(bestS g R L k<0∨dateG g (bestS g R L k)<dateG g (k:Int)) then (k:Int) else bestS g R L k
theorem bestS_spec (g:List CommitT) (R L:List Bool):∀k,(bestS g R L k=-1∧∀c,c<k→rdyL g R L c=false)∨∃b:Nat,bestS g R L k=(b:Int)∧b<k∧rdyL g R L b=true∧∀c,c<k→rdyL g R L c=true→c≠b→befG g (b:Int) (c:Int)=true
  | 0=>.inl ⟨rfl,fun c h=>by omega⟩
  | k+1=>by
    have ih:=bestS_spec g R L k
    unfold bestS
    by_cases h:rdyL g R L k=true∧(bestS g R L k<0∨dateG g (bestS g R L k)<dateG g (k:Int))
    · rw[if_pos h]
      refine .inr ⟨k,rfl,by omega,h.1,fun c hc hr hne=>?_⟩
      have hck:c<k:=by omega
      rcases ih with ⟨e,hn⟩ | ⟨b,e,hb,hrb,hbf⟩
      · rw[hn c hck] at hr;cases hr
      · rw[e] at h
        have hd:dateG g (b:Int)<dateG g (k:Int):=by
          rcases h.2 with h2 | h2
          · omega
          · exact h2
        have hkb:befG g (k:Int) (b:Int)=true:=by
          unfold befG
          rw[if_pos (by omega)]
          simpa using hd
        by_cases e2:c=b
        · subst e2;exact hkb
        · exact (befG_ok g).tr _ _ _ hkb (hbf c hck hr e2)
    · rw[if_neg h]
      rcases ih with ⟨e,hn⟩ | ⟨b,e,hb,hrb,hbf⟩
      · refine .inl ⟨e,fun c hc=>?_⟩
        by_cases e2:c=k
        · subst e2
          cases hq:rdyL g R L c with
          | false=>rfl
          | true=>exact absurd ⟨hq,.inl (by rw[e];omega)⟩ h
        · exact hn c (by omega)
      · refine .inr ⟨b,e,by omega,hrb,fun c hc hr hne=>?_⟩
        by_cases e2:c=k
        · subst e2
          have hnd:¬dateG g (b:Int)<dateG g (c:Int):=fun hd=>h ⟨hr,.inr (by rw[e];exact hd)⟩
          unfold befG
          by_cases e3:dateG g (b:Int)=dateG g (c:Int)
          · rw[e3];simp;omega
          · rw[if_pos e3];simp;omega
        · exact hbf c (by omega) hr hne
def orderGo (g:List CommitT) (R:List Bool):Nat→List Bool→List Int→List Int
  | 0,_,out=>out
  | f+1,L,out=>if bestS g R L g.length<0 then out else orderGo g R f (L.set (bestS g R L g.length).toNat true) (out++[bestS g R L g.length])
def orderV (g:List CommitT) (R:List Bool):List Int:=orderGo g R (g.length+1) (List.replicate g.length false) []
def flagL (n:Nat) (out:List Int):List Bool:=markL (List.replicate n false) out
theorem flagL_len (n:Nat) (out:List Int):(flagL n out).length=n:=by unfold flagL;rw[markL_len];simp
theorem flagL_snoc (n:Nat) (out:List Int) (x:Int):flagL n (out++[x])=(flagL n out).set x.toNat true:=by
  unfold flagL markL
  rw[List.foldl_append]
  rfl
theorem flagL_get (n:Nat) (out:List Int) (h:∀x,x∈out→0≤x) (i:Nat):(flagL n out).getD i false=true↔i<n∧(i:Int)∈out:=by
  unfold flagL
  rw[markL_get,getD_rep,List.length_replicate]
  constructor
  · rintro (h1 | ⟨h1,p,hp,e⟩)
    · cases h1
    have:=h p hp
    exact⟨h1,by rw[← e];rw[show ((p.toNat:Nat):Int)=p by omega];exact hp⟩
  · rintro⟨h1,h2⟩
    exact .inr ⟨h1,_,h2,by simp⟩
structure StepsOk (g:List CommitT) (R:List Bool) (o:List Int):Prop where
  step:∀k (hk:k<o.length),∃b:Nat,o[k]=(b:Int)∧b<g.length∧rdyL g R (flagL g.length (o.take k)) b=true∧∀c,c<g.length→rdyL g R (flagL g.length (o.take k)) c=true→c≠b→befG g (b:Int) (c:Int)=true
structure IsOrder (g:List CommitT) (R:List Bool) (o:List Int):Prop where
  steps:StepsOk g R o
  fin:∀c,c<g.length→rdyL g R (flagL g.length o) c=false
theorem StepsOk.snoc {g:List CommitT} {R:List Bool} {o:List Int} (h:StepsOk g R o) {b:Nat} (hb:b<g.length) (hr:rdyL g R (flagL g.length o) b=true) (hm:∀c,c<g.length→rdyL g R (flagL g.length o) c=true→c≠b→befG g (b:Int) (c:Int)=true):StepsOk g R (o++[(b:Int)]):=by
  refine⟨fun k hk=>?_⟩
  by_cases e:k<o.length
  · obtain⟨b',h1,h2⟩:=h.step k e
    refine⟨b',by rw[List.getElem_append_left e];exact h1,?_⟩
    rw[List.take_append_of_le_length (by omega)]
    exact h2
  · have e:k=o.length:=by simp at hk;omega
    subst e
    refine⟨b,by simp,hb,?_⟩
    rw[List.take_left']
    · exact⟨hr,hm⟩
    · rfl
theorem IsOrder.uniq {g:List CommitT} {R:List Bool} {a b:List Int} (ha:IsOrder g R a) (hb:IsOrder g R b):a=b:=by
  have key:∀k,k≤a.length→k≤b.length→a.take k=b.take k:=by
    intro k
    induction k with
    | zero=>intros;simp
    | succ k ih =>
      intro h1 h2
      have e:=ih (by omega) (by omega)
      rw[List.take_succ_eq_append_getElem (by omega),List.take_succ_eq_append_getElem (by omega),e]
      congr 1
      obtain⟨x,x1,x2,x3,x4⟩:=ha.steps.step k (by omega)
      obtain⟨y,y1,y2,y3,y4⟩:=hb.steps.step k (by omega)
      rw[x1,y1]
      by_cases hxy:x=y
      · rw[hxy]
      · rw[e] at x3 x4
        have p1:=x4 y y2 y3 (fun h=>hxy h.symm)
        have p2:=y4 x x2 x3 hxy
        have:=(befG_ok g).tr _ _ _ p1 p2
        rw[(befG_ok g).irr] at this
        cases this
  rcases Nat.lt_trichotomy a.length b.length with h | h | h
  · have e:=key a.length (Nat.le_refl _) (by omega)
    rw[List.take_length] at e
    obtain⟨y,y1,y2,y3,y4⟩:=hb.steps.step a.length h
    rw[← e,ha.fin y y2] at y3
    cases y3
  · have e:=key a.length (Nat.le_refl _) (by omega)
    rw[List.take_length,h,List.take_length] at e
    exact e
  · have e:=key b.length (by omega) (Nat.le_refl _)
    rw[List.take_length] at e
    obtain⟨y,y1,y2,y3,y4⟩:=ha.steps.step b.length h
    rw[e,hb.fin y y2] at y3
    cases y3
theorem set_cnt {L:List Bool} {i:Nat} (hi:i<L.length) (h:L.getD i false=false):(L.set i true).count true=L.count true+1:=by
  induction L generalizing i with
  | nil=>simp at hi
  | cons x L ih =>
    cases i with
    | zero =>
      simp at h
      subst h
      simp
    | succ i =>
      have:=ih (i:=i) (by simpa using hi) (by simpa using h)
      simp only[List.set_cons_succ,List.count_cons,this]
      omega
theorem orderGo_ok {g:List CommitT} {R:List Bool}:∀f (L:List Bool) (out:List Int),L=flagL g.length out→StepsOk g R out→f+L.count true=g.length+1→IsOrder g R (orderGo g R f L out)
  | 0,L,out,hL,hs,hf=>by
    have h1:=List.count_le_length (a:=true) (l:=L)
    have h2:L.length=g.length:=by rw[hL,flagL_len]
    omega
  | f+1,L,out,hL,hs,hf=>by
    unfold orderGo
    have hb:=bestS_spec g R L g.length
    split
    · rename_i h
      rcases hb with ⟨e,hn⟩ | ⟨b,e,_⟩
      · exact⟨hs,fun c hc=>by rw[← hL];exact hn c hc⟩
      · omega
    · rename_i h
      rcases hb with ⟨e,hn⟩ | ⟨b,e,hb,hr,hm⟩
      · omega
      · rw[e,Int.toNat_natCast]
        have hlb:L.getD b false=false:=(rdyL_iff.1 hr).1.2
        have hlen:L.length=g.length:=by rw[hL,flagL_len]
        have hcnt:=set_cnt (L:=L) (i:=b) (by omega) hlb
        refine orderGo_ok f _ _ ?_ ?_ (by omega)
        · rw[flagL_snoc,← hL];rfl
        · exact hs.snoc hb (by rw[← hL];exact hr) (fun c hc h1 h2=>hm c hc (by rw[hL];exact h1) h2)
theorem orderV_ok (g:List CommitT) (R:List Bool):IsOrder g R (orderV g R) :=
  orderGo_ok _ _ _ rfl ⟨fun k hk=>by simp at hk⟩ (by simp[List.count_replicate])
/-! ### what an order lists -/
theorem StepsOk.rng {g:List CommitT} {R:List Bool} {o:List Int} (h:StepsOk g R o):∀x,x∈o→0≤x∧x<(g.length:Int):=by
  intro x hx
  obtain⟨k,hk,rfl⟩:=List.mem_iff_getElem.1 hx
  obtain⟨b,e,hb,_⟩:=h.step k hk
  omega
theorem StepsOk.nodup {g:List CommitT} {R:List Bool} {o:List Int} (h:StepsOk g R o):o.Nodup:=by
  rw[List.nodup_iff_pairwise_ne,List.pairwise_iff_getElem]
  intro i j hi hj hij e
  obtain⟨b,h1,h2,h3,_⟩:=h.step j hj
  have h4:=(rdyL_iff.1 h3).1.2
  have:(flagL g.length (o.take j)).getD b false=true:=by
    rw[flagL_get _ _ (fun x hx=>(h.rng x (List.mem_of_mem_take hx)).1)]
    refine⟨h2,?_⟩
    rw[← h1,← e]
    exact List.mem_take_iff_getElem.2 ⟨i,by omega,rfl⟩
  rw[this] at h4
  cases h4
theorem StepsOk.len {g:List CommitT} {R:List Bool} {o:List Int} (h:StepsOk g R o):o.length≤g.length:=nodup_le _ _ h.nodup h.rng
theorem StepsOk.inR {g:List CommitT} {R:List Bool} {o:List Int} (h:StepsOk g R o):∀i:Nat,(i:Int)∈o→R.getD i false=true:=by
  intro i hi
  obtain⟨k,hk,e⟩:=List.mem_iff_getElem.1 hi
  obtain⟨b,h1,h2,h3,_⟩:=h.step k hk
  have:b=i:=by omega
  subst this
  exact (rdyL_iff.1 h3).1.1
theorem StepsOk.before {g:List CommitT} {R:List Bool} {o:List Int} (h:StepsOk g R o) {k c i:Nat} (hk:k<o.length) (e:o[k]=(i:Int)) (hc:c<g.length) (hp:(i:Int)∈(g.getD c default).parents) (hR:R.getD c false=true):(c:Int)∈o.take k:=by
  obtain⟨b,h1,h2,h3,_⟩:=h.step k hk
  have:b=i:=by omega
  subst this
  have:=(rdyL_iff.1 h3).2 c hc hp hR
  rw[flagL_get _ _ (fun x hx=>(h.rng x (List.mem_of_mem_take hx)).1)] at this
  exact this.2
theorem IsOrder.all {g:List CommitT} {R:List Bool} {o:List Int} (h:IsOrder g R o) (rank:Nat→Int) (hr:∀c (hc:c<g.length),∀p,p∈g[c].parents→rank p.toNat<rank c):∀i,i<g.length→R.getD i false=true→(i:Int)∈o:=by
  intro i hi hR
  apply Classical.byContradiction
  intro hn
  obtain⟨f,hf⟩:∃f:Nat→Int,∀k,f k=if R.getD k false=true∧(k:Int) ∉ o then-rank k else-rank i+1:=⟨_,fun _=>rfl⟩
  have f1:∀k:Nat,R.getD k false=true→(k:Int) ∉ o→f k=- rank k:=fun k a b=>by rw[hf,if_pos ⟨a,b⟩]
  obtain⟨c,hc,hm⟩:=min_rank f g.length (by omega)
  have h1:=hm i hi
  rw[f1 i hR hn] at h1
  have hcc:R.getD c false=true∧(c:Int) ∉ o:=by
    apply Classical.byContradiction
    intro hq
    rw[hf c,if_neg hq] at h1
    omega
  have h2:=h.fin c hc
  have h3:rdyL g R (flagL g.length o) c=true:=by
    rw[rdyL_iff]
    have hfl:=fun k=>flagL_get g.length o (fun x hx=>(h.steps.rng x hx).1) k
    refine⟨⟨hcc.1,?_⟩,fun k hk hp hRk=>?_⟩
    · rw[← Bool.not_eq_true,hfl]
      exact fun h=>hcc.2 h.2
    · rw[hfl]
      refine⟨hk,?_⟩
      apply Classical.byContradiction
      intro hkn
      have h4:=hm k hk
      rw[f1 k hRk hkn,f1 c hcc.1 hcc.2] at h4
      have e:g.getD k default=g[k]:=by simp[List.getD,hk]
      rw[e] at hp
      have:=hr k hk _ hp
      simp only[Int.toNat_natCast] at this
      omega
  rw[h2] at h3
  cases h3
def scN (g:List (List Int)) (dn:List Bool) (c j:Nat) (i:Int):Nat:=sumN (fun k=>if dn.getD k false=true then (parV g k).count i else if k=c then ((parV g k).take j).count i else 0) g.length
def outS (g:List (List Int)) (seen dn:List Bool) (c j:Nat):List Int:=(List.range g.length).map fun (i:Nat)=>if seen.getD i false=true then (scN g dn c j (i:Int):Int) else -1
theorem outS_len (g:List (List Int)) (seen dn:List Bool) (c j:Nat):(outS g seen dn c j).length=g.length:=by simp[outS]
theorem outS_get {g:List (List Int)} {seen dn:List Bool} {c j i:Nat} (h:i<g.length):(outS g seen dn c j).getD i 0=if seen.getD i false=true then (scN g dn c j (i:Int):Int) else -1:=by
  unfold outS
  rw[List.getD,List.getElem?_map,List.getElem?_range h]
  rfl
theorem outS_neg {g:List (List Int)} {seen dn:List Bool} {c j i:Nat} (h:i<g.length):(outS g seen dn c j).getD i 0<0↔seen.getD i false=false:=by
  rw[outS_get h]
  cases hs:seen.getD i false <;> simp[hs]
def chR (g:List (List Int)) (R:List Bool):List Int:=(List.range g.length).map fun (i:Nat)=>if R.getD i false=true then ((sumN (fun k=>if R.getD k false=true then (parV g k).count (i:Int) else 0) g.length:Nat):Int) else -1
structure DfsI (g:List (List Int)) (R:List Bool) (seen dn:List Bool) (op:List Int) (c j:Nat):Prop where
  lenS:seen.length=g.length
  lenD:dn.length=g.length
  opN:op.Nodup
  opR:∀x:Nat,(x:Int)∈op→x<g.length∧seen.getD x false=true∧dn.getD x false=false∧x≠c
  opP:∀x,x∈op→0≤x
  cov:∀i,i<g.length→seen.getD i false=true→dn.getD i false=true∨(i:Int)∈op∨i=c
  clo:∀k,k<g.length→dn.getD k false=true→seen.getD k false=true∧∀p,p∈parV g k→seen.getD p.toNat false=true
  clj:∀p,p∈(parV g c).take j→seen.getD p.toNat false=true
  cS:c<g.length→seen.getD c false=true∧dn.getD c false=false
  snd:∀i,seen.getD i false=true→R.getD i false=true
theorem DfsI.zero {g:List (List Int)} {R seen dn:List Bool} {op:List Int} {c j:Nat} (hg:DagOk g) (h:DfsI g R seen dn op c j) {p:Nat} (hp:seen.getD p false=false):scN g dn c j (p:Int)=0:=by
  unfold scN
  rw[sumN_zero]
  intro k hk
  split
  · rename_i hd
    rw[List.count_eq_zero]
    intro hm
    have:=(h.clo k hk hd).2 _ hm
    rw[Int.toNat_natCast,hp] at this
    cases this
  · split
    · rename_i e
      subst e
      rw[List.count_eq_zero]
      intro hm
      have:=h.clj _ hm
      rw[Int.toNat_natCast,hp] at this
      cases this
    · rfl
theorem setB_get (l:List Bool) (p i:Nat) (hp:p<l.length):(l.set p true).getD i false=if p=i then true else l.getD i false:=by
  by_cases e:p=i
  · subst e;simp[List.getD,hp]
  · rw[if_neg e];simp[List.getD,List.getElem?_set_ne e]
theorem outS_seen {g:List (List Int)} {R seen dn:List Bool} {op:List Int} {c j:Nat} (hg:DagOk g) (h:DfsI g R seen dn op c j) {p:Nat} (hpl:p<g.length) (hp:seen.getD p false=false):(outS g seen dn c j).set p 0=outS g (seen.set p true) dn c j:=by
  refine getD_ext (by simp[outS]) fun i hi=>?_
  have hi:i<g.length:=by simpa [outS] using hi
  rw[outS_get hi,setB_get _ _ _ (by rw[h.lenS];exact hpl)]
  by_cases e:p=i
  · subst e
    rw[if_pos rfl,if_pos rfl,h.zero hg hp]
    simp[List.getD,outS_len,hpl]
  · rw[if_neg e,← outS_get hi]
    simp[List.getD,List.getElem?_set_ne e]
theorem DfsI.reach {g:List (List Int)} {R seen dn:List Bool} {op:List Int} {c j:Nat} (h:DfsI g R seen dn op c j) {p:Nat} (hpl:p<g.length) (hp:seen.getD p false=false) (hR:R.getD p false=true):DfsI g R (seen.set p true) dn (op++[(p:Int)]) c j:=by
  have hget:=fun i=>setB_get seen p i (by rw[h.lenS];exact hpl)
  have mono:∀i,seen.getD i false=true→(seen.set p true).getD i false=true:=fun i hi=>by rw[hget];split <;> first | rfl | exact hi
  have hdp:dn.getD p false=false:=by
    cases hd:dn.getD p false with
    | false=>rfl
    | true=>rw[(h.clo p hpl hd).1] at hp;cases hp
  have hpc:p≠c:=fun e=>by
    subst e
    rw[(h.cS hpl).1] at hp
    cases hp
  refine⟨by simpa using h.lenS,h.lenD,?_,fun x hx=>?_,fun x hx=>?_,fun i hi hs=>?_,fun k hk hd=>?_,fun q hq=>mono _ (h.clj q hq),fun hc=>⟨mono _ (h.cS hc).1,(h.cS hc).2⟩,fun i hs=>?_⟩
  · rw[List.nodup_append]
    refine⟨h.opN,by simp,fun a ha b hb e=>?_⟩
    simp at hb
    subst hb
    rw[e] at ha
    have:=(h.opR p ha).2.1
    rw[hp] at this
    cases this
  · rcases List.mem_append.1 hx with hx | hx
    · obtain⟨a1,a2,a3,a4⟩:=h.opR x hx
      exact⟨a1,mono _ a2,a3,a4⟩
    · have:x=p:=by simp at hx;omega
      subst this
      exact⟨hpl,by rw[hget,if_pos rfl],hdp,hpc⟩
  · rcases List.mem_append.1 hx with hx | hx
    · exact h.opP x hx
    · simp at hx;omega
  · rw[hget] at hs
    by_cases e:p=i
    · subst e
      exact .inr (.inl (by simp))
    · rw[if_neg e] at hs
      rcases h.cov i hi hs with a | a | a
      · exact .inl a
      · exact .inr (.inl (by simp[a]))
      · exact .inr (.inr a)
  · obtain⟨a,b⟩:=h.clo k hk hd
    exact⟨mono _ a,fun q hq=>mono _ (b q hq)⟩
  · rw[hget] at hs
    by_cases e:p=i
    · subst e;exact hR
    · rw[if_neg e] at hs
      exact h.snd i hs
theorem scN_step {g:List (List Int)} {dn:List Bool} {c j:Nat} (hc:c<g.length) (hd:dn.getD c false=false) (hj:j<(parV g c).length) (i:Int):scN g dn c (j+1) i=scN g dn c j i+if (parV g c)[j]=i then 1 else 0:=by
  unfold scN
  refine sumN_step (c0:=c) _ hc ?_ fun k hk hkc=>?_
  · rw[hd,if_neg (by simp),if_pos rfl,if_neg (by simp),if_pos rfl,List.take_succ_eq_append_getElem hj,List.count_append]
    simp[List.count_cons]
  · split
    · rfl
    · first
        | rfl
        | rw[if_neg hkc,if_neg hkc]
theorem outS_step {g:List (List Int)} {seen dn:List Bool} {c j:Nat} (hc:c<g.length) (hd:dn.getD c false=false) (hj:j<(parV g c).length) {p:Nat} (hp:(parV g c)[j]=(p:Int)) (hpl:p<g.length) (hs:seen.getD p false=true):(outS g seen dn c j).set p ((outS g seen dn c j).getD p 0+1)=outS g seen dn c (j+1):=by
  refine getD_ext (by simp[outS]) fun i hi=>?_
  have hi:i<g.length:=by simpa [outS] using hi
  have hst:=scN_step hc hd hj (i:Int)
  rw[outS_get hi]
  by_cases e:p=i
  · subst e
    rw[outS_get hpl,if_pos hs,if_pos hs,hst,if_pos hp]
    simp[List.getD,outS_len,hpl]
  · have e2:¬(parV g c)[j]=(i:Int):=by rw[hp];omega
    rw[hst,if_neg e2,Nat.add_zero,← outS_get hi]
    simp[List.getD,List.getElem?_set_ne e]
theorem DfsI.count {g:List (List Int)} {R seen dn:List Bool} {op:List Int} {c j:Nat} (h:DfsI g R seen dn op c j) (hj:j<(parV g c).length) (hs:seen.getD (parV g c)[j].toNat false=true):DfsI g R seen dn op c (j+1) :=
  ⟨h.lenS,h.lenD,h.opN,h.opR,h.opP,h.cov,h.clo,fun p hp=>by
    rw[List.take_succ_eq_append_getElem hj] at hp
    rcases List.mem_append.1 hp with hp | hp
    · exact h.clj p hp
    · rw[List.mem_singleton.1 hp];exact hs,h.cS,h.snd⟩
theorem DfsI.pop {g:List (List Int)} {R seen dn:List Bool} {op:List Int} {c:Nat} (h:DfsI g R seen dn (op++[(c:Int)]) g.length 0):DfsI g R seen dn op c 0∧outS g seen dn g.length 0=outS g seen dn c 0:=by
  have hc:=h.opR c (by simp)
  have hnd:=h.opN
  rw[List.nodup_append] at hnd
  refine⟨⟨h.lenS,h.lenD,hnd.1,fun x hx=>?_,fun x hx=>h.opP x (by simp[hx]),fun i hi hs=>?_,h.clo,fun p hp=>by simp at hp,fun _=>⟨hc.2.1,hc.2.2.1⟩,h.snd⟩,?_⟩
  · obtain⟨a1,a2,a3,a4⟩:=h.opR x (by simp[hx])
    refine⟨a1,a2,a3,fun e=>?_⟩
    subst e
    exact hnd.2.2 _ hx _ (by simp) rfl
  · rcases h.cov i hi hs with a | a | a
    · exact .inl a
    · rcases List.mem_append.1 a with a | a
      · exact .inr (.inl a)
      · exact .inr (.inr (by simp at a;omega))
    · omega
  · unfold outS
    refine List.map_congr_left fun i _=>?_
    have:scN g dn g.length 0 (i:Int)=scN g dn c 0 (i:Int):=by
      unfold scN
      refine sumN_congr _ fun k hk=>?_
      simp
    rw[this]
theorem DfsI.done {g:List (List Int)} {R seen dn:List Bool} {op:List Int} {c:Nat} (h:DfsI g R seen dn op c (parV g c).length) (hc:c<g.length):DfsI g R seen (dn.set c true) op g.length 0∧outS g seen dn c (parV g c).length=outS g seen (dn.set c true) g.length 0∧(dn.set c true).count true=dn.count true+1:=by
  have hget:=fun i=>setB_get dn c i (by rw[h.lenD];exact hc)
  obtain⟨c1,c2⟩:=h.cS hc
  refine⟨⟨h.lenS,by simpa using h.lenD,h.opN,fun x hx=>?_,h.opP,fun i hi hs=>?_,fun k hk hd=>?_,fun p hp=>by simp at hp,fun h=>by omega,h.snd⟩,?_,set_cnt (by rw[h.lenD];exact hc) c2⟩
  · obtain⟨a1,a2,a3,a4⟩:=h.opR x hx
    exact⟨a1,a2,by rw[hget,if_neg (fun e=>a4 e.symm)];exact a3,by omega⟩
  · rw[hget]
    rcases h.cov i hi hs with a | a | a
    · exact .inl (by split <;> first | rfl | exact a)
    · exact .inr (.inl a)
    · exact .inl (by rw[if_pos a.symm])
  · rw[hget] at hd
    by_cases e:c=k
    · subst e
      refine⟨c1,fun p hp=>h.clj p (by rw[List.take_length];exact hp)⟩
    · rw[if_neg e] at hd
      exact h.clo k hk hd
  · unfold outS
    refine List.map_congr_left fun i _=>?_
    have:scN g dn c (parV g c).length (i:Int)=scN g (dn.set c true) g.length 0 (i:Int):=by
      unfold scN
      refine sumN_congr _ fun k hk=>?_
      rw[hget]
      by_cases e:c=k
      · subst e
        rw[if_pos rfl,if_pos rfl,c2,if_neg (by simp),if_pos rfl,List.take_length]
      · have e3:¬k=c:=fun h=>e h.symm
        have e4:¬k=g.length:=by omega
        simp only[e,e3,e4,if_false]
    rw[this]
theorem DfsI.fin {g:List (List Int)} {seen dn:List Bool} {s:List Int} (hg:DagOk g) (h:DfsI g (reachV g s) seen dn [] g.length 0) (hs:∀p,p∈s→seen.getD p.toNat false=true):outS g seen dn g.length 0=chR g (reachV g s):=by
  have hsd:∀i,i<g.length→seen.getD i false=true→dn.getD i false=true:=fun i hi h1=>by
    rcases h.cov i hi h1 with a | a | a
    · exact a
    · simp at a
    · omega
  have hRs:∀i,(reachV g s).getD i false=true→seen.getD i false=true:=fun i hi=>by
    refine reach_least (fun i=>seen.getD i false=true∧i<g.length) (fun p hp=>⟨hs p hp,?_⟩) (fun c hc p hp=>?_) hi |>.1
    · have:=hs p hp
      rcases Nat.lt_or_ge p.toNat g.length with h1 | h1
      · exact h1
      · rw[List.getD,List.getElem?_eq_none (by rw[h.lenS];exact h1)] at this
        simp at this
    · refine⟨(h.clo c hc.2 (hsd c hc.2 hc.1)).2 p hp,?_⟩
      have:=hg.rng c hc.2 p hp
      omega
  have hb:∀(x y:Bool),(x=true↔y=true)→x=y:=by decide
  have e1:∀i,seen.getD i false=(reachV g s).getD i false:=fun i=>hb _ _ ⟨h.snd i,hRs i⟩
  have e2:∀i,i<g.length→dn.getD i false=(reachV g s).getD i false:=fun i hi=>hb _ _ ⟨fun h1=>h.snd i (h.clo i hi h1).1,fun h1=>hsd i hi (hRs i h1)⟩
  unfold outS chR
  refine List.map_congr_left fun i _=>?_
  rw[e1]
  have:scN g dn g.length 0 (i:Int)=sumN (fun k=>if (reachV g s).getD k false=true then (parV g k).count (i:Int) else 0) g.length:=by
    unfold scN
    refine sumN_congr _ fun k hk=>?_
    rw[e2 k hk,if_neg (show ¬k=g.length by omega)]
  rw[this]
theorem DfsI.start (g:List (List Int)) (R:List Bool):DfsI g R (List.replicate g.length false) (List.replicate g.length false) [] g.length 0∧outS g (List.replicate g.length false) (List.replicate g.length false) g.length 0=List.replicate g.length (-1):=by
  refine⟨⟨by simp,by simp,by simp,fun x hx=>by simp at hx,fun x hx=>by simp at hx,fun i _ h=>(by rw[getD_rep] at h;cases h),fun k _ h=>(by rw[getD_rep] at h;cases h),fun p hp=>(by simp at hp),fun h=>(by omega),fun i h=>(by rw[getD_rep] at h;cases h)⟩,?_⟩
  refine getD_ext (by simp[outS]) fun i hi=>?_
  have hi:i<g.length:=by simpa [outS] using hi
  rw[outS_get hi,getD_rep]
  simp[List.getD,hi]
structure RcX where
  out:List Int
  op:List Int
  c:Nat
  v1:Nat
  v2:Nat
  vo:Nat
  vp:Nat
@[simp] def rcS (x:RcX):Store:=[.cells x.v1 1 [.own 2 x.vo 0 x.out.length],.cells x.v2 1 [.own 3 x.vp 0 x.op.length],.cells x.vo 1 (cntC x.out),.cells x.vp 1 (cntC x.op)]
@[simp] def F_walk_history_children_1:RF RcX where
  new:=0
  view a s:=⟨(s.getD 2 .dead).ints,(s.getD 3 .dead).ints,(a.getD 0 .any).gi.toNat,(s.getD 0 .dead).ver,(s.getD 1 .dead).ver,(s.getD 2 .dead).ver,(s.getD 3 .dead).ver⟩
  args x:=[.d (.int .i64 x.c),.ref 0 x.v1 0 0,.ref 1 x.v2 0 0]
  st x:=rcS x
  pre x:=x.c<x.out.length∧x.op.length≤100000
  res _:=.tup []
  st' x:=if x.out.getD x.c 0<0 then rcS { x with out:=x.out.set x.c 0,op:=x.op++[(x.c:Int)],vp:=x.vp+1 } else rcS x
abbrev R_walk_history_children_1:RSpec:=F_walk_history_children_1.spec
theorem ct_walk_history_children_1 {P:Program} {f:Nat} {G:Gam} (hc:CodeOf P f 3 4 [] x_walk_history_children_1) (hG:GamOk P G):RSpec.Ok P f R_walk_history_children_1:=by
  refine RF.ok hc.call fun x hx=>hc.rcalls hG rfl ?_
  obtain⟨out,op,c,v1,v2,vo,vp⟩:=x
  obtain⟨hi,ho⟩:=hx
  simp only at hi ho
  have hcl:=cntC_len out
  have hcl2:=cntC_len op
  have gi:=cntC_get hi
  obtain⟨_,gi2⟩:=List.getElem?_eq_some_iff.1 gi
  have ei:out.getD c 0=out[c]:=by simp[List.getD,hi]
  have hset:=cntC_set out c 0
  have happ:=cntC_app op (c:Int)
  by_cases e:out[c]<0
  · simp[x_walk_history_children_1,startA,hi,hcl,gi,gi2,e,hset,happ,hcl2]
    refine⟨by unfold room;omega,?_⟩
    exact FinR.done (by simp) (by simp) rfl (by simp[resOf]) (by simp) (by simp)
  · simp[x_walk_history_children_1,startA,hi,hcl,gi,gi2,e]
    exact FinR.done (by simp) (by simp) rfl (by simp[resOf]) (by simp) (by simp)
structure ChX where
  g:List CommitT
  s:List Int
@[simp] def F_walk_history_children:RF ChX where
  new:=1
  view a _:=⟨(a.getD 0 .any).gl CommitT,(a.getD 1 .any).gl Int⟩
  args x:=[.d (Rep.to x.g),.d (Rep.to x.s)]
  st _:=[.res]
  pre x:=x.g.length≤1000∧(∀c,c∈x.g→c.parents.length≤32)∧relG x.g=true∧x.s.length≤1048576∧∀p,p∈x.s→0≤p∧p<(x.g.length:Int)
  res x:=.own 0 0 0 x.g.length
  st' x:=[.cells 0 1 (cntC (chR (parG x.g) (reachV (parG x.g) x.s)))]
abbrev R_walk_history_children:RSpec:=F_walk_history_children.spec
structure DfX where
  i:Nat
  seen:List Bool
  dn:List Bool
  op:List Int
  v:Nat
theorem DfsI.opl {g:List (List Int)} {R seen dn:List Bool} {op:List Int} {c j:Nat} (h:DfsI g R seen dn op c j):op.length≤g.length :=
  nodup_le _ _ h.opN fun x hx=>by
    have h1:=h.opP x hx
    have h2:=(h.opR x.toNat (by rw[show ((x.toNat:Nat):Int)=x by omega];exact hx)).1
    omega
theorem DfsI.dnl {g:List (List Int)} {R seen dn:List Bool} {op:List Int} {c j:Nat} (h:DfsI g R seen dn op c j):dn.count true≤g.length:=by
  have:=List.count_le_length (a:=true) (l:=dn)
  rw[h.lenD] at this
  exact this
theorem sumN_le {f:Nat→Nat} {B:Nat}:∀n,(∀k,k<n→f k≤B)→sumN f n≤B * n
  | 0,_=>by simp[sumN]
  | n+1,h=>by
    have:=sumN_le n fun k hk=>h k (by omega)
    have h1:=h n (by omega)
    rw[sumN_succ,Nat.mul_succ]
    omega
theorem scN_le {g:List (List Int)} {B:Nat} (hB:∀k,(parV g k).length≤B) (dn:List Bool) (c j:Nat) (i:Int):scN g dn c j i≤B * g.length:=by
  refine sumN_le _ fun k _=>?_
  have h1:=hB k
  have h2:(parV g k).count i≤(parV g k).length:=List.count_le_length
  split
  · omega
  · split
    · have:((parV g k).take j).count i≤((parV g k).take j).length:=List.count_le_length
      have:((parV g k).take j).length≤(parV g k).length:=by simp;omega
      omega
    · omega
theorem ct_walk_history_children {P:Program} {f g1:Nat} {G:Gam} (hc:CodeOf P f 2 22 [2] (x_walk_history_children g1)) (hG:GamOk P G) (h1:G.findR g1=some R_walk_history_children_1):RSpec.Ok P f R_walk_history_children:=by
  refine RF.ok hc.call fun x hx=>hc.rcalls hG rfl ?_
  obtain⟨g,s⟩:=x
  obtain⟨p1,p2,p3,p4,p5⟩:=hx
  simp only at p1 p2 p3 p4 p5
  have hok:=relG_ok p3
  have hgl:=parG_len g
  have hpg:=fun c (h:c<g.length)=>parG_get h
  simp[x_walk_history_children,startA]
  refine⟨⟨by unfold room;omega,by omega⟩,?_⟩
  refine vc_lp (σ:=Nat) (fun i=>i≤g.length) (fun i=>g.length-i)
    (fun i=>[.d (Rep.to g),.d (Rep.to s),.any,.ref 2 0 0 0,.any,.any,.any,.any,.any,.any,.d (.int .i64 g.length),.d (.int .i64 i),.any,.any,.any,.any,.any,.any,.any,.any,.any,.any])
    (fun i=>[.res,.cells 0 1 (cntC (List.replicate i (-1)++List.replicate (g.length-i) 0)),.cells 0 1 [.own 1 0 0 g.length]]) 0 (by simp) ?_ (by simp) ?_
  · simp[cntC]
  intro i hi
  by_cases hil:i<g.length
  · have w1:IntKind.i64.wrap ((i:Int)+1)=(i:Int)+1:=wrap_in (by omega) (by omega)
    have hset:(cntC (List.replicate i (-1)++List.replicate (g.length-i) 0)).set i (.d (.int .i64 (-1)))=cntC (List.replicate (i+1) (-1)++List.replicate (g.length-(i+1)) 0):=by
      rw[cntC_set]
      congr 1
      refine getD_ext (by simp;omega) fun k hk=>?_
      simp at hk
      by_cases e:i=k
      · subst e
        simp[List.getD,List.getElem?_append,hil,show i<i+(g.length-i) by omega]
      · simp only[List.getD,List.getElem?_set_ne e]
        by_cases e2:k<i
        · simp[List.getElem?_append,e2,show k<i+1 by omega]
        · simp[List.getElem?_append,e2,show ¬k<i+1 by omega,List.getElem?_replicate,show k-i<g.length-i by omega,show k-(i+1)<g.length-(i+1) by omega]
    have hcl:=cntC_len (List.replicate i (-1)++List.replicate (g.length-i) 0)
    simp only[List.length_append,List.length_replicate] at hcl
    rw[show i+(g.length-i)=g.length by omega] at hcl
    generalize cntC (List.replicate i (-1)++List.replicate (g.length-i) 0)=bc at *
    simp[hil,hcl,hset,w1]
    exact Nxt.mk (i+1) (by omega) (by simp) (by simp) (by omega)
  · have h9:i=g.length:=by omega
    subst h9
    obtain⟨d0,e0⟩:=DfsI.start (parG g) (reachV (parG g) s)
    rw[hgl] at d0 e0
    simp only[Nat.sub_self,List.replicate_zero,List.append_nil]
    rw[← e0]
    simp
    have hR:∀i,(reachV (parG g) s).getD i false=true→∀p,p∈parV (parG g) i→(reachV (parG g) s).getD p.toNat false=true:=fun i hi p hp=>by
      have hl:=reach_lt hi
      have:=hok.rng i hl p hp
      exact reach_closed hi hl hp (by omega)
    have hRs:∀p,p∈s→(reachV (parG g) s).getD p.toNat false=true:=fun p hp=>reach_from hp (by have:=p5 p hp;omega)
    have hfin:=fun seen dn h1 h2=>DfsI.fin (g:=parG g) (seen:=seen) (dn:=dn) (s:=s) hok h1 h2
    clear hi hil e0
    generalize hgp:parG g=gp at *
    generalize reachV gp s=R at *
    refine vc_lpR (σ:=DfX) (fun x=>x.i≤s.length∧DfsI gp R x.seen x.dn x.op g.length 0∧∀k (hk:k<s.length),k<x.i→x.seen.getD s[k].toNat false=true) (fun x=>s.length-x.i)
      (fun x=>[.d (Rep.to g),.any,.any,.ref 2 0 0 0,.any,.ref 3 0 0 0,.fn (.func g1) [] [.ref 2 0 0 0,.ref 3 0 0 0],.any,.any,.any,.any,.any,.any,.d (Rep.to s),.d (.int .i64 s.length),.d (.int .i64 x.i),.any,.any,.any,.any,.any,.any])
      (fun x=>[.res,.cells 0 1 (cntC (outS gp x.seen x.dn g.length 0)),.cells 0 1 [.own 1 0 0 g.length],.cells 0 1 [.own 4 x.v 0 x.op.length],.cells x.v 1 (cntC x.op)])
      ⟨0,List.replicate g.length false,List.replicate g.length false,[],0⟩ ?_ ⟨by simp,d0,fun k _ h=>by simp at h⟩ ?_
    · refine Re.weak (k:=[.cells 0 1 []]) (s':=[.res,.cells 0 1 (cntC (outS gp (List.replicate g.length false) (List.replicate g.length false) g.length 0)),.cells 0 1 [.own 1 0 0 g.length],.cells 0 1 [.own 4 0 0 0]]) (by simp) (by simp) (by simp) ⟨.inl rfl,.inl rfl,.inl rfl,.cellsL ⟨⟨rfl,?_⟩,trivial⟩,trivial⟩
      exact⟨Wk.freshO 4 [.cells 0 1 []] 1 0 rfl,trivial⟩
    rintro⟨i,seen,dn,op,v⟩ ⟨hi,hd,hsn⟩
    simp only at hi hd hsn
    have hopl:=hd.opl
    have hol:=outS_len gp seen dn g.length 0
    rw[hgl] at hopl hol
    by_cases hil:i<s.length
    · have w1:IntKind.i64.wrap ((i:Int)+1)=(i:Int)+1:=wrap_in (by omega) (by omega)
      obtain⟨q1,q2⟩:=p5 _ (List.getElem_mem hil)
      have hRc:=hRs _ (List.getElem_mem hil)
      obtain⟨c,hcc⟩:=Int.eq_ofNat_of_zero_le q1
      rw[hcc] at q2 hRc
      simp only[Int.toNat_natCast] at hRc
      have hcg:c<g.length:=by omega
      have hcgp:c<gp.length:=by omega
      have hneg:=outS_neg (seen:=seen) (dn:=dn) (c:=g.length) (j:=0) hcgp
      cases hs:seen.getD c false with
      | false =>
        rw[hs] at hneg
        have hneg:=hneg.2 rfl
        have hd2:=hd.reach hcgp hs hRc
        have hos:=outS_seen hok hd hcgp hs
        have hnx:∀k (hk:k<s.length),k<i+1→(seen.set c true).getD s[k].toNat false=true:=fun k hk hki=>by
          rw[setB_get _ _ _ (by rw[hd.lenS];exact hcgp)]
          by_cases e2:k=i
          · subst e2;rw[hcc];simp
          · rw[hsn k hk (by omega)];split <;> rfl
        generalize outS gp seen dn g.length 0=os at *
        have hcol:c<os.length:=by omega
        have hneg2:os[c]<0:=by simpa [List.getD,hcol] using hneg
        simp[hil,getD_map,hcc,eCallv,eRCall,h1,hol,hcg,show op.length≤100000 by omega,hneg2,hos,w1]
        exact Nxt.mk (⟨i+1,seen.set c true,dn,op++[(c:Int)],v+1⟩:DfX) (by simp;omega) (by simp) (by simp) ⟨by simp;omega,hd2,by simpa using hnx⟩
      | true =>
        have hneg:¬(outS gp seen dn g.length 0).getD c 0<0:=fun h=>by
          rw[hneg.1 h] at hs
          cases hs
        have hnx:∀k (hk:k<s.length),k<i+1→seen.getD s[k].toNat false=true:=fun k hk hki=>by
          by_cases e2:k=i
          · subst e2;rw[hcc];exact hs
          · exact hsn k hk (by omega)
        generalize hosq:outS gp seen dn g.length 0=os at *
        have hcol:c<os.length:=by omega
        have hneg2:¬os[c]<0:=by simpa [List.getD,hcol] using hneg
        simp[hil,getD_map,hcc,eCallv,eRCall,h1,hol,hcg,show op.length≤100000 by omega,hneg2,w1]
        exact Nxt.mk (⟨i+1,seen,dn,op,v⟩:DfX) (by simp;omega) (by simp) (by simp[hosq]) ⟨by simp;omega,hd,by simpa using hnx⟩
    · have h9:i=s.length:=by omega
      subst h9
      have hsn:∀p,p∈s→seen.getD p.toNat false=true:=fun p hp=>by
        obtain⟨k,hk,rfl⟩:=List.mem_iff_getElem.1 hp
        exact hsn k hk hk
      simp
      clear hi hil hopl hol d0
      refine vc_lp (σ:=DfX) (fun x=>DfsI gp R x.seen x.dn x.op g.length 0∧∀p,p∈s→x.seen.getD p.toNat false=true) (fun x=>g.length-x.dn.count true)
        (fun x=>[.d (Rep.to g),.any,.any,.ref 2 0 0 0,.any,.ref 3 0 0 0,.fn (.func g1) [] [.ref 2 0 0 0,.ref 3 0 0 0],.any,.any,.any,.any,.any,.any,.any,.any,.any,.any,.any,.any,.any,.any,.any])
        (fun x=>[.res,.cells 0 1 (cntC (outS gp x.seen x.dn g.length 0)),.cells 0 1 [.own 1 0 0 g.length],.cells 0 1 [.own 4 x.v 0 x.op.length],.cells x.v 1 (cntC x.op)])
        ⟨0,seen,dn,op,v⟩ (by simp) (by simp) ⟨hd,hsn⟩ ?_
      clear hd hsn
      rintro⟨i,seen,dn,op,v⟩ ⟨hd,hsn⟩
      simp only at hd hsn
      have hopl:=hd.opl
      have hol:=outS_len gp seen dn g.length 0
      rw[hgl] at hopl hol
      rcases List.eq_nil_or_concat op with rfl | ⟨op',x,rfl⟩
      · have hf:=hfin seen dn (by rw[hgl];exact hd) hsn
        rw[hgl] at hf
        simp[hf]
        refine⟨by simp[resPre,resE],[1],rfl,⟨by decide,by simp,by simp⟩,fun k hk=>?_,by simp,by simp[resOf,resE,A.ren,idxIn] <;> rfl,rfl⟩
        match k,hk with
        | 0,_=>exact .inr rfl
      · rw[List.concat_eq_append] at *
        have hopl':op'.length≤g.length:=by simp at hopl;omega
        have hx0:=hd.opP x (by simp)
        obtain⟨c,rfl⟩:=Int.eq_ofNat_of_zero_le hx0
        have hcr:=hd.opR c (by simp)
        have hcg:c<g.length:=by omega
        obtain⟨hd2,ho2⟩:=DfsI.pop (by rw[hgl];exact hd)
        rw[hgl] at ho2
        rw[ho2]
        have hpc:=hpg c hcg
        have hpsl:=p2 _ (List.getElem_mem hcg)
        have w1:IntKind.i64.wrap ((op'.length:Int)+1-1)=(op'.length:Int):=by rw[wrap_in (by omega) (by omega)];omega
        have w1':IntKind.i64.wrap (op'.length:Int)=(op'.length:Int):=wrap_in (by omega) (by omega)
        have gi:=cntC_get (l:=op'++[(c:Int)]) (i:=op'.length) (by simp)
        obtain⟨_,gi2⟩:=List.getElem?_eq_some_iff.1 gi
        have hcl:=cntC_len (op'++[(c:Int)])
        have hcl2:(op'++[(c:Int)]).length=op'.length+1:=by simp
        have htk:(cntC (op'++[(c:Int)])).take op'.length=cntC op':=by simp[cntC]
        simp only[List.getElem_concat_length] at gi gi2
        rw[hcl2] at hcl
        generalize hopc:op'++[(c:Int)]=oc at *
        simp[w1,w1',gi,gi2,hcl,hcl2,hcg,getD_map]
        have hB:∀k,(parV gp k).length≤32:=fun k=>by
          rcases Nat.lt_or_ge k g.length with h | h
          · rw[hpg k h];exact p2 _ (List.getElem_mem h)
          · unfold parV;rw[List.getD,List.getElem?_eq_none (by rw[hgl];exact h)];simp
        generalize hps:g[c].parents=ps at *
        refine⟨by omega,by omega,?_⟩
        refine vc_lpR (σ:=DfX) (fun x=>x.i≤ps.length∧DfsI gp R x.seen dn x.op c x.i∧∀p,p∈s→x.seen.getD p.toNat false=true) (fun x=>ps.length-x.i)
          (fun x=>[.d (Rep.to g),.any,.any,.ref 2 0 0 0,.any,.ref 3 0 0 0,.fn (.func g1) [] [.ref 2 0 0 0,.ref 3 0 0 0],.any,.any,.any,.any,.any,.any,.any,.any,.any,.any,.any,.d (Rep.to ps),.d (.int .i64 ps.length),.d (.int .i64 x.i),.any])
          (fun x=>[.res,.cells 0 1 (cntC (outS gp x.seen dn c x.i)),.cells 0 1 [.own 1 0 0 g.length],.cells 0 1 [.own 4 x.v 0 x.op.length],.cells x.v 1 (cntC x.op)])
          ⟨0,seen,dn,op',v+1⟩ ?_ ⟨by simp,hd2,hsn⟩ ?_
        · refine Re.cut 4 v 1 op'.length (cntC oc) rfl (by omega) (by simp) ⟨rfl,fun k hk hne=>?_⟩ (by rw[htk];rfl)
          match k,hk,hne with
          | 0,_,_=>exact .inl rfl
          | 1,_,_=>exact .inl rfl
          | 2,_,_=>exact .inl rfl
          | 3,_,_ =>
            refine .inr ⟨0,1,_,_,rfl,rfl,rfl,fun i hi=>?_⟩
            have:i=0:=by simp at hi;omega
            subst this
            exact⟨rfl,by simp⟩
          | 4,_,hne=>exact absurd rfl hne
        clear hd hd2 ho2 gi gi2 hcl hcl2 htk hopc hol hopl hopl'
        rintro⟨j,sn,dx,op,v⟩ ⟨hj,hd,hss⟩
        simp only at hj hd hss
        have hopl:=hd.opl
        have hol:=outS_len gp sn dn c j
        rw[hgl] at hopl hol
        by_cases hjl:j<ps.length
        · have w3:IntKind.i64.wrap ((j:Int)+1)=(j:Int)+1:=wrap_in (by omega) (by omega)
          have hpm:ps[j]∈parV gp c:=by rw[hpc];exact List.getElem_mem hjl
          have hin:=hok.rng c (by omega) _ hpm
          have hRp:R.getD ps[j].toNat false=true:=hR c (hd.snd c (hd.cS (by omega)).1) _ hpm
          obtain⟨p,hpp⟩:=Int.eq_ofNat_of_zero_le hin.1
          rw[hpp] at hin hRp
          simp only[Int.toNat_natCast] at hRp
          have hpg':p<g.length:=by omega
          have hpgp:p<gp.length:=by omega
          have hjp:j<(parV gp c).length:=by rw[hpc];exact hjl
          have hpj:(parV gp c)[j]=(p:Int):=by simp only[hpc];exact hpp
          have hdc:=(hd.cS (by omega)).2
          have hneg:=outS_neg (seen:=sn) (dn:=dn) (c:=c) (j:=j) hpgp
          cases hs:sn.getD p false with
          | false =>
            rw[hs] at hneg
            have hneg:=hneg.2 rfl
            have hd2:=hd.reach hpgp hs hRp
            have hos:=outS_seen hok hd hpgp hs
            have hsp:(sn.set p true).getD p false=true:=by rw[setB_get _ _ _ (by rw[hd.lenS];exact hpgp),if_pos rfl]
            have hd3:=hd2.count hjp (by rw[hpj];exact hsp)
            have hos2:=outS_step (by omega) hdc hjp hpj hpgp hsp
            have hval:(outS gp (sn.set p true) dn c j).getD p 0=0:=by rw[← hos];simp[List.getD,hol,hpg']
            rw[hval] at hos2
            have hnx:∀q,q∈s→(sn.set p true).getD q.toNat false=true:=fun q hq=>by
              rw[setB_get _ _ _ (by rw[hd.lenS];exact hpgp),hss q hq]
              split <;> rfl
            have hos3:=cntC_set (outS gp (sn.set p true) dn c j) p 1
            rw[show (0:Int)+1=1 by omega] at hos2
            rw[hos2] at hos3
            have hol2:=outS_len gp (sn.set p true) dn c j
            rw[hgl] at hol2
            have gi:=cntC_get (l:=outS gp (sn.set p true) dn c j) (i:=p) (by omega)
            obtain⟨_,gi2⟩:=List.getElem?_eq_some_iff.1 gi
            have hcl:=cntC_len (outS gp (sn.set p true) dn c j)
            rw[hol2] at hcl
            have hv2:(outS gp (sn.set p true) dn c j)[p]'(by omega)=0:=by rw[← hval];simp[List.getD,hol2,hpg']
            rw[hv2] at gi gi2
            clear hv2
            generalize hosq:outS gp sn dn c j=os at *
            generalize hosr:outS gp (sn.set p true) dn c j=os2 at *
            have hcol:p<os.length:=by omega
            have hneg2:os[p]<0:=by simpa [List.getD,hcol] using hneg
            simp[hjl,getD_map,hpp,eCallv,eRCall,h1,hol,hpg',show op.length≤100000 by omega,hneg2,hos,hcl,gi,gi2,w3]
            exact Nxt.mk (⟨j+1,sn.set p true,dn,op++[(p:Int)],v+1⟩:DfX) (by simp;omega) (by simp) (by simp[← hos3];rfl) ⟨by simp;omega,hd3,by simpa using hnx⟩
          | true =>
            have hneg:¬(outS gp sn dn c j).getD p 0<0:=fun h=>by
              rw[hneg.1 h] at hs
              cases hs
            have hd3:=hd.count hjp (by rw[hpj];exact hs)
            have hos2:=outS_step (by omega) hdc hjp hpj hpgp hs
            have hval:=outS_get (seen:=sn) (dn:=dn) (c:=c) (j:=j) hpgp
            rw[if_pos hs] at hval
            have hsl:=scN_le hB dn c j (p:Int)
            have hos3:=cntC_set (outS gp sn dn c j) p ((outS gp sn dn c j).getD p 0+1)
            rw[hos2] at hos3
            have hol2:p<(outS gp sn dn c j).length:=by omega
            have hv2:(outS gp sn dn c j).getD p 0=(outS gp sn dn c j)[p]:=by simp[List.getD,hol2]
            have gi:=cntC_get (l:=outS gp sn dn c j) (i:=p) (by omega)
            rw[← hv2] at gi
            obtain⟨_,gi2⟩:=List.getElem?_eq_some_iff.1 gi
            have hcl:=cntC_len (outS gp sn dn c j)
            rw[hol] at hcl
            clear hv2 hos2 hol2
            generalize hosq:outS gp sn dn c j=os at *
            have hcol:p<os.length:=by omega
            generalize hvq:os.getD p 0=val at *
            have hvq2:os[p]=val:=by rw[← hvq];simp[List.getD,hcol]
            have w4:IntKind.i64.wrap (val+1)=val+1:=wrap_in (by omega) (by rw[hval];rw[hgl] at hsl;omega)
            simp[hjl,getD_map,hpp,eCallv,eRCall,h1,hol,hpg',show op.length≤100000 by omega,hvq2,hneg,hcl,gi,gi2,w3,w4]
            exact Nxt.mk (⟨j+1,sn,dn,op,v⟩:DfX) (by simp;omega) (by simp) (by simp[← hos3]) ⟨by simp;omega,hd3,by simpa using hss⟩
        · have h9:j=ps.length:=by omega
          subst h9
          rw[← hpc] at hd ⊢
          obtain⟨e1,e2,e3⟩:=hd.done (by omega)
          rw[hgl] at e1 e2
          have e4:=e1.dnl
          rw[hgl] at e4
          rw[e2]
          simp
          exact Nxt.mk (⟨0,sn,dn.set c true,op,v⟩:DfX) (by simp;omega) (by simp) (by simp) ⟨e1,by simpa using hss⟩
structure HpI (g:List CommitT) (l:List Int) (P:Nat→Bool):Prop where
  heap:HeapL (befG g) l l.length
  nd:l.Nodup
  rng:∀x,x∈l→0≤x∧x<(g.length:Int)
  mem:∀i:Nat,(i:Int)∈l↔i<g.length∧P i=true
theorem HpI.len {g:List CommitT} {l:List Int} {P:Nat→Bool} (h:HpI g l P):l.length≤g.length:=nodup_le _ _ h.nd h.rng
theorem HpI.congr {g:List CommitT} {l:List Int} {P Q:Nat→Bool} (h:HpI g l P) (e:∀i,i<g.length→P i=Q i):HpI g l Q :=
  ⟨h.heap,h.nd,h.rng,fun i=>by
    rw[h.mem]
    constructor
    · rintro⟨a,b⟩;exact⟨a,by rw[← e i a];exact b⟩
    · rintro⟨a,b⟩;exact⟨a,by rw[e i a];exact b⟩⟩
theorem nodup_of_count {l:List Int} (h:∀a,l.count a≤1):l.Nodup:=List.nodup_iff_count.2 h
theorem HpI.push {g:List CommitT} {l:List Int} {P:Nat→Bool} (h:HpI g l P) {c:Nat} (hc:c<g.length) (hp:P c=false):HpI g (pushL (befG g) l (c:Int)) (fun i=>P i || decide (i=c)):=by
  obtain⟨h1,h2,h3⟩:=push_heap (befG_ok g) h.heap (c:Int)
  have hcm:(c:Int) ∉ l:=fun hm=>by
    have:=((h.mem c).1 hm).2
    rw[hp] at this
    cases this
  have hmem:∀x,x∈pushL (befG g) l (c:Int)↔x∈l∨x=(c:Int):=fun x=>by
    rw[← List.count_pos_iff,h3 x,← List.count_pos_iff (l:=l)]
    by_cases e:(c:Int)=x
    · rw[if_pos e];simp[e]
    · rw[if_neg e]
      constructor
      · intro a;exact .inl (by omega)
      · rintro (a | a)
        · omega
        · exact absurd a.symm e
  refine⟨by rw[h2];exact h1,nodup_of_count fun a=>?_,fun x hx=>?_,fun i=>?_⟩
  · rw[h3 a]
    have:=List.nodup_iff_count.1 h.nd a
    by_cases e:(c:Int)=a
    · rw[if_pos e]
      have:l.count a=0:=List.count_eq_zero.2 (by rw[← e];exact hcm)
      omega
    · rw[if_neg e];omega
  · rcases (hmem x).1 hx with a | a
    · exact h.rng x a
    · omega
  · rw[hmem,h.mem]
    simp only[Bool.or_eq_true,decide_eq_true_eq]
    constructor
    · rintro (⟨a,b⟩ | a)
      · exact⟨a,.inl b⟩
      · have:i=c:=by omega
        exact⟨by omega,.inr this⟩
    · rintro⟨a,b | b⟩
      · exact .inl ⟨a,b⟩
      · exact .inr (by omega)
theorem HpI.pop {g:List CommitT} {l:List Int} {P:Nat→Bool} (h:HpI g l P) (h0:0<l.length):∃c:Nat,l.getD 0 0=(c:Int)∧c<g.length∧P c=true∧(∀i,i<g.length→P i=true→i≠c→befG g (c:Int) (i:Int)=true)∧HpI g (popL (befG g) l) (fun i=>P i && !decide (i=c)):=by
  obtain⟨h1,h2,h3,_⟩:=pop_heap (befG_ok g) h.heap h0
  have e0:l.getD 0 0=l[0]:=by simp[List.getD,h0]
  have hm0:l[0]∈l:=List.getElem_mem h0
  have hr:=h.rng _ hm0
  obtain⟨c,hc⟩:=Int.eq_ofNat_of_zero_le hr.1
  have hcp:=(h.mem c).1 (by rw[← hc];exact hm0)
  rw[e0,hc] at h3
  have hmem:∀x,x∈popL (befG g) l↔x∈l∧x≠(c:Int):=fun x=>by
    have h4:=h3 x
    have h5:=List.nodup_iff_count.1 h.nd x
    rw[← List.count_pos_iff,← List.count_pos_iff (l:=l)]
    by_cases e:(c:Int)=x
    · rw[if_pos e] at h4
      constructor
      · intro a;omega
      · rintro⟨_,b⟩;exact absurd e.symm b
    · rw[if_neg e] at h4
      constructor
      · intro a;exact⟨by omega,fun b=>e b.symm⟩
      · rintro⟨a,_⟩;omega
  refine⟨c,by rw[e0];exact hc,hcp.1,hcp.2,fun i hi hp hne=>?_,⟨by rw[h2];exact h1,nodup_of_count fun a=>?_,fun x hx=>h.rng x ((hmem x).1 hx).1,fun i=>?_⟩⟩
  · have hm:=(h.mem i).2 ⟨hi,hp⟩
    obtain⟨k,hk,e⟩:=List.mem_iff_getElem.1 hm
    have h6:=heap_root (befG_ok g) h.heap k hk
    rw[e0,hc,show l.getD k 0=l[k] by simp[List.getD,hk],e] at h6
    rcases (befG_ok g).tot (c:Int) (i:Int) (by omega) with h7 | h7
    · exact h7
    · rw[h6] at h7;cases h7
  · have h4:=h3 a
    have h5:=List.nodup_iff_count.1 h.nd a
    omega
  · rw[hmem,h.mem]
    simp only[Bool.and_eq_true,Bool.not_eq_true',decide_eq_false_iff_not]
    constructor
    · rintro⟨⟨a,b⟩,d⟩
      exact⟨a,b,fun e=>d (by omega)⟩
    · rintro⟨a,b,d⟩
      exact⟨⟨a,b⟩,by omega⟩
def remR (g:List (List Int)) (R L:List Bool) (c j:Nat) (i:Int):Nat:=sumN (fun k=>if R.getD k false=true then (if L.getD k false=true then (if k=c then ((parV g k).drop j).count i else 0) else (parV g k).count i) else 0) g.length
def remS (g:List (List Int)) (R L:List Bool) (c j:Nat):List Int:=(List.range g.length).map fun (i:Nat)=>if R.getD i false=true then (remR g R L c j (i:Int):Int) else -1
theorem remS_len (g:List (List Int)) (R L:List Bool) (c j:Nat):(remS g R L c j).length=g.length:=by simp[remS]
theorem remS_get {g:List (List Int)} {R L:List Bool} {c j i:Nat} (h:i<g.length):(remS g R L c j).getD i 0=if R.getD i false=true then (remR g R L c j (i:Int):Int) else -1:=by
  unfold remS
  rw[List.getD,List.getElem?_map,List.getElem?_range h]
  rfl
theorem remR_le {g:List (List Int)} {B:Nat} (hB:∀k,(parV g k).length≤B) (R L:List Bool) (c j:Nat) (i:Int):remR g R L c j i≤B * g.length:=by
  refine sumN_le _ fun k _=>?_
  have h1:=hB k
  have h2:(parV g k).count i≤(parV g k).length:=List.count_le_length
  split
  · split
    · split
      · have:((parV g k).drop j).count i≤((parV g k).drop j).length:=List.count_le_length
        have:((parV g k).drop j).length≤(parV g k).length:=by simp
        omega
      · omega
    · omega
  · omega
def zeroB (g:List (List Int)) (R L:List Bool) (c j i:Nat):Bool:=R.getD i false && (!L.getD i false && decide (remR g R L c j (i:Int)=0))
theorem zero_rdy {g:List CommitT} {R L:List Bool} {i:Nat} (hi:i<g.length):zeroB (parG g) R L g.length 0 i=rdyL g R L i:=by
  rw[Bool.eq_iff_iff,rdyL_iff]
  unfold zeroB remR
  rw[Bool.and_eq_true,Bool.and_eq_true,decide_eq_true_eq,sumN_zero,parG_len]
  constructor
  · rintro⟨h1,h2,h3⟩
    refine⟨⟨h1,by simpa using h2⟩,fun k hk hm hR=>?_⟩
    have:=h3 k hk
    rw[if_pos hR] at this
    cases hL:L.getD k false with
    | true=>rfl
    | false =>
      rw[hL,if_neg (by simp),List.count_eq_zero,parG_get hk] at this
      have e:g.getD k default=g[k]:=by simp[List.getD,hk]
      rw[e] at hm
      exact absurd hm this
  · rintro⟨⟨h1,h2⟩,h3⟩
    refine⟨h1,by rw[h2];rfl,fun k hk=>?_⟩
    split
    · rename_i hR
      split
      · rw[if_neg (by omega)]
      · rename_i hL
        rw[List.count_eq_zero,parG_get hk]
        intro hm
        refine hL (h3 k hk ?_ hR)
        simpa [List.getD,hk] using hm
    · rfl
theorem remR_list {g:List (List Int)} {R L:List Bool} {c:Nat} (hc:c<L.length) (hR:R.getD c false=true) (hL:L.getD c false=false) (i:Int):remR g R (L.set c true) c 0 i=remR g R L g.length 0 i:=by
  unfold remR
  refine sumN_congr _ fun k hk=>?_
  rw[setB_get _ _ _ hc]
  by_cases e:c=k
  · subst e
    simp only[hR,hL,if_true,Bool.false_eq_true,if_false,List.drop_zero]
  · have e2:¬k=c:=fun h=>e h.symm
    have e3:¬k=g.length:=by omega
    simp[e,e2,e3]
theorem remR_next (g:List (List Int)) (R L:List Bool) (c:Nat) (i:Int):remR g R L c (parV g c).length i=remR g R L g.length 0 i:=by
  unfold remR
  refine sumN_congr _ fun k hk=>?_
  have e3:¬k=g.length:=by omega
  by_cases e:k=c
  · subst e;simp[e3]
  · simp[e,e3]
theorem remR_step {g:List (List Int)} {R L:List Bool} {c j:Nat} (hc:c<g.length) (hR:R.getD c false=true) (hL:L.getD c false=true) (hj:j<(parV g c).length) (i:Int):remR g R L c j i=remR g R L c (j+1) i+if (parV g c)[j]=i then 1 else 0:=by
  unfold remR
  refine sumN_step (c0:=c) _ hc ?_ fun k hk hkc=>?_
  · simp only[hR,hL,if_true]
    exact count_drop_succ hj i
  · simp only[hkc,if_false]
theorem remS_step {g:List (List Int)} {R L:List Bool} {c j:Nat} (hc:c<g.length) (hR:R.getD c false=true) (hL:L.getD c false=true) (hj:j<(parV g c).length) {p:Nat} (hp:(parV g c)[j]=(p:Int)) (hpl:p<g.length) (hRp:R.getD p false=true):(remS g R L c j).set p ((remS g R L c j).getD p 0-1)=remS g R L c (j+1)∧(remS g R L c j).getD p 0-1=(remR g R L c (j+1) (p:Int):Int):=by
  have hst:=remR_step hc hR hL hj
  have h1:(remS g R L c j).getD p 0-1=(remR g R L c (j+1) (p:Int):Int):=by
    rw[remS_get hpl,if_pos hRp,hst,if_pos hp]
    push_cast
    omega
  refine⟨getD_ext (by simp[remS]) fun i hi=>?_,h1⟩
  have hi:i<g.length:=by simpa [remS] using hi
  rw[remS_get hi]
  by_cases e:p=i
  · subst e
    rw[if_pos hRp,← h1]
    simp[List.getD,remS_len,hpl]
  · have e2:¬(parV g c)[j]=(i:Int):=by rw[hp];omega
    have:=hst (i:Int)
    rw[if_neg e2,Nat.add_zero] at this
    rw[← this,← remS_get hi]
    simp[List.getD,List.getElem?_set_ne e]
theorem chR_remS (g:List (List Int)) (R:List Bool):chR g R=remS g R (List.replicate g.length false) g.length 0:=by
  unfold chR remS
  refine List.map_congr_left fun i _=>?_
  have:sumN (fun k=>if R.getD k false=true then (parV g k).count (i:Int) else 0) g.length=remR g R (List.replicate g.length false) g.length 0 (i:Int):=by
    unfold remR
    refine sumN_congr _ fun k hk=>?_
    rw[getD_rep]
    simp
  rw[this]
theorem StepsOk.fresh {g:List CommitT} {R:List Bool} {o:List Int} {c p:Nat} (h:StepsOk g R (o++[(c:Int)])) (hc:c<g.length) (hp:(p:Int)∈(g.getD c default).parents) (hpl:p<g.length):(flagL g.length (o++[(c:Int)])).getD p false=false:=by
  rw[← Bool.not_eq_true,flagL_get _ _ (fun x hx=>(h.rng x hx).1)]
  rintro⟨_,hm⟩
  obtain⟨k,hk,e⟩:=List.mem_iff_getElem.1 hm
  have hb:=h.before hk e hc hp (h.inR c (by simp))
  have hnd:=h.nodup
  rw[List.nodup_append] at hnd
  rw[List.take_append_of_le_length (by simp at hk;omega)] at hb
  exact hnd.2.2 _ (List.mem_of_mem_take hb) _ (by simp) rfl
@[simp] def S_ref24_Ready:List D→Prop × D:=spec4 (α:=List CommitT) (β:=List Bool) (γ:=List Bool) (δ:=Int) (fun g R L c=>GraphOk g∧R.length=g.length∧L.length=g.length∧0≤c∧c<(g.length:Int)) (fun g R L c=>.bool (rdyL g R L c.toNat))
theorem ct_ref24_Ready {P:Program} {f g1:Nat} {G:Gam} (h:CodeOf P f 4 9 [4] (x_ref24_Ready g1)) (hG:GamOk P G) (h1:G.find g1=some S_ref23_Kids):Has P f S_ref24_Ready:=h.has4 hG fun g R L c hp=>by
  obtain⟨o,p1,p2,p3,p4⟩:=hp
  obtain⟨i,rfl⟩:=Int.eq_ofNat_of_zero_le p3
  have hrng:=where_rng (q:=kidB g (i:Int)) (n:=g.length)
  rw[show whereV (kidB g (i:Int)) g.length=kidsV g (i:Int) g.length from rfl] at hrng
  have hkl:(kidsV g (i:Int) g.length).length≤g.length:=whereV_len _ _
  have hlen:=o.1
  have hr:rdyL g R L i=((kidsV g (i:Int) g.length).all (fun k=>!(R.getD k.toNat false && !L.getD k.toNat false)) && (R.getD i false && !L.getD i false)):=rfl
  rw[Int.toNat_natCast,hr]
  simp[x_ref24_Ready,h1,o]
  generalize kidsV g (i:Int) g.length=kl at *
  refine vc_lp (σ:=Nat) (fun j=>j≤kl.length∧∀k (hk:k<kl.length),k<j→(R.getD kl[k].toNat false && !L.getD kl[k].toNat false)=false) (fun j=>kl.length-j)
    (fun j=>[.any,.d (Rep.to R),.d (Rep.to L),.d (.int .i64 i),.any,.d (Rep.to kl),.d (.int .i64 j),.any,.any]) (fun _=>[]) 0 (by simp) (by simp) ⟨by simp,by simp⟩ ?_
  rintro j ⟨hj,hn⟩
  by_cases hjl:j<kl.length
  · have w1:IntKind.i64.wrap ((j:Int)+1)=(j:Int)+1:=wrap_in (by omega) (by omega)
    obtain⟨q1,q2⟩:=hrng _ (List.getElem_mem hjl)
    have hpl:kl[j].toNat<g.length:=by omega
    have hR:kl[j].toNat<R.length:=by omega
    have hL:kl[j].toNat<L.length:=by omega
    have eR:R.getD kl[j].toNat false=R[kl[j].toNat]:=by simp[List.getD,hR]
    have eL:L.getD kl[j].toNat false=L[kl[j].toNat]:=by simp[List.getD,hL]
    cases e1:(R.getD kl[j].toNat false && !L.getD kl[j].toNat false) with
    | true =>
      rw[eR,eL,Bool.and_eq_true,Bool.not_eq_true'] at e1
      have hz:kl.all (fun k=>!(R.getD k.toNat false && !L.getD k.toNat false))=false:=by
        rw[List.all_eq_false]
        exact⟨_,List.getElem_mem hjl,by rw[eR,eL,e1.1,e1.2];simp⟩
      have hz2:(kl.all (fun k=>!R[k.toNat]?.getD false || L[k.toNat]?.getD false))=false:=by simpa using hz
      simp[hjl,getD_map,p1,p2,q1,q2,hpl,hR,hL,e1.1,e1.2,hz2]
    | false =>
      have hnx:∀k (hk:k<kl.length),k<j+1→(R.getD kl[k].toNat false && !L.getD kl[k].toNat false)=false:=fun k hk hkj=>by
        by_cases e2:k=j
        · subst e2;exact e1
        · exact hn k hk (by omega)
      rw[eR,eL] at e1
      cases e3:R[kl[j].toNat] with
      | true =>
        rw[e3,Bool.true_and] at e1
        have e4:L[kl[j].toNat]=true:=by simpa using e1
        simp[hjl,getD_map,p1,p2,q1,q2,hpl,hR,hL,e3,e4,w1]
        exact Nxt.mk (j+1) (by omega) (by simp) (by simp) ⟨by omega,by simpa using hnx⟩
      | false =>
        simp[hjl,getD_map,p1,p2,q1,q2,hpl,hR,hL,e3,w1]
        exact Nxt.mk (j+1) (by omega) (by simp) (by simp) ⟨by omega,by simpa using hnx⟩
  · have h9:j=kl.length:=by omega
    subst h9
    have hz:kl.all (fun k=>!(R.getD k.toNat false && !L.getD k.toNat false))=true:=by
      rw[List.all_eq_true]
      intro k hk
      obtain⟨m,hm,rfl⟩:=List.mem_iff_getElem.1 hk
      rw[hn m hm hm]
      rfl
    have hz2:(kl.all (fun k=>!R[k.toNat]?.getD false || L[k.toNat]?.getD false))=true:=by simpa using hz
    have hig:i<g.length:=by omega
    have hiR:i<R.length:=by omega
    have hiL:i<L.length:=by omega
    cases e1:R[i] with
    | true=>simp[hig,hiR,hiL,getD_map,p1,p2,e1,hz2,show (i:Int)<g.length by omega]
    | false=>simp[hig,hiR,hiL,getD_map,p1,p2,e1,hz2,show (i:Int)<g.length by omega]
def startsB (n:Nat) (s:List Int):Bool:=s.all fun c=>decide (0≤c∧c<(n:Int))
def orderD (g:List CommitT) (s:List Int):D:=if dagC g=0 then (if startsB g.length s=true then .tup [Rep.to (orderV g (reachV (parG g) s)),.int .i64 0] else .tup [.nilsl,.int .i64 5]) else .tup [.nilsl,.int .i64 (dagC g)]
structure OrdX where
  f:Nat
  out:List Int
@[simp] def S_ref24_Order:List D→Prop × D:=spec2 (α:=List CommitT) (β:=List Int) (fun g s=>GraphOk g∧s.length≤1048576) (fun g s=>orderD g s)
theorem ct_ref24_Order {P:Program} {f g1 g2 g3:Nat} {G:Gam} (h:CodeOf P f 2 17 [2,3] (x_ref24_Order g1 g2 g3)) (hG:GamOk P G) (h1:G.find g1=some S_ref23_Check) (h2:G.find g2=some S_ref23_Reach) (h3:G.find g3=some S_ref24_Ready):Has P f S_ref24_Order:=h.has2 hG fun g s hp=>by
  obtain⟨o,ps⟩:=hp
  have hlen:=o.1
  by_cases c0:dagC g=0
  · obtain⟨d1,d2,_⟩:=dagC_lim c0
    have hp32:∀c,c∈g→c.parents.length≤1000:=fun c hc=>by have:=lim_par d1 c hc;omega
    have hod:orderD g s=if startsB g.length s=true then .tup [Rep.to (orderV g (reachV (parG g) s)),.int .i64 0] else .tup [.nilsl,.int .i64 5]:=by unfold orderD;rw[if_pos c0]
    rw[hod]
    clear hod
    simp[x_ref24_Order,h1,o,c0]
    refine vc_lp (σ:=Nat) (fun i=>i≤s.length∧∀k (hk:k<s.length),k<i→0≤s[k]∧s[k]<(g.length:Int)) (fun i=>s.length-i)
      (fun i=>[.d (Rep.to g),.d (Rep.to s),.any,.any,.any,.d (.int .i64 i),.any,.any,.any,.any,.any,.any,.any,.any,.any,.any,.any]) (fun _=>[]) 0 (by simp) (by simp) ⟨by simp,by simp⟩ ?_
    rintro i ⟨hi,hn⟩
    by_cases hil:i<s.length
    · have w1:IntKind.i64.wrap ((i:Int)+1)=(i:Int)+1:=wrap_in (by omega) (by omega)
      have hbad:¬(0≤s[i]∧s[i]<(g.length:Int))→startsB g.length s=false:=fun h=>by
        unfold startsB
        rw[List.all_eq_false]
        exact⟨_,List.getElem_mem hil,by simpa using h⟩
      by_cases q1:s[i]<0
      · have hz:=hbad (by omega)
        simp[hil,getD_map,q1,hz]
      · by_cases q2:(g.length:Int)≤s[i]
        · have hz:=hbad (by omega)
          simp[hil,getD_map,q1,q2,hz]
        · have hnx:∀k (hk:k<s.length),k<i+1→0≤s[k]∧s[k]<(g.length:Int):=fun k hk hki=>by
            by_cases e2:k=i
            · subst e2;omega
            · exact hn k hk (by omega)
          simp[hil,getD_map,q1,q2,w1]
          exact Nxt.mk (i+1) (by omega) (by simp) (by simp) ⟨by omega,hnx⟩
    · have h9:i=s.length:=by omega
      subst h9
      have hs:startsB g.length s=true:=by
        unfold startsB
        rw[List.all_eq_true]
        intro c hc
        obtain⟨k,hk,rfl⟩:=List.mem_iff_getElem.1 hc
        simpa using hn k hk hk
      have hrng:∀p,p∈s→0≤p∧p<(g.length:Int):=fun p hpm=>by
        obtain⟨k,hk,rfl⟩:=List.mem_iff_getElem.1 hpm
        exact hn k hk hk
      have hRl:=reachV_len (parG g) s
      rw[parG_len] at hRl
      rw[if_pos hs]
      clear hn hi hil
      have hpre:g.length≤1000∧(∀c,c∈g→c.parents.length≤1000)∧relG g=true∧s.length≤1048576∧∀p,p∈s→0≤p∧p<(g.length:Int):=⟨hlen,hp32,d2,ps,hrng⟩
      simp[h2,hpre]
      refine⟨⟨hp32,hrng⟩,⟨by unfold room;omega,by omega⟩,?_⟩
      generalize reachV (parG g) s=R at *
      have hov:orderV g R=orderGo g R (g.length+1) (flagL g.length []) []:=rfl
      refine vc_lp (σ:=OrdX) (fun x=>orderGo g R x.f (flagL g.length x.out) x.out=orderV g R∧StepsOk g R x.out∧x.f+(flagL g.length x.out).count true=g.length+1) (fun x=>x.f)
        (fun x=>[.d (Rep.to g),.any,.any,.any,.any,.any,.d (Rep.to R),.own 0 0 0 g.length,.gr 1 1 (x.out.map Rep.to),.any,.any,.any,.any,.any,.any,.any,.any])
        (fun x=>[.cells 0 1 (bolC (flagL g.length x.out)),.tip x.out.length]) ⟨g.length+1,[]⟩ (by simp) ?_ ⟨rfl,⟨fun k hk=>by simp at hk⟩,by simp[flagL,markL,List.count_replicate]⟩ ?_
      · simp[flagL,markL,bolC]
      rintro⟨fu,out⟩ ⟨q1,q2,q3⟩
      simp only at q1 q2 q3
      have hLl:=flagL_len g.length out
      have hol:=q2.len
      generalize hL:flagL g.length out=L at *
      simp
      refine vc_lp (σ:=Nat) (fun k=>k≤g.length) (fun k=>g.length-k)
        (fun k=>[.d (Rep.to g),.any,.any,.any,.any,.any,.d (Rep.to R),.own 0 0 0 g.length,.gr 1 1 (out.map Rep.to),.d (.int .i64 (bestS g R L k)),.d (.int .i64 k),.any,.any,.any,.any,.any,.any])
        (fun k=>[.cells 0 1 (bolC L),.tip out.length]) 0 (by simp[bestS]) (by simp) (by simp) ?_
      intro k hk
      have hb:=bestS_spec g R L k
      have hbor:=bor_bol [.cells 0 1 (bolC L),.tip out.length] 0 0 L rfl
      rw[hLl] at hbor
      have hbf:borFp [.cells 0 1 (bolC L),.tip out.length] (.own 0 0 0 g.length)=[(0,.cells 0 1 (bolC L))]:=rfl
      by_cases hkl:k<g.length
      · have w1:IntKind.i64.wrap ((k:Int)+1)=(k:Int)+1:=wrap_in (by omega) (by omega)
        have hs1:bestS g R L (k+1)=if rdyL g R L k=true∧(bestS g R L k<0∨dateG g (bestS g R L k)<dateG g (k:Int)) then (k:Int) else bestS g R L k:=rfl
        have edk:dateG g (k:Int)=g[k].date:=by simp[dateG,List.getD,hkl]
        cases e1:rdyL g R L k with
        | false =>
          rw[if_neg (by rw[e1];simp)] at hs1
          simp[hkl,h3,o,hRl,hLl,hbor,hbf,e1,w1]
          exact Nxt.mk (k+1) (by omega) (by simp[hs1]) (by simp) (by omega)
        | true =>
          rcases hb with ⟨e2,_⟩ | ⟨b,e2,hbl,_⟩
          · rw[if_pos ⟨e1,.inl (by rw[e2];omega)⟩] at hs1
            simp[hkl,h3,o,hRl,hLl,hbor,hbf,e1,e2,w1]
            exact Nxt.mk (k+1) (by omega) (by simp[hs1]) (by simp) (by omega)
          · have hbn:b<g.length:=by omega
            have edb:dateG g (b:Int)=g[b].date:=by simp[dateG,List.getD,hbn]
            rw[e2,edk,edb] at hs1
            by_cases e4:g[b].date<g[k].date
            · rw[if_pos ⟨e1,.inr e4⟩] at hs1
              simp[hkl,hbn,show ¬(b:Int)<0 by omega,h3,o,hRl,hLl,hbor,hbf,e1,e2,getD_map,e4,w1]
              exact Nxt.mk (k+1) (by omega) (by simp[hs1]) (by simp) (by omega)
            · rw[if_neg (by rintro⟨_,h | h⟩;omega;exact e4 h)] at hs1
              simp[hkl,hbn,show ¬(b:Int)<0 by omega,h3,o,hRl,hLl,hbor,hbf,e1,e2,getD_map,e4,w1]
              exact Nxt.mk (k+1) (by omega) (by simp[hs1]) (by simp) (by omega)
      · have h9:k=g.length:=by omega
        subst h9
        rcases hb with ⟨e2,_⟩ | ⟨b,e2,hbl,hbr,hbm⟩
        · have hres:orderV g R=out:=by
            rw[← q1]
            cases fu with
            | zero=>rfl
            | succ f=>unfold orderGo;rw[if_pos (by rw[e2];omega)]
          simp[e2,hres]
        · cases fu with
          | zero =>
            have:=List.count_le_length (a:=true) (l:=L)
            omega
          | succ f =>
            unfold orderGo at q1
            rw[if_neg (by rw[e2];omega),e2,Int.toNat_natCast] at q1
            have hlb:=(rdyL_iff.1 hbr).1.2
            have hset:=bolC_set L b true
            have hbl2:=bolC_len L
            have hcnt:=set_cnt (L:=L) (i:=b) (by omega) hlb
            have hfs:flagL g.length (out++[(b:Int)])=L.set b true:=by rw[flagL_snoc,hL];rfl
            simp[e2,hbl,hbl2,hLl,hset,show ¬(b:Int)<0 by omega]
            refine⟨by unfold room;omega,Nxt.mk (⟨f,out++[(b:Int)]⟩:OrdX) (by simp) (by simp) (by simp[hfs]) ⟨by simp only[hfs];exact q1,q2.snoc hbl (by rw[hL];exact hbr) (by rw[hL];exact hbm),by simp only[hfs];omega⟩⟩
  · have hod:orderD g s=.tup [.nilsl,.int .i64 (dagC g)]:=by unfold orderD;rw[if_neg c0]
    simp[x_ref24_Order,h1,o,c0,hod]
structure OxX where
  i:Nat
  l:List Int
  out:List Int
  va:Nat
@[simp] def S_walk_Order:List D→Prop × D:=spec2 (α:=List CommitT) (β:=List Int) (fun g s=>GraphOk g∧s.length≤1048576) (fun g s=>orderD g s)
theorem ct_walk_Order {P:Program} {f g1 g2 g3 g4 g5 g6 g7 t:Nat} {G:Gam} (h:CodeOf P f 2 31 [2,3] (x_walk_Order g1 g2 g3 g4 g5 g6 g7 t)) (hG:GamOk P G) (h1:G.find g1=some S_dag_Check) (h2:G.find g2=some S_dag_Is) (h3:G.findR g3=some R_walk_history_children) (h4:G.findR g4=some (R_container_heap_Push t g7)) (h5:G.findR g5=some (R_walk_queue_Len g7)) (h6:G.findR g6=some (R_container_heap_Pop t g7)) (_:G.findR g7=some R_walk_history_before):Has P f S_walk_Order:=h.has2 hG fun g s hp=>by
  obtain⟨o,ps⟩:=hp
  have hlen:=o.1
  by_cases c0:dagC g=0
  · obtain⟨d1,d2,_⟩:=dagC_lim c0
    have hp32:=lim_par d1
    have hod:orderD g s=if startsB g.length s=true then .tup [Rep.to (orderV g (reachV (parG g) s)),.int .i64 0] else .tup [.nilsl,.int .i64 5]:=by unfold orderD;rw[if_pos c0]
    rw[hod]
    clear hod
    simp[x_walk_Order,h1,o,c0]
    refine vc_lp (σ:=Nat) (fun i=>i≤s.length∧∀k (hk:k<s.length),k<i→0≤s[k]∧s[k]<(g.length:Int)) (fun i=>s.length-i)
      (fun i=>[.d (Rep.to g),.d (Rep.to s),.any,.any,.any,.any,.any,.any,.any,.any,.any,.any,.any,.any,.any,.d (Rep.to s),.d (.int .i64 s.length),.d (.int .i64 i),.any,.any,.any,.any,.any,.any,.any,.any,.any,.any,.any,.any,.any]) (fun _=>[]) 0 (by simp) (by simp) ⟨by simp,by simp⟩ ?_
    rintro i ⟨hi,hn⟩
    by_cases hil:i<s.length
    · have w1:IntKind.i64.wrap ((i:Int)+1)=(i:Int)+1:=wrap_in (by omega) (by omega)
      by_cases q1:0≤s[i]∧s[i]<(g.length:Int)
      · have hnx:∀k (hk:k<s.length),k<i+1→0≤s[k]∧s[k]<(g.length:Int):=fun k hk hki=>by
          by_cases e2:k=i
          · subst e2;exact q1
          · exact hn k hk (by omega)
        simp[hil,getD_map,h2,q1,w1]
        exact Nxt.mk (i+1) (by omega) (by simp) (by simp) ⟨by omega,hnx⟩
      · have hz:startsB g.length s=false:=by
          unfold startsB
          rw[List.all_eq_false]
          exact⟨_,List.getElem_mem hil,by simpa using q1⟩
        simp[hil,getD_map,h2,q1,hz]
    · have h9:i=s.length:=by omega
      subst h9
      have hs:startsB g.length s=true:=by
        unfold startsB
        rw[List.all_eq_true]
        intro c hc
        obtain⟨k,hk,rfl⟩:=List.mem_iff_getElem.1 hc
        simpa using hn k hk hk
      have hrng:∀p,p∈s→0≤p∧p<(g.length:Int):=fun p hpm=>by
        obtain⟨k,hk,rfl⟩:=List.mem_iff_getElem.1 hpm
        exact hn k hk hk
      rw[if_pos hs]
      clear hn hi hil
      have hok:=relG_ok d2
      have hgl:=parG_len g
      have hpg:=fun c (h:c<g.length)=>parG_get h
      have hR:∀i,(reachV (parG g) s).getD i false=true→∀p,p∈parV (parG g) i→(reachV (parG g) s).getD p.toNat false=true:=fun i hi p hp=>by
        have hl:=reach_lt hi
        have:=hok.rng i hl p hp
        exact reach_closed hi hl hp (by omega)
      have hov:=orderV_ok g (reachV (parG g) s)
      have hch:=chR_remS (parG g) (reachV (parG g) s)
      simp[h3,eRCall,hlen,hp32,d2,ps,hrng]
      refine⟨⟨hp32,hrng⟩,?_⟩
      rw[hch]
      clear hch
      have hB:∀k,(parV (parG g) k).length≤32:=fun k=>by
        rcases Nat.lt_or_ge k g.length with h | h
        · rw[hpg k h];exact hp32 _ (List.getElem_mem h)
        · unfold parV;rw[List.getD,List.getElem?_eq_none (by rw[hgl];exact h)];simp
      rw[hgl]
      have hL0:List.replicate g.length false=flagL g.length []:=rfl
      rw[hL0]
      have hz0:=fun (R L:List Bool) (i:Nat) (hi:i<g.length)=>zero_rdy (g:=g) (R:=R) (L:=L) hi
      generalize hRR:reachV (parG g) s=R at *
      have hRl:∀i,R.getD i false=true→i<g.length:=fun i hi=>by rw[← hRR] at hi;have:=reach_lt hi;omega
      generalize hgp:parG g=gp at *
      refine vc_lpR (σ:=OxX) (fun x=>x.i≤g.length∧HpI g x.l (fun k=>decide (k<x.i) && zeroB gp R (flagL g.length []) g.length 0 k)) (fun x=>g.length-x.i)
        (fun x=>[.d (Rep.to g),.any,.any,.any,.any,.any,.any,.own 0 0 0 g.length,.ref 1 0 0 0,.any,.any,.any,.any,.any,.any,.any,.any,.any,.any,.any,.own 0 0 0 g.length,.d (.int .i64 g.length),.d (.int .i64 x.i),.any,.any,.any,.any,.any,.any,.any,.any])
        (fun x=>[.cells 0 1 (cntC (remS gp R (flagL g.length []) g.length 0)),.cells 0 2 [.agg [.own 2 x.va 0 x.l.length,.fn (.func g7) [.d (Rep.to g)] []]],.cells x.va 1 (cntC x.l)])
        ⟨0,[],[],0⟩ ?_ ⟨by simp,⟨fun k _ h=>by simp at h,by simp,fun x hx=>by simp at hx,fun i=>by simp⟩⟩ ?_
      · refine Re.weak (k:=[.cells 0 1 []]) (s':=[.cells 0 1 (cntC (remS gp R (flagL g.length []) g.length 0)),.cells 0 2 [.agg [.own 2 0 0 0,.fn (.func g7) [.d (Rep.to g)] []]]]) (by simp) (by simp) (by simp) ⟨.inl rfl,.cellsL ⟨⟨rfl,?_⟩,trivial⟩,trivial⟩
        exact⟨Wk.freshO 2 [.cells 0 1 []] 1 0 rfl,Wk.refl _ _ _,trivial⟩
      rintro⟨i,l,_,va⟩ ⟨hi,hh⟩
      simp only at hi hh
      have hll:=hh.len
      have hrsl:=remS_len gp R (flagL g.length []) g.length 0
      rw[hgl] at hrsl
      by_cases hil:i<g.length
      · have w1:IntKind.i64.wrap ((i:Int)+1)=(i:Int)+1:=wrap_in (by omega) (by omega)
        have hrg:=remS_get (g:=gp) (R:=R) (L:=flagL g.length []) (c:=g.length) (j:=0) (i:=i) (by omega)
        have gi:=cntC_get (l:=remS gp R (flagL g.length []) g.length 0) (i:=i) (by omega)
        obtain⟨_,gi2⟩:=List.getElem?_eq_some_iff.1 gi
        have hv2:(remS gp R (flagL g.length []) g.length 0)[i]'(by omega)=(remS gp R (flagL g.length []) g.length 0).getD i 0:=by simp[List.getD,hrsl,hil]
        rw[hv2,hrg] at gi gi2
        have hcl:=cntC_len (remS gp R (flagL g.length []) g.length 0)
        rw[hrsl] at hcl
        clear hv2 hrg
        cases hz:zeroB gp R (flagL g.length []) g.length 0 i with
        | true =>
          have hzz:=hz
          unfold zeroB at hzz
          rw[Bool.and_eq_true,Bool.and_eq_true,decide_eq_true_eq] at hzz
          rw[if_pos hzz.1,hzz.2.2] at gi gi2
          have hnx:=(hh.push hil (by simp)).congr (Q:=fun k=>decide (k<i+1) && zeroB gp R (flagL g.length []) g.length 0 k) (fun k hk=>by
            by_cases e:k=i
            · subst e;simp[hz]
            · have:decide (k<i+1)=decide (k<i):=by congr 1;simp;omega
              simp[e,this])
          generalize hbc:cntC (remS gp R (flagL g.length []) g.length 0)=bc at *
          simp[hil,hcl,gi,gi2,h4,eRCall,qS,hh.rng,show l.length≤90000 by omega,w1]
          have hpl:=(push_heap (befG_ok g) hh.heap (i:Int)).2.1
          exact⟨fun y hy=>hh.rng y hy,Nxt.mk (⟨i+1,pushL (befG g) l (i:Int),[],va+1⟩:OxX) (by simp;omega) (by simp) (by simp[hpl]) ⟨by simp;omega,hnx⟩⟩
        | false =>
          have hne:¬(if R.getD i false=true then (remR gp R (flagL g.length []) g.length 0 (i:Int):Int) else -1)=0:=fun h=>by
            unfold zeroB at hz
            split at h
            · rename_i hRi
              rw[hRi,show (flagL g.length []).getD i false=false from getD_rep _ _,show remR gp R (flagL g.length []) g.length 0 (i:Int)=0 by omega] at hz
              simp at hz
            · omega
          have hnx:=hh.congr (Q:=fun k=>decide (k<i+1) && zeroB gp R (flagL g.length []) g.length 0 k) (fun k hk=>by
            by_cases e:k=i
            · subst e;simp[hz]
            · have:decide (k<i+1)=decide (k<i):=by congr 1;simp;omega
              simp[this])
          generalize (if R.getD i false=true then (remR gp R (flagL g.length []) g.length 0 (i:Int):Int) else -1)=val at *
          generalize hbc:cntC (remS gp R (flagL g.length []) g.length 0)=bc at *
          simp[hil,hcl,gi,gi2,hne,w1]
          exact Nxt.mk (⟨i+1,l,[],va⟩:OxX) (by simp;omega) (by simp) (by simp) ⟨by simp;omega,hnx⟩
      · have h9:i=g.length:=by omega
        subst h9
        have hh:=hh.congr (Q:=zeroB gp R (flagL g.length []) g.length 0) (fun k hk=>by simp[hk])
        simp
        clear hi hil hll hrsl
        refine vc_lp (σ:=OxX) (fun x=>StepsOk g R x.out∧HpI g x.l (zeroB gp R (flagL g.length x.out) g.length 0)) (fun x=>g.length-x.out.length)
          (fun x=>[.d (Rep.to g),.any,.any,.any,.any,.any,.any,.own 0 0 0 g.length,.ref 1 0 0 0,.any,.any,.gr 3 1 (x.out.map Rep.to),.any,.any,.any,.any,.any,.any,.any,.any,.any,.any,.any,.any,.any,.any,.any,.any,.any,.any,.any])
          (fun x=>[.cells 0 1 (cntC (remS gp R (flagL g.length x.out) g.length 0)),.cells 0 2 [.agg [.own 2 x.va 0 x.l.length,.fn (.func g7) [.d (Rep.to g)] []]],.cells x.va 1 (cntC x.l),.tip x.out.length])
          ⟨0,l,[],va⟩ (by simp) (by simp) ⟨⟨fun k hk=>by simp at hk⟩,hh⟩ ?_
        clear hh
        rintro⟨i,l,out,va⟩ ⟨hst,hh⟩
        simp only at hst hh
        have hll:=hh.len
        have hol:=hst.len
        have hqok:QOk g l:=⟨by omega,hh.rng⟩
        by_cases hl0:l=[]
        · subst hl0
          have hres:orderV g R=out:=hov.uniq ⟨hst,fun c hc=>by
            rw[← hz0 R (flagL g.length out) c hc]
            cases hq:zeroB gp R (flagL g.length out) g.length 0 c with
            | false=>rfl
            | true=>exact absurd ((hh.mem c).2 ⟨hc,hq⟩) (by simp)⟩
          simp[h5,eRCall,qS,hqok,hres]
        · have hl1:0<l.length:=List.length_pos_iff.2 hl0
          obtain⟨c,hc0,hcg,hcz,hcm,hh2⟩:=hh.pop hl1
          obtain⟨_,hpl,_,hpr⟩:=pop_heap (befG_ok g) hh.heap hl1
          rw[hc0] at hpr
          have hcz2:=hcz
          unfold zeroB at hcz2
          rw[Bool.and_eq_true,Bool.and_eq_true,Bool.not_eq_true',decide_eq_true_eq] at hcz2
          have hrdy:rdyL g R (flagL g.length out) c=true:=by rw[← hz0 R _ c hcg];exact hcz
          have hst2:=hst.snoc hcg hrdy (fun i hi hr hne=>hcm i hi (by rw[hz0 R _ i hi];exact hr) hne)
          have hpc:=hpg c hcg
          have hdl:=downL_len (befG g) (l.length-1) _ 0 (swapL l 0 (l.length-1)) (Nat.le_refl _)
          rw[swapL_len] at hdl
          have htk:(cntC (downL (befG g) (swapL l 0 (l.length-1)) 0 (l.length-1))).take (l.length-1)=cntC (popL (befG g) l):=by simp[cntC,popL,List.map_take]
          have hcdl:=cntC_len (downL (befG g) (swapL l 0 (l.length-1)) 0 (l.length-1))
          have hpr2:(downL (befG g) (swapL l 0 (l.length-1)) 0 (l.length-1))[l.length-1]?.getD 0=(c:Int):=by simpa using hpr
          have hpr3:∀h,(downL (befG g) (swapL l 0 (l.length-1)) 0 (l.length-1))[l.length-1]'h=(c:Int):=fun h=>by rw[← hpr];simp[List.getD,h]
          generalize hdq:downL (befG g) (swapL l 0 (l.length-1)) 0 (l.length-1)=dl at *
          simp[h5,h6,eRCall,qS,hqok,hl0,hl1,eTassert,hpr2,hpr3,hdq,hdl,hcg,getD_map]
          obtain⟨L',hL'⟩:∃L',L'=flagL g.length (out++[(c:Int)]):=⟨_,rfl⟩
          have hLs:L'=(flagL g.length out).set c true:=by rw[hL',flagL_snoc];rfl
          have hcl':c<(flagL g.length out).length:=by rw[flagL_len];exact hcg
          have hrl:=fun i:Int=>remR_list (g:=gp) hcl' hcz2.1 hcz2.2.1 i
          rw[← hLs] at hrl
          rw[hgl] at hrl
          have hLc:L'.getD c false=true:=by rw[hLs,setB_get _ _ _ hcl',if_pos rfl]
          have hrs:remS gp R (flagL g.length out) g.length 0=remS gp R L' c 0:=by
            unfold remS
            refine List.map_congr_left fun i _=>?_
            rw[hrl]
          rw[hrs]
          have hh3:=hh2.congr (Q:=zeroB gp R L' c 0) (fun i hi=>by
            unfold zeroB
            rw[hrl,hLs,setB_get _ _ _ hcl']
            by_cases e:c=i
            · subst e;simp
            · have e2:¬i=c:=fun h=>e h.symm
              simp[e,e2])
          have hfresh:=fun p (hpl:p<g.length) (hpm:(p:Int)∈(g.getD c default).parents)=>hst2.fresh hcg hpm hpl
          rw[← hL'] at hfresh
          have egc:(g.getD c default).parents=g[c].parents:=by simp[List.getD,hcg]
          rw[egc] at hfresh
          have h32:=hp32 _ (List.getElem_mem hcg)
          generalize hps:g[c].parents=ps at *
          refine⟨by unfold room;omega,?_⟩
          refine vc_lpR (σ:=OxX) (fun x=>x.i≤ps.length∧HpI g x.l (zeroB gp R L' c x.i)) (fun x=>ps.length-x.i)
            (fun x=>[.d (Rep.to g),.any,.any,.any,.any,.any,.any,.own 0 0 0 g.length,.ref 1 0 0 0,.any,.any,.gr 3 1 ((out++[(c:Int)]).map Rep.to),.any,.any,.any,.any,.any,.any,.any,.any,.any,.any,.any,.any,.any,.any,.d (Rep.to ps),.d (.int .i64 ps.length),.d (.int .i64 x.i),.any,.any])
            (fun x=>[.cells 0 1 (cntC (remS gp R L' c x.i)),.cells 0 2 [.agg [.own 2 x.va 0 x.l.length,.fn (.func g7) [.d (Rep.to g)] []]],.cells x.va 1 (cntC x.l),.tip (out.length+1)])
            ⟨0,popL (befG g) l,[],va+1⟩ ?_ ⟨by simp,hh3⟩ ?_
          · simp only[hpl]
            refine Re.trans (Re.cut (T':=[.d (Rep.to g),.any,.any,.any,.any,.any,.any,.own 0 0 0 g.length,.ref 1 0 0 0,.any,.any,.gr 3 1 ((out++[(c:Int)]).map Rep.to),.any,.any,.any,.any,.any,.any,.any,.any,.any,.any,.any,.any,.any,.any,.d (Rep.to ps),.d (.int .i64 ps.length),.d (.int .i64 0),.any,.any])
              (s':=[.cells 0 1 (cntC (remS gp R L' c 0)),.cells 0 2 [.agg [.own 2 (va+1) 0 (l.length-1),.fn (.func g7) [.d (Rep.to g)] []]],.cells (va+1) 1 (cntC (popL (befG g) l)),.tip (out.length+1),.res])
              2 va 1 (l.length-1) (cntC dl) rfl (by rw[hcdl];omega) (by simp) ⟨rfl,fun k hk hne=>?_⟩ (by rw[htk];rfl)) (Sub.re ⟨by simp,by simp,by simp,.inr ⟨by simp,by simp⟩⟩)
            match k,hk,hne with
            | 0,_,_=>exact .inl rfl
            | 1,_,_ =>
              refine .inr ⟨0,2,_,_,rfl,rfl,rfl,fun i hi=>?_⟩
              have:i=0:=by simp at hi;omega
              subst this
              exact⟨rfl,by simp⟩
            | 2,_,hne=>exact absurd rfl hne
            | 3,_,_=>exact .inl rfl
            | 4,_,_=>exact .inl rfl
          clear hh hh2 hh3 hrs hrl hpr hpr2 hpr3 htk hcdl hdl hdq hcm hqok hll hl0 hl1 hpl
          rintro⟨j,l,_,va⟩ ⟨hj,hh⟩
          simp only at hj hh
          have hll:=hh.len
          have hol2:=remS_len gp R L' c j
          rw[hgl] at hol2
          by_cases hjl:j<ps.length
          · have w3:IntKind.i64.wrap ((j:Int)+1)=(j:Int)+1:=wrap_in (by omega) (by omega)
            have hpm:ps[j]∈parV gp c:=by rw[hpc];exact List.getElem_mem hjl
            have hin:=hok.rng c (by omega) _ hpm
            have hRp:R.getD ps[j].toNat false=true:=hR c hcz2.1 _ hpm
            have hpm2:ps[j]∈ps:=List.getElem_mem hjl
            obtain⟨p,hpp⟩:=Int.eq_ofNat_of_zero_le hin.1
            rw[hpp] at hin hRp hpm2
            simp only[Int.toNat_natCast] at hRp
            have hpg':p<g.length:=by omega
            have hpgp:p<gp.length:=by omega
            have hjp:j<(parV gp c).length:=by rw[hpc];exact hjl
            have hpj:(parV gp c)[j]=(p:Int):=by simp only[hpc];exact hpp
            have hLp:=hfresh p hpg' hpm2
            have hstp:=remR_step (i:=(p:Int)) (by omega) hcz2.1 hLc hjp
            rw[if_pos hpj] at hstp
            obtain⟨hs1,hs2⟩:=remS_step (by omega) hcz2.1 hLc hjp hpj hpgp hRp
            have hzp:zeroB gp R L' c j p=false:=by
              unfold zeroB
              rw[hstp]
              simp
            have hoth:∀i:Nat,i≠p→zeroB gp R L' c (j+1) i=zeroB gp R L' c j i:=fun i hne=>by
              have:=remR_step (i:=(i:Int)) (by omega) hcz2.1 hLc hjp
              rw[if_neg (by rw[hpj];omega),Nat.add_zero] at this
              unfold zeroB
              rw[this]
            have hrle:=remR_le hB R L' c (j+1) (p:Int)
            rw[hgl] at hrle
            have hset:=cntC_set (remS gp R L' c j) p ((remS gp R L' c j).getD p 0-1)
            rw[hs1] at hset
            have gi:=cntC_get (l:=remS gp R L' c j) (i:=p) (by omega)
            have hv2:(remS gp R L' c j)[p]'(by omega)=(remS gp R L' c j).getD p 0:=by simp[List.getD,hol2,hpg']
            rw[hv2] at gi
            obtain⟨_,gi2⟩:=List.getElem?_eq_some_iff.1 gi
            have hcl:=cntC_len (remS gp R L' c j)
            rw[hol2] at hcl
            have hv3:=remS_get (g:=gp) (R:=R) (L:=L') (c:=c) (j:=j+1) (i:=p) hpgp
            rw[if_pos hRp] at hv3
            have gj:=cntC_get (l:=remS gp R L' c (j+1)) (i:=p) (by rw[remS_len];omega)
            have hv4:(remS gp R L' c (j+1))[p]'(by rw[remS_len];omega)=(remS gp R L' c (j+1)).getD p 0:=by simp[List.getD,remS_len,hpgp]
            rw[hv4,hv3] at gj
            obtain⟨_,gj2⟩:=List.getElem?_eq_some_iff.1 gj
            have hcl2:=cntC_len (remS gp R L' c (j+1))
            rw[remS_len,hgl] at hcl2
            clear hv2 hv4 hs1 hv3
            rw[hs2] at hset
            generalize (remS gp R L' c j).getD p 0=val at *
            have hvn:val=(remR gp R L' c (j+1) (p:Int):Int)+1:=by omega
            have w4:IntKind.i64.wrap (val-1)=(remR gp R L' c (j+1) (p:Int):Int):=by rw[wrap_in (by omega) (by omega)];omega
            generalize hrn:remR gp R L' c (j+1) (p:Int)=rn at *
            generalize hb1:cntC (remS gp R L' c j)=bc1 at *
            generalize hb2:cntC (remS gp R L' c (j+1))=bc2 at *
            by_cases e0:rn=0
            · subst e0
              have hnx:=(hh.push hpg' hzp).congr (Q:=zeroB gp R L' c (j+1)) (fun i hi=>by
                by_cases e:i=p
                · subst e
                  unfold zeroB
                  rw[hrn,hRp,hLp]
                  simp
                · rw[hoth i e];simp[e])
              have hpl:=(push_heap (befG_ok g) hh.heap (p:Int)).2.1
              have hset':bc1.set p (A.d (D.int .i64 0))=bc2:=hset
              simp[hjl,getD_map,hpp,hcl,hcl2,gi,gi2,gj,gj2,hpg',w4,hset',h4,eRCall,qS,show l.length≤90000 by omega,w3]
              exact⟨fun y hy=>hh.rng y hy,Nxt.mk (⟨j+1,pushL (befG g) l (p:Int),[],va+1⟩:OxX) (by simp;omega) (by simp) (by simp[hpl,hb2]) ⟨by simp;omega,hnx⟩⟩
            · have hnx:=hh.congr (Q:=zeroB gp R L' c (j+1)) (fun i hi=>by
                by_cases e:i=p
                · subst e
                  rw[hzp]
                  unfold zeroB
                  rw[hrn]
                  simp[e0]
                · rw[hoth i e])
              simp[hjl,getD_map,hpp,hcl,hcl2,gi,gi2,gj,gj2,hpg',w4,hset,e0,w3]
              exact Nxt.mk (⟨j+1,l,[],va⟩:OxX) (by simp;omega) (by simp) (by simp[hb2]) ⟨by simp;omega,hnx⟩
          · have h9:j=ps.length:=by omega
            subst h9
            have hfin:=fun i:Int=>remR_next gp R L' c i
            rw[hpc,hgl] at hfin
            have hrs2:remS gp R L' c ps.length=remS gp R L' g.length 0:=by
              unfold remS
              refine List.map_congr_left fun i _=>?_
              rw[hfin]
            have hh2:=hh.congr (Q:=zeroB gp R L' g.length 0) (fun i hi=>by unfold zeroB;rw[hfin])
            rw[hrs2]
            have hol3:=hst2.len
            simp at hol3
            simp
            exact Nxt.mk (⟨0,l,out++[(c:Int)],va⟩:OxX) (by simp;omega) (by simp) (by simp[hL']) ⟨hst2,by rw[← hL'];exact hh2⟩
  · have hod:orderD g s=.tup [.nilsl,.int .i64 (dagC g)]:=by unfold orderD;rw[if_neg c0]
    simp[x_walk_Order,h1,o,c0,hod]
def lvStep (l:List Int) (c:Nat) (p:Int):List Int:=l.set c (max (l.getD c 0) (l.getD p.toNat 0+1))
def lvC (g:List (List Int)) (l:List Int) (c:Nat):List Int:=(parV g c).foldl (fun l p=>lvStep l c p) l
def lvRound (g:List (List Int)) (l:List Int) (n:Nat):List Int:=(List.range n).foldl (lvC g) l
def lvRounds (g:List (List Int)):Nat→List Int
  | 0=>List.replicate g.length 0
  | k+1=>lvRound g (lvRounds g k) g.length
def levelsV (g:List (List Int)):List Int:=lvRounds g g.length
theorem lvStep_len (l:List Int) (c:Nat) (p:Int):(lvStep l c p).length=l.length:=by simp[lvStep]
theorem lvFold_len (c:Nat):∀(ps:List Int) (l:List Int),(ps.foldl (fun l p=>lvStep l c p) l).length=l.length
  | [],l=>rfl
  | p::ps,l=>by rw[List.foldl_cons,lvFold_len c ps,lvStep_len]
theorem lvC_len (g:List (List Int)) (l:List Int) (c:Nat):(lvC g l c).length=l.length:=lvFold_len c _ _
theorem lvRound_succ (g:List (List Int)) (l:List Int) (n:Nat):lvRound g l (n+1)=lvC g (lvRound g l n) n:=by
  unfold lvRound
  rw[List.range_succ,List.foldl_append]
  rfl
theorem lvRound_len (g:List (List Int)) (l:List Int):∀n,(lvRound g l n).length=l.length
  | 0=>rfl
  | n+1=>by rw[lvRound_succ,lvC_len,lvRound_len g l n]
theorem lvRounds_len (g:List (List Int)):∀k,(lvRounds g k).length=g.length
  | 0=>by simp[lvRounds]
  | k+1=>by rw[lvRounds,lvRound_len,lvRounds_len g k]
theorem getI_set (l:List Int) (c i:Nat) (x:Int) (hc:c<l.length):(l.set c x).getD i 0=if c=i then x else l.getD i 0:=by
  by_cases e:c=i
  · subst e;simp[List.getD,hc]
  · rw[if_neg e];simp[List.getD,List.getElem?_set_ne e]
structure Fix (g:List (List Int)) (h:List Int):Prop where
  len:h.length=g.length
  ge:∀c,c<g.length→∀p,p∈parV g c→h.getD p.toNat 0+1≤h.getD c 0
  nn:∀c,0≤h.getD c 0
  ex:∀c,c<g.length→0<h.getD c 0→∃p,p∈parV g c∧h.getD p.toNat 0+1=h.getD c 0
def LeI (a b:List Int):Prop:=∀i,a.getD i 0≤b.getD i 0
theorem lvStep_up {l:List Int} {c:Nat} (hc:c<l.length) (p:Int):LeI l (lvStep l c p):=fun i=>by
  unfold lvStep
  rw[getI_set _ _ _ _ hc]
  split
  · rename_i e;subst e;omega
  · omega
theorem lvFold_up {c:Nat}:∀(ps:List Int) (l:List Int),c<l.length→LeI l (ps.foldl (fun l p=>lvStep l c p) l)
  | [],l,_=>fun i=>Int.le_refl _
  | p::ps,l,hc=>fun i=>by
    rw[List.foldl_cons]
    exact Int.le_trans (lvStep_up hc p i) (lvFold_up ps _ (by rw[lvStep_len];exact hc) i)
theorem lvRound_up {g:List (List Int)} {l:List Int} (hl:l.length=g.length):∀n,n≤g.length→LeI l (lvRound g l n)
  | 0,_=>fun i=>Int.le_refl _
  | n+1,h=>fun i=>by
    rw[lvRound_succ]
    exact Int.le_trans (lvRound_up hl n (by omega) i) (lvFold_up _ _ (by rw[lvRound_len];omega) i)
theorem lvFold_below {g:List (List Int)} {h:List Int} (hf:Fix g h) {c:Nat} (hc:c<g.length):∀(ps:List Int) (l:List Int),l.length=g.length→(∀p,p∈ps→p∈parV g c)→LeI l h→LeI (ps.foldl (fun l p=>lvStep l c p) l) h
  | [],l,_,_,hl=>hl
  | p::ps,l,hlen,hps,hl=>by
    rw[List.foldl_cons]
    refine lvFold_below hf hc ps _ (by rw[lvStep_len];exact hlen) (fun q hq=>hps q (by simp[hq])) fun i=>?_
    unfold lvStep
    rw[getI_set _ _ _ _ (by omega)]
    split
    · rename_i e
      subst e
      have h1:=hl c
      have h2:=hl p.toNat
      have h3:=hf.ge c hc p (hps p (by simp))
      omega
    · exact hl i
theorem lvRound_below {g:List (List Int)} {h:List Int} (hf:Fix g h) {l:List Int} (hlen:l.length=g.length) (hl:LeI l h):∀n,n≤g.length→LeI (lvRound g l n) h
  | 0,_=>hl
  | n+1,hn=>by
    rw[lvRound_succ]
    exact lvFold_below hf (by omega) _ _ (by rw[lvRound_len];exact hlen) (fun p hp=>hp) (lvRound_below hf hlen hl n (by omega))
theorem lvRounds_below {g:List (List Int)} {h:List Int} (hf:Fix g h):∀k,LeI (lvRounds g k) h
  | 0=>fun i=>by
    have:(lvRounds g 0).getD i 0=0:=by
      show (List.replicate g.length (0:Int)).getD i 0=0
      by_cases hi:i<g.length <;> simp[List.getD,hi]
    rw[this]
    exact hf.nn i
  | k+1=>lvRound_below hf (lvRounds_len g k) (lvRounds_below hf k) _ (Nat.le_refl _)
theorem lvFold_get {c:Nat}:∀(ps:List Int) (l:List Int),c<l.length→∀p,p∈ps→p.toNat≠c→l.getD p.toNat 0+1≤(ps.foldl (fun l p=>lvStep l c p) l).getD c 0
  | [],_,_,p,hp,_=>by cases hp
  | q::ps,l,hc,p,hp,hpc=>by
    rw[List.foldl_cons]
    rcases List.mem_cons.1 hp with rfl | hp
    · refine Int.le_trans ?_ (lvFold_up ps _ (by rw[lvStep_len];exact hc) c)
      unfold lvStep
      rw[getI_set _ _ _ _ hc,if_pos rfl]
      omega
    · refine Int.le_trans ?_ (lvFold_get ps _ (by rw[lvStep_len];exact hc) p hp hpc)
      have:=lvStep_up hc q p.toNat
      omega
theorem lvRounds_above {g:List (List Int)} {h:List Int} (hg:DagOk g) (hf:Fix g h):∀(k c:Nat),c<g.length→h.getD c 0≤k→h.getD c 0≤(lvRounds g k).getD c 0
  | 0,c,hc,hk=>by
    have:(lvRounds g 0).getD c 0=0:=by
      show (List.replicate g.length (0:Int)).getD c 0=0
      simp[List.getD,hc]
    omega
  | k+1,c,hc,hk=>by
    by_cases h0:0<h.getD c 0
    · obtain⟨p,hp,e⟩:=hf.ex c hc h0
      have hpl:p.toNat<g.length:=by have:=hg.rng c hc p hp;omega
      have hpc:p.toNat≠c:=fun e2=>by rw[e2] at e;omega
      have ih:=lvRounds_above hg hf k p.toNat hpl (by omega)
      have hlen:=lvRounds_len g k
      have h1:h.getD p.toNat 0+1≤(lvRound g (lvRounds g k) (c+1)).getD c 0:=by
        rw[lvRound_succ]
        have h2:=lvFold_get (parV g c) (lvRound g (lvRounds g k) c) (by rw[lvRound_len];omega) p hp hpc
        have h3:=lvRound_up hlen c (by omega) p.toNat
        unfold lvC
        omega
      have h4:∀d,c+1+d≤g.length→(lvRound g (lvRounds g k) (c+1)).getD c 0≤(lvRound g (lvRounds g k) (c+1+d)).getD c 0:=by
        intro d
        induction d with
        | zero=>intro _;exact Int.le_refl _
        | succ d ih =>
          intro hd
          refine Int.le_trans (ih (by omega)) ?_
          rw[show c+1+(d+1)=(c+1+d)+1 by omega,lvRound_succ]
          exact lvFold_up _ _ (by rw[lvRound_len];omega) c
      have h5:=h4 (g.length-(c+1)) (by omega)
      rw[show c+1+(g.length-(c+1))=g.length by omega] at h5
      show _≤(lvRound g (lvRounds g k) g.length).getD c 0
      omega
    · have h1:=hf.nn c
      have h2:(0:Int)≤(lvRounds g (k+1)).getD c 0:=by
        have h3:∀m i,(0:Int)≤(lvRounds g m).getD i 0:=by
          intro m
          induction m with
          | zero =>
            intro i
            show (0:Int)≤(List.replicate g.length (0:Int)).getD i 0
            by_cases hi:i<g.length <;> simp[List.getD,hi]
          | succ m ih=>intro i;exact Int.le_trans (ih i) (lvRound_up (lvRounds_len g m) _ (Nat.le_refl _) i)
        exact h3 _ _
      omega
theorem fix_chain {g:List (List Int)} {h:List Int} (hg:DagOk g) (hf:Fix g h):∀(m c:Nat),c<g.length→h.getD c 0=m→∃L:List Int,L.Nodup∧(∀x,x∈L→0≤x∧x<(g.length:Int)∧h.getD x.toNat 0≤m)∧L.length=m+1
  | 0,c,hc,e=>⟨[(c:Int)],by simp,fun x hx=>by
      rw[List.mem_singleton] at hx
      subst hx
      refine⟨by omega,by omega,?_⟩
      rw[Int.toNat_natCast,e]
      exact Int.le_refl _,by simp⟩
  | m+1,c,hc,e=>by
    obtain⟨p,hp,e2⟩:=hf.ex c hc (by omega)
    have hr:=hg.rng c hc p hp
    obtain⟨L,h1,h2,h3⟩:=fix_chain hg hf m p.toNat (by omega) (by omega)
    refine⟨(c:Int)::L,List.nodup_cons.2 ⟨fun hm=>?_,h1⟩,fun x hx=>?_,by simp[h3]⟩
    · have:=(h2 _ hm).2.2
      simp only[Int.toNat_natCast] at this
      omega
    · rcases List.mem_cons.1 hx with rfl | hx
      · simp only[Int.toNat_natCast]
        omega
      · have:=h2 x hx
        omega
theorem levels_fix {g:List (List Int)} {h:List Int} (hg:DagOk g) (hf:Fix g h):levelsV g=h:=by
  refine getD_ext (by unfold levelsV;rw[lvRounds_len,hf.len]) fun i hi=>?_
  have hi:i<g.length:=by unfold levelsV at hi;rw[lvRounds_len] at hi;exact hi
  have hn:=hf.nn i
  obtain⟨m,hm⟩:=Int.eq_ofNat_of_zero_le hn
  obtain⟨L,h1,h2,h3⟩:=fix_chain hg hf m i hi hm
  have hb:=nodup_le g.length L h1 fun x hx=>⟨(h2 x hx).1,(h2 x hx).2.1⟩
  have a:=lvRounds_below hf g.length i
  have b:=lvRounds_above hg hf g.length i hi (by omega)
  unfold levelsV
  omega
/-! ### levels by the order: parents first -/
theorem lvFold_other {c:Nat}:∀(ps:List Int) (l:List Int),c<l.length→∀i,i≠c→(ps.foldl (fun l p=>lvStep l c p) l).getD i 0=l.getD i 0
  | [],_,_,_,_=>rfl
  | p::ps,l,hc,i,hi=>by
    rw[List.foldl_cons,lvFold_other ps _ (by rw[lvStep_len];exact hc) i hi]
    unfold lvStep
    rw[getI_set _ _ _ _ hc,if_neg (fun e=>hi e.symm)]
theorem lvFold_val {c:Nat}:∀(ps:List Int) (l:List Int),c<l.length→(∀p,p∈ps→p.toNat≠c)→(ps.foldl (fun l p=>lvStep l c p) l).getD c 0=l.getD c 0∨∃p,p∈ps∧(ps.foldl (fun l p=>lvStep l c p) l).getD c 0=l.getD p.toNat 0+1
  | [],_,_,_=>.inl rfl
  | q::ps,l,hc,hp=>by
    rw[List.foldl_cons]
    have hqc:=hp q (by simp)
    have e1:(lvStep l c q).getD c 0=max (l.getD c 0) (l.getD q.toNat 0+1):=by unfold lvStep;rw[getI_set _ _ _ _ hc,if_pos rfl]
    have e2:∀i,i≠c→(lvStep l c q).getD i 0=l.getD i 0:=fun i hi=>by unfold lvStep;rw[getI_set _ _ _ _ hc,if_neg (fun e=>hi e.symm)]
    rcases lvFold_val ps (lvStep l c q) (by rw[lvStep_len];exact hc) (fun p h=>hp p (by simp[h])) with h | ⟨p,h1,h2⟩
    · rw[h,e1]
      by_cases e:l.getD q.toNat 0+1≤l.getD c 0
      · exact .inl (by omega)
      · exact .inr ⟨q,by simp,by omega⟩
    · exact .inr ⟨p,by simp[h1],by rw[h2,e2 _ (hp p (by simp[h1]))]⟩
theorem full_mem {n:Nat} {l:List Int} (hn:l.Nodup) (hr:∀x,x∈l→0≤x∧x<(n:Int)) (hl:l.length=n):∀i:Nat,i<n→(i:Int)∈l:=fun i hi=>by
  apply Classical.byContradiction
  intro h
  have:=nodup_le n ((i:Int)::l) (List.nodup_cons.2 ⟨h,hn⟩) (fun x hx=>by
    rcases List.mem_cons.1 hx with rfl | hx
    · omega
    · exact hr x hx)
  simp at this
  omega
def hUpM (g:List (List Int)) (m:Nat):List Int:=((upV g).reverse.take m).foldl (fun l c=>lvC g l c.toNat) (List.replicate g.length 0)
theorem hUpM_len (g:List (List Int)):∀m,(hUpM g m).length=g.length:=by
  intro m
  unfold hUpM
  have:∀(cs:List Int) (l:List Int),(cs.foldl (fun l c=>lvC g l c.toNat) l).length=l.length:=by
    intro cs
    induction cs with
    | nil=>intro l;rfl
    | cons c cs ih=>intro l;rw[List.foldl_cons,ih,lvC_len]
  rw[this]
  simp
theorem up_after {g:List (List Int)} (hg:DagOk g) {a b:Nat} (ha:a<(upV g).length) (hb:b<(upV g).length) (h:(upV g)[b]∈parV g (upV g)[a].toNat):a<b:=by
  obtain⟨cnt,hi⟩:=up_inv hg
  have hr:=hi.rng _ (List.getElem_mem ha)
  obtain⟨k,hk,_,e⟩:=hi.ord b hb (upV g)[a].toNat (by omega) h
  have hkl:k<(upV g).length:=by omega
  rw[List.getElem?_eq_getElem hkl] at e
  have e2:(upV g)[k]=(upV g)[a]:=by have:=Option.some.inj e;omega
  have:=(List.nodup_iff_pairwise_ne.1 hi.nd)
  rw[List.pairwise_iff_getElem] at this
  rcases Nat.lt_trichotomy k a with h1 | h1 | h1
  · exact absurd e2 (this k a hkl ha h1)
  · omega
  · exact absurd e2.symm (this a k ha hkl h1)
structure LvI (g:List (List Int)) (h:List Int) (m:Nat):Prop where
  nn:∀i,0≤h.getD i 0
  zero:∀a (ha:a<(upV g).length),a<(upV g).length-m→h.getD (upV g)[a].toNat 0=0
  ge:∀a (ha:a<(upV g).length),(upV g).length-m≤a→∀p,p∈parV g (upV g)[a].toNat→h.getD p.toNat 0+1≤h.getD (upV g)[a].toNat 0
  ex:∀a (ha:a<(upV g).length),(upV g).length-m≤a→0<h.getD (upV g)[a].toNat 0→∃p,p∈parV g (upV g)[a].toNat∧h.getD p.toNat 0+1=h.getD (upV g)[a].toNat 0
theorem hUpM_inv {g:List (List Int)} (hg:DagOk g) (hfull:(upV g).length=g.length):∀m,m≤g.length→LvI g (hUpM g m) m
  | 0,_=>by
    have h0:∀i,(hUpM g 0).getD i 0=0:=fun i=>by
      show (List.replicate g.length (0:Int)).getD i 0=0
      by_cases hi:i<g.length <;> simp[List.getD,hi]
    exact⟨fun i=>by rw[h0];exact Int.le_refl _,fun a _ _=>h0 _,fun a _ h=>by omega,fun a _ h=>by omega⟩
  | m+1,hm=>by
    have ih:=hUpM_inv hg hfull m (by omega)
    obtain⟨cnt,hi⟩:=up_inv hg
    have hk:g.length-1-m<(upV g).length:=by omega
    have hstep:hUpM g (m+1)=lvC g (hUpM g m) (upV g)[g.length-1-m].toNat:=by
      unfold hUpM
      have hml:m<(upV g).reverse.length:=by simp;omega
      rw[List.take_succ_eq_append_getElem hml,List.foldl_append]
      simp only[List.foldl_cons,List.foldl_nil,List.getElem_reverse]
      congr 3
      omega
    have hlen:=hUpM_len g m
    generalize hUpM g m=l at *
    have hnd:=(List.nodup_iff_pairwise_ne.1 hi.nd)
    rw[List.pairwise_iff_getElem] at hnd
    have hrng:=fun a (ha:a<(upV g).length)=>hi.rng _ (List.getElem_mem ha)
    have hcr:=hrng _ hk
    generalize hcc:(upV g)[g.length-1-m]=cI at *
    have hcl:cI.toNat<l.length:=by omega
    have hall:=full_mem hi.nd hi.rng hfull
    have hidx:∀p,0≤p→p<(g.length:Int)→∃b,∃hb:b<(upV g).length,(upV g)[b]=p:=fun p h0 h1=>by
      have:=hall p.toNat (by omega)
      rw[show ((p.toNat:Nat):Int)=p by omega] at this
      obtain⟨b,hb,e⟩:=List.mem_iff_getElem.1 this
      exact⟨b,hb,e⟩
    have hparc:∀p,p∈parV g cI.toNat→p.toNat≠cI.toNat:=fun p hp e=>by
      have hr:=hg.rng cI.toNat (by omega) p hp
      have:=up_after hg hk hk (by rw[hcc];rw[show cI=p by omega];rw[show p=cI by omega] at hp ⊢;exact hp)
      omega
    have hne:∀a (ha:a<(upV g).length),a≠g.length-1-m→(upV g)[a].toNat≠cI.toNat:=fun a ha hne e=>by
      have h1:=hrng a ha
      have e2:(upV g)[a]=(upV g)[g.length-1-m]:=by rw[hcc];omega
      rcases Nat.lt_trichotomy a (g.length-1-m) with h | h | h
      · exact hnd a _ ha hk h e2
      · exact hne h
      · exact hnd _ a hk ha h e2.symm
    have hoth:=fun i (h:i≠cI.toNat)=>lvFold_other (parV g cI.toNat) l hcl i h
    have hval:=lvFold_val (parV g cI.toNat) l hcl hparc
    have hget:=fun p hp=>lvFold_get (parV g cI.toNat) l hcl p hp (hparc p hp)
    have hc0:l.getD cI.toNat 0=0:=by rw[← hcc];exact ih.zero _ hk (by omega)
    rw[hstep]
    unfold lvC
    generalize (parV g cI.toNat).foldl (fun l p=>lvStep l cI.toNat p) l=h' at *
    refine⟨fun i=>?_,fun a ha h=>?_,fun a ha h p hp=>?_,fun a ha h hpos=>?_⟩
    · by_cases e:i=cI.toNat
      · subst e
        rcases hval with h | ⟨p,_,h⟩
        · rw[h];exact ih.nn _
        · rw[h];have:=ih.nn p.toNat;omega
      · rw[hoth i e];exact ih.nn i
    · rw[hoth _ (hne a ha (by omega))]
      exact ih.zero a ha (by omega)
    · by_cases e:a=g.length-1-m
      · subst e
        rw[hcc] at hp ⊢
        rw[hoth _ (hparc p hp)]
        exact hget p hp
      · have hr:=hg.rng (upV g)[a].toNat (by have:=hrng a ha;omega) p hp
        obtain⟨b,hb,rfl⟩:=hidx p hr.1 hr.2
        have hab:=up_after hg ha hb hp
        rw[hoth _ (hne a ha e),hoth _ (hne b hb (by omega))]
        exact ih.ge a ha (by clear hval;omega) _ hp
    · by_cases e:a=g.length-1-m
      · subst e
        rw[hcc] at hpos ⊢
        rcases hval with h | ⟨p,hp,h⟩
        · rw[h,hc0] at hpos;omega
        · exact⟨p,hp,by rw[h,hoth _ (hparc p hp)]⟩
      · rw[hoth _ (hne a ha e)] at hpos ⊢
        obtain⟨p,hp,e2⟩:=ih.ex a ha (by clear hval;omega) hpos
        refine⟨p,hp,?_⟩
        have hr:=hg.rng (upV g)[a].toNat (by have:=hrng a ha;omega) p hp
        obtain⟨b,hb,rfl⟩:=hidx p hr.1 hr.2
        have hab:=up_after hg ha hb hp
        rw[hoth _ (hne b hb (by omega))]
        exact e2
theorem hUp_fix {g:List (List Int)} (hg:DagOk g) (hfull:(upV g).length=g.length):Fix g (hUpM g g.length):=by
  have h:=hUpM_inv hg hfull g.length (Nat.le_refl _)
  obtain⟨cnt,hi⟩:=up_inv hg
  have hall:=full_mem hi.nd hi.rng hfull
  have hidx:∀c:Nat,c<g.length→∃a,∃ha:a<(upV g).length,(upV g)[a].toNat=c:=fun c hc=>by
    obtain⟨b,hb,e⟩:=List.mem_iff_getElem.1 (hall c hc)
    exact⟨b,hb,by rw[e];simp⟩
  refine⟨hUpM_len g _,fun c hc p hp=>?_,h.nn,fun c hc hpos=>?_⟩
  · obtain⟨a,ha,rfl⟩:=hidx c hc
    exact h.ge a ha (by omega) p hp
  · obtain⟨a,ha,rfl⟩:=hidx c hc
    exact h.ex a ha (by omega) hpos
theorem fix_le {g:List (List Int)} {h:List Int} (hg:DagOk g) (hf:Fix g h) (i:Nat):h.getD i 0≤g.length:=by
  rcases Nat.lt_or_ge i g.length with hi | hi
  · have hn:=hf.nn i
    obtain⟨m,hm⟩:=Int.eq_ofNat_of_zero_le hn
    obtain⟨L,h1,h2,h3⟩:=fix_chain hg hf m i hi hm
    have:=nodup_le g.length L h1 fun x hx=>⟨(h2 x hx).1,(h2 x hx).2.1⟩
    omega
  · have:h.getD i 0=0:=by simp[List.getD,List.getElem?_eq_none (show h.length≤i by rw[hf.len];exact hi)]
    omega
theorem hUpM_succ {g:List (List Int)} (hfull:(upV g).length=g.length) {m:Nat} (hm:m<g.length):hUpM g (m+1)=lvC g (hUpM g m) ((upV g).getD (g.length-1-m) 0).toNat:=by
  have hgd:(upV g).getD (g.length-1-m) 0=(upV g)[g.length-1-m]'(by omega):=by simp[List.getD,show g.length-1-m<(upV g).length by omega]
  rw[hgd]
  unfold hUpM
  have hml:m<(upV g).reverse.length:=by simp;omega
  rw[List.take_succ_eq_append_getElem hml,List.foldl_append]
  simp only[List.foldl_cons,List.foldl_nil,List.getElem_reverse]
  congr 3
  omega
structure BdL (g:List (List Int)) (h l:List Int):Prop where
  len:l.length=g.length
  nn:∀i,0≤l.getD i 0
  le:LeI l h
theorem BdL.step {g:List (List Int)} {h l:List Int} (hf:Fix g h) (hb:BdL g h l) {c:Nat} (hc:c<g.length) {p:Int} (hp:p∈parV g c):BdL g h (lvStep l c p) :=
  ⟨by rw[lvStep_len];exact hb.len,fun i=>Int.le_trans (hb.nn i) (lvStep_up (by rw[hb.len];exact hc) p i),lvFold_below hf hc [p] l hb.len (fun q hq=>by rw[List.mem_singleton.1 hq];exact hp) hb.le⟩
theorem BdL.zero {g:List (List Int)} {h:List Int} (hf:Fix g h):BdL g h (List.replicate g.length 0):=by
  have h0:∀i,(List.replicate g.length (0:Int)).getD i 0=0:=fun i=>by by_cases hi:i<g.length <;> simp[List.getD,hi]
  exact⟨by simp,fun i=>by rw[h0];exact Int.le_refl _,fun i=>by rw[h0];exact hf.nn i⟩
def levelsD (g:List CommitT):D:=if dagC g=0 then .tup [Rep.to (levelsV (parG g)),.int .i64 0] else .tup [.nilsl,.int .i64 (dagC g)]
theorem bor_ints (s:Store) (j v:Nat) (l:List Int) (h:s.getD j .dead=.cells v 1 (cntC l)):bor s (.own j v 0 l.length)=(True,Rep.to l):=bor_map s j v 1 l h
structure LvX where
  m:Nat
  l:List Int
@[simp] def S_walk_Levels:List D→Prop × D:=spec1 (α:=List CommitT) (fun g=>GraphOk g) (fun g=>levelsD g)
theorem ct_walk_Levels {P:Program} {f g1 g2:Nat} {G:Gam} (h:CodeOf P f 1 15 [1,2] (x_walk_Levels g1 g2)) (hG:GamOk P G) (h1:G.find g1=some S_dag_Check) (h2:G.find g2=some S_dag_Upward):Has P f S_walk_Levels:=h.has1 hG fun g o=>by
  have hlen:=o.1
  by_cases c0:dagC g=0
  · obtain⟨d1,d2,d3,_⟩:=dagC_lim c0
    have hp32:∀c,c∈g→c.parents.length≤1000:=fun c hc=>by have:=lim_par d1 c hc;omega
    have hok:=relG_ok d2
    have hgl:=parG_len g
    have hpg:=fun c (h:c<g.length)=>parG_get h
    have hfix:=hUp_fix hok (by rw[hgl];exact d3)
    have hfle:=fix_le hok hfix
    have hlv:=levels_fix hok hfix
    have hld:levelsD g=.tup [Rep.to (hUpM (parG g) g.length),.int .i64 0]:=by unfold levelsD;rw[if_pos c0,hlv,hgl]
    rw[hld]
    clear hld hlv
    simp[x_walk_Levels,h1,h2,o,c0,hlen,d2,d3]
    refine⟨⟨by unfold room;omega,by omega⟩,hp32,?_⟩
    have hsucc:=fun m hm=>hUpM_succ (g:=parG g) (m:=m) (by rw[hgl];exact d3) hm
    obtain⟨cnt,hi⟩:=up_inv hok
    have hurng:=hi.rng
    clear hi
    generalize hgp:parG g=gp at *
    rw[hgl] at hfle hfix hsucc hurng
    generalize hH:hUpM gp g.length=H at *
    have hw:IntKind.i64.wrap ((g.length:Int)-1)=(g.length:Int)-1-(0:Nat):=by rw[wrap_in (by omega) (by omega)];omega
    rw[hw]
    refine vc_lp (σ:=LvX) (fun x=>x.m≤g.length∧x.l=hUpM gp x.m∧BdL gp H x.l) (fun x=>g.length-x.m)
      (fun x=>[.d (Rep.to g),.any,.any,.any,.own 0 0 0 g.length,.d (Rep.to (upV gp)),.d (.int .i64 ((g.length:Int)-1-x.m)),.any,.any,.any,.any,.any,.any,.any,.any])
      (fun x=>[.cells 0 1 (cntC x.l)]) ⟨0,List.replicate g.length 0⟩ (by simp) (by simp[cntC]) ⟨by simp,by simp[hUpM,hgl],by have:=BdL.zero hfix;rw[hgl] at this;exact this⟩ ?_
    rintro⟨m,l⟩ ⟨q1,q2,q3⟩
    simp only at q1 q2 q3
    have hll:=q3.len
    rw[hgl] at hll
    by_cases hm:m<g.length
    · have hk:g.length-1-m<(upV gp).length:=by omega
      have hkI:((g.length:Int)-1-m).toNat=g.length-1-m:=by omega
      have w1:IntKind.i64.wrap ((g.length:Int)-1-m-1)=(g.length:Int)-1-(m+1:Nat):=by rw[wrap_in (by omega) (by omega)];omega
      have hs:=hsucc m (by omega)
      rw[← q2,show (upV gp).getD (g.length-1-m) 0=(upV gp)[g.length-1-m] by simp[List.getD,hk]] at hs
      have hcr:=hurng _ (List.getElem_mem hk)
      generalize hcc:(upV gp)[g.length-1-m]=cI at *
      have hidx:(upV gp)[g.length-1-m]'hk=cI:=hcc
      obtain⟨c,rfl⟩:=Int.eq_ofNat_of_zero_le hcr.1
      simp only[Int.toNat_natCast] at hs
      have hcg:c<g.length:=by omega
      have hpc:=hpg c hcg
      have hpl:=hp32 _ (List.getElem_mem hcg)
      have hprng:=fun p hp=>hok.rng c (by omega) p hp
      rw[hpc] at hprng
      unfold lvC at hs
      rw[hpc] at hs
      simp[show (m:Int)≤(g.length:Int)-1 by omega,show (g.length:Int)-1-m<(g.length:Int) by omega,hkI,hk,d3,show g.length-1-m<g.length by omega,getD_map,hidx,hcg]
      have hps:∀p,p∈g[c].parents→p∈parV gp c:=fun p hp=>by rw[hpc];exact hp
      generalize g[c].parents=ps at *
      refine vc_lp (σ:=LvX) (fun x=>x.m≤ps.length∧x.l=(ps.take x.m).foldl (fun l p=>lvStep l c p) l∧BdL gp H x.l) (fun x=>ps.length-x.m)
        (fun x=>[.d (Rep.to g),.any,.any,.any,.own 0 0 0 g.length,.d (Rep.to (upV gp)),.d (.int .i64 ((g.length:Int)-1-m)),.d (.int .i64 c),.any,.any,.any,.d (Rep.to ps),.d (.int .i64 ps.length),.d (.int .i64 x.m),.any])
        (fun x=>[.cells 0 1 (cntC x.l)]) ⟨0,l⟩ (by simp) (by simp) ⟨by simp,by simp,q3⟩ ?_
      rintro⟨j,v⟩ ⟨e1,e2,e3⟩
      simp only at e1 e2 e3
      have hvl:=e3.len
      rw[hgl] at hvl
      by_cases hjl:j<ps.length
      · have w2:IntKind.i64.wrap ((j:Int)+1)=(j:Int)+1:=wrap_in (by omega) (by omega)
        have hin:=hprng _ (List.getElem_mem hjl)
        obtain⟨p,hpp⟩:=Int.eq_ofNat_of_zero_le hin.1
        rw[hpp] at hin
        have hpg':p<g.length:=by omega
        have hst:=e3.step hfix (c:=c) (by omega) (hps _ (List.getElem_mem hjl))
        have gc:=cntC_get (l:=v) (i:=c) (by omega)
        have gp':=cntC_get (l:=v) (i:=p) (by omega)
        have hvc:v[c]'(by omega)=v.getD c 0:=by simp[List.getD,hvl,hcg]
        have hvp:v[p]'(by omega)=v.getD p 0:=by simp[List.getD,hvl,hpg']
        rw[hvc] at gc
        rw[hvp] at gp'
        obtain⟨_,gc2⟩:=List.getElem?_eq_some_iff.1 gc
        obtain⟨_,gp2⟩:=List.getElem?_eq_some_iff.1 gp'
        have hcl:=cntC_len v
        rw[hvl] at hcl
        have b1:=e3.nn p
        have b2:=Int.le_trans (e3.le p) (hfle p)
        have w3:IntKind.i64.wrap (v.getD p 0+1)=v.getD p 0+1:=wrap_in (by omega) (by omega)
        have hset:=cntC_set v c (max (v.getD c 0) (v.getD p 0+1))
        have hls:lvStep v c ps[j]=v.set c (max (v.getD c 0) (v.getD p 0+1)):=by unfold lvStep;rw[hpp];rfl
        rw[← hls] at hset
        have hnx:lvStep v c ps[j]=(ps.take (j+1)).foldl (fun l p=>lvStep l c p) l:=by
          rw[List.take_succ_eq_append_getElem hjl,List.foldl_append,← e2]
          rfl
        clear hvc hvp hls
        generalize v.getD c 0=vc at *
        generalize v.getD p 0=vp at *
        generalize hbc:cntC v=bc at *
        simp[hjl,getD_map,hpp,hcg,hpg',hcl,gc,gc2,gp',gp2,w3,hset,w2]
        exact Nxt.mk (⟨j+1,lvStep v c ps[j]⟩:LvX) (by simp;omega) (by simp) (by simp[hpp]) ⟨by simp;omega,hnx,hst⟩
      · have h9:j=ps.length:=by omega
        subst h9
        rw[List.take_length] at e2
        rw[← e2] at hs
        simp[w1]
        exact Nxt.mk (⟨m+1,v⟩:LvX) (by simp;omega) (by simp) (by simp) ⟨by simp;omega,hs.symm,e3⟩
    · have h9:m=g.length:=by omega
      subst h9
      have hb:=bor_ints [.cells 0 1 (cntC l)] 0 0 l rfl
      rw[hll] at hb
      rw[hH] at q2
      subst q2
      simp[hb,show ¬((g.length:Int)≤(g.length:Int)-1) by omega]
  · have hld:levelsD g=.tup [.nilsl,.int .i64 (dagC g)]:=by unfold levelsD;rw[if_neg c0]
    simp[x_walk_Levels,h1,o,c0,hld]
@[simp] def S_ref24_Levels:List D→Prop × D:=spec1 (α:=List CommitT) (fun g=>GraphOk g) (fun g=>levelsD g)
theorem ct_ref24_Levels {P:Program} {f g1:Nat} {G:Gam} (h:CodeOf P f 1 12 [1,2] (x_ref24_Levels g1)) (hG:GamOk P G) (h1:G.find g1=some S_ref23_Check):Has P f S_ref24_Levels:=h.has1 hG fun g o=>by
  have hlen:=o.1
  by_cases c0:dagC g=0
  · obtain⟨d1,d2,d3,_⟩:=dagC_lim c0
    have hp32:∀c,c∈g→c.parents.length≤1000:=fun c hc=>by have:=lim_par d1 c hc;omega
    have hok:=relG_ok d2
    have hgl:=parG_len g
    have hpg:=fun c (h:c<g.length)=>parG_get h
    have hfix:=hUp_fix hok (by rw[hgl];exact d3)
    have hfle:=fix_le hok hfix
    have hld:levelsD g=.tup [Rep.to (lvRounds (parG g) g.length),.int .i64 0]:=by unfold levelsD levelsV;rw[if_pos c0,hgl]
    rw[hld]
    clear hld
    simp[x_ref24_Levels,h1,o,c0]
    refine⟨⟨by unfold room;omega,by omega⟩,?_⟩
    generalize hgp:parG g=gp at *
    rw[hgl] at hfle hfix
    generalize hH:hUpM gp g.length=H at *
    refine vc_lp (σ:=LvX) (fun x=>x.m≤g.length∧x.l=lvRounds gp x.m∧BdL gp H x.l) (fun x=>g.length-x.m)
      (fun x=>[.d (Rep.to g),.any,.any,.any,.own 0 0 0 g.length,.d (.int .i64 x.m),.any,.any,.any,.any,.any,.any])
      (fun x=>[.cells 0 1 (cntC x.l)]) ⟨0,List.replicate g.length 0⟩ (by simp) (by simp[cntC]) ⟨by simp,by simp[lvRounds,hgl],by have:=BdL.zero hfix;rw[hgl] at this;exact this⟩ ?_
    rintro⟨m,l⟩ ⟨q1,q2,q3⟩
    simp only at q1 q2 q3
    have hll:=q3.len
    rw[hgl] at hll
    by_cases hm:m<g.length
    · have w1:IntKind.i64.wrap ((m:Int)+1)=(m:Int)+1:=wrap_in (by omega) (by omega)
      have hs:lvRounds gp (m+1)=lvRound gp l g.length:=by rw[lvRounds,← q2,hgl]
      simp[hm]
      refine vc_lp (σ:=LvX) (fun x=>x.m≤g.length∧x.l=lvRound gp l x.m∧BdL gp H x.l) (fun x=>g.length-x.m)
        (fun x=>[.d (Rep.to g),.any,.any,.any,.own 0 0 0 g.length,.d (.int .i64 m),.d (.int .i64 x.m),.any,.any,.any,.any,.any])
        (fun x=>[.cells 0 1 (cntC x.l)]) ⟨0,l⟩ (by simp) (by simp) ⟨by simp,rfl,q3⟩ ?_
      rintro⟨c,u⟩ ⟨r1,r2,r3⟩
      simp only at r1 r2 r3
      have hul:=r3.len
      rw[hgl] at hul
      by_cases hcg:c<g.length
      · have w2:IntKind.i64.wrap ((c:Int)+1)=(c:Int)+1:=wrap_in (by omega) (by omega)
        have hpc:=hpg c hcg
        have hpl:=hp32 _ (List.getElem_mem hcg)
        have hprng:=fun p hp=>hok.rng c (by omega) p hp
        rw[hpc] at hprng
        have hs2:=lvRound_succ gp l c
        rw[← r2] at hs2
        unfold lvC at hs2
        rw[hpc] at hs2
        have hps:∀p,p∈g[c].parents→p∈parV gp c:=fun p hp=>by rw[hpc];exact hp
        simp[hcg]
        generalize hpsq:g[c].parents=ps at *
        refine vc_lp (σ:=LvX) (fun x=>x.m≤ps.length∧x.l=(ps.take x.m).foldl (fun l p=>lvStep l c p) u∧BdL gp H x.l) (fun x=>ps.length-x.m)
          (fun x=>[.d (Rep.to g),.any,.any,.any,.own 0 0 0 g.length,.d (.int .i64 m),.d (.int .i64 c),.d (.int .i64 x.m),.any,.any,.any,.any])
          (fun x=>[.cells 0 1 (cntC x.l)]) ⟨0,u⟩ (by simp) (by simp) ⟨by simp,by simp,r3⟩ ?_
        rintro⟨j,v⟩ ⟨e1,e2,e3⟩
        simp only at e1 e2 e3
        have hvl:=e3.len
        rw[hgl] at hvl
        by_cases hjl:j<ps.length
        · have w4:IntKind.i64.wrap ((j:Int)+1)=(j:Int)+1:=wrap_in (by omega) (by omega)
          have hin:=hprng _ (List.getElem_mem hjl)
          obtain⟨p,hpp⟩:=Int.eq_ofNat_of_zero_le hin.1
          rw[hpp] at hin
          have hpg':p<g.length:=by omega
          have hst:=e3.step hfix (c:=c) (by omega) (hps _ (List.getElem_mem hjl))
          have gc:=cntC_get (l:=v) (i:=c) (by omega)
          have gp':=cntC_get (l:=v) (i:=p) (by omega)
          have hvc:v[c]'(by omega)=v.getD c 0:=by simp[List.getD,hvl,hcg]
          have hvp:v[p]'(by omega)=v.getD p 0:=by simp[List.getD,hvl,hpg']
          rw[hvc] at gc
          rw[hvp] at gp'
          obtain⟨_,gc2⟩:=List.getElem?_eq_some_iff.1 gc
          obtain⟨_,gp2⟩:=List.getElem?_eq_some_iff.1 gp'
          have hcl:=cntC_len v
          rw[hvl] at hcl
          have b1:=e3.nn p
          have b2:=Int.le_trans (e3.le p) (hfle p)
          have w3:IntKind.i64.wrap (v.getD p 0+1)=v.getD p 0+1:=wrap_in (by omega) (by omega)
          have hset:=cntC_set v c (max (v.getD c 0) (v.getD p 0+1))
          have hls:lvStep v c ps[j]=v.set c (max (v.getD c 0) (v.getD p 0+1)):=by unfold lvStep;rw[hpp];rfl
          rw[← hls] at hset
          have hnx:lvStep v c ps[j]=(ps.take (j+1)).foldl (fun l p=>lvStep l c p) u:=by
            rw[List.take_succ_eq_append_getElem hjl,List.foldl_append,← e2]
            rfl
          clear hvc hvp hls
          generalize v.getD c 0=vc at *
          generalize v.getD p 0=vp at *
          generalize hbc:cntC v=bc at *
          simp[hjl,getD_map,hpsq,hpp,hcg,hpg',hcl,gc,gc2,gp',gp2,w3,hset,w4]
          exact Nxt.mk (⟨j+1,lvStep v c ps[j]⟩:LvX) (by simp;omega) (by simp) (by simp[hpp]) ⟨by simp;omega,hnx,hst⟩
        · have h9:j=ps.length:=by omega
          subst h9
          rw[List.take_length] at e2
          rw[← e2] at hs2
          simp[hcg,getD_map,hpsq,w2]
          exact Nxt.mk (⟨c+1,v⟩:LvX) (by simp;omega) (by simp) (by simp) ⟨by simp;omega,hs2.symm,e3⟩
      · have h9:c=g.length:=by omega
        subst h9
        rw[← r2] at hs
        simp[w1]
        exact Nxt.mk (⟨m+1,u⟩:LvX) (by simp;omega) (by simp) (by simp) ⟨by simp;omega,hs.symm,r3⟩
    · have h9:m=g.length:=by omega
      subst h9
      have hb:=bor_ints [.cells 0 1 (cntC l)] 0 0 l rfl
      rw[hll] at hb
      subst q2
      simp[hb]
  · have hld:levelsD g=.tup [.nilsl,.int .i64 (dagC g)]:=by unfold levelsD;rw[if_neg c0]
    simp[x_ref24_Levels,h1,o,c0,hld]
theorem aw24a:dagC [⟨[],0,[]⟩,⟨[0],5,[]⟩,⟨[0],7,[]⟩]=0:=by decide +kernel
theorem aw24b:orderV [⟨[],0,[]⟩,⟨[0],5,[]⟩,⟨[0],7,[]⟩] (reachV (parG [⟨[],0,[]⟩,⟨[0],5,[]⟩,⟨[0],7,[]⟩]) [1,2])=[2,1,0]:=by decide +kernel
theorem aw24c:levelsV (parG [⟨[],0,[]⟩,⟨[0],5,[]⟩,⟨[0],7,[]⟩])=[0,1,1]:=by decide +kernel
theorem aw24d:orderD [⟨[],0,[]⟩,⟨[0],5,[]⟩,⟨[0],7,[]⟩] [1,2]=.tup [.sl 1 [.int .i64 2,.int .i64 1,.int .i64 0],.int .i64 0]:=by
  unfold orderD
  rw[if_pos aw24a,if_pos (by decide),aw24b]
  rfl
theorem aw24e:levelsD [⟨[],0,[]⟩,⟨[0],5,[]⟩,⟨[0],7,[]⟩]=.tup [.sl 1 [.int .i64 0,.int .i64 1,.int .i64 1],.int .i64 0]:=by
  unfold levelsD
  rw[if_pos aw24a,aw24c]
  rfl
@[simp] def S_law24_awake:List D→Prop × D:=spec0 True (.bool true)
theorem ct_law24_awake {P:Program} {f g1 g2 g3:Nat} {G:Gam} (h:CodeOf P f 0 6 [0] (x_law24_awake g1 g2 g3)) (hG:GamOk P G) (h1:G.find g1=some S_walk_Order) (h2:G.find g2=some S_walk_Levels) (h3:G.find g3=some S_gen_Ints):Has P f S_law24_awake:=h.has0 hG fun _=>by
  have e1:ofAll (Rep.of (α:=CommitT)) [.agg [.nilsl,.int .i64 0,.nilsl],.agg [.sl 1 [.int .i64 0],.int .i64 5,.nilsl],.agg [.sl 1 [.int .i64 0],.int .i64 7,.nilsl]]=some [⟨[],0,[]⟩,⟨[0],5,[]⟩,⟨[0],7,[]⟩]:=rfl
  have e2:ofAll (Rep.of (α:=Int)) [.int .i64 1,.int .i64 2]=some [1,2]:=rfl
  have e3:ofAll (Rep.of (α:=Int)) [.int .i64 2,.int .i64 1,.int .i64 0]=some [2,1,0]:=rfl
  have e4:ofAll (Rep.of (α:=Int)) [.int .i64 0,.int .i64 1,.int .i64 1]=some [0,1,1]:=rfl
  have o1:GraphOk [⟨[],0,[]⟩,⟨[0],5,[]⟩,⟨[0],7,[]⟩]:=graphOk_small (by simp) (by simp)
  simp[x_law24_awake,h1,h2,h3,e1,e2,e3,e4,aw24d,aw24e,o1]
def startsV (l:List Int) (n:Nat):List Int:=if 0<n then (l.take 5).map fun x=>modV x n else []
theorem starts_rng (l:List Int) (n:Nat):∀p,p∈startsV l n→0≤p∧p<(n:Int):=by
  intro p hp
  unfold startsV at hp
  split at hp
  · rw[List.mem_map] at hp
    obtain⟨x,_,rfl⟩:=hp
    exact modV_lt x (by omega)
  · cases hp
theorem starts_len (l:List Int) (n:Nat):(startsV l n).length≤5:=by
  unfold startsV
  split
  · simp;omega
  · simp
theorem starts_B (l:List Int) (n:Nat):startsB n (startsV l n)=true:=by
  unfold startsB
  rw[List.all_eq_true]
  intro c hc
  simpa using starts_rng l n c hc
def startS (l:List Int) (m:Nat) (i:Nat):List Int:=(l.take i).map fun x=>modV x m
@[simp] def S_law24_starts:List D→Prop × D:=spec2 (α:=List Int) (β:=Int) (fun l n=>l.length≤9223372036854775807∧0≤n∧n≤1000) (fun l n=>Rep.to (startsV l n.toNat))
theorem ct_law24_starts {P:Program} {f g1:Nat} {G:Gam} (h:CodeOf P f 2 6 [2] (x_law24_starts g1)) (hG:GamOk P G) (h1:G.find g1=some S_gen_Mod):Has P f S_law24_starts:=h.has2 hG fun l n hp=>by
  obtain⟨p1,p2,p3⟩:=hp
  obtain⟨m,rfl⟩:=Int.eq_ofNat_of_zero_le p2
  simp[x_law24_starts]
  by_cases h0:0<m
  · have hv:startsV l m=startS l m 5:=by unfold startsV;rw[if_pos h0];rfl
    rw[hv]
    refine vc_lp (σ:=Nat) (fun i=>i≤l.length∧i≤5) (fun i=>5-i)
      (fun i=>[.d (Rep.to l),.d (.int .i64 m),.any,.gr 0 1 ((startS l m i).map Rep.to),.d (.int .i64 i),.any]) (fun i=>[.tip i]) 0 (by simp[startS]) (by simp) (by simp) ?_
    rintro i ⟨hi,hi5⟩
    have r3:1≤(m:Int)∧(m:Int)≤9223372036854775807:=by omega
    have hml:(startS l m i).length=i:=by simp[startS];omega
    by_cases hil:i<l.length
    · by_cases h5:i<5
      · have w1:IntKind.i64.wrap ((i:Int)+1)=(i:Int)+1:=wrap_in (by omega) (by omega)
        have hs:startS l m (i+1)=startS l m i++[modV l[i] m]:=by unfold startS;rw[List.take_succ_eq_append_getElem hil,List.map_append];rfl
        generalize startS l m i=xs at *
        simp[hil,h5,show (i:Int)<5 by omega,h0,h1,r3,getD_map,w1,hml]
        exact⟨by unfold room;omega,Nxt.mk (i+1) (by omega) (by simp[hs]) (by simp) ⟨by omega,by omega⟩⟩
      · have h9:i=5:=by omega
        subst h9
        simp[hil]
    · have h9:i=l.length:=by omega
      subst h9
      have e:startS l m 5=startS l m l.length:=by unfold startS;rw[List.take_of_length_le hi5,List.take_length]
      simp[e]
  · have h9:m=0:=by omega
    subst h9
    have hv:startsV l 0=[]:=rfl
    rw[hv]
    refine vc_lp (σ:=Unit) (fun _=>True) (fun _=>0)
      (fun _=>[.d (Rep.to l),.d (.int .i64 0),.any,.gr 0 1 [],.d (.int .i64 0),.any]) (fun i=>[.tip 0]) () (by simp) (by simp) (by simp) ?_
    intro _ _
    by_cases hl:0<l.length
    · simp[hl]
    · simp[show l.length=0 by omega]
/-! ### lists and errors -/
theorem LE.order {g:List CommitT} (h:g.length≤1000) (s:List Int):LE (orderD g s):=by
  unfold orderD
  split
  · split
    · exact LE.ok (by have:=(orderV_ok g (reachV (parG g) s)).steps.len;omega)
    · exact LE.nil
  · exact LE.nil
theorem LE.levels {g:List CommitT} (h:g.length≤1000):LE (levelsD g):=by
  unfold levelsD
  split
  · exact LE.ok (by unfold levelsV;rw[lvRounds_len,parG_len];omega)
  · exact LE.nil
@[simp] def S_law24_WalkOrders:List D→Prop × D:=spec2 (α:=List Int) (β:=List Int) (fun raw l=>raw.length≤9223372036854775807∧l.length≤9223372036854775807) (fun _ _=>.bool true)
theorem ct_law24_WalkOrders {P:Program} {f g1 g2 g3 g4 g5 g6:Nat} {G:Gam} (h:CodeOf P f 2 14 [2] (x_law24_WalkOrders g1 g2 g3 g4 g5 g6)) (hG:GamOk P G) (h1:G.find g1=some S_law24_awake) (h2:G.find g2=some S_gen_Graph) (h3:G.find g3=some S_law24_starts) (h4:G.find g4=some S_walk_Order) (h5:G.find g5=some S_ref24_Order) (h6:G.find g6=some S_gen_Ints):Has P f S_law24_WalkOrders:=h.has2 hG fun raw l hp=>by
  obtain⟨p1,p2⟩:=hp
  by_cases h8:8<l.length
  · simp[x_law24_WalkOrders,h1,h8,show (8:Int)<l.length by omega]
  · have o:=(graphV_ok raw (n:=10) (lines:=1) (by omega) (by omega) (by omega) (by decide)).2
    generalize hg:graphV raw 10 1=g at *
    have hs5:=starts_len l g.length
    have hl1:=o.1
    generalize hss:startsV l g.length=s at *
    obtain⟨l1,s1,e1,k1,f1,b1⟩:=LE.order o.1 s
    obtain⟨l2,s2,e2,k2,f2,b2⟩:=LE.order o.1 l
    simp[x_law24_WalkOrders,h8,show ¬(8:Int)<l.length by omega,h1,h2,h3,h4,h5,h6,p1,p2,hg,hss,o,show (g.length:Int)≤1000 by omega,show s.length≤1048576 by omega,k1,k2,f1,f2,b1,b2,show l.length≤1048576 by omega]
theorem law24_WalkOrders_pre (raw:List Int) (l:List Int) (w0:Arg.wf raw) (w1:Arg.wf l):raw.length≤9223372036854775807∧l.length≤9223372036854775807:=by
  have:=len_wf w0
  have:=len_wf w1
  omega
def ComsOk (g:List CommitT):Prop:=∀c,c∈g→c.parents.length≤9223372036854775807∧FilesOk c.files
@[simp] def S_law24_WalkLevels:List D→Prop × D:=spec2 (α:=List Int) (β:=List CommitT) (fun raw g=>raw.length≤9223372036854775807∧g.length≤9223372036854775807∧ComsOk g) (fun _ _=>.bool true)
theorem ct_law24_WalkLevels {P:Program} {f g1 g2 g3 g4 g5 g6 g7:Nat} {G:Gam} (h:CodeOf P f 2 14 [2] (x_law24_WalkLevels g1 g2 g3 g4 g5 g6 g7)) (hG:GamOk P G) (h1:G.find g1=some S_law24_awake) (h2:G.find g2=some S_gen_Graph) (h3:G.find g3=some S_walk_Levels) (h4:G.find g4=some S_ref24_Levels) (h5:G.find g5=some S_ref23_Check) (h6:G.find g6=some S_walk_Order) (h7:G.find g7=some S_gen_Ints):Has P f S_law24_WalkLevels:=h.has2 hG fun raw w hp=>by
  obtain⟨p1,p2,p3⟩:=hp
  by_cases h8:6<w.length
  · simp[x_law24_WalkLevels,h1,h8,show (6:Int)<w.length by omega]
  · have o:=(graphV_ok raw (n:=10) (lines:=1) (by omega) (by omega) (by omega) (by decide)).2
    have ow:GraphOk w:=⟨by omega,p3⟩
    generalize hg:graphV raw 10 1=g at *
    obtain⟨l1,s1,e1,k1,f1,b1⟩:=LE.levels o.1
    have r0:ofAll (Rep.of (α:=Int)) []=some []:=rfl
    by_cases hc:dagC w=0
    · simp[x_law24_WalkLevels,h8,show ¬(6:Int)<w.length by omega,h1,h2,h3,h4,h5,h6,h7,p1,p2,hg,o,ow,k1,f1,b1,hc]
    · have k2:levelsD w=.tup [.nilsl,.int .i64 (dagC w)]:=by unfold levelsD;rw[if_neg hc]
      have k3:orderD w []=.tup [.nilsl,.int .i64 (dagC w)]:=by unfold orderD;rw[if_neg hc]
      simp[x_law24_WalkLevels,h8,show ¬(6:Int)<w.length by omega,h1,h2,h3,h4,h5,h6,h7,p1,p2,hg,o,ow,k1,f1,b1,hc,k2,k3]
theorem coms_wf {g:List CommitT} (h:Arg.wf g):ComsOk g:=fun c hc=>by
  have h1:=h.2 c hc
  have h2:Arg.wf c.files:=h1.2.2
  refine⟨len_wf (show Arg.wf c.parents from h1.1),len_wf h2,fun f hf=>?_⟩
  have h3:=h2.2 f hf
  exact⟨str_wf (show Arg.wf f.path from h3.1),str_wf (show Arg.wf f.blob from h3.2)⟩
theorem law24_WalkLevels_pre (raw:List Int) (g:List CommitT) (w0:Arg.wf raw) (w1:Arg.wf g):raw.length≤9223372036854775807∧g.length≤9223372036854775807∧ComsOk g:=⟨len_wf w0,len_wf w1,coms_wf w1⟩
open Go Go.Proofs Go.RowKit
def SeqW {α:Type} (n:Nat) (P:Program) (gfn:Nat) (caps:Array Value) (encs:α→Array Value) (n₀ own:Nat) (xs:List α) (w0:World):Prop :=
  ∀(l:Nat) (J Jx:List α→World→Prop) (W:World),Below n₀ w0 W→(∀pre A v,J pre A→J pre (A.setCell ⟨own,0,none⟩ v)) →
    (∀pre x A,J pre A→pre.length<xs.length→YieldAt Fence.wide (n-1) P l (encs x) A fun e B =>
      (e=.returned (.bool true)∧J (pre++[x]) B∧Below n₀ A B)∨(e=.returned (.bool false)∧Jx (pre++[x]) B)) →
    J [] W→CallsIn Fence.wide n P gfn (#[.func (.yield l) #[] #[]]++caps) W fun e B=>(∃v,e=.returned v)∧(J xs B∨∃pre,pre <+: xs∧Jx pre B)
def roundW {α:Type} (n₀:Nat) (I Ix:List α→World→Prop) (xs:List α) (A:World):Exit→Act→World→Prop
  | .normal,_,B=>KeepsOthers A B∧Below n₀ A B∧I xs B
  | .ret,_,B=>KeepsOthers A B∧Ix xs B
  | _,_,_=>False
variable {n:Nat} {P:Program}
theorem rangeW {α:Type} {g:Operand} {ps:Array Tmp} {assign body:Code} {Q:Exit→Act→World→Prop} {a:Act} {w:World}
    (h1:1≤n) {gfn:Nat} {caps:Array Value} (hg:a.eval g=.func (.func gfn) #[] caps) (eg:∀args w,(callFunc gfn args).run P w=.ok (.enter gfn args) w)
    {encs:α→Array Value} {own:Nat} (hown:own<w.heap.size) {xs:List α} (hseq:SeqW (n-1) P gfn caps encs w.heap.size own xs w) (hps:∀x,(encs x).size=ps.size)
    (I Ix:List α→World→Prop)
    (hI1:∀pre A o,w.heap.size≤A.heap.size→I pre A→I pre (A.alloc o)) (hI2:∀pre A l o,w.heap.size≤l→I pre A→I pre (A.putObj l o)) (hI3:∀pre A v,I pre A→I pre (A.setCell ⟨own,0,none⟩ v))
    (hX2:∀pre A l o,w.heap.size≤l→Ix pre A→Ix pre (A.putObj l o))
    (h0:I [] w) (a₁:α→Act)
    (hassign:∀(l:Nat) (x:α) (A:World) (K:Act→World→Prop),K (a₁ x) A →
      assign.wpIn (Fence.wide.inRound l) (n-1-1) P (Exit.then K (fun _ _ _=>False)) { tmps:=(ps.zip (encs x)).foldl (fun t (p,v)=>t.setIfInBounds p v) a.tmps,defers:=[] } A)
    (hbody:∀(l:Nat) (pre:List α) (x:α) (A:World),I pre A→pre.length<xs.length→body.wpIn (Fence.wide.inRound l) (n-1-1) P (roundW w.heap.size I Ix (pre++[x]) A) (a₁ x) A)
    (hdone:∀(D:Nat) (B:World),w.heap.size≤D→I xs B→B.heap[D]?=some (.deferred (some []))→Q .normal { a with defers:={ target:=.collected D,args:=#[] }::a.defers } B)
    (hstop:∀(D:Nat) (pre:List α) (B:World),w.heap.size≤D→pre <+: xs→Ix pre B→B.heap[D]?=some (.deferred (some []))→Code.ret.wpIn Fence.wide n P Q { a with defers:={ target:=.collected D,args:=#[] }::a.defers } B) :
    (Code.rangeFunc g ps assign body).wpIn Fence.wide n P Q a w:=by
  refine wpIn_rangeFunc ?_
  intro fn hfn
  show ∃_,_
  rw[show Fence.wide.round=none from rfl]
  obtain⟨lp,hlp⟩:∃lp:LoopState→Option Code→Loop,lp=fun st pe=>{ state:=st,pending:=pe,fn,tmps:=a.tmps,params:=ps,assign,body,defers:=w.heap.size }:=⟨_,rfl⟩
  obtain⟨V,hV⟩:∃V,(w.alloc (.deferred (some []))).alloc (.loop (lp .ready none))=V:=⟨_,rfl⟩
  have rL:V.heap[w.heap.size+1]?=some (.loop (lp .ready none)):=by
    have:=World.alloc_heap_new (w.alloc (.deferred (some []))) (.loop (lp .ready none))
    rw[World.size_alloc,hV] at this
    exact this
  have rD:V.heap[w.heap.size]?=some (.deferred (some [])):=by
    rw[← hV]
    exact (Below.heap_alloc _ _ _ (by simp)).trans (World.alloc_heap_new w _)
  have rI:I [] V:=by
    rw[← hV]
    exact hI1 _ _ _ (by simp) (hI1 _ _ _ (Nat.le_refl _) h0)
  have rB:Below w.heap.size w V:=by
    rw[← hV]
    exact ((Below.refl _ w).alloc (Nat.le_refl _) _).alloc (by simp) _
  refine⟨w.heap.size+1,[{ target:=.collected w.heap.size,args:=#[] }],V,{ target:=.fn (.func gfn) caps,args:=#[.func (.yield (w.heap.size+1)) #[] #[]] },V,gfn,
    #[.func (.yield (w.heap.size+1)) #[] #[]]++caps,V,?_,?_,?_,?_,fun _=>h1,?_⟩
  · rw[← hV,hlp]
    exact run_enterLoop_outer _ _ _ _ _
  · simp only[resolve,hg]
    simp[go_sem]
  · intro f' hf'
    trivial
  · simp[invoke,go_sem,eg]
  have key:=hseq (w.heap.size+1)
    (fun pre A=>I pre A∧A.heap[w.heap.size+1]?=some (.loop (lp .ready none))∧A.heap[w.heap.size]?=some (.deferred (some [])))
    (fun pre A=>Ix pre A∧A.heap[w.heap.size+1]?=some (.loop (lp .done (some .ret)))∧A.heap[w.heap.size]?=some (.deferred (some [])))
    V rB ?_ ?_ ⟨rI,rL,rD⟩
  · refine key.mono ?_
    rintro e B ⟨⟨v,rfl⟩,(⟨hi,hl,hk⟩ | ⟨pre,hpre,hi,hl,hk⟩)⟩
    · have hr:=run_endLoop (P:=P) hl (by rw[hlp];simp)
      rw[hlp] at hr
      exact⟨none,_,hr,hdone _ _ (Nat.le_refl _) (hI2 _ _ _ _ (by omega) hi) ((World.putObj_heap_other (by omega)).trans hk)⟩
    · have hr:=run_endLoop (P:=P) hl (by rw[hlp];simp)
      rw[hlp] at hr
      exact⟨some .ret,_,hr,hstop _ pre _ (Nat.le_refl _) hpre (hX2 _ _ _ _ (by omega) hi) ((World.putObj_heap_other (by omega)).trans hk)⟩
  · rintro pre A v ⟨hi,hl,hk⟩
    refine⟨hI3 _ _ _ hi,?_,?_⟩
    · rw[Below.heap_setCell _ _ _ _ (by show w.heap.size+1≠own;omega)];exact hl
    · rw[Below.heap_setCell _ _ _ _ (by show w.heap.size≠own;omega)];exact hk
  · rintro pre x A ⟨hi,hl,hk⟩ hlen
    have hlt:w.heap.size+1<A.heap.size:=(Array.getElem?_eq_some_iff.1 hl).1
    have hy:=run_yield (P:=P) (args:=encs x) hl (by rw[hlp];exact hps x)
    rw[hlp] at hy
    refine⟨fn,_,assign,body,hy,roundIn_of_wpIn hfn (hassign _ x A _ ⟨_,run_beginRound hl (by rw[hlp]),?_⟩)⟩
    have hl2:(A.putObj (w.heap.size+1) (.loop { lp .ready none with state:=.busy })).heap[w.heap.size+1]?=some (.loop { lp .ready none with state:=.busy }):=World.putObj_heap_same hlt
    have hk2:(A.putObj (w.heap.size+1) (.loop { lp .ready none with state:=.busy })).heap[w.heap.size]?=some (.deferred (some [])):=(World.putObj_heap_other (by omega)).trans hk
    have hb2:Below w.heap.size A (A.putObj (w.heap.size+1) (.loop { lp .ready none with state:=.busy })):=belowK_b (Nat.le_refl _) _ _ _ _ (by omega) hl rfl rfl
    refine wpIn_mono (hbody _ pre x _ (hI2 _ _ _ _ (by omega) hi) hlen) ?_
    have fin:∀(jump:Option Code) (B:World),KeepsOthers (A.putObj (w.heap.size+1) (.loop { lp .ready none with state:=.busy })) B →
        (Instr.endRound (w.heap.size+1) jump).run P B=.ok (.bool jump.isNone) (B.putObj (w.heap.size+1) (.loop (lp (if jump.isNone then .ready else .done) jump))) ∧
        B.heap[w.heap.size+1]?=some (.loop { lp .ready none with state:=.busy }) ∧
        (B.putObj (w.heap.size+1) (.loop (lp (if jump.isNone then .ready else .done) jump))).heap[w.heap.size+1]?=some (.loop (lp (if jump.isNone then .ready else .done) jump)) ∧
        (B.putObj (w.heap.size+1) (.loop (lp (if jump.isNone then .ready else .done) jump))).heap[w.heap.size]?=some (.deferred (some [])):=fun jump B hk3=>by
      have hl3:=hk3.same _ _ hl2 rfl
      have:=run_endRound (P:=P) jump hl3
      rw[hlp] at this ⊢
      exact⟨this,by rw[hlp] at hl3;exact hl3,World.putObj_heap_same (Array.getElem?_eq_some_iff.1 hl3).1,(World.putObj_heap_other (by omega)).trans (hk3.same _ _ hk2 rfl)⟩
    rintro e a3 B hp
    cases e with
    | normal =>
      obtain⟨hk3,hb3,hi3⟩:=hp
      obtain⟨hr,hl3,hl4,hk4⟩:=fin none B hk3
      exact⟨_,_,hr,.inl ⟨rfl,⟨hI2 _ _ _ _ (by omega) hi3,hl4,hk4⟩,(hb2.trans hb3).trans (belowK_b (Nat.le_refl _) _ _ _ _ (by omega) hl3 rfl rfl)⟩⟩
    | ret =>
      obtain⟨hk3,hi3⟩:=hp
      obtain⟨hr,hl3,hl4,hk4⟩:=fin (some .ret) B hk3
      exact⟨_,_,hr,.inr ⟨rfl,hX2 _ _ _ _ (by omega) hi3,hl4,hk4⟩⟩
    | exit id=>exact hp.elim
    | goto t=>exact hp.elim
    | panic ch=>exact hp.elim
    | outgrown=>exact hp.elim
end Go.AE
