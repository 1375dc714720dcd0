/-
  Law 30: what is listed. Law 31: the origin of a line is tracked.
-/
import Derived.Test.YtchgnhinilehiaaGreatDoorCona3

set_option linter.unusedSimpArgs false
set_option linter.unusedVariables false
set_option linter.unnecessarySimpa false
set_option maxRecDepth 20000
set_option maxHeartbeats 8000000
namespace Go.AE
theorem hand_over {g:List CommitT} (hg:GV g) {path:Str} {c p:Nat} (hc:c<g.length) (hp:p<g.length) {R:List SpanT} {s:SpanT} (hs:R.getD c z0=s) (h0:0≤s.fr) (h1:s.fr<s.to) (h2:s.to≤((linesV (blobG g path c)).length:Int)):handT g path c R (p:Int)=(!hasF g path p || overV (scr (blobG g path p) (blobG g path c)) s):=by
  obtain⟨k1,k2⟩:=scr_ok (hg.blob hp path) (hg.blob hc path)
  unfold handT
  rw[Int.toNat_natCast,hs,← touch_over k1 h0 h1 h2,k2]
  rfl
@[simp] def S_law30_LinelogLists:List D→Prop × D:=spec4 (α:=List Int) (β:=Int) (γ:=Int) (δ:=Int) (fun raw _ _ _=>raw.length≤9223372036854775807) (fun _ _ _ _=>.bool true)
theorem ct_law30_LinelogLists {P:Program} {f g1 g2 g3 g4 g5 g6 g7 g8 g9:Nat} {G:Gam} (h:CodeOf P f 4 34 [4] (x_law30_LinelogLists g1 g2 g3 g4 g5 g6 g7 g8 g9)) (hG:GamOk P G) (h1:G.find g1=some S_law30_pick) (h2:G.find g2=some S_law30_awake) (h3:G.find g3=some S_linelog_Tracked) (h4:G.find g4=some S_linelog_Log) (h5:G.find g5=some S_ref24_Order) (h6:G.find g6=some S_law30_find) (h7:G.find g7=some S_ref21_Find) (h8:G.find g8=some S_ref09_Blobs) (h9:G.find g9=some S_law30_overlaps):Has P f S_law30_LinelogLists:=h.has4 hG fun raw start0 fr0 to0 hp=>by
  have o:=(graphV_ok raw (n:=7) (lines:=5) (by omega) (by omega) (by omega) (by decide)).2
  obtain⟨⟨hpk⟩,-⟩:=ct_law30_pick_aux raw start0 fr0 to0
  generalize hgg:graphV raw 7 5=g at *
  generalize hcp:pick30 raw start0 fr0 to0=x at *
  obtain⟨c,path,⟨fr,to⟩,b⟩:=x
  simp only at hpk
  cases b with
  | false=>simp[x_law30_LinelogLists,h1,h2,hp,hgg,hcp]
  | true =>
    have hv:=hpk rfl
    obtain⟨start,rfl⟩:=folE_c hv
    obtain⟨A,ht,ht2⟩:=lgAll o hv
    obtain⟨htl,htl2⟩:=trk_len o (start:Int) path ⟨fr,to⟩
    rw[ht] at htl
    rw[ht2] at htl2
    have hfind:=fun c (h:c<g.length)=>A.lf.find (c:=c) h
    have hg:=A.gv
    have hgl:=hg.len
    have hgood:=A.lf.good
    have hrl:=A.lf.inv.len
    have hVe:=A.lf.inv.V
    have hLe:=A.lf.inv.L
    have hord:=A.ord
    have hol:=A.ol
    have hod:=orderD_one hg.c A.so.c
    generalize followS g path start ⟨fr,to⟩=st at *
    generalize orderS g start=oo at *
    obtain⟨R,V,L⟩:=st
    simp only at hfind hgood hrl htl htl2 ht ht2 hVe hLe
    clear A
    obtain⟨qV,hqV⟩:∃qV:Int→Bool,∀c,qV c=neS R c:=⟨_,fun _=>rfl⟩
    obtain⟨qL,hqL⟩:∃qL:Int→Bool,∀c,qL c=(neS R c && showB g path R c):=⟨_,fun _=>rfl⟩
    have hVe:V=(oo.filter qV).map (visV R):=by rw[hVe,funext hqV]
    have hLe:L=(oo.filter qL).map (visV R):=by rw[hLe,funext hqL]
    obtain⟨nk,hnk⟩:∃nk:Nat→Nat,∀i,nk i=((oo.take i).filter qV).length:=⟨_,fun _=>rfl⟩
    obtain⟨nl,hnl⟩:∃nl:Nat→Nat,∀i,nl i=((oo.take i).filter qL).length:=⟨_,fun _=>rfl⟩
    have k0:nk 0=0:=by rw[hnk];rfl
    have l0:nl 0=0:=by rw[hnl];rfl
    have kN:nk oo.length=V.length:=by rw[hnk,List.take_length,hVe,List.length_map]
    have lN:nl oo.length=L.length:=by rw[hnl,List.take_length,hLe,List.length_map]
    have ks:∀i (h:i<oo.length),nk (i+1)=nk i+(if qV oo[i]=true then 1 else 0):=fun i h=>by rw[hnk,hnk];exact filter_step h
    have ls:∀i (h:i<oo.length),nl (i+1)=nl i+(if qL oo[i]=true then 1 else 0):=fun i h=>by rw[hnl,hnl];exact filter_step h
    have kv:∀i (h:i<oo.length),qV oo[i]=true→V[nk i]?=some (visV R oo[i]):=fun i h e=>by rw[hnk,hVe,List.getElem?_map,filter_at h e];rfl
    have lv:∀i (h:i<oo.length),qL oo[i]=true→L[nl i]?=some (visV R oo[i]):=fun i h e=>by rw[hnl,hLe,List.getElem?_map,filter_at h e];rfl
    have kb:∀i,nk i≤1000:=fun i=>by
      rw[hnk]
      have:=List.length_filter_le qV (oo.take i)
      have:(oo.take i).length≤oo.length:=by simp;omega
      omega
    have lb:∀i,nl i≤1000:=fun i=>by
      rw[hnl]
      have:=List.length_filter_le qL (oo.take i)
      have:(oo.take i).length≤oo.length:=by simp;omega
      omega
    clear hnk hnl hVe hLe
    simp[x_law30_LinelogLists,h1,h3,h4,h5,hp,hgg,hcp,o,hv,ht,ht2,hod]
    refine vc_lp (σ:=Nat) (fun i=>i≤oo.length) (fun i=>oo.length-i)
      (fun i=>[.any,.d (.int .i64 start),.any,.any,.any,.d (Rep.to g),.d (.str path),.any,.any,.d (Rep.to V),.any,.d (Rep.to L),.any,.d (Rep.to oo),.d (.int .i64 (nl i)),.d (.int .i64 (nk i)),.d (.int .i64 i),.any,.any,.any,.any,.any,.any,.any,.any,.any,.any,.any,.any,.any,.any,.any,.any,.any])
      (fun _=>[.cells 0 2 [.d (.agg [.int .i64 fr,.int .i64 to])]]) 0 (by simp[k0,l0]) (by simp) (by simp) ?_
    intro i hi
    by_cases hil:i<oo.length
    · have w1:IntKind.i64.wrap ((i:Int)+1)=(i:Int)+1:=wrap_in (by omega) (by omega)
      obtain⟨r1,r2⟩:=hord.rng _ (List.getElem_mem hil)
      obtain⟨q,hq⟩:=Int.eq_ofNat_of_zero_le r1
      have hql:q<g.length:=by omega
      have hfq:=hfind q hql
      have eR:R.getD q z0=R[q]:=by simp[List.getD,show q<R.length by omega]
      have eg:g.getD q default=g[q]:=by simp[List.getD,hql]
      rw[eR] at hfq
      have ks':=ks i hil
      have ls':=ls i hil
      have kv':=kv i hil
      have lv':=lv i hil
      have kb':=kb i
      have lb':=lb i
      rw[hq] at ks' ls' kv' lv'
      have hVq:qV (q:Int)=decide (R[q].fr<R[q].to):=by rw[hqV];unfold neS;rw[Int.toNat_natCast,eR]
      have hLq:qL (q:Int)=(decide (R[q].fr<R[q].to) && showB g path R (q:Int)):=by rw[hqL];unfold neS;rw[Int.toNat_natCast,eR]
      have hvq:visV R (q:Int)=⟨(q:Int),R[q]⟩:=by unfold visV;rw[Int.toNat_natCast,eR]
      rw[hvq] at kv' lv'
      by_cases hne:R[q].fr<R[q].to
      · rw[if_pos hne] at hfq
        rw[decide_eq_true hne] at hVq hLq
        rw[Bool.true_and] at hLq
        have g1:=kv' hVq
        rw[if_pos hVq] at ks'
        obtain⟨gk,g2⟩:=List.getElem?_eq_some_iff.1 g1
        have hgq:=hgood q hql (by rw[eR];exact hne)
        rw[eR] at hgq
        have hqf:=(hg.files _ (List.getElem_mem hql)).1
        have c1:blobF g[q].files path=blobG g path q:=by unfold blobG;simp[List.getD,hql]
        have hqb:=hg.blob hql path
        have hqn:=check_len hqb
        have hrg:=hg.prng hql
        have hpl:=hg.par _ (List.getElem_mem hql)
        obtain⟨ps,hps⟩:∃ps,g[q].parents=ps:=⟨_,rfl⟩
        have hsK:∀k (h:k<ps.length),showK g path R q (k+1)=(showK g path R q k || handT g path q R ps[k]):=by
          subst hps
          intro k h
          have:=showK_succ (g:=g) (path:=path) (R:=R) (c:=q) (k:=k) (by rw[eg];exact h)
          simpa only[eg] using this
        have hsA:=showK_all g path R q
        have hs0:showK g path R q 0=decide ((ps.length:Int)=0):=by unfold showK;rw[eg,hps];simp
        rw[eg,hps] at hsA
        rw[hps] at hrg hpl
        have w2:IntKind.i64.wrap ((nk i:Int)+1)=((nk i+1:Nat):Int):=by rw[wrap_in (by omega) (by omega)];omega
        have w3:IntKind.i64.wrap ((nl i:Int)+1)=((nl i+1:Nat):Int):=by rw[wrap_in (by omega) (by omega)];omega
        generalize hkk:nk i=kk at *
        generalize hll:nl i=ll at *
        simp[hil,getD_map,hq,h6,show V.length≤1048576 by omega,hfq,g1,g2,gk,w2,hql,hps,h7,show g[q].files.length≤9223372036854775807 by omega,c1]
        refine vc_lp (σ:=Nat) (fun j=>j≤ps.length) (fun j=>ps.length-j)
          (fun j=>[.any,.d (.int .i64 start),.any,.any,.any,.d (Rep.to g),.d (.str path),.any,.any,.d (Rep.to V),.any,.d (Rep.to L),.any,.d (Rep.to oo),.d (.int .i64 ll),.d (.int .i64 ((kk+1:Nat):Int)),.d (.int .i64 i),.d (.int .i64 q),.ref 1 0 0 0,.any,.d (.bool (showK g path R q j)),.d (.str (blobG g path q)),.d (.int .i64 j),.any,.any,.any,.any,.any,.any,.any,.any,.any,.any,.any])
          (fun _=>[.cells 0 2 [.d (.agg [.int .i64 fr,.int .i64 to])],.cells 0 2 [.d (.agg [.int .i64 R[q].fr,.int .i64 R[q].to])]]) 0 (by simp[hs0]) (by simp) (by simp) ?_
        intro j hj
        by_cases hjl:j<ps.length
        · have w4:IntKind.i64.wrap ((j:Int)+1)=(j:Int)+1:=wrap_in (by omega) (by omega)
          obtain⟨u1,u2⟩:=hrg _ (List.getElem_mem hjl)
          obtain⟨p,hpp⟩:=Int.eq_ofNat_of_zero_le u1
          have hpg:p<g.length:=by omega
          have hpf:=(hg.files _ (List.getElem_mem hpg)).1
          have e1:blobF g[p].files path=blobG g path p:=by unfold blobG;simp[List.getD,hpg]
          have e2:inB g[p].files path=hasF g path p:=by unfold hasF;simp[List.getD,hpg]
          have hpb:=hg.blob hpg path
          have hpn:=check_len hpb
          have hbd:=scr_blobs hpb hqb
          have hex:∃m n,checkV (scr (blobG g path p) (blobG g path q)) m n=true:=⟨_,_,(scr_ok hpb hqb).1⟩
          have hs:=hsK j hjl
          rw[hpp,hand_over hg hql hpg eR hgq.2.1 hne hgq.2.2] at hs
          generalize showK g path R q j=bj at *
          generalize scr (blobG g path p) (blobG g path q)=sc at *
          cases bj with
          | true =>
            rw[Bool.true_or] at hs
            simp[hjl,getD_map,hql,hps,hpp,hpg,h7,show g[p].files.length≤9223372036854775807 by omega,e1,e2,h8,show (blobG g path p).length≤4194304 by omega,show (blobG g path q).length≤4194304 by omega,hbd,h9,hex,w4]
            exact Nxt.mk (j+1) (by omega) (by simp[hs]) (by simp) (by omega)
          | false =>
            rw[Bool.false_or] at hs
            cases hf:hasF g path p with
            | false =>
              rw[hf] at hs
              simp only[Bool.not_false,Bool.true_or] at hs
              simp[hjl,getD_map,hql,hps,hpp,hpg,h7,show g[p].files.length≤9223372036854775807 by omega,e1,e2,hf,h8,show (blobG g path p).length≤4194304 by omega,show (blobG g path q).length≤4194304 by omega,hbd,h9,hex,w4]
              exact Nxt.mk (j+1) (by omega) (by simp[hs]) (by simp) (by omega)
            | true =>
              rw[hf] at hs
              simp only[Bool.not_true,Bool.false_or] at hs
              simp[hjl,getD_map,hql,hps,hpp,hpg,h7,show g[p].files.length≤9223372036854775807 by omega,e1,e2,hf,h8,show (blobG g path p).length≤4194304 by omega,show (blobG g path q).length≤4194304 by omega,hbd,h9,hex,w4]
              exact Nxt.mk (j+1) (by omega) (by simp[hs]) (by simp) (by omega)
        · have h9':j=ps.length:=by omega
          subst h9'
          rw[hsA]
          cases hsb:showB g path R (q:Int) with
          | true =>
            rw[hsb] at hLq
            have g3:=lv' hLq
            rw[if_pos hLq] at ls'
            obtain⟨gl,g4⟩:=List.getElem?_eq_some_iff.1 g3
            simp[hql,getD_map,hps,g3,g4,gl,eSeq,cellsEq,cellEq,w3,w1]
            exact Nxt.mk (i+1) (by omega) (by simp[ks',ls']) (by simp) (by omega)
          | false =>
            rw[hsb] at hLq
            rw[if_neg (by rw[hLq];simp)] at ls'
            simp[hql,getD_map,hps,w1]
            exact Nxt.mk (i+1) (by omega) (by simp[ks',ls']) (by simp) (by omega)
      · rw[if_neg hne] at hfq
        rw[decide_eq_false hne] at hVq hLq
        rw[Bool.false_and] at hLq
        rw[if_neg (by rw[hVq];simp)] at ks'
        rw[if_neg (by rw[hLq];simp)] at ls'
        simp[hil,getD_map,hq,h6,show V.length≤1048576 by omega,hfq,w1]
        exact Nxt.mk (i+1) (by omega) (by simp[ks',ls']) (by simp) (by omega)
    · have h9':i=oo.length:=by omega
      subst h9'
      rw[kN,lN]
      simp[h2]
theorem law30_LinelogLists_pre (raw:List Int) (start:Int) (fr:Int) (to:Int) (w0:Arg.wf raw) (w1:Arg.wf start) (w2:Arg.wf fr) (w3:Arg.wf to):raw.length≤9223372036854775807:=by
  have:=len_wf w0
  omega
/-! ### the origin of a line -/
end Go.AE
