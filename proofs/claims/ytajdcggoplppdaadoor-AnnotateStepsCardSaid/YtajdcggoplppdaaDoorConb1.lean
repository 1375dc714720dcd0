/-
  Law 31: origins and steps,without the reference.
-/
import Derived.Test.YtajdcggoplppdaaDoorCona3
import Derived.Test.YtajdcggoplppdaaDoorCona2
import Derived.Test.YtajdcggoplppdaaDoorCode1

set_option linter.unusedSimpArgs false
set_option linter.unusedVariables false
set_option linter.unnecessarySimpa false
set_option maxRecDepth 20000
set_option maxHeartbeats 8000000
namespace Go.AE
@[simp] def S_law31_AnnotateSteps:List D→Prop × D:=spec3 (α:=List Int) (β:=Int) (γ:=Int) (fun raw _ _=>raw.length≤9223372036854775807) (fun _ _ _=>.bool true)
theorem ct_law31_AnnotateSteps {P:Program} {f g1 g2 g3 g4 g5:Nat} {G:Gam} (h:CodeOf P f 3 17 [3] (x_law31_AnnotateSteps g1 g2 g3 g4 g5)) (hG:GamOk P G) (h1:G.find g1=some S_law31_pick) (h2:G.find g2=some S_annotate_Blame) (h3:G.find g3=some S_law31_awake) (h4:G.find g4=some S_gen_Mod) (h5:G.find g5=some S_annotate_Step):Has P f S_law31_AnnotateSteps:=h.has3 hG fun raw start line0 hp=>by
  have o:=(graphV_ok raw (n:=7) (lines:=5) (by omega) (by omega) (by omega) (by decide)).2
  generalize hgg:graphV raw 7 5=g at *
  generalize hcp:pickA raw start=x at *
  obtain⟨c,path⟩:=x
  by_cases he:begE g c path=0
  · have hbl:blameL g c path=blS g path c (fileN g c path):=by unfold blameL;rw[if_pos he]
    obtain⟨b1,b2,b3,_⟩:=begE_ok he
    have hg:=GV.of b1 o
    obtain⟨hh,hfix⟩:=hg.fix
    have hfl:fileN g c path≤4096:=checkT_lines (hg.blob (c:=c.toNat) (by omega) path)
    have hbn:=blS_len g path c (fileN g c path)
    by_cases h0:fileN g c path=0
    · have hb0:blS g path c 0=[]:=rfl
      simp[x_law31_AnnotateSteps,h1,h2,h3,hp,hgg,hcp,o,he,hbl,hbn,h0,hb0]
    · have m1:=modV_lt line0 (n:=(fileN g c path:Int)) (by omega)
      obtain⟨line,hline⟩:=Int.eq_ofNat_of_zero_le m1.1
      have hll:line<fileN g c path:=by omega
      have hgo:=goodO_of he (line:=(line:Int)) (by omega)
      have hbi:∀h:line<(blS g path c (fileN g c path)).length,(blS g path c (fileN g c path))[line]=blV g path ⟨c,(line:Int)⟩:=fun h=>by simp[blS]
      have r3:1≤(fileN g c path:Int)∧(fileN g c path:Int)≤9223372036854775807:=by omega
      have hsd:stepD g c path line=.tup [Rep.to (origO (fromV g path c.toNat line)),.bool (fromV g path c.toNat line).isSome,.int .i64 0]:=by unfold stepD;rw[if_pos he,if_pos (by omega)]
      have heq:=blV_eq hg.rel hfix hgo
      simp only at heq
      generalize hbs:blS g path c (fileN g c path)=bs at *
      have hbi:=hbi (by omega)
      cases hfr:fromV g path c.toNat line with
      | none =>
        rw[hfr] at heq hsd
        simp only at heq
        rw[heq] at hbi
        simp[x_law31_AnnotateSteps,h1,h2,h3,h4,h5,hp,hgg,hcp,o,he,hbl,hbn,h0,hline,r3,hsd,origO,hll,getD_map,hbi,eSeq,cellsEq,cellEq]
      | some x =>
        rw[hfr] at heq hsd
        simp only at heq
        rw[heq] at hbi
        obtain⟨gx,_,_⟩:=from_good hg.rel hgo hfr
        obtain⟨q1,q2⟩:=gx.c
        obtain⟨t1,t2⟩:=gx.l
        have hex:begE g x.commit path=0:=by unfold begE;rw[if_pos b1,if_pos ⟨q1,q2,gx.f⟩]
        have hbx:blameL g x.commit path=blS g path x.commit (fileN g x.commit path):=by unfold blameL;rw[if_pos hex]
        have hxn:=blS_len g path x.commit (fileN g x.commit path)
        have hxf:(linesV (blobG g path x.commit.toNat)).length=fileN g x.commit path:=rfl
        rw[hxf] at t2
        obtain⟨xc,xl⟩:=x
        simp only at q1 q2 t1 t2 hex hbx hxn hxf
        obtain⟨t,rfl⟩:=Int.eq_ofNat_of_zero_le t1
        have htl:t<fileN g xc path:=by omega
        have hbi2:∀h:t<(blS g path xc (fileN g xc path)).length,(blS g path xc (fileN g xc path))[t]=blV g path ⟨xc,(t:Int)⟩:=fun h=>by simp[blS]
        generalize hbs2:blS g path xc (fileN g xc path)=bs2 at *
        have hbi2:=hbi2 (by omega)
        simp[x_law31_AnnotateSteps,h1,h2,h3,h4,h5,hp,hgg,hcp,o,he,hbl,hbn,h0,hline,r3,hsd,origO,hll,getD_map,hbi,hex,hbx,hxn,htl,hbi2,eSeq,cellsEq,cellEq]
  · simp[x_law31_AnnotateSteps,h1,h2,h3,hp,hgg,hcp,o,he]
theorem law31_AnnotateSteps_pre (raw:List Int) (start:Int) (line:Int) (w0:Arg.wf raw) (w1:Arg.wf start) (w2:Arg.wf line):raw.length≤9223372036854775807:=by
  have:=len_wf w0
  omega
theorem pickA_rng (raw:List Int) (start:Int):((graphV raw 7 5).length=0∧(pickA raw start).1=0)∨(0≤(pickA raw start).1∧(pickA raw start).1<((graphV raw 7 5).length:Int)):=by
  unfold pickA
  by_cases c0:(graphV raw 7 5).length=0
  · rw[if_pos c0];exact .inl ⟨c0,rfl⟩
  · rw[if_neg c0]
    have:=modV_lt start (n:=((graphV raw 7 5).length:Int)) (by omega)
    split
    · exact .inr this
    · exact .inr this
@[simp] def S_law31_AnnotateOrigins:List D→Prop × D:=spec2 (α:=List Int) (β:=Int) (fun raw _=>raw.length≤9223372036854775807) (fun _ _=>.bool true)
theorem ct_law31_AnnotateOrigins {P:Program} {f g1 g2 g3 g4 g5 g6 g7 g8:Nat} {G:Gam} (h:CodeOf P f 2 28 [2] (x_law31_AnnotateOrigins g1 g2 g3 g4 g5 g6 g7 g8)) (hG:GamOk P G) (h1:G.find g1=some S_law31_pick) (h2:G.find g2=some S_annotate_Blame) (h3:G.find g3=some S_law31_awake) (h4:G.find g4=some S_ref21_Find) (h5:G.find g5=some S_ref02_Lines) (h6:G.find g6=some S_ref23_Reach) (h7:G.find g7=some S_ref09_Blobs) (h8:G.find g8=some S_ref29_Partner):Has P f S_law31_AnnotateOrigins:=h.has2 hG fun raw start hp=>by
  have o:=graphV_ok raw (n:=7) (lines:=5) (by omega) (by omega) (by omega) (by decide)
  have hg:=GV.of o.1 o.2
  have hpr:=pickA_rng raw start
  generalize hgg:graphV raw 7 5=g at *
  generalize hcp:pickA raw start=x at *
  obtain⟨ci,path⟩:=x
  simp only at hpr
  rcases hpr with ⟨c0,rfl⟩ | ⟨c1,c2⟩
  · have he:begE g 0 path=5:=by unfold begE;rw[if_pos hg.c,if_neg];rintro⟨_,h,_⟩;omega
    simp[x_law31_AnnotateOrigins,h1,h2,h3,hp,hgg,hcp,o.2,he,c0]
  · obtain⟨c,rfl⟩:=Int.eq_ofNat_of_zero_le c1
    have hcl:c<g.length:=by omega
    have hcf:=(hg.files _ (List.getElem_mem hcl)).1
    have e1:blobF g[c].files path=blobG g path c:=by unfold blobG;simp[List.getD,hcl]
    have e2:inB g[c].files path=hasF g path c:=by unfold hasF;simp[List.getD,hcl]
    have hcb:=hg.blob hcl path
    have hcn:=check_len hcb
    have hgl0:¬g.length=0:=by omega
    cases hf:hasF g path c with
    | false =>
      have he:begE g (c:Int) path=5:=by unfold begE;rw[if_pos hg.c,if_neg];rintro⟨_,_,h⟩;rw[Int.toNat_natCast,hf] at h;cases h
      simp[x_law31_AnnotateOrigins,h1,h2,h3,h4,hp,hgg,hcp,o.2,he,hgl0,hcl,getD_map,show g[c].files.length≤9223372036854775807 by omega,e1,e2,hf]
    | true =>
      have he:begE g (c:Int) path=0:=by unfold begE;rw[if_pos hg.c,if_pos ⟨c1,c2,by simpa using hf⟩]
      have hbl:blameL g (c:Int) path=blS g path c (fileN g c path):=by unfold blameL;rw[if_pos he]
      have hfn:fileN g (c:Int) path=(linesV (blobG g path c)).length:=by unfold fileN;rw[Int.toNat_natCast]
      have hbn:=blS_len g path (c:Int) (fileN g c path)
      have hln:=checkT_lines hcb
      obtain⟨hh,hfix⟩:=hg.fix
      have hor:=fun (j:Nat) (h:j<fileN g (c:Int) path)=>blV_ok hg.rel hfix (goodO_of he (line:=(j:Int)) (by omega))
      have hbi:∀j (h:j<(blS g path (c:Int) (fileN g c path)).length),(blS g path (c:Int) (fileN g c path))[j]=blV g path ⟨(c:Int),(j:Int)⟩:=fun j h=>by simp[blS]
      have hreach:(reachV (parG g) [(c:Int)]).getD c false=true:=by
        have:=reach_from (g:=parG g) (fr:=[(c:Int)]) (p:=(c:Int)) (by simp) (by rw[parG_len];simpa using hcl)
        simpa using this
      have hrl:(reachV (parG g) [(c:Int)]).length=g.length:=by rw[reachV_len,parG_len]
      have hpar:∀c,c∈g→c.parents.length≤1000:=fun c hc=>by have:=hg.par c hc;omega
      generalize hbs:blS g path (c:Int) (fileN g c path)=bs at *
      generalize hRR:reachV (parG g) [(c:Int)]=RR at *
      rw[hfn] at hbn hor
      simp[x_law31_AnnotateOrigins,h1,h2,h4,h5,h6,hp,hgg,hcp,o.2,he,hbl,hbs,hgl0,hcl,getD_map,show g[c].files.length≤9223372036854775807 by omega,e1,e2,hf,show (blobG g path c).length≤4194304 by omega,hbn,show g.length≤1000 by have:=hg.len;omega,hg.rel,hRR]
      refine⟨hpar,?_⟩
      refine vc_lp (σ:=Nat) (fun j=>j≤(linesV (blobG g path c)).length) (fun j=>(linesV (blobG g path c)).length-j)
        (fun j=>[.any,.any,.any,.d (Rep.to g),.d (.int .i64 c),.d (.str path),.d (Rep.to bs),.any,.any,.any,.d (Rep.to (linesV (blobG g path c))),.d (Rep.to RR),.d (.int .i64 j),.any,.any,.any,.any,.any,.any,.any,.any,.any,.any,.any,.any,.any,.any,.any])
        (fun _=>[]) 0 (by simp) (by simp) (by simp) ?_
      intro j hj
      by_cases hjl:j<(linesV (blobG g path c)).length
      · have w1:IntKind.i64.wrap ((j:Int)+1)=(j:Int)+1:=wrap_in (by omega) (by omega)
        have hr:=hor j hjl
        have hb:=hbi j (by omega)
        have hab:=hr.above [(c:Int)] (by simpa [hRR] using hreach)
        rw[hRR] at hab
        have hgc:=hr.good.c
        have hgl:=hr.good.l
        have hno:=hr.none
        have hli:=hr.line
        generalize blV g path ⟨(c:Int),(j:Int)⟩=r at *
        obtain⟨rc,rl⟩:=r
        simp only at hgc hgl hab hno hli
        obtain⟨q,rfl⟩:=Int.eq_ofNat_of_zero_le hgc.1
        obtain⟨t,rfl⟩:=Int.eq_ofNat_of_zero_le hgl.1
        simp only[Int.toNat_natCast] at hgl hab hno hli
        have hql:q<g.length:=by omega
        have hqf:=(hg.files _ (List.getElem_mem hql)).1
        have q1:blobF g[q].files path=blobG g path q:=by unfold blobG;simp[List.getD,hql]
        have hqb:=hg.blob hql path
        have hqn:=check_len hqb
        have htl:t<(linesV (blobG g path q)).length:=by omega
        have hlt:(linesV (blobG g path q))[t]=(linesV (blobG g path c))[j]:=by simpa [List.getD,htl,hjl] using hli
        have hrq:RR[q]'(by omega)=true:=by simpa [List.getD,show q<RR.length by omega] using hab
        have hrq2:RR[q]?=some true:=by rw[List.getElem?_eq_getElem (by omega),hrq]
        have hpl:=hg.par _ (List.getElem_mem hql)
        have hrg:=hg.prng hql
        have eg:g.getD q default=g[q]:=by simp[List.getD,hql]
        unfold fromV at hno
        rw[eg] at hno
        have hnn:=fun p hp hf=>fromL_none hno p hp hf
        obtain⟨ps,hps⟩:∃ps,g[q].parents=ps:=⟨_,rfl⟩
        rw[hps] at hpl hrg hnn
        simp[hjl,getD_map,hbn,hb,hql,hrl,hrq,hrq2,h4,show g[q].files.length≤9223372036854775807 by omega,q1,h5,show (blobG g path q).length≤4194304 by omega,htl,hlt]
        refine vc_lp (σ:=Nat) (fun k=>k≤ps.length) (fun k=>ps.length-k)
          (fun k=>[.any,.any,.any,.d (Rep.to g),.d (.int .i64 c),.d (.str path),.d (Rep.to bs),.any,.any,.any,.d (Rep.to (linesV (blobG g path c))),.d (Rep.to RR),.d (.int .i64 j),.ref 0 0 0 0,.d (.str (blobG g path q)),.any,.d (.int .i64 k),.any,.any,.any,.any,.any,.any,.any,.any,.any,.any,.any])
          (fun _=>[.cells 0 2 [.d (.agg [.int .i64 q,.int .i64 t])]]) 0 (by simp) (by simp) (by simp) ?_
        intro k hk
        by_cases hkl:k<ps.length
        · have w2:IntKind.i64.wrap ((k:Int)+1)=(k:Int)+1:=wrap_in (by omega) (by omega)
          obtain⟨u1,u2⟩:=hrg _ (List.getElem_mem hkl)
          obtain⟨p,hpp⟩:=Int.eq_ofNat_of_zero_le u1
          have hpg:p<g.length:=by omega
          have hpf:=(hg.files _ (List.getElem_mem hpg)).1
          have p1:blobF g[p].files path=blobG g path p:=by unfold blobG;simp[List.getD,hpg]
          have p2:inB g[p].files path=hasF g path p:=by unfold hasF;simp[List.getD,hpg]
          have hpb:=hg.blob hpg path
          have hpn:=check_len hpb
          obtain⟨hck,hmat⟩:=scr_ok hpb hqb
          have hbd:=scr_blobs hpb hqb
          have hcn2:=check_clen hck
          have hex:∃n,checkV (scr (blobG g path p) (blobG g path q)) (linesV (blobG g path p)).length n=true:=⟨_,hck⟩
          have hpv:partL (pairsS (blobG g path p) (blobG g path q)) (t:Int)=partV (blobG g path p) (blobG g path q) (t:Int):=rfl
          have hnp:=hnn _ (List.getElem_mem hkl)
          rw[hpp,Int.toNat_natCast] at hnp
          cases hfp:hasF g path p with
          | false =>
            simp[hkl,getD_map,hql,hps,hpp,hpg,h4,show g[p].files.length≤9223372036854775807 by omega,p1,p2,hfp,h7,show (blobG g path p).length≤4194304 by omega,show (blobG g path q).length≤4194304 by omega,hbd,h5,h8,show (scr (blobG g path p) (blobG g path q)).length≤100000 by omega,hex,hmat,hpv,w2]
            exact Nxt.mk (k+1) (by omega) (by simp) (by simp) (by omega)
          | true =>
            have hnp:=hnp hfp
            simp[hkl,getD_map,hql,hps,hpp,hpg,h4,show g[p].files.length≤9223372036854775807 by omega,p1,p2,hfp,h7,show (blobG g path p).length≤4194304 by omega,show (blobG g path q).length≤4194304 by omega,hbd,h5,h8,show (scr (blobG g path p) (blobG g path q)).length≤100000 by omega,hex,hmat,hpv,show ¬0≤partV (blobG g path p) (blobG g path q) (t:Int) by omega,w2]
            exact Nxt.mk (k+1) (by omega) (by simp) (by simp) (by omega)
        · have h9':k=ps.length:=by omega
          subst h9'
          simp[hql,getD_map,hps,w1]
          exact Nxt.mk (j+1) (by omega) (by simp) (by simp) (by omega)
      · have h9':j=(linesV (blobG g path c)).length:=by omega
        subst h9'
        simp[hbn,h3]
theorem law31_AnnotateOrigins_pre (raw:List Int) (start:Int) (w0:Arg.wf raw) (w1:Arg.wf start):raw.length≤9223372036854775807:=by
  have:=len_wf w0
  omega
end Go.AE
