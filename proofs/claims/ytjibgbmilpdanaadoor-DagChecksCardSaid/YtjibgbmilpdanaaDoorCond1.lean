/-
  Spans,plainly.
-/
import Derived.Test.YtjibgbmilpdanaaDoorCona1
import Derived.Test.YtjibgbmilpdanaaDoorCode1
import Derived.Test.YtjibgbmilpdanaaDoorAe3
import Derived.Test.YtjibgbmilpdanaaDoorCona2
import Derived.Test.YtjibgbmilpdanaaDoorConb1

set_option linter.unusedSimpArgs false
set_option linter.unusedVariables false
set_option linter.unnecessarySimpa false
set_option maxRecDepth 20000
set_option maxHeartbeats 8000000
namespace Go.AE
def nearB (l:List SpanT) (c:Int) (i:Nat):Bool:=l.any fun s=>decide (s.fr-c≤i∧(i:Int)<s.to+c)
end Go.AE
namespace Go.AE
def hQ (l:List SpanT) (c:Int) (k:Nat) (a j:Int):Nat→Bool:=fun x=>nearB (l.take k) c x || decide (a≤x∧(x:Int)<j)
end Go.AE
namespace Go.AE
@[simp] theorem SbS_self:∀s:Store,SbS s s=True
  | []=>rfl
  | x::s=>by rw[SbS_cons,SbO_refl,SbS_self s];simp
end Go.AE
namespace Go.AE
end Go.AE
namespace Go.AE
end Go.AE
namespace Go.AE
def comA (g:List CommitT):List A:=g.map fun x=>A.d (Rep.to x)
theorem comA_len (g:List CommitT):(comA g).length=g.length:=by simp[comA]
theorem comA_get {g:List CommitT} {i:Nat} (h:i<g.length):(comA g)[i]?=some (.d (Rep.to g[i])):=by simp[comA,h]
theorem comA_under (g:List CommitT) (n:Nat):∀x,x∈comA g→A.under n x=true:=by
  intro x hx
  obtain⟨y,_,rfl⟩:=List.mem_map.1 hx
  rfl
theorem comA_ren (g:List CommitT) (f:Nat→Nat):(comA g).map (A.ren f)=comA g:=by
  unfold comA
  rw[List.map_map]
  rfl
structure TurnX where
  g:List CommitT
  raw:List Int
  v:Nat
def F_genown_Turned:RF TurnX where
  new:=1
  view a s:=⟨match s with
    | .cells _ _ xs::_=>(ofAll Rep.of (xs.map A.toD)).getD []
    | _=>[],(a.getD 1 .any).gl Int,match a with
    | .own _ v _ _::_=>v
    | _=>0⟩
  args x:=[.own 0 x.v 0 x.g.length,.d (Rep.to x.raw)]
  st x:=[.cells x.v 3 (comA x.g),.res]
  pre x:=x.g.length≤1000∧(∀c,c∈x.g→c.parents.length≤1000∧∀p,p∈c.parents→0≤p∧p≤1000000)∧x.raw.length≤9223372036854775807
  res x:=if (atV x.raw 3).tmod 2=0 then .own 0 x.v 0 x.g.length else .own 1 0 0 x.g.length
  st' x:=if (atV x.raw 3).tmod 2=0 then [.cells x.v 3 (comA x.g),.res] else [.cells x.v 3 (comA x.g),.cells 0 3 (comA (turnedV x.g x.raw))]
abbrev R_genown_Turned:RSpec:=F_genown_Turned.spec
theorem ct_genown_Turned {P:Program} {f g1:Nat} {G:Gam} (h:CodeOf P f 2 11 [2] (x_genown_Turned g1)) (hG:GamOk P G) (h1:G.find g1=some S_gen_At):RSpec.Ok P f R_genown_Turned:=by
  refine RF.ok h.call fun x hx=>h.rcalls hG rfl ?_
  obtain⟨g,raw,v⟩:=x
  obtain⟨p1,p2,p3⟩:=hx
  simp only at p1 p2 p3
  have q2:raw.length≤9223372036854775807:=by omega
  have hal:=comA_len g
  by_cases c0:(atV raw 3).tmod 2=0
  · simp[F_genown_Turned,x_genown_Turned,startA,h1,q2,c0]
    refine⟨by simp[resPre,resE],[0,1],rfl,⟨by decide,by simp,?_⟩,fun k hk=>?_,?_,?_,?_⟩
    · simp[pickS,Ob.ren,comA_ren]
      simpa using comA_under g 2
    · match k,hk with
      | 0,_=>exact .inl rfl
      | 1,_=>exact .inl rfl
    · simp[pickS,Ob.ren,comA_ren]
    · simp[resOf,resE,A.ren,A.rens,idxIn] <;> rfl
    · simp[A.under,A.unders]
  · have hv:turnedV g raw=(g.map (turnC g.length)).reverse:=by unfold turnedV;rw[if_neg c0]
    simp[F_genown_Turned,x_genown_Turned,startA,h1,q2,c0,hal]
    refine⟨⟨by unfold room;omega,by omega⟩,?_⟩
    refine vc_lp (σ:=Nat) (fun i=>i≤g.length) (fun i=>g.length-i)
      (fun i=>[.own 0 v 0 g.length,.any,.any,.d (.int .i64 g.length),.own 2 0 0 g.length,.d (.int .i64 i),.any,.any,.any,.any,.any])
      (fun i=>[.cells v 3 (comA g),.res,.cells 0 3 (tC g i)]) 0 (by simp) ?_ (by simp) ?_ (hc:=.inr ⟨by simp,by simpa using ⟨comA_under g 3,tC_under g 0 3⟩⟩)
    · rw[tC_zero]
      simp[zeroC]
    intro i hi
    by_cases hil:i<g.length
    · have w1:IntKind.i64.wrap ((i:Int)+1)=(i:Int)+1:=wrap_in (by omega) (by omega)
      have w2:IntKind.i64.wrap ((g.length:Int)-1)=((g.length-1:Nat):Int):=by rw[wrap_in (by omega) (by omega)];omega
      have w3:IntKind.i64.wrap (((g.length-1:Nat):Int)-i)=((g.length-1-i:Nat):Int):=by rw[wrap_in (by omega) (by omega)];omega
      have hset:=tC_set hil
      have hfit:=tC_fits g i
      have hlen:=tC_len g i
      have hund:=fun n=>tC_under g i n
      obtain⟨pl,pr⟩:=p2 _ (List.getElem_mem hil)
      have htc:turnC g.length g[i]=⟨turnP g.length g[i].parents,g[i].date,g[i].files⟩:=rfl
      generalize hbc:tC g i=bc at *
      generalize hca:g[i]=ca at *
      obtain⟨ps,dt,fs⟩:=ca
      have hget:=comA_get hil
      rw[hca] at hget
      obtain⟨_,hget2⟩:=List.getElem?_eq_some_iff.1 hget
      simp only at pl pr htc
      simp[hil,getD_map,hca,hal,hget,hget2]
      refine vc_lpR (σ:=Nat) (fun j=>j≤ps.length) (fun j=>ps.length-j)
        (fun j=>[.own 0 v 0 g.length,.any,.any,.d (.int .i64 g.length),.own 2 0 0 g.length,.d (.int .i64 i),.ref 3 0 0 0,.d (.int .i64 j),.any,.any,.any])
        (fun j=>[.cells v 3 (comA g),.res,.cells 0 3 bc,.cells 0 3 [.agg [.gr 4 1 ((turnP g.length (ps.take j)).map Rep.to),.d (.int .i64 dt),.d (Rep.to fs)]],.tip j]) 0 ?_ (by simp) ?_
      · refine Re.weak (k:=[.tip 0]) (s':=[.cells v 3 (comA g),.res,.cells 0 3 bc,.cells 0 3 [.agg [.gr 4 1 [],.d (.int .i64 dt),.d (Rep.to fs)]]]) (by simp) (by simp) (by simp) ⟨.inl rfl,.inl rfl,.inl rfl,.cellsL ⟨⟨rfl,?_⟩,trivial⟩,trivial⟩
        exact⟨Wk.fresh 4 [.tip 0] 1 0 rfl,Wk.refl _ _ _,Wk.refl _ _ _,trivial⟩
      intro j hj
      by_cases hjl:j<ps.length
      · have w4:IntKind.i64.wrap ((j:Int)+1)=(j:Int)+1:=wrap_in (by omega) (by omega)
        obtain⟨q3,q4⟩:=pr _ (List.getElem_mem hjl)
        have w5:IntKind.i64.wrap (((g.length-1:Nat):Int)-ps[j])=(g.length:Int)-1-ps[j]:=by rw[wrap_in (by omega) (by omega)];omega
        have hs:=turnP_take (n:=g.length) hjl
        have htl:(turnP g.length (ps.take j)).length=j:=by simp[turnP];omega
        simp[hil,getD_map,hca,hal,hget,hget2,hjl,w2,w5,w4,htl]
        exact⟨by unfold room;omega,Nxt.mk (j+1) (by omega) (by simp) (by simp[hs]) (by omega) (h4:=.inr ⟨by simp,by simpa using ⟨comA_under g 5,hund 5⟩⟩)⟩
      · have h9:j=ps.length:=by omega
        subst h9
        rw[List.take_length]
        simp[hil,getD_map,hca,hal,hget,hget2,w1,w2,w3,hlen]
        refine⟨by omega,Nxt.re (i+1) (by omega) (Re.wf (.cells v 3 (comA g)::.res::.cells 0 3 (bc.set (g.length-1-i) (.d (Rep.to (turnC g.length ⟨ps,dt,fs⟩))))::([_,_]:Store)) [true,false,false,true,true,true,false,false,false,false,false] 3 (by simp) (by simp) ⟨.inl rfl,.inl rfl,.cells (WkE.setset hfit rfl ?_),.inl rfl,.inl rfl,trivial⟩ (.inr ⟨by simp,?_⟩) (by simp) (by rw[hset];rfl)) (by omega)⟩
        · exact⟨Wk.gr _ _ _ _ _,Wk.refl _ _ _,Wk.refl _ _ _,trivial⟩
        · rw[hset]
          simpa using ⟨comA_under g 3,tC_under g (i+1) 3⟩
    · have h9:i=g.length:=by omega
      subst h9
      have he:=tC_end g
      have hlen:=tC_len g g.length
      have hte:tC g g.length=comA (turnedV g raw):=by rw[tC_end,hv];rfl
      simp
      rw[hte]
      refine⟨by simp[resPre,resE],[0,2],rfl,⟨by decide,by simp,?_⟩,fun k hk=>?_,?_,?_,by simp[A.under,A.unders]⟩
      · simp[pickS,Ob.ren,comA_ren]
        simpa using ⟨comA_under g 2,comA_under (turnedV g raw) 2⟩
      · match k,hk with
        | 0,_=>exact .inl rfl
        | 1,_=>exact .inr rfl
      · simp[pickS,Ob.ren,comA_ren]
      · simp[resOf,resE,A.ren,A.rens,idxIn] <;> rfl
theorem comA_snoc (g:List CommitT) (x:CommitT):comA (g++[x])=comA g++[.d (Rep.to x)]:=by simp[comA]
@[simp] theorem comA_objs:∀l:List CommitT,A.objsL (comA l)=[]
  | []=>rfl
  | x::l=>by
    have:=comA_objs l
    simp only[comA,List.map_cons,A.objsL,A.objs,List.nil_append] at this ⊢
    exact this
@[simp] theorem comA_toD (g:List CommitT):(comA g).map A.toD=g.map Rep.to:=by simp[comA,Function.comp_def,A.toD]
theorem comA_fits (g:List CommitT):∀x,x∈comA g→x.fits 3=true:=by
  intro x hx
  obtain⟨y,_,rfl⟩:=List.mem_map.1 hx
  rfl
structure GraphX where
  raw:List Int
  n:Int
  lines:Int
def graphVer (x:GraphX):Nat:=if (atV x.raw 3).tmod 2=0 then (graphV x.raw x.n x.lines).length else 0
def F_genown_Graph:RF GraphX where
  new:=1
  view a _:=⟨(a.getD 0 .any).gl Int,(a.getD 1 .any).gi,(a.getD 2 .any).gi⟩
  args x:=[.d (Rep.to x.raw),.d (.int .i64 x.n),.d (.int .i64 x.lines)]
  st x:=[.res]
  pre x:=x.raw.length≤9223372036854775807∧0≤x.n∧x.n≤10∧0≤x.lines∧x.lines≤100∧(x.lines.toNat+1) * 2 ^ x.n.toNat≤2048
  res x:=.own 0 (graphVer x) 0 (graphV x.raw x.n x.lines).length
  st' x:=[.cells (graphVer x) 3 (comA (graphV x.raw x.n x.lines))]
abbrev R_genown_Graph:RSpec:=F_genown_Graph.spec
theorem ct_genown_Graph {P:Program} {f g1 g2 g3 g4 g5:Nat} {G:Gam} (h:CodeOf P f 3 13 [3] (x_genown_Graph g1 g2 g3 g4 g5)) (hG:GamOk P G) (h1:G.find g1=some S_gen_At) (h2:G.find g2=some S_gen_Mod) (h3:G.find g3=some S_gen_Files) (h4:G.find g4=some S_gen_change) (h5:G.findR g5=some R_genown_Turned):RSpec.Ok P f R_genown_Graph:=by
  refine RF.ok h.call fun x hx=>h.rcalls hG rfl ?_
  obtain⟨raw,n,lines⟩:=x
  obtain⟨p1,p2,p3,p4,p5,pN⟩:=hx
  simp only at p1 p2 p3 p4 p5 pN
  have q2:raw.length≤9223372036854775807:=by omega
  have w0:IntKind.i64.wrap (n+1)=n+1:=wrap_in (by omega) (by omega)
  have r0:1≤n+1∧n+1≤9223372036854775807:=by omega
  obtain⟨m1,m2⟩:=modV_lt (atV raw 0) (n:=n+1) (by omega)
  have hv:graphV raw n lines=turnedV (graphG raw lines (modV (atV raw 0) (n+1)).toNat) raw:=rfl
  simp[F_genown_Graph,x_genown_Graph,startA,h1,h2,q2,w0,r0]
  obtain⟨m,hm⟩:=Int.eq_ofNat_of_zero_le m1
  rw[hm] at m2 ⊢
  have hmn:m≤n.toNat:=by omega
  have pM:(lines.toNat+1) * 2 ^ m≤2048:=Nat.le_trans (Nat.mul_le_mul_left _ (Nat.pow_le_pow_right (by omega) hmn)) pN
  rw[hm,Int.toNat_natCast] at hv
  refine vc_lp (σ:=Nat) (fun c=>c≤m) (fun c=>m-c)
    (fun c=>[.d (Rep.to raw),.d (.int .i64 m),.d (.int .i64 lines),.any,.own 1 c 0 c,.d (.int .i64 c),.any,.any,.any,.any,.any,.any,.any])
    (fun c=>[.res,.cells c 3 (comA (graphG raw lines c))]) 0 (by simp[graphG]) (by simp[graphG,comA]) (by simp) ?_ (hc:=.inr ⟨by simp,by simp[graphG,comA]⟩)
  intro c hc
  have hgl:=graphG_len raw lines c
  have hcl:=comA_len (graphG raw lines c)
  have hcg:=fun i (h:i<(graphG raw lines c).length)=>comA_get h
  by_cases hcm:c<m
  · have w1:IntKind.i64.wrap ((c:Int)+1)=(c:Int)+1:=wrap_in (by omega) (by omega)
    have w2:IntKind.i64.wrap (1000+(c:Int))=1000+c:=wrap_in (by omega) (by omega)
    have w3:IntKind.i64.wrap (40 * (c:Int))=40 * c:=wrap_in (by omega) (by omega)
    have w4:IntKind.i64.wrap (1100+40 * (c:Int))=1100+40 * c:=wrap_in (by omega) (by omega)
    have w6:IntKind.i64.wrap (1500+(c:Int))=1500+c:=wrap_in (by omega) (by omega)
    have w7:IntKind.i64.wrap (1600+(c:Int))=1600+c:=wrap_in (by omega) (by omega)
    have w8:IntKind.i64.wrap (200 * (c:Int))=200 * c:=wrap_in (by omega) (by omega)
    have w9:IntKind.i64.wrap (2000+200 * (c:Int))=2000+200 * c:=wrap_in (by omega) (by omega)
    have w10:IntKind.i64.wrap ((c:Int)-1)=(c:Int)-1:=wrap_in (by omega) (by omega)
    have r2:0≤1000+(c:Int)∧1000+(c:Int)<9223372036854775807:=by omega
    have r6:0≤1500+(c:Int)∧1500+(c:Int)<9223372036854775807:=by omega
    have r7:0≤1600+(c:Int)∧1600+(c:Int)<9223372036854775807:=by omega
    have r9:0≤2000+200 * (c:Int)∧2000+200 * (c:Int)≤50000:=by omega
    have hgs:graphG raw lines (c+1)=graphG raw lines c++[commitV raw lines (graphG raw lines c) c]:=rfl
    have hcv:∀ps fs,parF raw c=ps→(if ps≠[]∧0<(atV raw (1600+c)).tmod 4 then changeV ((graphG raw lines c).getD (ps.getD 0 0).toNat default).files raw (2000+200 * c) lines else gfilesV raw (2000+200 * c) lines)=fs→commitV raw lines (graphG raw lines c) c=⟨ps,modV (atV raw (1000+c)) 5,fs⟩:=fun ps fs e1 e2=>by
      subst e1
      subst e2
      rfl
    simp[hcm,show (c:Int)<m by omega,h1,h2,q2,w2,r2]
    generalize modV (atV raw (1000+c)) 5=dt at *
    refine vc_lpR (σ:=Nat) (fun p=>p≤c) (fun p=>c-p)
      (fun p=>[.d (Rep.to raw),.d (.int .i64 m),.d (.int .i64 lines),.any,.own 1 c 0 c,.d (.int .i64 c),.ref 2 0 0 0,.d (.int .i64 p),.any,.any,.any,.any,.any])
      (fun p=>[.res,.cells c 3 (comA (graphG raw lines c)),.cells 0 3 [.agg [.gr 3 1 ((parS raw c p).map Rep.to),.d (.int .i64 dt),.d .nilsl]],.tip (parS raw c p).length]) 0 ?_ (by simp) ?_
    · refine Re.weak (k:=[.tip 0]) (s':=[.res,.cells c 3 (comA (graphG raw lines c)),.cells 0 3 [.agg [.gr 3 1 [],.d (.int .i64 dt),.d .nilsl]]]) (by simp) (by simp) (by simp) ⟨.inl rfl,.inl rfl,.cellsL ⟨⟨rfl,?_⟩,trivial⟩,trivial⟩
      exact⟨Wk.fresh 3 [.tip 0] 1 0 rfl,Wk.refl _ _ _,Wk.refl _ _ _,trivial⟩
    intro p hp
    have hps:=parS_good raw c p
    by_cases hpc:p<c
    · have v1:IntKind.i64.wrap ((p:Int)+1)=(p:Int)+1:=wrap_in (by omega) (by omega)
      have v2:IntKind.i64.wrap (1100+40 * (c:Int)+p)=1100+40 * c+p:=wrap_in (by omega) (by omega)
      have v3:0≤1100+40 * (c:Int)+p∧1100+40 * (c:Int)+p<9223372036854775807:=by omega
      have hs:parS raw c (p+1)=if (atV raw (1100+40 * c+p)).tmod 3=0∧(parS raw c p).length<3 then parS raw c p++[(p:Int)] else parS raw c p:=rfl
      by_cases c0:(atV raw (1100+40 * c+p)).tmod 3=0
      · by_cases c1:(parS raw c p).length<3
        · rw[if_pos ⟨c0,c1⟩] at hs
          simp[hpc,show (p:Int)<c by omega,h1,q2,w3,w4,v2,v3,c0,c1,show ((parS raw c p).length:Int)<3 by omega,v1]
          exact⟨by unfold room;omega,Nxt.mk (p+1) (by omega) (by simp) (by simp[hs]) (by omega) (h4:=.inr ⟨by simp,by simpa using comA_under (graphG raw lines c) 4⟩)⟩
        · rw[if_neg (fun h=>c1 h.2)] at hs
          simp[hpc,show (p:Int)<c by omega,h1,q2,w3,w4,v2,v3,c0,c1,show ¬((parS raw c p).length:Int)<3 by omega,v1]
          exact Nxt.mk (p+1) (by omega) (by simp) (by simp[hs]) (by omega) (h4:=.inr ⟨by simp,by simpa using comA_under (graphG raw lines c) 4⟩)
      · rw[if_neg (fun h=>c0 h.1)] at hs
        simp[hpc,show (p:Int)<c by omega,h1,q2,w3,w4,v2,v3,c0,v1]
        exact Nxt.mk (p+1) (by omega) (by simp) (by simp[hs]) (by omega) (h4:=.inr ⟨by simp,by simpa using comA_under (graphG raw lines c) 4⟩)
    · have h9:p=c:=by omega
      subst h9
      have hpf:parF raw p=if parS raw p p=[]∧0<p∧0<(atV raw (1500+p)).tmod 4 then [(p:Int)-1] else parS raw p p:=rfl
      generalize parS raw p p=ps at *
      by_cases d0:ps=[]
      · subst d0
        by_cases d1:0<p
        · by_cases d2:0<(atV raw (1500+p)).tmod 4
          · rw[if_pos ⟨rfl,d1,d2⟩] at hpf
            obtain⟨e1,e2,e3⟩:=graphG_files (raw:=raw) p4 (q:=p-1) (c:=p) (by omega) hcm pM
            have hpi:((p:Int)-1).toNat=p-1:=by omega
            by_cases d3:0<(atV raw (1600+p)).tmod 4
            · have hc1:=hcv _ _ hpf (if_pos ⟨by simp,d3⟩)
              simp only[List.getD_cons_zero,hpi] at hc1
              rw[e1] at hc1
              rw[hc1] at hgs
              have hg1:=hcg (p-1) (by rw[hgl];omega)
              obtain⟨_,hg2⟩:=List.getElem?_eq_some_iff.1 hg1
              simp[d1,show (0:Int)<p by omega,h1,h3,h4,q2,p1,p4,p5,w6,w7,w8,w9,w10,r6,r7,r9,d2,d3,getD_map,hgl,hcl,hpi,hg1,hg2,e2,w1,show (1:Int)≤p by omega,show p-1<p by omega]
              exact⟨by omega,e3,by unfold room;omega,Nxt.mk (p+1) (by omega) (by simp) (by simp[hgs,comA_snoc]) (by omega) (h4:=.inr ⟨by simp,by simpa using comA_under (graphG raw lines (p+1)) 2⟩)⟩
            · have hc1:=hcv _ _ hpf (if_neg (fun h=>d3 h.2))
              rw[hc1] at hgs
              simp[d1,show (0:Int)<p by omega,h1,h3,h4,q2,p1,p4,p5,w6,w7,w8,w9,w10,r6,r7,r9,d2,d3,getD_map,hgl,hcl,hpi,w1]
              exact⟨by unfold room;omega,Nxt.mk (p+1) (by omega) (by simp) (by simp[hgs,comA_snoc]) (by omega) (h4:=.inr ⟨by simp,by simpa using comA_under (graphG raw lines (p+1)) 2⟩)⟩
          · rw[if_neg (fun h=>d2 h.2.2)] at hpf
            have hc1:=hcv _ _ hpf (if_neg (fun h=>h.1 rfl))
            rw[hc1] at hgs
            simp[d1,show (0:Int)<p by omega,h1,h3,h4,q2,p1,p4,p5,w6,w7,w8,w9,w10,r6,r7,r9,d2,getD_map,hgl,hcl,w1]
            exact⟨by unfold room;omega,Nxt.mk (p+1) (by omega) (by simp) (by simp[hgs,comA_snoc]) (by omega) (h4:=.inr ⟨by simp,by simpa using comA_under (graphG raw lines (p+1)) 2⟩)⟩
        · rw[if_neg (fun h=>d1 h.2.1)] at hpf
          have hc1:=hcv _ _ hpf (if_neg (fun h=>h.1 rfl))
          rw[hc1] at hgs
          simp[d1,show ¬(0:Int)<p by omega,h1,h3,h4,q2,p1,p4,p5,w6,w7,w8,w9,w10,r6,r7,r9,getD_map,hgl,hcl,w1]
          exact⟨by unfold room;omega,Nxt.mk (p+1) (by omega) (by simp) (by simp[hgs,comA_snoc]) (by omega) (h4:=.inr ⟨by simp,by simpa using comA_under (graphG raw lines (p+1)) 2⟩)⟩
      · rw[if_neg (fun h=>d0 h.1)] at hpf
        have d0':¬ps.length=0:=fun e=>d0 (List.length_eq_zero_iff.1 e)
        by_cases d3:0<(atV raw (1600+p)).tmod 4
        · have hc1:=hcv _ _ hpf (if_pos ⟨d0,d3⟩)
          cases ps with
          | nil=>exact absurd rfl d0
          | cons p0 r =>
            obtain⟨z1,z2⟩:=hps.2.1 p0 (by simp)
            obtain⟨q,rfl⟩:=Int.eq_ofNat_of_zero_le z1
            have hq:q<p:=by omega
            obtain⟨e1,e2,e3⟩:=graphG_files (raw:=raw) p4 (q:=q) (c:=p) hq hcm pM
            simp only[List.getD_cons_zero,Int.toNat_natCast] at hc1
            rw[e1] at hc1
            rw[hc1] at hgs
            have hg1:=hcg q (by rw[hgl];exact hq)
            obtain⟨_,hg2⟩:=List.getElem?_eq_some_iff.1 hg1
            have d5:¬((r.length:Int)+1=0):=by omega
            have d6:(0:Int)<(r.length:Int)+1:=by omega
            simp[h1,h3,h4,q2,p1,p4,p5,w6,w7,w8,w9,w10,r6,r7,r9,d3,d5,d6,getD_map,hgl,hcl,hg1,hg2,e2,hq,w1]
            exact⟨e3,by unfold room;omega,Nxt.mk (p+1) (by omega) (by simp) (by simp[hgs,comA_snoc]) (by omega) (h4:=.inr ⟨by simp,by simpa using comA_under (graphG raw lines (p+1)) 2⟩)⟩
        · have hc1:=hcv _ _ hpf (if_neg (fun h=>d3 h.2))
          rw[hc1] at hgs
          simp[d0,d0',h1,h3,h4,q2,p1,p4,p5,w6,w7,w8,w9,w10,r6,r7,r9,d3,getD_map,hgl,hcl,w1]
          exact fun _=>⟨by unfold room;omega,Nxt.mk (p+1) (by omega) (by simp) (by simp[hgs,comA_snoc]) (by omega) (h4:=.inr ⟨by simp,by simpa using comA_under (graphG raw lines (p+1)) 2⟩)⟩
  · have h9:c=m:=by omega
    subst h9
    have hgp:∀x,x∈graphG raw lines c→x.parents.length≤1000∧∀p,p∈x.parents→0≤p∧p≤1000000:=fun x hx=>by
      obtain⟨k,hk,rfl⟩:=List.mem_iff_getElem.1 hx
      have hg:=graphG_good raw p4 c k hk
      exact⟨by have:=hg.len;omega,fun p hp=>by have:=hg.par p hp;omega⟩
    have hu:=fun k=>comA_under (graphG raw lines c) k
    have hvl:(graphV raw n lines).length=c:=by
      rw[hv]
      unfold turnedV
      split
      · exact hgl
      · simp[hgl]
    by_cases c0:(atV raw 3).tmod 2=0
    · have hvg:graphV raw n lines=graphG raw lines c:=by rw[hv];unfold turnedV;rw[if_pos c0]
      have hver:graphVer ⟨raw,n,lines⟩=c:=by unfold graphVer;rw[if_pos c0];exact hvl
      simp[h5,eRCall,F_genown_Turned,p1,hgl,hcl,comA_ren,show c≤1000 by omega,c0,hver,hvg]
      refine⟨⟨hu 2,hgp,hu 2⟩,?_⟩
      refine⟨by simp[resPre,resE],[1],rfl,⟨by decide,by simp,?_⟩,fun k hk=>?_,?_,?_,by simp[A.under,A.unders]⟩
      · simp[pickS,Ob.ren,comA_ren]
        simpa using hu 1
      · match k,hk with
        | 0,_=>exact .inr rfl
      · simp[pickS,Ob.ren,comA_ren]
      · simp[resOf,resE,A.ren,A.rens,idxIn] <;> rfl
    · have hvg:turnedV (graphG raw lines c) raw=graphV raw n lines:=hv.symm
      have hver:graphVer ⟨raw,n,lines⟩=0:=by unfold graphVer;rw[if_neg c0]
      have hu2:=fun k=>comA_under (graphV raw n lines) k
      simp[h5,eRCall,F_genown_Turned,p1,hgl,hcl,comA_ren,show c≤1000 by omega,c0,hver,hvg,hvl]
      refine⟨⟨hu 2,hgp,hu 2,hu2 2⟩,?_⟩
      refine⟨by simp[resPre,resE],[2],rfl,⟨by decide,by simp,?_⟩,fun k hk=>?_,?_,?_,by simp[A.under,A.unders]⟩
      · simp[pickS,Ob.ren,comA_ren]
        simpa using hu2 1
      · match k,hk with
        | 0,_=>exact .inr rfl
      · simp[pickS,Ob.ren,comA_ren]
      · simp[resOf,resE,A.ren,A.rens,idxIn] <;> rfl
def smallC (g:List CommitT):Bool:=decide (g.length≤8) && g.all fun c=>decide (c.parents.length≤40) && decide (c.files.length≤4)
theorem small_off {g:List CommitT} {i:Nat} (h:i<g.length) (hb:¬(g[i].parents.length≤40∧g[i].files.length≤4)):smallC g=false:=by
  unfold smallC
  rw[Bool.and_eq_false_iff,List.all_eq_false]
  right
  refine⟨g[i],List.getElem_mem h,?_⟩
  simpa using hb
@[simp] def S_law23_small:List D→Prop × D:=spec1 (α:=List CommitT) (fun g=>g.length≤9223372036854775807) (fun g=>.bool (smallC g))
theorem ct_law23_small {P:Program} {f:Nat} {G:Gam} (h:CodeOf P f 1 6 [1] x_law23_small) (hG:GamOk P G):Has P f S_law23_small:=h.has1 hG fun g hp=>by
  by_cases c8:8<g.length
  · have:smallC g=false:=by unfold smallC;simp;omega
    simp[x_law23_small,show (8:Int)<g.length by omega,this]
  · simp[x_law23_small,show ¬(8:Int)<g.length by omega]
    refine vc_lp (σ:=Nat) (fun i=>i≤g.length∧∀k (hk:k<g.length),k<i→g[k].parents.length≤40∧g[k].files.length≤4) (fun i=>g.length-i)
      (fun i=>[.d (Rep.to g),.any,.d (.int .i64 i),.any,.any,.any]) (fun _=>[]) 0 (by simp) (by simp) ⟨by simp,by simp⟩ ?_
    rintro i ⟨hi,hn⟩
    by_cases hil:i<g.length
    · have w1:IntKind.i64.wrap ((i:Int)+1)=(i:Int)+1:=wrap_in (by omega) (by omega)
      have hoff:=fun hb=>small_off hil hb
      by_cases q1:40<g[i].parents.length
      · simp[hil,getD_map,show (40:Int)<g[i].parents.length by omega,hoff (by omega)]
      · by_cases q2:4<g[i].files.length
        · simp[hil,getD_map,show ¬(40:Int)<g[i].parents.length by omega,show (4:Int)<g[i].files.length by omega,hoff (by omega)]
        · simp[hil,getD_map,show ¬(40:Int)<g[i].parents.length by omega,show ¬(4:Int)<g[i].files.length by omega,w1]
          refine Nxt.mk (i+1) (by omega) (by simp) (by simp) ⟨by omega,fun k hk hki=>?_⟩
          by_cases e:k=i
          · subst e;omega
          · exact hn k hk (by omega)
    · have h9:i=g.length:=by omega
      subst h9
      have:smallC g=true:=by
        unfold smallC
        rw[Bool.and_eq_true,List.all_eq_true]
        refine⟨by simpa using c8,fun c hc=>?_⟩
        obtain⟨k,hk,rfl⟩:=List.mem_iff_getElem.1 hc
        simpa using hn k hk hk
      simp[this]
structure BefOk (bef:Int→Int→Bool):Prop where
  irr:∀a,bef a a=false
  tr:∀a b c,bef a b=true→bef b c=true→bef a c=true
  tot:∀a b,a≠b→bef a b=true∨bef b a=true
def dateG (g:List CommitT) (c:Int):Int:=(g.getD c.toNat default).date
def befG (g:List CommitT) (a b:Int):Bool:=if dateG g a≠dateG g b then decide (dateG g b<dateG g a) else decide (a<b)
theorem befG_ok (g:List CommitT):BefOk (befG g) where
  irr a:=by simp[befG]
  tr a b c h1 h2:=by
    unfold befG at *
    generalize dateG g a=x at *
    generalize dateG g b=y at *
    generalize dateG g c=z at *
    split at h1 <;> split at h2 <;> split <;> simp at * <;> omega
  tot a b h:=by
    unfold befG
    by_cases e:dateG g a=dateG g b
    · rw[e];simp;omega
    · have e2:dateG g b≠dateG g a:=fun h=>e h.symm
      rw[if_pos e,if_pos e2]
      simp
      omega
def A.qg:A→List CommitT
  | .fn _ [x] _=>x.gl CommitT
  | _=>[]
@[simp] theorem A.qg_fn (f:Fn) (x:A) (c:List A):A.qg (.fn f [x] c)=x.gl CommitT:=rfl
@[simp] theorem cntC_objs:∀l:List Int,A.objsL (cntC l)=[]
  | []=>rfl
  | b::l=>by
    have:=cntC_objs l
    simp only[cntC,List.map_cons,A.objsL,A.objs,List.nil_append] at this ⊢
    exact this
@[simp] theorem cntC_ren (q:Nat→Nat) (l:List Int):(cntC l).map (A.ren q)=cntC l:=by simp[cntC]
@[simp] theorem cntC_underS (m:Nat) (l:List Int):(∀x,x∈cntC l→A.under m x=true)=True:=eq_true (cntC_under l m)
def rdyL (g:List CommitT) (R L:List Bool) (c:Nat):Bool:=(kidsV g (c:Int) g.length).all (fun k=>!(R.getD k.toNat false && !L.getD k.toNat false)) && (R.getD c false && !L.getD c false)
theorem rdyL_iff {g:List CommitT} {R L:List Bool} {c:Nat}:rdyL g R L c=true↔(R.getD c false=true∧L.getD c false=false)∧∀k,k<g.length→(c:Int)∈(g.getD k default).parents→R.getD k false=true→L.getD k false=true:=by
  unfold rdyL kidsV
  rw[Bool.and_eq_true,Bool.and_eq_true,List.all_eq_true]
  constructor
  · rintro⟨h1,h2,h3⟩
    have h3':L.getD c false=false:=by
      cases hq:L.getD c false with
      | false=>rfl
      | true=>rw[hq] at h3;cases h3
    refine⟨⟨h2,h3'⟩,fun k hk hm hr=>?_⟩
    have:=h1 (k:Int) (where_mem.2 ⟨hk,by unfold kidB;simpa using hm⟩)
    rw[Int.toNat_natCast,hr] at this
    simpa using this
  · rintro⟨⟨h1,h2⟩,h3⟩
    refine⟨fun k hk=>?_,h1,by rw[h2];rfl⟩
    have hr:=where_rng k hk
    obtain⟨i,rfl⟩:=Int.eq_ofNat_of_zero_le hr.1
    rw[Int.toNat_natCast]
    have hi:=where_mem.1 hk
    have hm:(c:Int)∈(g.getD i default).parents:=by have:=hi.2;unfold kidB at this;simpa using this
    cases hR:R.getD i false with
    | false=>simp
    | true =>
      rw[h3 i hi.1 hm hR]
      simp
def bestS (g:List CommitT) (R L:List Bool):Nat→Int
  | 0=>-1
  | k+1=>if rdyL g R L k=true∧(bestS g R L k<0∨dateG g (bestS g R L k)<dateG g (k:Int)) then (k:Int) else bestS g R L k
theorem bestS_spec (g:List CommitT) (R L:List Bool):∀k,(bestS g R L k=-1∧∀c,c<k→rdyL g R L c=false)∨∃b:Nat,bestS g R L k=(b:Int)∧b<k∧rdyL g R L b=true∧∀c,c<k→rdyL g R L c=true→c≠b→befG g (b:Int) (c:Int)=true
  | 0=>.inl ⟨rfl,fun c h=>by omega⟩
  | k+1=>by
    have ih:=bestS_spec g R L k
    unfold bestS
    by_cases h:rdyL g R L k=true∧(bestS g R L k<0∨dateG g (bestS g R L k)<dateG g (k:Int))
    · rw[if_pos h]
      refine .inr ⟨k,rfl,by omega,h.1,fun c hc hr hne=>?_⟩
      have hck:c<k:=by omega
      rcases ih with ⟨e,hn⟩ | ⟨b,e,hb,hrb,hbf⟩
      · rw[hn c hck] at hr;cases hr
      · rw[e] at h
        have hd:dateG g (b:Int)<dateG g (k:Int):=by
          rcases h.2 with h2 | h2
          · omega
          · exact h2
        have hkb:befG g (k:Int) (b:Int)=true:=by
          unfold befG
          rw[if_pos (by omega)]
          simpa using hd
        by_cases e2:c=b
        · subst e2;exact hkb
        · exact (befG_ok g).tr _ _ _ hkb (hbf c hck hr e2)
    · rw[if_neg h]
      rcases ih with ⟨e,hn⟩ | ⟨b,e,hb,hrb,hbf⟩
      · refine .inl ⟨e,fun c hc=>?_⟩
        by_cases e2:c=k
        · subst e2
          cases hq:rdyL g R L c with
          | false=>rfl
          | true=>exact absurd ⟨hq,.inl (by rw[e];omega)⟩ h
        · exact hn c (by omega)
      · refine .inr ⟨b,e,by omega,hrb,fun c hc hr hne=>?_⟩
        by_cases e2:c=k
        · subst e2
          have hnd:¬dateG g (b:Int)<dateG g (c:Int):=fun hd=>h ⟨hr,.inr (by rw[e];exact hd)⟩
          unfold befG
          by_cases e3:dateG g (b:Int)=dateG g (c:Int)
          · rw[e3];simp;omega
          · rw[if_pos e3];simp;omega
        · exact hbf c (by omega) hr hne
def orderGo (g:List CommitT) (R:List Bool):Nat→List Bool→List Int→List Int
  | 0,_,out=>out
  | f+1,L,out=>if bestS g R L g.length<0 then out else orderGo g R f (L.set (bestS g R L g.length).toNat true) (out++[bestS g R L g.length])
def orderV (g:List CommitT) (R:List Bool):List Int:=orderGo g R (g.length+1) (List.replicate g.length false) []
def flagL (n:Nat) (out:List Int):List Bool:=markL (List.replicate n false) out
theorem flagL_len (n:Nat) (out:List Int):(flagL n out).length=n:=by unfold flagL;rw[markL_len];simp
theorem flagL_snoc (n:Nat) (out:List Int) (x:Int):flagL n (out++[x])=(flagL n out).set x.toNat true:=by
  unfold flagL markL
  rw[List.foldl_append]
  rfl
theorem flagL_get (n:Nat) (out:List Int) (h:∀x,x∈out→0≤x) (i:Nat):(flagL n out).getD i false=true↔i<n∧(i:Int)∈out:=by
  unfold flagL
  rw[markL_get,getD_rep,List.length_replicate]
  constructor
  · rintro (h1 | ⟨h1,p,hp,e⟩)
    · cases h1
    have:=h p hp
    exact⟨h1,by rw[← e];rw[show ((p.toNat:Nat):Int)=p by omega];exact hp⟩
  · rintro⟨h1,h2⟩
    exact .inr ⟨h1,_,h2,by simp⟩
structure StepsOk (g:List CommitT) (R:List Bool) (o:List Int):Prop where
  step:∀k (hk:k<o.length),∃b:Nat,o[k]=(b:Int)∧b<g.length∧rdyL g R (flagL g.length (o.take k)) b=true∧∀c,c<g.length→rdyL g R (flagL g.length (o.take k)) c=true→c≠b→befG g (b:Int) (c:Int)=true
structure IsOrder (g:List CommitT) (R:List Bool) (o:List Int):Prop where
  steps:StepsOk g R o
  fin:∀c,c<g.length→rdyL g R (flagL g.length o) c=false
theorem StepsOk.snoc {g:List CommitT} {R:List Bool} {o:List Int} (h:StepsOk g R o) {b:Nat} (hb:b<g.length) (hr:rdyL g R (flagL g.length o) b=true) (hm:∀c,c<g.length→rdyL g R (flagL g.length o) c=true→c≠b→befG g (b:Int) (c:Int)=true):StepsOk g R (o++[(b:Int)]):=by
  refine⟨fun k hk=>?_⟩
  by_cases e:k<o.length
  · obtain⟨b',h1,h2⟩:=h.step k e
    refine⟨b',by rw[List.getElem_append_left e];exact h1,?_⟩
    rw[List.take_append_of_le_length (by omega)]
    exact h2
  · have e:k=o.length:=by simp at hk;omega
    subst e
    refine⟨b,by simp,hb,?_⟩
    rw[List.take_left']
    · exact⟨hr,hm⟩
    · rfl
theorem set_cnt {L:List Bool} {i:Nat} (hi:i<L.length) (h:L.getD i false=false):(L.set i true).count true=L.count true+1:=by
  induction L generalizing i with
  | nil=>simp at hi
  | cons x L ih =>
    cases i with
    | zero =>
      simp at h
      subst h
      simp
    | succ i =>
      have:=ih (i:=i) (by simpa using hi) (by simpa using h)
      simp only[List.set_cons_succ,List.count_cons,this]
      omega
theorem orderGo_ok {g:List CommitT} {R:List Bool}:∀f (L:List Bool) (out:List Int),L=flagL g.length out→StepsOk g R out→f+L.count true=g.length+1→IsOrder g R (orderGo g R f L out)
  | 0,L,out,hL,hs,hf=>by
    have h1:=List.count_le_length (a:=true) (l:=L)
    have h2:L.length=g.length:=by rw[hL,flagL_len]
    omega
  | f+1,L,out,hL,hs,hf=>by
    unfold orderGo
    have hb:=bestS_spec g R L g.length
    split
    · rename_i h
      rcases hb with ⟨e,hn⟩ | ⟨b,e,_⟩
      · exact⟨hs,fun c hc=>by rw[← hL];exact hn c hc⟩
      · omega
    · rename_i h
      rcases hb with ⟨e,hn⟩ | ⟨b,e,hb,hr,hm⟩
      · omega
      · rw[e,Int.toNat_natCast]
        have hlb:L.getD b false=false:=(rdyL_iff.1 hr).1.2
        have hlen:L.length=g.length:=by rw[hL,flagL_len]
        have hcnt:=set_cnt (L:=L) (i:=b) (by omega) hlb
        refine orderGo_ok f _ _ ?_ ?_ (by omega)
        · rw[flagL_snoc,← hL];rfl
        · exact hs.snoc hb (by rw[← hL];exact hr) (fun c hc h1 h2=>hm c hc (by rw[hL];exact h1) h2)
theorem orderV_ok (g:List CommitT) (R:List Bool):IsOrder g R (orderV g R) :=
  orderGo_ok _ _ _ rfl ⟨fun k hk=>by simp at hk⟩ (by simp[List.count_replicate])
/-! ### what an order lists -/
theorem StepsOk.rng {g:List CommitT} {R:List Bool} {o:List Int} (h:StepsOk g R o):∀x,x∈o→0≤x∧x<(g.length:Int):=by
  intro x hx
  obtain⟨k,hk,rfl⟩:=List.mem_iff_getElem.1 hx
  obtain⟨b,e,hb,_⟩:=h.step k hk
  omega
theorem StepsOk.nodup {g:List CommitT} {R:List Bool} {o:List Int} (h:StepsOk g R o):o.Nodup:=by
  rw[List.nodup_iff_pairwise_ne,List.pairwise_iff_getElem]
  intro i j hi hj hij e
  obtain⟨b,h1,h2,h3,_⟩:=h.step j hj
  have h4:=(rdyL_iff.1 h3).1.2
  have:(flagL g.length (o.take j)).getD b false=true:=by
    rw[flagL_get _ _ (fun x hx=>(h.rng x (List.mem_of_mem_take hx)).1)]
    refine⟨h2,?_⟩
    rw[← h1,← e]
    exact List.mem_take_iff_getElem.2 ⟨i,by omega,rfl⟩
  rw[this] at h4
  cases h4
theorem StepsOk.len {g:List CommitT} {R:List Bool} {o:List Int} (h:StepsOk g R o):o.length≤g.length:=nodup_le _ _ h.nodup h.rng
theorem StepsOk.inR {g:List CommitT} {R:List Bool} {o:List Int} (h:StepsOk g R o):∀i:Nat,(i:Int)∈o→R.getD i false=true:=by
  intro i hi
  obtain⟨k,hk,e⟩:=List.mem_iff_getElem.1 hi
  obtain⟨b,h1,h2,h3,_⟩:=h.step k hk
  have:b=i:=by omega
  subst this
  exact (rdyL_iff.1 h3).1.1
theorem StepsOk.before {g:List CommitT} {R:List Bool} {o:List Int} (h:StepsOk g R o) {k c i:Nat} (hk:k<o.length) (e:o[k]=(i:Int)) (hc:c<g.length) (hp:(i:Int)∈(g.getD c default).parents) (hR:R.getD c false=true):(c:Int)∈o.take k:=by
  obtain⟨b,h1,h2,h3,_⟩:=h.step k hk
  have:b=i:=by omega
  subst this
  have:=(rdyL_iff.1 h3).2 c hc hp hR
  rw[flagL_get _ _ (fun x hx=>(h.rng x (List.mem_of_mem_take hx)).1)] at this
  exact this.2
theorem IsOrder.all {g:List CommitT} {R:List Bool} {o:List Int} (h:IsOrder g R o) (rank:Nat→Int) (hr:∀c (hc:c<g.length),∀p,p∈g[c].parents→rank p.toNat<rank c):∀i,i<g.length→R.getD i false=true→(i:Int)∈o:=by
  intro i hi hR
  apply Classical.byContradiction
  intro hn
  obtain⟨f,hf⟩:∃f:Nat→Int,∀k,f k=if R.getD k false=true∧(k:Int) ∉ o then-rank k else-rank i+1:=⟨_,fun _=>rfl⟩
  have f1:∀k:Nat,R.getD k false=true→(k:Int) ∉ o→f k=- rank k:=fun k a b=>by rw[hf,if_pos ⟨a,b⟩]
  obtain⟨c,hc,hm⟩:=min_rank f g.length (by omega)
  have h1:=hm i hi
  rw[f1 i hR hn] at h1
  have hcc:R.getD c false=true∧(c:Int) ∉ o:=by
    apply Classical.byContradiction
    intro hq
    rw[hf c,if_neg hq] at h1
    omega
  have h2:=h.fin c hc
  have h3:rdyL g R (flagL g.length o) c=true:=by
    rw[rdyL_iff]
    have hfl:=fun k=>flagL_get g.length o (fun x hx=>(h.steps.rng x hx).1) k
    refine⟨⟨hcc.1,?_⟩,fun k hk hp hRk=>?_⟩
    · rw[← Bool.not_eq_true,hfl]
      exact fun h=>hcc.2 h.2
    · rw[hfl]
      refine⟨hk,?_⟩
      apply Classical.byContradiction
      intro hkn
      have h4:=hm k hk
      rw[f1 k hRk hkn,f1 c hcc.1 hcc.2] at h4
      have e:g.getD k default=g[k]:=by simp[List.getD,hk]
      rw[e] at hp
      have:=hr k hk _ hp
      simp only[Int.toNat_natCast] at this
      omega
  rw[h2] at h3
  cases h3
end Go.AE
namespace Go.AE
theorem StepsOk.fresh {g:List CommitT} {R:List Bool} {o:List Int} {c p:Nat} (h:StepsOk g R (o++[(c:Int)])) (hc:c<g.length) (hp:(p:Int)∈(g.getD c default).parents) (hpl:p<g.length):(flagL g.length (o++[(c:Int)])).getD p false=false:=by
  rw[← Bool.not_eq_true,flagL_get _ _ (fun x hx=>(h.rng x hx).1)]
  rintro⟨_,hm⟩
  obtain⟨k,hk,e⟩:=List.mem_iff_getElem.1 hm
  have hb:=h.before hk e hc hp (h.inR c (by simp))
  have hnd:=h.nodup
  rw[List.nodup_append] at hnd
  rw[List.take_append_of_le_length (by simp at hk;omega)] at hb
  exact hnd.2.2 _ (List.mem_of_mem_take hb) _ (by simp) rfl
def startsB (n:Nat) (s:List Int):Bool:=s.all fun c=>decide (0≤c∧c<(n:Int))
def orderD (g:List CommitT) (s:List Int):D:=if dagC g=0 then (if startsB g.length s=true then .tup [Rep.to (orderV g (reachV (parG g) s)),.int .i64 0] else .tup [.nilsl,.int .i64 5]) else .tup [.nilsl,.int .i64 (dagC g)]
end Go.AE
namespace Go.AE
def lvStep (l:List Int) (c:Nat) (p:Int):List Int:=l.set c (max (l.getD c 0) (l.getD p.toNat 0+1))
def lvC (g:List (List Int)) (l:List Int) (c:Nat):List Int:=(parV g c).foldl (fun l p=>lvStep l c p) l
def lvRound (g:List (List Int)) (l:List Int) (n:Nat):List Int:=(List.range n).foldl (lvC g) l
def lvRounds (g:List (List Int)):Nat→List Int
  | 0=>List.replicate g.length 0
  | k+1=>lvRound g (lvRounds g k) g.length
def levelsV (g:List (List Int)):List Int:=lvRounds g g.length
theorem lvStep_len (l:List Int) (c:Nat) (p:Int):(lvStep l c p).length=l.length:=by simp[lvStep]
theorem lvFold_len (c:Nat):∀(ps:List Int) (l:List Int),(ps.foldl (fun l p=>lvStep l c p) l).length=l.length
  | [],l=>rfl
  | p::ps,l=>by rw[List.foldl_cons,lvFold_len c ps,lvStep_len]
theorem lvC_len (g:List (List Int)) (l:List Int) (c:Nat):(lvC g l c).length=l.length:=lvFold_len c _ _
theorem lvRound_succ (g:List (List Int)) (l:List Int) (n:Nat):lvRound g l (n+1)=lvC g (lvRound g l n) n:=by
  unfold lvRound
  rw[List.range_succ,List.foldl_append]
  rfl
theorem lvRound_len (g:List (List Int)) (l:List Int):∀n,(lvRound g l n).length=l.length
  | 0=>rfl
  | n+1=>by rw[lvRound_succ,lvC_len,lvRound_len g l n]
theorem lvRounds_len (g:List (List Int)):∀k,(lvRounds g k).length=g.length
  | 0=>by simp[lvRounds]
  | k+1=>by rw[lvRounds,lvRound_len,lvRounds_len g k]
def levelsD (g:List CommitT):D:=if dagC g=0 then .tup [Rep.to (levelsV (parG g)),.int .i64 0] else .tup [.nilsl,.int .i64 (dagC g)]
theorem LE.order {g:List CommitT} (h:g.length≤1000) (s:List Int):LE (orderD g s):=by
  unfold orderD
  split
  · split
    · exact LE.ok (by have:=(orderV_ok g (reachV (parG g) s)).steps.len;omega)
    · exact LE.nil
  · exact LE.nil
theorem LE.levels {g:List CommitT} (h:g.length≤1000):LE (levelsD g):=by
  unfold levelsD
  split
  · exact LE.ok (by unfold levelsV;rw[lvRounds_len,parG_len];omega)
  · exact LE.nil
def ComsOk (g:List CommitT):Prop:=∀c,c∈g→c.parents.length≤9223372036854775807∧FilesOk c.files
theorem coms_wf {g:List CommitT} (h:Arg.wf g):ComsOk g:=fun c hc=>by
  have h1:=h.2 c hc
  have h2:Arg.wf c.files:=h1.2.2
  refine⟨len_wf (show Arg.wf c.parents from h1.1),len_wf h2,fun f hf=>?_⟩
  have h3:=h2.2 f hf
  exact⟨str_wf (show Arg.wf f.path from h3.1),str_wf (show Arg.wf f.blob from h3.2)⟩
@[simp] def S_law23own_DagChecks:List D→Prop × D:=spec6 (α:=List CommitT) (β:=List Int) (γ:=Int) (δ:=Int) (ε:=Int) (ζ:=Int) (fun g raw _ _ _ _=>g.length≤9223372036854775807∧ComsOk g∧raw.length≤9223372036854775807) (fun _ _ _ _ _ _=>.bool true)
theorem checks_tail {G:Gam} {g1 g2 g3 g4 g5 g6 g7:Nat} (h2:G.find g2=some S_law23_awake) (h4:G.find g4=some S_law23_loose) (h5:G.find g5=some S_dag_Check) (h6:G.find g6=some S_ref23_Check) {g hg:List CommitT} {raw:List Int} {n:Int} {v L:Nat} (p3:raw.length≤9223372036854775807) (og:GraphOk g) (oh:GraphOk hg) (hL:hg.length=L) :
    ∀xc,(∃a b c d,x_law23own_DagChecks g1 g2 g3 g4 g5 g6 g7=.seq a (.seq b (.seq c (.seq d xc))))→vc G 0 xc (Fin [6] (.bool true)) [.d (Rep.to g),.d (Rep.to raw),.d (.int .i64 n),.any,.any,.any,.any,.own 0 v 0 L,.any,.any,.any,.any,.any,.any,.any,.any,.any] [.cells v 3 (comA hg)]:=by
  subst hL
  rintro xc ⟨a,b,c,d,hx⟩
  unfold x_law23own_DagChecks at hx
  injection hx with _ hx
  injection hx with _ hx
  injection hx with _ hx
  injection hx with _ hx
  subst hx
  have ol:=loose_ok raw n
  have hof:=loose_of raw (modV n 8) (modV n 8).toNat
  rw[show looseG raw (modV n 8) (modV n 8).toNat=looseV raw n from rfl] at hof
  have hb:=bor_map [.cells v 3 (comA hg)] 0 v 3 hg rfl
  have hbf:borFp [.cells v 3 (comA hg)] (.own 0 v 0 hg.length)=[(0,.cells v 3 (comA hg))]:=rfl
  simp[h2,h4,h5,h6,p3,og,oh,hb,hbf,hof,ol]
theorem FzO.setset {l ver esz:Nat} {zs:List A} {v e i:Nat} {L:List A} {x y:A} (hl:∀z,z∈L→z.fits e=true) (hy:y.fits e=true) (h:FzL l ver esz zs x.cells y.cells):FzO l ver esz zs (.cells v e (L.set i x)) (.cells v e (L.set i y)):=by
  refine .inr ⟨v,e,_,_,rfl,rfl,by simp,fun j hj=>?_⟩
  simp only[List.length_set] at hj
  by_cases hij:i=j
  · subst hij
    rw[List.getD_eq_getElem?_getD,List.getD_eq_getElem?_getD,List.getElem?_set_self (by omega),List.getElem?_set_self (by omega)]
    exact⟨hy,h⟩
  · rw[List.getD_eq_getElem?_getD,List.getD_eq_getElem?_getD,List.getElem?_set_ne hij,List.getElem?_set_ne hij,List.getElem?_eq_getElem hj]
    exact⟨hl _ (List.getElem_mem hj),FzL.refl _ _ _ _ _⟩
theorem ct_law23own_DagChecks {P:Program} {f g1 g2 g3 g4 g5 g6 g7:Nat} {G:Gam} (h:CodeOf P f 6 17 [6] (x_law23own_DagChecks g1 g2 g3 g4 g5 g6 g7)) (hG:GamOk P G) (h1:G.find g1=some S_law23_small) (h2:G.find g2=some S_law23_awake) (h3:G.find g3=some S_gen_Mod) (h4:G.find g4=some S_law23_loose) (h5:G.find g5=some S_dag_Check) (h6:G.find g6=some S_ref23_Check) (h7:G.findR g7=some R_genown_Graph):Has P f S_law23own_DagChecks:=h.has6 hG fun g raw n what at' by' hp=>by
  obtain⟨p1,p2,p3⟩:=hp
  cases hs:smallC g with
  | false=>simp[x_law23own_DagChecks,h1,h2,p1,hs]
  | true =>
    have hgl:g.length≤8:=by
      unfold smallC at hs
      simp at hs
      exact hs.1
    have og:GraphOk g:=⟨by omega,p2⟩
    obtain⟨m,hm,hb⟩:=graphV_B raw (n:=7) (lines:=2) (by omega) (by omega) (N:=2048) (by decide)
    have oh:=(graphB_ok (by omega) (by omega) hb).2
    have hcl:=comA_len (graphV raw 7 2)
    have hl0:=hb.len
    have hpar:=fun c hc=>(hb.par c hc).1
    have hfil:=fun c hc=>(hb.par c hc).2.2.2.2.2.len
    clear hb
    have hl7:(graphV raw 7 2).length≤7:=by omega
    generalize hver:graphVer ⟨raw,7,2⟩=v
    generalize hgg:graphV raw 7 2=hg at *
    have hu:=comA_under hg
    have tail:=fun (hg':List CommitT) (oh':GraphOk hg')=>checks_tail (g1:=g1) (g3:=g3) (g7:=g7) (v:=v) (L:=hg.length) (n:=n) h2 h4 h5 h6 p3 og oh'
    by_cases h0:0<hg.length
    · obtain⟨m1,m2⟩:=modV_lt at' (n:=hg.length) (by omega)
      obtain⟨i,hi⟩:=Int.eq_ofNat_of_zero_le m1
      have hil:i<hg.length:=by omega
      have hget:=comA_get hil
      obtain⟨_,hget2⟩:=List.getElem?_eq_some_iff.1 hget
      have hfit:=comA_fits hg
      have hset:∀x:CommitT,(comA hg).set i (.d (Rep.to x))=comA (hg.set i x):=fun x=>by unfold comA;rw[List.map_set]
      obtain⟨ox,ol⟩:=oh.2 _ (List.getElem_mem hil)
      have o3:=hpar _ (List.getElem_mem hil)
      have o4:=hfil _ (List.getElem_mem hil)
      have ohs:∀x:CommitT,x.parents.length≤9223372036854775807→FilesOk x.files→GraphOk (hg.set i x):=fun x a b=>⟨by rw[List.length_set];omega,fun c hc=>by
        rcases List.mem_or_eq_of_mem_set hc with hc | hc
        · exact oh.2 c hc
        · subst hc;exact⟨a,b⟩⟩
      generalize hx:hg[i]=x0 at *
      obtain⟨ps,dt,fs⟩:=x0
      simp only at ox ol o3 o4
      have r1:1≤(hg.length:Int)∧(hg.length:Int)≤9223372036854775807:=by omega
      obtain⟨k1,k2⟩:=modV_lt what (n:=6) (by omega)
      by_cases c1:modV what 6=1
      · simp[x_law23own_DagChecks,h1,h3,p1,hs,h7,eRCall,F_genown_Graph,p3,comA_ren,hver,hgg,h0,hcl,hi,hil,r1,c1,hget,hget2]
        refine⟨hu 1,Hint.of (Re.wf [.cells v 3 (comA (hg.set i ⟨ps,by',fs⟩))] [true,true,true,false,false,false,false,true,false,false,false,false,false,false,false,false,false] 1 (by simp) (by simp) ⟨.cells ?_,trivial⟩ ?_ (by simp) rfl) (tail _ (ohs _ ox ol) (by simp) _ ⟨_,_,_,_,rfl⟩)⟩
        · rw[← hset]
          exact WkE.setset hfit rfl ⟨Wk.refl _ _ _,Wk.refl _ _ _,Wk.refl _ _ _,trivial⟩
        · right
          exact⟨by simp,by simpa using comA_under (hg.set i ⟨ps,by',fs⟩) 1⟩
      · have w2:IntKind.i64.wrap ((hg.length:Int)+2)=(hg.length:Int)+2:=wrap_in (by omega) (by omega)
        have r2:1≤(hg.length:Int)+2∧(hg.length:Int)+2≤9223372036854775807:=by omega
        obtain⟨b1,b2⟩:=modV_lt by' (n:=(hg.length:Int)+2) (by omega)
        have w3:IntKind.i64.wrap (modV by' ((hg.length:Int)+2)-1)=modV by' ((hg.length:Int)+2)-1:=wrap_in (by omega) (by omega)
        by_cases c0:modV what 6=0
        · simp[x_law23own_DagChecks,h1,h3,p1,hs,h7,eRCall,F_genown_Graph,p3,comA_ren,hver,hgg,h0,hcl,hi,hil,r1,c0,hget,hget2,w2,r2,w3]
          refine⟨hu 1,by unfold room;omega,by unfold room;omega,Hint.of (Re.wf [.cells v 3 (comA (hg.set i ⟨ps++[modV by' ((hg.length:Int)+2)-1],dt,fs⟩)),.tip (ps.length+1),.res,.res] [true,true,true,false,false,false,false,true,false,false,false,false,false,false,false,false,false] 1 (by simp) (by simp) ⟨.cells ?_,.inl rfl,.inl rfl,.inl rfl,trivial⟩ ?_ (by simp) rfl) (tail _ (ohs _ (by simp;omega) ol) (by simp) _ ⟨_,_,_,_,rfl⟩)⟩
          · rw[← hset]
            refine WkE.setset hfit rfl ⟨?_,Wk.refl _ _ _,Wk.refl _ _ _,trivial⟩
            have:=Wk.gr 4 [] 1 1 (ps.map Rep.to++[D.int .i64 (modV by' ((hg.length:Int)+2)-1)])
            simpa using this
          · right
            exact⟨by simp,by simpa using comA_under (hg.set i ⟨ps++[modV by' ((hg.length:Int)+2)-1],dt,fs⟩) 1⟩
        by_cases c2:modV what 6=2
        · simp[x_law23own_DagChecks,h1,h3,p1,hs,h7,eRCall,F_genown_Graph,p3,comA_ren,hver,hgg,h0,hcl,hi,hil,r1,c2,hget,hget2]
          refine⟨hu 1,by unfold room;have:=ol.1;omega,Hint.of (Re.trans (Re.freeze (s':=[.cells v 3 (comA (hg.set i ⟨ps,dt,⟨[122,122],[]⟩::fs⟩)),.dead,.res]) 1 1 2 _ rfl (FzL.refl _ _ _ _ _) ⟨rfl,?_⟩ rfl) (Re.wf [.cells v 3 (comA (hg.set i ⟨ps,dt,⟨[122,122],[]⟩::fs⟩)),.dead,.res] [true,true,true,false,false,false,false,true,false,false,false,false,false,false,false,false,false] 1 (by simp) (by simp) ⟨.inl rfl,.inl rfl,.inl rfl,trivial⟩ ?_ (by simp) rfl)) (tail _ (ohs _ ox ?_) (by simp) _ ⟨_,_,_,_,rfl⟩)⟩
          · intro k hk hk1
            match k,hk,hk1 with
            | 0,_,_ =>
              show FzO _ _ _ _ (Ob.cells v 3 _) (Ob.cells v 3 _)
              rw[← hset]
              refine FzO.setset hfit rfl ⟨Fz.refl _ _ _ _ _,Fz.refl _ _ _ _ _,?_,trivial⟩
              have:=Fz.own 1 1 2 0 (1+fs.length) (A.agg [A.d (D.str [122,122]),A.d (D.str [])]::fs.map (A.d ∘ Rep.to)) (by
                rw[List.drop_zero,List.take_of_length_le (by simp;omega),List.all_eq_true]
                intro x hx
                rcases List.mem_cons.1 hx with rfl | hx
                · rfl
                · obtain⟨y,_,rfl⟩:=List.mem_map.1 hx
                  rfl)
              rw[List.drop_zero,List.take_of_length_le (by simp;omega)] at this
              have e:(A.agg [A.d (D.str [122,122]),A.d (D.str [])]::fs.map (A.d ∘ Rep.to)).map A.toD=(⟨[122,122],[]⟩::fs:List FileT).map Rep.to:=by
                simp[A.toD,Function.comp_def]
              rw[e] at this
              exact this
            | 2,_,_=>exact .inl rfl
          · right
            exact⟨by simp,by simpa using comA_under (hg.set i ⟨ps,dt,⟨[122,122],[]⟩::fs⟩) 1⟩
          · refine⟨by simp;omega,fun f hf=>?_⟩
            rcases List.mem_cons.1 hf with rfl | hf
            · exact⟨by simp,by simp⟩
            · exact ol.2 f hf
        by_cases c3:modV what 6=3
        · simp[x_law23own_DagChecks,h1,h3,p1,hs,h7,eRCall,F_genown_Graph,p3,comA_ren,hver,hgg,h0,hcl,hi,hil,r1,c3,hget,hget2]
          refine⟨hu 1,by unfold room;have:=ol.1;omega,Hint.of (Re.trans (Re.freeze (s':=[.cells v 3 (comA (hg.set i ⟨ps,dt,⟨[47],[]⟩::fs⟩)),.dead,.res]) 1 1 2 _ rfl (FzL.refl _ _ _ _ _) ⟨rfl,?_⟩ rfl) (Re.wf [.cells v 3 (comA (hg.set i ⟨ps,dt,⟨[47],[]⟩::fs⟩)),.dead,.res] [true,true,true,false,false,false,false,true,false,false,false,false,false,false,false,false,false] 1 (by simp) (by simp) ⟨.inl rfl,.inl rfl,.inl rfl,trivial⟩ ?_ (by simp) rfl)) (tail _ (ohs _ ox ?_) (by simp) _ ⟨_,_,_,_,rfl⟩)⟩
          · intro k hk hk1
            match k,hk,hk1 with
            | 0,_,_ =>
              show FzO _ _ _ _ (Ob.cells v 3 _) (Ob.cells v 3 _)
              rw[← hset]
              refine FzO.setset hfit rfl ⟨Fz.refl _ _ _ _ _,Fz.refl _ _ _ _ _,?_,trivial⟩
              have:=Fz.own 1 1 2 0 (1+fs.length) (A.agg [A.d (D.str [47]),A.d (D.str [])]::fs.map (A.d ∘ Rep.to)) (by
                rw[List.drop_zero,List.take_of_length_le (by simp;omega),List.all_eq_true]
                intro x hx
                rcases List.mem_cons.1 hx with rfl | hx
                · rfl
                · obtain⟨y,_,rfl⟩:=List.mem_map.1 hx
                  rfl)
              rw[List.drop_zero,List.take_of_length_le (by simp;omega)] at this
              have e:(A.agg [A.d (D.str [47]),A.d (D.str [])]::fs.map (A.d ∘ Rep.to)).map A.toD=(⟨[47],[]⟩::fs:List FileT).map Rep.to:=by
                simp[A.toD,Function.comp_def]
              rw[e] at this
              exact this
            | 2,_,_=>exact .inl rfl
          · right
            exact⟨by simp,by simpa using comA_under (hg.set i ⟨ps,dt,⟨[47],[]⟩::fs⟩) 1⟩
          · refine⟨by simp;omega,fun f hf=>?_⟩
            rcases List.mem_cons.1 hf with rfl | hf
            · exact⟨by simp,by simp⟩
            · exact ol.2 f hf
        · simp[x_law23own_DagChecks,h1,h3,p1,hs,h7,eRCall,F_genown_Graph,p3,comA_ren,hver,hgg,h0,hcl,hi,hil,r1,c0,c1,c2,c3]
          refine⟨hu 1,Hint.of (Re.wf [.cells v 3 (comA hg)] [true,true,true,false,false,false,false,true,false,false,false,false,false,false,false,false,false] 1 (by simp) (by simp) ⟨.inl rfl,trivial⟩ ?_ (by simp) rfl) (tail _ oh rfl _ ⟨_,_,_,_,rfl⟩)⟩
          right
          exact⟨by simp,by simpa using hu 1⟩
    · have hz:hg=[]:=List.length_eq_zero_iff.1 (by omega)
      have hbz:=bor_map [.cells v 3 (comA hg)] 0 v 3 hg rfl
      have hbf:borFp [.cells v 3 (comA hg)] (.own 0 v 0 hg.length)=[(0,.cells v 3 (comA hg))]:=rfl
      have ol:=loose_ok raw n
      have hof:=loose_of raw (modV n 8) (modV n 8).toNat
      rw[show looseG raw (modV n 8) (modV n 8).toNat=looseV raw n from rfl] at hof
      simp[x_law23own_DagChecks,h1,h2,h3,h4,h5,h6,p1,hs,h7,eRCall,F_genown_Graph,p3,comA_ren,hver,hgg,h0,hcl,hbz,hbf,hof,ol,og,oh]
      exact hu 1
theorem law23own_DagChecks_pre (g:List CommitT) (raw:List Int) (n:Int) (w:Int) (a:Int) (b:Int) (w0:Arg.wf g) (w1:Arg.wf raw) (w2:Arg.wf n) (w3:Arg.wf w) (w4:Arg.wf a) (w5:Arg.wf b):g.length≤9223372036854775807∧ComsOk g∧raw.length≤9223372036854775807:=⟨len_wf w0,coms_wf w0,len_wf w1⟩
end Go.AE
