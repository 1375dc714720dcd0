/-
  Law 23: the cycles.
-/
import Derived.Test.YtjibgbmilpdanaaDoorConc1

set_option linter.unusedSimpArgs false
set_option linter.unusedVariables false
set_option linter.unnecessarySimpa false
set_option maxRecDepth 20000
set_option maxHeartbeats 4000000
namespace Go.AE
def parO (raw:List Int) (k:Nat):Nat:=(modV (atV raw k) k).toNat
theorem parO_lt (raw:List Int) {k:Nat} (h:0<k):parO raw k<k∧((parO raw k:Nat):Int)=modV (atV raw k) k:=by
  have:=modV_lt (atV raw k) (n:=(k:Int)) (by omega)
  unfold parO
  omega
def comD (raw:List Int) (k:Nat):D:=if k=0 then .agg [.nilsl,.int .i64 0,.nilsl] else .agg [.sl 1 [.int .i64 (parO raw k)],.int .i64 0,.nilsl]
def comG (raw:List Int) (k:Nat):CommitT:=if k=0 then ⟨[],0,[]⟩ else ⟨[(parO raw k:Int)],0,[]⟩
def cycC (raw:List Int) (n:Nat):List A:=(List.range n).map fun k=>.d (comD raw k)
def cycG (raw:List Int) (n:Nat):List CommitT:=(List.range n).map (comG raw)
theorem cycC_succ (raw:List Int) (n:Nat):cycC raw (n+1)=cycC raw n++[.d (comD raw n)]:=by simp[cycC,List.range_succ]
theorem cycC_len (raw:List Int) (n:Nat):(cycC raw n).length=n:=by simp[cycC]
theorem cycG_len (raw:List Int) (n:Nat):(cycG raw n).length=n:=by simp[cycG]
theorem cycC_get (raw:List Int) {n k:Nat} (h:k<n):(cycC raw n)[k]?=some (.d (comD raw k)):=by simp[cycC,h]
theorem cycG_get (raw:List Int) {n k:Nat} (h:k<n):(cycG raw n)[k]'(by rw[cycG_len];exact h)=comG raw k:=by simp[cycG]
theorem comD_of (raw:List Int) (k:Nat):Rep.of (α:=CommitT) (comD raw k)=some (comG raw k):=by
  unfold comD comG
  by_cases h:k=0
  · rw[if_pos h,if_pos h];rfl
  · rw[if_neg h,if_neg h];rfl
theorem cycC_isD (raw:List Int) (n:Nat):(cycC raw n).all A.isD=true:=by
  rw[List.all_eq_true]
  intro x hx
  obtain⟨k,_,rfl⟩:=List.mem_map.1 hx
  rfl
theorem cycC_under (raw:List Int) (n N:Nat):∀x,x∈cycC raw n→A.under N x=true:=by
  intro x hx
  obtain⟨k,_,rfl⟩:=List.mem_map.1 hx
  rfl
theorem cycC_of (raw:List Int) (n:Nat):ofAll (Rep.of (α:=CommitT)) ((cycC raw n).map A.toD)=some (cycG raw n):=by
  refine ofAll_ext _ _ (by simp[cycC,cycG]) fun i h1 h2=>?_
  simp[cycC,cycG,A.toD,comD_of]
theorem comG_par (raw:List Int) (k:Nat):(comG raw k).parents=if k=0 then [] else [(parO raw k:Int)]:=by
  unfold comG
  split <;> rfl
theorem cycG_C (raw:List Int) {n:Nat} (hn:n≤9):dagC (cycG raw n)=0:=by
  have hl:=cycG_len raw n
  have hmem:∀c,c∈cycG raw n→∃k,k<n∧c=comG raw k:=fun c hc=>by
    obtain⟨k,hk,rfl⟩:=List.mem_map.1 hc
    exact⟨k,by simpa using hk,rfl⟩
  have hlim:limB (cycG raw n)=true:=by
    unfold limB
    rw[hl,Bool.and_eq_true]
    refine⟨by simp;omega,?_⟩
    rw[Bool.not_eq_true',List.any_eq_false]
    intro c hc
    obtain⟨k,hk,rfl⟩:=hmem c hc
    simp only[conP,if_true,comG_par]
    split <;> simp
  have hrel:relG (cycG raw n)=true:=by
    unfold relG
    rw[List.all_eq_true]
    intro c hc
    obtain⟨k,hk,rfl⟩:=hmem c hc
    rw[comG_par,hl]
    by_cases h:k=0
    · rw[if_pos h];simp[relB]
    · rw[if_neg h]
      have:=(parO_lt raw (k:=k) (by omega)).1
      simp[relB]
      omega
  have hup:(upV (parG (cycG raw n))).length=(cycG raw n).length:=by
    rw[up_full (relG_ok hrel),parG_len]
    intro c hc x hx
    rw[parG_len,hl] at hc
    rw[parG_get (by rw[hl];exact hc),cycG_get raw hc,comG_par] at hx
    by_cases h:c=0
    · rw[if_pos h] at hx;cases hx
    · rw[if_neg h] at hx
      simp at hx
      have:=(parO_lt raw (k:=c) (by omega)).1
      omega
  have hrg:(cycG raw n).any rangeB=false:=by
    rw[List.any_eq_false]
    intro c hc
    obtain⟨k,hk,rfl⟩:=hmem c hc
    unfold comG
    split <;> simp[rangeB]
  have hfe:filesE (cycG raw n)=0:=filesE_nil fun c hc=>by
    obtain⟨k,hk,rfl⟩:=hmem c hc
    unfold comG
    split <;> rfl
  unfold dagC
  rw[if_pos hlim,if_pos hrel,if_neg (by omega),hrg,hfe]
  rfl
def arcG (raw:List Int) (n top c:Nat):List CommitT:=(cycG raw n).set top ⟨(comG raw top).parents++[(c:Int)],0,[]⟩
theorem arcG_C (raw:List Int) {n top c:Nat} (hn:n≤9) (ht:top≤c) (hc:c<n) (C:Nat→Prop) (h0:C c) (h1:C top) (hin:∀i,C i→i<n) (hch:∀i,C i→i≠c→∃j,C j∧(i:Int)∈(comG raw j).parents):dagC (arcG raw n top c)=231:=by
  have hl:(arcG raw n top c).length=n:=by simp[arcG,cycG]
  have hget:∀i (h:i<n),(arcG raw n top c)[i]'(by rw[hl];exact h)=if i=top then ⟨(comG raw top).parents++[(c:Int)],0,[]⟩ else comG raw i:=fun i h=>by
    unfold arcG
    rw[List.getElem_set]
    by_cases e:top=i
    · rw[if_pos e,if_pos e.symm]
    · rw[if_neg e,if_neg (fun h=>e h.symm),cycG_get raw h]
  have hpar:∀i (h:i<n),((arcG raw n top c)[i]'(by rw[hl];exact h)).parents=(comG raw i).parents++(if i=top then [(c:Int)] else []):=fun i h=>by
    rw[hget i h]
    by_cases e:i=top
    · subst e;rw[if_pos rfl,if_pos rfl]
    · rw[if_neg e,if_neg e,List.append_nil]
  have hlim:limB (arcG raw n top c)=true:=by
    unfold limB
    rw[hl,Bool.and_eq_true]
    refine⟨by simp;omega,?_⟩
    rw[Bool.not_eq_true',List.any_eq_false]
    intro x hx
    obtain⟨i,hi,rfl⟩:=List.mem_iff_getElem.1 hx
    simp only[conP,if_true]
    rw[hpar i (by omega),comG_par]
    split <;> split <;> simp
  have hrel:relG (arcG raw n top c)=true:=by
    unfold relG
    rw[List.all_eq_true]
    intro x hx
    obtain⟨i,hi,rfl⟩:=List.mem_iff_getElem.1 hx
    rw[hpar i (by omega),hl,comG_par]
    by_cases e1:i=0
    · rw[if_pos e1]
      by_cases e2:i=top
      · rw[if_pos e2];simp[relB];omega
      · rw[if_neg e2];simp[relB]
    · rw[if_neg e1]
      have hp:=(parO_lt raw (k:=i) (by omega)).1
      by_cases e2:i=top
      · rw[if_pos e2];simp[relB];omega
      · rw[if_neg e2];simp[relB];omega
  have hup:(upV (parG (arcG raw n top c))).length<(arcG raw n top c).length:=by
    have:=up_cycle (g:=parG (arcG raw n top c)) (relG_ok hrel) C h0 (fun i hi=>by rw[parG_len,hl];exact hin i hi) fun i hi=>?_
    · rw[parG_len] at this;exact this
    · by_cases e:i=c
      · subst e
        refine⟨top,h1,?_⟩
        rw[parG_get (by rw[hl];exact hin top h1),hpar top (hin top h1),if_pos rfl]
        simp
      · obtain⟨j,j1,j2⟩:=hch i hi e
        refine⟨j,j1,?_⟩
        rw[parG_get (by rw[hl];exact hin j j1),hpar j (hin j j1)]
        exact List.mem_append_left _ j2
  unfold dagC
  rw[if_pos hlim,if_pos hrel,if_pos hup]
def cycN (raw1:Int):Nat:=(2+modV raw1 8).toNat
theorem cycN_le (x:Int):2≤cycN x∧cycN x≤9∧2+modV x 8=((cycN x:Nat):Int):=by
  have:=modV_lt x (n:=8) (by omega)
  unfold cycN
  omega
@[simp] def S_law23_DagCycles:List D→Prop × D:=spec4 (α:=List Int) (β:=Int) (γ:=Int) (δ:=List Int) (fun raw _ _ st=>raw.length≤9223372036854775807∧st.length≤9223372036854775807) (fun _ _ _ _=>.bool true)
theorem comD_zero (raw:List Int) {k:Nat} (h:¬0<k):comD raw k=.agg [.nilsl,.int .i64 0,.nilsl]:=by unfold comD;rw[if_pos (by omega)]
theorem comD_pos (raw:List Int) {k:Nat} (h:0<k):comD raw k=.agg [.sl 1 [.int .i64 (parO raw k)],.int .i64 0,.nilsl]:=by unfold comD;rw[if_neg (by omega)]
theorem dagCyc_loop1 {G:Gam} {g1 g2 g3 g4:Nat} (h1:G.find g1=some S_gen_Mod) (h2:G.find g2=some S_gen_At) (raw:List Int) (hr:raw.length≤9223372036854775807) (N:Nat) (hN:N≤9) (d2 d3:D) (Q:XE→List A→Store→Prop)
    (hQ:Q .normal [.d (Rep.to raw),.d (.int .i64 N),.d d2,.d d3,.d (.bool false),.own 0 N 0 N,.d (.int .i64 N),.any,.any,.any,.d (.bool false),.any,.any,.any,.any] [.cells N 3 (cycC raw N)]) :
    ∀xc,(∃a b c e,x_law23_DagCycles g1 g2 g3 g4=.seq a (.seq b (.seq c (.seq xc e))))→vc G 0 xc Q [.d (Rep.to raw),.d (.int .i64 N),.d d2,.d d3,.d (.bool false),.d .nilsl,.any,.any,.any,.any,.any,.any,.any,.any,.any] []:=by
  rintro xc ⟨a,b,c,e,hx⟩
  simp only[x_law23_DagCycles,XC.seq.injEq] at hx
  obtain⟨-,-,-,rfl,-⟩:=hx
  simp
  refine vc_lpR (σ:=Nat) (fun k=>k≤N) (fun k=>N-k)
    (fun k=>[.d (Rep.to raw),.d (.int .i64 N),.d d2,.d d3,.d (.bool false),.own 0 k 0 k,.d (.int .i64 k),.any,.any,.any,.any,.any,.any,.any,.any])
    (fun k=>[.cells k 3 (cycC raw k)]) 0 ?_ (by simp) ?_
  · refine Re.weak (k:=[.cells 0 3 []]) (s':=[]) (by simp) (by simp) ?_ (by simp)
    simp
    exact Wk.freshO 0 [.cells 0 3 []] 3 0 rfl
  intro k hk
  by_cases hkN:k<N
  · have w1:IntKind.i64.wrap ((k:Int)+1)=(k:Int)+1:=wrap_in (by omega) (by omega)
    have hl:=cycC_len raw k
    have hs:=cycC_succ raw k
    have hu:=cycC_under raw (k+1) 1
    have hrm:room (k+1) 56:=by unfold room;omega
    by_cases hk0:0<k
    · have hm:=(parO_lt raw hk0).2
      have hc:=comD_pos raw hk0
      simp[h1,h2,hkN,w1,hl,hk0]
      rw[← hm,← hc,← hs]
      exact⟨by omega,by omega,hrm,Nxt.mk (k+1) (by omega) (by simp) (by simp) (by omega) (by simp) (.inr ⟨by simp,by simpa using hu⟩)⟩
    · have hc:=comD_zero raw hk0
      simp[h1,h2,hkN,w1,hl,hk0]
      rw[← hc,← hs]
      exact⟨hrm,Nxt.mk (k+1) (by omega) (by simp) (by simp) (by omega) (by simp) (.inr ⟨by simp,by simpa using hu⟩)⟩
  · have:k=N:=by omega
    subst this
    simp[hkN]
    exact hQ
def arcC (raw:List Int) (n top c:Nat):List A:=(cycC raw n).set top (.agg [.gr 1 1 (((comG raw top).parents++[(c:Int)]).map Rep.to),.d (.int .i64 0),.d .nilsl])
theorem arcC_len (raw:List Int) (n top c:Nat):(arcC raw n top c).length=n:=by simp[arcC,cycC]
theorem arcC_isD (raw:List Int) (n top c:Nat):(arcC raw n top c).all A.isD=true:=by
  rw[List.all_eq_true]
  intro x hx
  rcases List.mem_or_eq_of_mem_set hx with h | h
  · obtain⟨k,_,rfl⟩:=List.mem_map.1 h
    rfl
  · subst h;rfl
theorem arcC_of (raw:List Int) {n top c:Nat}:ofAll (Rep.of (α:=CommitT)) ((arcC raw n top c).map A.toD)=some (arcG raw n top c):=by
  refine ofAll_ext _ _ (by simp[arcC,arcG,cycC,cycG]) fun i h1 h2=>?_
  have hi:i<n:=by simpa [arcG,cycG] using h2
  rw[List.getElem_map]
  have e1:(arcC raw n top c)[i]'(by rw[arcC_len];exact hi)=if top=i then (.agg [.gr 1 1 (((comG raw top).parents++[(c:Int)]).map Rep.to),.d (.int .i64 0),.d .nilsl]) else (cycC raw n)[i]'(by rw[cycC_len];exact hi):=by
    unfold arcC
    rw[List.getElem_set]
  have e2:(arcG raw n top c)[i]'h2=if top=i then ⟨(comG raw top).parents++[(c:Int)],0,[]⟩ else (cycG raw n)[i]'(by rw[cycG_len];exact hi):=by
    simp only[arcG,List.getElem_set]
  rw[e1,e2]
  by_cases e:top=i
  · rw[if_pos e,if_pos e]
    have e3:=ofAll_to (α:=Int) ((comG raw top).parents++[(c:Int)])
    simp[A.toD,A.toDs] at e3 ⊢
    rw[e3]
  · rw[if_neg e,if_neg e]
    simp[cycC,cycG,A.toD,comD_of]
theorem arcC_get (raw:List Int) {n top c:Nat} (h:top<n):(arcC raw n top c)[top]?=some (.agg [.gr 1 1 (((comG raw top).parents++[(c:Int)]).map Rep.to),.d (.int .i64 0),.d .nilsl]):=by
  unfold arcC
  rw[List.getElem?_set_self (by rw[cycC_len];exact h)]
def Pth (raw:List Int) (c top:Nat):Prop:=top≤c∧∃C:Nat→Prop,C c∧C top∧(∀i,C i→i≤c)∧∀i,C i→i≠c→∃j,C j∧(i:Int)∈(comG raw j).parents
theorem Pth.zero (raw:List Int) (c:Nat):Pth raw c c:=⟨Nat.le_refl _,fun i=>i=c,rfl,rfl,fun i h=>by omega,fun i h e=>absurd h e⟩
theorem Pth.step {raw:List Int} {c top:Nat} (h:Pth raw c top) (h0:0<top):Pth raw c (parO raw top):=by
  obtain⟨h1,C,c1,c2,c3,c4⟩:=h
  have hp:=(parO_lt raw h0).1
  refine⟨by omega,fun i=>C i∨i=parO raw top,.inl c1,.inr rfl,fun i hi=>?_,fun i hi e=>?_⟩
  · rcases hi with hi | hi
    · exact c3 i hi
    · omega
  · rcases hi with hi | hi
    · obtain⟨j,j1,j2⟩:=c4 i hi e
      exact⟨j,.inl j1,j2⟩
    · refine⟨top,.inl c2,?_⟩
      rw[comG_par,if_neg (by omega),hi]
      simp
theorem dagCyc_tail {G:Gam} {g1 g2 g3 g4:Nat} (h1:G.find g1=some S_gen_Mod) (h3:G.find g3=some S_dag_Check) (h4:G.find g4=some S_law23_awake) (raw st:List Int) (hst:st.length≤9223372036854775807) (N:Nat) (hN1:2≤N) (hN:N≤9) (d0:D) (x2:Int) :
    ∀xc,(∃a b c e,x_law23_DagCycles g1 g2 g3 g4=.seq a (.seq b (.seq c (.seq e xc))))→vc G 0 xc (Fin [4] (.bool true)) [.d d0,.d (.int .i64 N),.d (.int .i64 x2),.d (Rep.to st),.d (.bool false),.own 0 N 0 N,.d (.int .i64 N),.any,.any,.any,.d (.bool false),.any,.any,.any,.any] [.cells N 3 (cycC raw N)]:=by
  rintro xc ⟨a,b,c,e,hx⟩
  simp only[x_law23_DagCycles,XC.seq.injEq] at hx
  obtain⟨-,-,-,-,rfl⟩:=hx
  obtain⟨c,hc⟩:∃c:Nat,modV x2 N=c:=Int.eq_ofNat_of_zero_le (modV_lt x2 (by omega)).1
  have hcN:c<N:=by have:=(modV_lt x2 (n:=(N:Int)) (by omega)).2;omega
  have hlen:=cycC_len raw N
  have hgl:=cycG_len raw N
  have hbor:bor [.cells N 3 (cycC raw N)] (.own 0 N 0 N)=(True,.sl 3 ((cycC raw N).map A.toD)):=by
    have e1:((cycC raw N).drop 0).take N=cycC raw N:=by rw[List.drop_zero];exact List.take_of_length_le (by omega)
    show ((N=N∧(((cycC raw N).drop 0).take N).all A.isD=true),D.sl 3 ((((cycC raw N).drop 0).take N).map A.toD))=_
    rw[e1,cycC_isD]
    simp
  have hbf:borFp [.cells N 3 (cycC raw N)] (.own 0 N 0 N)=[(0,.cells N 3 (cycC raw N))]:=rfl
  have hof:=cycC_of raw N
  have hC:=cycG_C raw hN
  have hfl:∀c,c∈cycG raw N→c.parents.length≤1000∧c.files=[]:=fun c hc=>by
    obtain⟨i,_,rfl⟩:=List.mem_map.1 hc
    unfold comG
    split <;> simp
  simp[h1,h3,hbor,hbf,hof,hC,hgl,hc,graphOk_small (by omega) hfl]
  refine⟨by omega,?_⟩
  clear hbor hbf hof hfl
  have hfin:∀(top m:Nat),Pth raw c top→top<N →
      bor [.cells N 3 (arcC raw N top c),.tip m,.res,.res] (.own 0 N 0 N)=(True,.sl 3 ((arcC raw N top c).map A.toD)) ∧
      borFp [.cells N 3 (arcC raw N top c),.tip m,.res,.res] (.own 0 N 0 N)=[(0,.cells N 3 (arcC raw N top c))] ∧
      dagC (arcG raw N top c)=231∧(arcG raw N top c).length=N∧(∀c',c'∈arcG raw N top c→c'.parents.length≤1000∧c'.files=[]):=fun top m hp htN=>by
    have hal:=arcC_len raw N top c
    refine⟨?_,rfl,?_,by simp[arcG,cycG],fun x hx=>?_⟩
    · have e1:((arcC raw N top c).drop 0).take N=arcC raw N top c:=by rw[List.drop_zero];exact List.take_of_length_le (by omega)
      show ((N=N∧(((arcC raw N top c).drop 0).take N).all A.isD=true),D.sl 3 ((((arcC raw N top c).drop 0).take N).map A.toD))=_
      rw[e1,arcC_isD]
      simp
    · obtain⟨h1,C,c1,c2,c3,c4⟩:=hp
      exact arcG_C raw hN h1 hcN C c1 c2 (fun i hi=>by have:=c3 i hi;omega) c4
    · have hcl:∀k,(comG raw k).parents.length≤1:=fun k=>by rw[comG_par];split <;> simp
      rcases List.mem_or_eq_of_mem_set hx with h | h
      · obtain⟨i,_,rfl⟩:=List.mem_map.1 h
        have:=hcl i
        refine⟨by omega,?_⟩
        unfold comG
        split <;> rfl
      · subst h
        have:=hcl top
        simp
        omega
  refine vc_lp (σ:=Nat × List Int) (fun x=>Pth raw c x.1∧x.2.length≤9223372036854775807) (fun x=>x.2.length)
    (fun x=>[.d d0,.d (.int .i64 N),.d (.int .i64 c),.d (Rep.to x.2),.d (.bool false),.own 0 N 0 N,.d (.int .i64 N),.any,.d (.int .i64 x.1),.any,.any,.any,.any,.any,.any])
    (fun _=>[.cells N 3 (cycC raw N)]) (c,st) (by simp) (by simp) ⟨Pth.zero raw c,hst⟩ ?_
  rintro⟨top,st⟩ ⟨hp,hst⟩
  have hpc:=hp.1
  have hg:=cycC_get raw (n:=N) (k:=top) (by simp at hpc;omega)
  simp only at hp hst hpc
  have htN:top<N:=by omega
  have hg2:∀h:top<(cycC raw N).length,(cycC raw N)[top]'h=.d (comD raw top):=fun h=>by obtain⟨_,h9⟩:=List.getElem?_eq_some_iff.1 hg;exact h9
  obtain⟨f1,f2,f3,f4,f5⟩:=hfin top ((comG raw top).parents.length+1) hp htN
  have f5:=graphOk_small (by omega) f5
  have f6:=arcC_of raw (n:=N) (top:=top) (c:=c)
  have f7:=arcC_get raw (c:=c) htN
  have f8:∀h:top<(arcC raw N top c).length,(arcC raw N top c)[top]'h=.agg [.gr 1 1 (((comG raw top).parents++[(c:Int)]).map Rep.to),.d (.int .i64 0),.d .nilsl]:=fun h=>by obtain⟨_,h9⟩:=List.getElem?_eq_some_iff.1 f7;exact h9
  have f9:=arcC_len raw N top c
  by_cases h0:0<top
  · have hpl:(comG raw top).parents=[(parO raw top:Int)]:=by rw[comG_par,if_neg (by omega)]
    have hp1:=(parO_lt raw h0).1
    have f0:(cycC raw N).set top (.agg [.gr 1 1 [.int .i64 (parO raw top),.int .i64 c],.d (.int .i64 0),.d .nilsl])=arcC raw N top c:=by
      unfold arcC
      rw[hpl]
      rfl
    rw[hpl] at f1 f2 f7 f8
    rw[comD_pos raw h0] at hg
    rw[comD_pos raw h0] at hg2
    cases st with
    | cons s0 st =>
      have ht:List.take st.length (List.map Rep.to st)=List.map Rep.to st:=List.take_of_length_le (by simp)
      simp[h0,htN,hlen,hg,hg2,ht]
      simp at hst
      refine⟨by omega,Nxt.mk (parO raw top,st) (by simp) (by simp) (by simp) ⟨hp.step h0,by simp;omega⟩ (by simp) (.inr ⟨by simp,by simpa using cycC_under raw N 1⟩)⟩
    | nil =>
      have hne:((parO raw top:Nat):Int)≠(c:Int):=by omega
      simp at f1 f2 f7 f8
      simp[h0,htN,hlen,hg,hg2,f0]
      refine⟨by unfold room;omega,by unfold room;omega,?_⟩
      simp[h3,h4,f1,f2,f3,f4,f5,f6,f7,f8,f9,htN,hne]
  · have hpl:(comG raw top).parents=[]:=by rw[comG_par,if_pos (by omega)]
    have f0:(cycC raw N).set top (.agg [.gr 1 1 [.int .i64 c],.d (.int .i64 0),.d .nilsl])=arcC raw N top c:=by
      unfold arcC
      rw[hpl]
      rfl
    rw[hpl] at f1 f2 f7 f8
    rw[comD_zero raw h0] at hg
    rw[comD_zero raw h0] at hg2
    simp at f1 f2 f7 f8
    simp[h0,htN,hlen,hg,hg2,f0]
    refine⟨by unfold room;omega,?_⟩
    simp[h3,h4,f1,f2,f3,f4,f5,f6,f7,f8,f9,htN]
    unfold room
    omega
theorem ct_law23_DagCycles {P:Program} {f g1 g2 g3 g4:Nat} {G:Gam} (h:CodeOf P f 4 15 [4] (x_law23_DagCycles g1 g2 g3 g4)) (hG:GamOk P G) (h1:G.find g1=some S_gen_Mod) (h2:G.find g2=some S_gen_At) (h3:G.find g3=some S_dag_Check) (h4:G.find g4=some S_law23_awake):Has P f S_law23_DagCycles:=h.has4 hG fun raw x1 x2 st hp=>by
  obtain⟨q1,q2,q3⟩:=cycN_le x1
  have w1:IntKind.i64.wrap (2+modV x1 8)=((cycN x1:Nat):Int):=by rw[q3];exact wrap_in (by omega) (by omega)
  refine vc_mid [.d (Rep.to raw),.d (.int .i64 x1),.d (.int .i64 x2),.d (Rep.to st),.d (.bool false),.any,.any,.any,.any,.any,.any,.any,.any,.any,.any] [] (by simp)
    (vc_mid [.d (Rep.to raw),.d (.int .i64 (cycN x1)),.d (.int .i64 x2),.d (Rep.to st),.d (.bool false),.any,.any,.any,.any,.any,.any,.any,.any,.any,.any] [] (by simp[h1,w1])
    (vc_mid [.d (Rep.to raw),.d (.int .i64 (cycN x1)),.d (.int .i64 x2),.d (Rep.to st),.d (.bool false),.d .nilsl,.any,.any,.any,.any,.any,.any,.any,.any,.any] [] (by simp) ?_))
  rw[vc_seq]
  refine dagCyc_loop1 (g3:=g3) (g4:=g4) h1 h2 raw hp.1 (cycN x1) q2 (.int .i64 x2) (Rep.to st) _ ?_ _ ⟨_,_,_,_,rfl⟩
  exact dagCyc_tail (g2:=g2) h1 h3 h4 raw st hp.2 (cycN x1) q1 q2 (Rep.to raw) x2 _ ⟨_,_,_,_,rfl⟩
theorem law23_DagCycles_pre (raw:List Int) (a b:Int) (st:List Int) (w0:Arg.wf raw) (w1:Arg.wf a) (w2:Arg.wf b) (w3:Arg.wf st):raw.length≤9223372036854775807∧st.length≤9223372036854775807:=⟨len_wf w0,len_wf w3⟩
end Go.AE
