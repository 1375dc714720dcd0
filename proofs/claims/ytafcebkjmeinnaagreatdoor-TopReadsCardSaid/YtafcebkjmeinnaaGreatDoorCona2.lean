/-
  Contracts: the spans of the rows for which something holds.
-/
import Derived.Test.YtafcebkjmeinnaaGreatDoorCona1
import Derived.Test.YtafcebkjmeinnaaGreatDoorCode1
import Derived.Test.YtafcebkjmeinnaaGreatDoorAe3
import Derived.Lib.Repeat

set_option linter.unusedSimpArgs false
set_option linter.unusedVariables false
set_option linter.unnecessarySimpa false
set_option maxRecDepth 20000
set_option maxHeartbeats 4000000
namespace Go.AE
def spV (p:Nat→Bool):Nat→List SpanT
  | 0=>[]
  | i+1=>if p i then (if decide (0<i) && p (i-1) then (spV p i).set ((spV p i).length-1) ⟨((spV p i).getD ((spV p i).length-1) default).fr,(i:Int)+1⟩ else spV p i++[⟨i,(i:Int)+1⟩]) else spV p i
theorem spV_len (p:Nat→Bool):∀i,(spV p i).length≤i
  | 0=>by simp[spV]
  | i+1=>by
    have:=spV_len p i
    unfold spV
    split
    · split
      · rw[List.length_set];omega
      · simp;omega
    · omega
theorem spV_ne (p:Nat→Bool):∀i,0<i→p (i-1)=true→spV p i≠[]
  | 0,h,_=>absurd h (by omega)
  | i+1,_,h=>by
    simp only[Nat.add_sub_cancel] at h
    unfold spV
    rw[if_pos h]
    split
    · rename_i h2
      simp only[Bool.and_eq_true,decide_eq_true_eq] at h2
      have:=spV_ne p i h2.1 h2.2
      intro h3
      have h4:=congrArg List.length h3
      rw[List.length_set] at h4
      exact this (List.eq_nil_of_length_eq_zero h4)
    · simp
def spanA (s:SpanT):A:=.agg [.d (.int .i64 s.fr),.d (.int .i64 s.to)]
theorem spans_all (l:List SpanT):(l.map spanA).all A.isD=true∧(l.map spanA).map A.toD=l.map Rep.to:=by
  constructor
  · rw[List.all_eq_true]
    intro y hy
    obtain⟨x,_,rfl⟩:=List.mem_map.1 hy
    rfl
  · rw[List.map_map]
    rfl
theorem under_spans (n:Nat) (l:List SpanT):(l.map spanA).all (A.under n)=true:=by
  rw[List.all_eq_true]
  intro y hy
  obtain⟨x,_,rfl⟩:=List.mem_map.1 hy
  rfl
theorem span_snoc (n:Nat) (k:List Ob) (v:Nat) (l:List SpanT) (s:SpanT):WkO n k (.cells v 2 (l.map spanA++[A.d (.agg [.int .i64 s.fr,.int .i64 s.to])])) (.cells v 2 ((l++[s]).map spanA)):=by
  refine .inr ⟨v,2,_,_,rfl,rfl,by simp,fun i hi=>?_⟩
  simp only[List.length_append,List.length_map,List.length_singleton] at hi
  by_cases h:i<l.length
  · have e1:(l.map spanA++[A.d (.agg [.int .i64 s.fr,.int .i64 s.to])]).getD i .any=spanA l[i]:=by
      simp[List.getD,List.getElem?_append,h]
    have e2:((l++[s]).map spanA).getD i .any=spanA l[i]:=by
      simp[List.getD,List.getElem?_append,h]
    rw[e1,e2]
    exact⟨rfl,WkL.refl' _ _ _⟩
  · obtain rfl:i=l.length:=by omega
    have e1:(l.map spanA++[A.d (.agg [.int .i64 s.fr,.int .i64 s.to])]).getD l.length .any=.d (.agg [.int .i64 s.fr,.int .i64 s.to]):=by
      simp[List.getD]
    have e2:((l++[s]).map spanA).getD l.length .any=spanA s:=by
      simp[List.getD]
    rw[e1,e2]
    exact⟨rfl,WkL.refl' _ _ _⟩
theorem spans_loop {G:Gam} {rs0:List A} {f:Nat} {fnA:A} {o0:Ob} (n:Nat) (hn:n≤1048576) (p:Nat→Bool) (hcall:∀(y:Ob) (i nw:Nat),i<n→eCallv G [o0,y] nw [.d (.int .i64 i)] fnA=⟨True,[(0,o0)],.d (.bool (p i))⟩) (hu:o0.under 2=true) (hfn:fnA.under 2=true)
    (Q:XE→List A→Store→Prop) (hQ:Q .ret [.d (.int .i64 n),fnA,.d (Rep.to (spV p n)),.d (Rep.to (spV p n)),.any,.any,.any,.any,.any,.any] [o0,.dead]) :
    vc G 1 x_interest_spans Q (startA [.d (.int .i64 n),fnA] 10) [o0]:=by
  simp[x_interest_spans,startA]
  refine vc_lpR (σ:=Nat) (fun i=>i≤n) (fun i=>n-i)
    (fun i=>[.d (.int .i64 n),fnA,.any,.own 1 (spV p i).length 0 (spV p i).length,.any,.d (.int .i64 n),.d (.int .i64 i),.any,.any,.any]) (fun i=>[o0,.cells (spV p i).length 2 ((spV p i).map spanA)]) 0 ?_ (by simp) ?_
  · refine Re.wn (s':=[o0]) [true,true,false,true,false,true,true,false,false,false] [.cells 0 2 []] (by simp) (by simp) ?_ ⟨.inl rfl,trivial⟩ (by simp[spV])
    simp[spV]
    exact Wk.freshO _ _ _ 0 rfl
  intro i hi
  by_cases h1:i<n
  · have w1:IntKind.i64.wrap ((i:Int)+1)=(i:Int)+1:=wrap_in (by omega) (by omega)
    have hc:=fun y nw=>hcall y i nw h1
    have hlen:=spV_len p i
    cases hp:p i with
    | false =>
      have e:spV p (i+1)=spV p i:=by rw[spV];simp[hp]
      simp[h1,w1,hc,hp]
      exact Nxt.mk (i+1) (by omega) (by simp[e]) (by simp[e]) (by omega)
    | true =>
      by_cases h0:0<i
      · have w0:IntKind.i64.wrap ((i:Int)-1)=((i-1:Nat):Int):=by rw[wrap_in (by omega) (by omega)];omega
        have hc0:=fun y nw=>hcall y (i-1) nw (by omega)
        cases hp0:p (i-1) with
        | true =>
          have hne:=spV_ne p i h0 hp0
          have hpos:=List.length_pos_iff.2 hne
          have wl:IntKind.i64.wrap (((spV p i).length:Int)-1)=(((spV p i).length-1:Nat):Int):=by rw[wrap_in (by omega) (by omega)];omega
          have e:spV p (i+1)=(spV p i).set ((spV p i).length-1) ⟨((spV p i).getD ((spV p i).length-1) default).fr,(i:Int)+1⟩:=by rw[spV];simp[hp,hp0,h0]
          have el:(spV p (i+1)).length=(spV p i).length:=by rw[e,List.length_set]
          generalize hl:spV p i=l at *
          have hlt:l.length-1<l.length:=by omega
          have hg:(l.map spanA)[l.length-1]?=some (spanA l[l.length-1]):=by simp[hlt]
          simp[h1,w1,hc,hp,h0,w0,hc0,hp0,wl,hlt,hg,spanA]
          refine Nxt.mk (i+1) (by omega) (by simp[el]) ?_ (by omega)
          have eset:(l.map spanA).set (l.length-1) (A.agg [A.d (D.int IntKind.i64 l[l.length-1].fr),A.d (D.int IntKind.i64 ((i:Int)+1))])=(spV p (i+1)).map spanA:=by
            rw[e,List.map_set]
            simp[spanA,List.getD,hlt]
          simp[el,eset]
        | false =>
          have e:spV p (i+1)=spV p i++[⟨i,(i:Int)+1⟩]:=by rw[spV];simp[hp,hp0]
          simp[h1,w1,hc,hp,h0,w0,hc0,hp0]
          have el:(spV p (i+1)).length=(spV p i).length+1:=by rw[e];simp
          refine⟨by unfold room;omega,Nxt.re (i+1) (by omega) ?_ (by omega)⟩
          refine Re.wf [o0,.cells ((spV p i).length+1) 2 ((spV p (i+1)).map spanA),.res] [true,true,false,true,false,true,true,false,false,false] 2 (by omega) (by simp) ?_ (.inr ⟨?_,?_⟩) (by simp[el]) (by simp[el])
          · rw[e]
            exact⟨.inl rfl,span_snoc _ _ _ _ ⟨i,(i:Int)+1⟩,.inl rfl,trivial⟩
          · simp[hfn]
          · have h9:(Ob.cells ((spV p i).length+1) 2 ((spV p (i+1)).map spanA)).under 2=true:=under_spans 2 _
            simp only[List.take_succ_cons,List.take_zero,List.all_cons,List.all_nil,hu,h9,Bool.true_and,Bool.and_true]
      · obtain rfl:i=0:=by omega
        have e:spV p 1=[⟨0,1⟩]:=by rw[spV];simp[hp,spV]
        have e0:spV p 0=[]:=rfl
        have hc0:∀(y:Ob) (nw:Nat),eCallv G [o0,y] nw [.d (.int .i64 0)] fnA=⟨True,[(0,o0)],.d (.bool (p 0))⟩:=fun y nw=>by simpa using hcall y 0 nw h1
        have w2:IntKind.i64.wrap 1=1:=wrap_in (by omega) (by omega)
        simp[h1,w2,hc0,hp,e0]
        refine⟨by unfold room;omega,Nxt.re 1 (by omega) ?_ (by omega)⟩
        refine Re.wf [o0,.cells 1 2 ((spV p 1).map spanA),.res] [true,true,false,true,false,true,true,false,false,false] 2 (by omega) (by simp) ?_ (.inr ⟨?_,?_⟩) (by simp[e]) (by simp[e])
        · rw[e]
          exact⟨.inl rfl,span_snoc 3 [] 1 [] ⟨0,1⟩,.inl rfl,trivial⟩
        · simp[hfn]
        · have h9:(Ob.cells 1 2 ((spV p 1).map spanA)).under 2=true:=under_spans 2 _
          simp only[List.take_succ_cons,List.take_zero,List.all_cons,List.all_nil,hu,h9,Bool.true_and,Bool.and_true]
  · have hi2:i=n:=by omega
    subst hi2
    obtain⟨d1,d2⟩:=spans_all (spV p i)
    simp
    refine Hint.of (T':=[.d (.int .i64 i),fnA,.any,.d (Rep.to (spV p i)),.any,.any,.any,.any,.any,.any]) (s':=[o0,.dead]) (Re.freeze 1 (spV p i).length 2 _ rfl ?_ ⟨rfl,?_⟩ rfl) ?_
    · have hf:=Fz.own 1 (spV p i).length 2 0 (spV p i).length ((spV p i).map spanA) (by rw[List.drop_zero,List.take_of_length_le (by simp)];exact d1)
      rw[List.drop_zero,List.take_of_length_le (by simp),d2] at hf
      simp
      simpa using hf
    · intro k hk h0
      simp at hk
      obtain rfl:k=0:=by omega
      exact .inl rfl
    · simpa using hQ
def A.gfn:A→Nat
  | .fn (.func g) _ _=>g
  | _=>0
attribute [simp] A.gfn
structure RunX where
  i:Nat
  tab:TableT
  v:Nat
@[simp] def F_interest_runs_1:RF RunX where
  new:=0
  view a s:=⟨(a.getD 0 .any).gi.toNat,((s.getD 0 .dead).el 0).gv TableT,(s.getD 0 .dead).ver⟩
  args x:=[.d (.int .i64 x.i),.ref 0 x.v 0 0]
  st x:=[.cells x.v 2 [.d (Rep.to x.tab)]]
  pre x:=x.i<x.tab.rows.length
  res x:=.d (.bool (!blankV (x.tab.rows.getD x.i default)))
  st' x:=[.cells x.v 2 [.d (Rep.to x.tab)]]
abbrev R_interest_runs_1:RSpec:=F_interest_runs_1.spec
theorem ct_interest_runs_1 {P:Program} {f g1:Nat} {G:Gam} (hc:CodeOf P f 2 3 [2] (x_interest_runs_1 g1)) (hG:GamOk P G) (h1:G.find g1=some S_interest_blank):RSpec.Ok P f R_interest_runs_1:=by
  refine RF.ok hc.call fun x hx=>hc.rcalls hG rfl ?_
  obtain⟨i,tab,v⟩:=x
  have hx:i<tab.rows.length:=hx
  simp[x_interest_runs_1,startA,h1,hx,getD_map]
  exact FinR.done (by simp) (by simp) rfl rfl (by simp) (by simp)
structure ShowX where
  i:Nat
  sh:List Bool
  v:Nat
@[simp] def F_interest_Hunks_1:RF ShowX where
  new:=0
  view a s:=⟨(a.getD 0 .any).gi.toNat,((s.getD 0 .dead).at 0 0).gl Bool,(s.getD 0 .dead).ver⟩
  args x:=[.d (.int .i64 x.i),.ref 0 x.v 0 0]
  st x:=[.cells x.v 1 [.d (Rep.to x.sh)]]
  pre x:=x.i<x.sh.length
  res x:=.d (.bool (x.sh.getD x.i false))
  st' x:=[.cells x.v 1 [.d (Rep.to x.sh)]]
abbrev R_interest_Hunks_1:RSpec:=F_interest_Hunks_1.spec
theorem ct_interest_Hunks_1 {P:Program} {f:Nat} (hc:CodeOf P f 2 3 [2] x_interest_Hunks_1):RSpec.Ok P f R_interest_Hunks_1:=by
  refine RF.ok hc.call fun x hx=>hc.rcalls (GamOk.nil _) rfl ?_
  obtain⟨i,sh,v⟩:=x
  have hx:i<sh.length:=hx
  simp[x_interest_Hunks_1,startA,hx,getD_map]
  exact FinR.done (by simp) (by simp) rfl rfl (by simp) (by simp)
structure SpansX where
  n:Nat
  b:Bool
  tab:TableT
  sh:List Bool
  v:Nat
def spansP (x:SpansX) (i:Nat):Bool:=if x.b then !blankV (x.tab.rows.getD i default) else x.sh.getD i false
def spansL (x:SpansX):Nat:=if x.b then x.tab.rows.length else x.sh.length
@[simp] def F_interest_spans (g1 g2:Nat):RF SpansX where
  new:=0
  view a s:=⟨(a.getD 0 .any).gi.toNat,decide ((a.getD 1 .any).gfn=g1),((s.getD 0 .dead).el 0).gv TableT,((s.getD 0 .dead).at 0 0).gl Bool,(s.getD 0 .dead).ver⟩
  args x:=[.d (.int .i64 x.n),.fn (.func (if x.b then g1 else g2)) [] [.ref 0 x.v 0 0]]
  st x:=[if x.b then .cells x.v 2 [.d (Rep.to x.tab)] else .cells x.v 1 [.d (Rep.to x.sh)]]
  pre x:=x.n=spansL x∧x.n≤1048576
  res x:=.d (Rep.to (spV (spansP x) x.n))
  st' x:=[if x.b then .cells x.v 2 [.d (Rep.to x.tab)] else .cells x.v 1 [.d (Rep.to x.sh)]]
abbrev R_interest_spans (g1 g2:Nat):RSpec:=(F_interest_spans g1 g2).spec
theorem FinR.drop {rs:List Nat} {o:Ob} {r:D} {T:List A} (h:resOf rs T [o,.dead]=.d r) (ho:o.under 1=true) (hp:resPre rs T [o,.dead]):FinR rs [o] (.d r) [o] .ret T [o,.dead]:=by
  refine FinR.done (by simp) ?_ rfl h.symm ?_ rfl hp
  · simp
  · simpa using ho
theorem ct_interest_spans {P:Program} {f g1 g2:Nat} {G:Gam} (hc:CodeOf P f 2 10 [2] x_interest_spans) (hG:GamOk P G) (h1:G.findR g1=some R_interest_runs_1) (h2:G.findR g2=some R_interest_Hunks_1):RSpec.Ok P f (R_interest_spans g1 g2):=by
  refine RF.ok hc.call fun x hx=>hc.rcalls hG rfl ?_
  obtain⟨n,b,tab,sh,v⟩:=x
  obtain⟨hn,hn2⟩:=hx
  simp only at hn hn2
  cases b with
  | true =>
    have hn:n=tab.rows.length:=hn
    refine spans_loop (f:=f) (rs0:=[]) n hn2 (spansP ⟨n,true,tab,sh,v⟩) (fun y i nw hi=>?_) (by simp) (by simp) _ ?_
    · have hi2:i<tab.rows.length:=by omega
      simp[eCallv,eRCall,h1,hi2,spansP]
    · exact FinR.drop rfl rfl (by simp[resPre,resE])
  | false =>
    have hn:n=sh.length:=hn
    refine spans_loop (f:=f) (rs0:=[]) n hn2 (spansP ⟨n,false,tab,sh,v⟩) (fun y i nw hi=>?_) (by simp) (by simp) _ ?_
    · have hi2:i<sh.length:=by omega
      simp[eCallv,eRCall,h2,hi2,spansP]
    · exact FinR.drop rfl rfl (by simp[resPre,resE])
def runsV (t:TableT):List SpanT:=spV (fun i=>!blankV (t.rows.getD i default)) t.rows.length
@[simp] def S_interest_runs:List D→Prop × D:=spec1 (α:=TableT) (fun t=>t.rows.length≤1048576) (fun t=>Rep.to (runsV t))
theorem ct_interest_runs {P:Program} {f g1 g2 g3:Nat} {G:Gam} (h:CodeOf P f 1 3 [2] (x_interest_runs g1 g2)) (hG:GamOk P G) (h1:G.findR g1=some (R_interest_spans g2 g3)) (_:G.findR g2=some R_interest_runs_1):Has P f S_interest_runs:=h.has1 hG fun t hp=>by
  have e:∀(sh:List Bool) (v:Nat),spV (spansP ⟨t.rows.length,true,⟨t.parents,t.rows⟩,sh,v⟩) t.rows.length=runsV t:=fun _ _=>rfl
  simp[x_interest_runs,h1,eRCall,hp,spansL,e]
def spansB (l:List Bool):List SpanT:=spV (fun i=>l.getD i false) l.length
structure SpOk (p:Nat→Bool) (n:Nat) (l:List SpanT):Prop where
  rng:∀s,s∈l→0≤s.fr∧s.fr<s.to∧s.to≤n∧∀i:Nat,s.fr≤i→(i:Int)<s.to→p i=true
  cov:∀i:Nat,i<n→p i=true→∃s,s∈l∧s.fr≤i∧(i:Int)<s.to
  asc:l.Pairwise fun s t=>s.to<t.fr
  last:0<n→p (n-1)=true→∃(m:List SpanT) (s:SpanT),l=m++[s]∧s.to=(n:Int)
  low:(n=0∨p (n-1)=false)→∀s:SpanT,s∈l→s.to<(n:Int)
theorem spV_ok (p:Nat→Bool):∀n,SpOk p n (spV p n)
  | 0=>⟨by simp[spV],by simp,by simp[spV],by simp,by simp[spV]⟩
  | n+1=>by
    have ih:=spV_ok p n
    rw[spV]
    by_cases hp:p n=true
    · rw[if_pos hp]
      by_cases hc:0<n∧p (n-1)=true
      · rw[if_pos (by simpa using hc)]
        obtain⟨m,s,hl,hs⟩:=ih.last hc.1 hc.2
        have e:(spV p n).set ((spV p n).length-1) ⟨((spV p n).getD ((spV p n).length-1) default).fr,(n:Int)+1⟩=m++[⟨s.fr,(n:Int)+1⟩]:=by
          rw[hl]
          have e1:(m++[s]).length-1=m.length:=by simp
          rw[e1,List.set_append_right _ _ (Nat.le_refl _)]
          simp[List.getD]
        rw[e]
        have hsm:s∈spV p n:=by rw[hl];simp
        have hsr:=ih.rng s hsm
        refine⟨fun t ht=>?_,fun i hi hpi=>?_,?_,fun _ _=>⟨m,_,rfl,by push_cast;rfl⟩,fun h=>?_⟩
        · rcases List.mem_append.1 ht with ht | ht
          · have:=ih.rng t (by rw[hl];simp[ht])
            refine⟨this.1,this.2.1,by push_cast;omega,this.2.2.2⟩
          · simp at ht
            subst ht
            refine⟨hsr.1,by simp;omega,by push_cast;simp,fun i h1 h2=>?_⟩
            simp at h1 h2
            by_cases h3:(i:Int)<s.to
            · exact hsr.2.2.2 i h1 h3
            · obtain rfl:i=n:=by omega
              exact hp
        · by_cases h3:i=n
          · subst h3
            exact⟨⟨s.fr,(i:Int)+1⟩,by simp,by simp;omega,by simp;omega⟩
          · obtain⟨t,t1,t2,t3⟩:=ih.cov i (by omega) hpi
            rw[hl] at t1
            rcases List.mem_append.1 t1 with t1 | t1
            · exact⟨t,by simp[t1],t2,t3⟩
            · simp at t1
              subst t1
              exact⟨⟨t.fr,(n:Int)+1⟩,by simp,t2,by simp;omega⟩
        · have:=ih.asc
          rw[hl,List.pairwise_append] at this
          rw[List.pairwise_append]
          refine⟨this.1,by simp,fun a ha b hb=>?_⟩
          simp at hb
          subst hb
          exact this.2.2 a ha s (by simp)
        · rcases h with h | h
          · omega
          · simp only[Nat.add_sub_cancel] at h
            rw[hp] at h
            exact absurd h (by simp)
      · rw[if_neg (by simpa using hc)]
        have hlow:=ih.low (by
          rcases Nat.eq_zero_or_pos n with h | h
          · exact .inl h
          · right
            cases h9:p (n-1) with
            | false=>rfl
            | true=>exact absurd ⟨h,h9⟩ hc)
        refine⟨fun t ht=>?_,fun i hi hpi=>?_,?_,fun _ _=>⟨spV p n,_,rfl,by push_cast;rfl⟩,fun h=>?_⟩
        · rcases List.mem_append.1 ht with ht | ht
          · have:=ih.rng t ht
            exact⟨this.1,this.2.1,by push_cast;omega,this.2.2.2⟩
          · simp at ht
            subst ht
            refine⟨by simp,by simp;omega,by push_cast;simp,fun i h1 h2=>?_⟩
            simp at h1 h2
            obtain rfl:i=n:=by omega
            exact hp
        · by_cases h3:i=n
          · subst h3
            exact⟨⟨i,(i:Int)+1⟩,by simp,by simp,by simp;omega⟩
          · obtain⟨t,t1,t2,t3⟩:=ih.cov i (by omega) hpi
            exact⟨t,by simp[t1],t2,t3⟩
        · rw[List.pairwise_append]
          refine⟨ih.asc,by simp,fun a ha b hb=>?_⟩
          simp at hb
          subst hb
          exact hlow a ha
        · rcases h with h | h
          · omega
          · simp only[Nat.add_sub_cancel] at h
            rw[hp] at h
            exact absurd h (by simp)
    · rw[if_neg hp]
      refine⟨fun t ht=>?_,fun i hi hpi=>?_,ih.asc,fun _ h=>?_,fun _ s hs=>?_⟩
      · have:=ih.rng t ht
        exact⟨this.1,this.2.1,by push_cast;omega,this.2.2.2⟩
      · have h3:i≠n:=by
          rintro rfl
          exact hp hpi
        exact ih.cov i (by omega) hpi
      · simp only[Nat.add_sub_cancel] at h
        exact absurd h hp
      · have:=ih.rng s hs
        push_cast
        omega
/-! ### dense runs -/
def orN (rows:List RowT):Nat:=rows.foldl (fun a r=>a ||| r.marks.toNat) 0
def denseB (rows:List RowT) (n:Nat):Bool:=decide (orN rows=2 ^ n-1)
theorem orN_lt {rows:List RowT} {n:Nat} (h:∀r,r∈rows→r.marks.toNat<2 ^ n):orN rows<2 ^ n:=by
  unfold orN
  suffices ∀(rows:List RowT) (a:Nat),a<2 ^ n→(∀r,r∈rows→r.marks.toNat<2 ^ n)→rows.foldl (fun a r=>a ||| r.marks.toNat) a<2 ^ n from this rows 0 (Nat.two_pow_pos n) h
  intro rows
  induction rows with
  | nil=>intro a h _;exact h
  | cons r rs ih =>
    intro a h h2
    rw[List.foldl_cons]
    exact ih _ (Nat.or_lt_two_pow h (h2 r (by simp))) fun x hx=>h2 x (by simp[hx])
def runRows (t:TableT) (s:SpanT):List RowT:=(t.rows.drop s.fr.toNat).take (s.to.toNat-s.fr.toNat)
def intV (t:TableT) (all:Bool):List SpanT:=(runsV t).filter fun s=>all || denseB (runRows t s) t.parents.toNat
theorem runsV_ok (t:TableT):SpOk (fun i=>!blankV (t.rows.getD i default)) t.rows.length (runsV t):=spV_ok _ _
theorem runsV_len (t:TableT):(runsV t).length≤t.rows.length:=spV_len _ _
def nearB (l:List SpanT) (c:Int) (i:Nat):Bool:=l.any fun s=>decide (s.fr-c≤i∧(i:Int)<s.to+c)
def hunksV (t:TableT) (c:Int) (all:Bool):List SpanT:=spV (nearB (intV t all) c) t.rows.length
theorem orN_take {rows:List RowT} {i:Nat} (h:i<rows.length):orN (rows.take (i+1))=orN (rows.take i) ||| rows[i].marks.toNat:=by
  unfold orN
  rw[List.take_succ_eq_append_getElem h,List.foldl_append]
  rfl
theorem orN_lt32 {rows:List RowT} (h:∀r,r∈rows→rowOk r):orN rows<4294967296:=by
  have:(4294967296:Nat)=2 ^ 32:=rfl
  rw[this]
  exact orN_lt fun r hr=>by have:=h r hr;unfold rowOk at this;omega
theorem ones_shr {n:Nat} (h1:1≤n) (h2:n≤32):(4294967295:Int).fdiv (2 ^ min (32-n) IntKind.u32.bits)=((2 ^ n-1:Nat):Int):=by
  have e:min (32-n) IntKind.u32.bits=32-n:=by simp only[IntKind.bits];omega
  rw[e]
  have:∀n:_root_.Fin 33,1≤n.val→(4294967295:Int).fdiv (2 ^ (32-n.val))=((2 ^ n.val-1:Nat):Int):=by decide
  exact this ⟨n,by omega⟩ h1
@[simp] def S_interest_dense:List D→Prop × D:=spec2 (α:=List RowT) (β:=Int) (fun rows n=>rows.length≤1048576∧(∀r,r∈rows→rowOk r)∧1≤n∧n≤32) (fun rows n=>.bool (denseB rows n.toNat))
theorem ct_interest_dense {P:Program} {f:Nat} {G:Gam} (h:CodeOf P f 2 9 [2] x_interest_dense) (hG:GamOk P G):Has P f S_interest_dense:=h.has2 hG fun rows n hp=>by
  obtain⟨p1,p2,p3,p4⟩:=hp
  obtain⟨n,rfl⟩:=Int.eq_ofNat_of_zero_le (show 0≤n by omega)
  simp[x_interest_dense]
  refine vc_lp (σ:=Nat) (fun i=>i≤rows.length) (fun i=>rows.length-i)
    (fun i=>[.any,.d (.int .i64 n),.any,.d (.int .u32 (orN (rows.take i))),.any,.d (Rep.to rows),.d (.int .i64 rows.length),.d (.int .i64 i),.any]) (fun _=>[]) 0 (by simp[orN]) (by simp) (by simp) ?_
  intro i hi
  by_cases h1:i<rows.length
  · have w1:IntKind.i64.wrap ((i:Int)+1)=(i:Int)+1:=wrap_in (by omega) (by omega)
    have hr:=p2 _ (List.getElem_mem h1)
    have hm:rows[i].marks=((rows[i].marks.toNat:Nat):Int):=by have:=hr.1;omega
    have hlt:=orN_lt32 (rows:=rows.take i) fun r hr=>p2 r (List.mem_of_mem_take hr)
    have ho:=orU2 hlt (show rows[i].marks.toNat<4294967296 by have:=hr.2;unfold rowOk at hr;omega)
    rw[← orN_take h1] at ho
    have ho':IntKind.u32.wrap ((orN (rows.take i) % 2 ^ IntKind.u32.bits ||| (rows[i].marks % 2 ^ IntKind.u32.bits).toNat:Nat):Int)=orN (rows.take (i+1)):=by
      rw[← ho]
      congr 2
      have:(2:Int) ^ IntKind.u32.bits=4294967296:=rfl
      have e2:(2:Nat) ^ IntKind.u32.bits=4294967296:=rfl
      rw[this,e2]
      congr 1
      have:=hr.2
      omega
    simp[h1,getD_map,w1,ho']
    exact Nxt.mk (i+1) (by omega) (by simp) (by simp) (by omega)
  · have h9:i=rows.length:=by omega
    subst h9
    have w1:IntKind.i64.wrap (32-(n:Int))=((32-n:Nat):Int):=by rw[wrap_in (by omega) (by omega)];omega
    have hs:=ones_shr (n:=n) (by omega) (by omega)
    simp[w1,hs,denseB]
    rw[Int.ofNat_inj]
theorem intV_mem {t:TableT} {all:Bool} {s:SpanT} (h:s∈intV t all):0≤s.fr∧s.fr<s.to∧s.to≤t.rows.length:=by
  have:=(runsV_ok t).rng s (List.mem_filter.1 h).1
  exact⟨this.1,this.2.1,this.2.2.1⟩
theorem intV_len (t:TableT) (all:Bool):(intV t all).length≤t.rows.length:=Nat.le_trans (List.length_filter_le _ _) (runsV_len t)
def tabGood (t:TableT):Prop:=t.rows.length≤1048576∧(∀r,r∈t.rows→rowOk r)∧1≤t.parents∧t.parents≤32∧marksB t.rows t.parents.toNat=true
theorem tabGood_of {t:TableT} (h:tabWide t) (hc:checkTab t=0):tabGood t:=by
  unfold checkTab at hc
  split at hc
  · simp at hc
  · rename_i h1
    split at hc
    · rename_i h2
      exact⟨h.1,h.2.1,by omega,by omega,h2⟩
    · simp at hc
@[simp] def S_interest_interesting:List D→Prop × D:=spec2 (α:=TableT) (β:=Bool) (fun t _=>tabGood t) (fun t all=>Rep.to (intV t all))
theorem ct_interest_interesting {P:Program} {f g1 g2:Nat} {G:Gam} (h:CodeOf P f 2 11 [3] (x_interest_interesting g1 g2)) (hG:GamOk P G) (h1:G.find g1=some S_interest_runs) (h2:G.find g2=some S_interest_dense):Has P f S_interest_interesting:=h.has2 hG fun t all hp=>by
  obtain⟨p1,p2,p3,p4,p5⟩:=hp
  have hrl:=runsV_len t
  simp[x_interest_interesting,h1,p1]
  refine vc_lp (σ:=Nat × List SpanT) (fun x=>x.1≤(runsV t).length∧x.2.length≤x.1∧x.2++((runsV t).drop x.1).filter (fun s=>all || denseB (runRows t s) t.parents.toNat)=intV t all) (fun x=>(runsV t).length-x.1)
    (fun x=>[.any,.d (.bool all),.ref 0 0 0 0,.any,.gr 1 2 (x.2.map Rep.to),.any,.d (Rep.to (runsV t)),.d (.int .i64 (runsV t).length),.d (.int .i64 x.1),.any,.any])
    (fun x=>[.cells 0 2 [.d (Rep.to t)],.tip x.2.length]) (0,[]) (by simp) (by simp) (by simp[intV]) ?_
  rintro⟨i,o⟩ ⟨i1,i2,i3⟩
  simp only at i1 i2 i3
  by_cases hi:i<(runsV t).length
  · have w1:IntKind.i64.wrap ((i:Int)+1)=(i:Int)+1:=wrap_in (by omega) (by omega)
    have hr:=(runsV_ok t).rng _ (List.getElem_mem hi)
    rw[List.drop_eq_getElem_cons hi,List.filter_cons] at i3
    generalize hs:(runsV t)[i]=s at *
    obtain⟨a,b⟩:=s
    simp only at hr
    obtain⟨a,rfl⟩:=Int.eq_ofNat_of_zero_le hr.1
    obtain⟨b,rfl⟩:=Int.eq_ofNat_of_zero_le (show 0≤b by omega)
    have hrr:(t.rows.drop a).take (b-a)=runRows t ⟨a,b⟩:=rfl
    have q1:(runRows t ⟨a,b⟩).length≤1048576:=by rw[← hrr];simp;omega
    have q2:∀r,r∈runRows t ⟨a,b⟩→rowOk r:=fun r hr=>p2 r (List.mem_of_mem_drop (List.mem_of_mem_take hr))
    have q3:(a:Int)≤b:=by omega
    have q4:(b:Int)≤t.rows.length:=by omega
    have q5:a≤b:=by omega
    have q6:b≤t.rows.length:=by omega
    have hmap:((t.rows.map Rep.to).drop a).take (b-a)=(runRows t ⟨a,b⟩).map Rep.to:=by rw[← hrr,List.map_take,List.map_drop]
    have hmapD:List.take (b-a) (List.drop a (List.map (Rep.to:RowT→D) t.rows))=(runRows t ⟨a,b⟩).map Rep.to:=hmap
    cases all with
    | true =>
      simp[hi,getD_map,hs,w1]
      exact⟨by unfold room;omega,Nxt.mk (i+1,o++[⟨a,b⟩]) (by simp;omega) (by simp) (by simp) ⟨by simp;omega,by simp;omega,by rw[← i3];simp⟩⟩
    | false =>
      cases hd:denseB (runRows t ⟨a,b⟩) t.parents.toNat with
      | true =>
        simp[hi,getD_map,hs,w1,q3,q4,q5,q6,hmapD,h2,q1,p3,p4,hd]
        have i3':o++⟨a,b⟩::((runsV t).drop (i+1)).filter (fun s=>denseB (runRows t s) t.parents.toNat)=intV t false:=by simpa [hd] using i3
        exact⟨q2,by unfold room;omega,Nxt.mk (i+1,o++[⟨a,b⟩]) (by simp;omega) (by simp) (by simp) ⟨by simp;omega,by simp;omega,by rw[← i3'];simp⟩⟩
      | false =>
        simp[hi,getD_map,hs,w1,q3,q4,q5,q6,hmapD,h2,q1,p3,p4,hd]
        have i3':o++((runsV t).drop (i+1)).filter (fun s=>denseB (runRows t s) t.parents.toNat)=intV t false:=by simpa [hd] using i3
        exact⟨q2,Nxt.mk (i+1,o) (by simp;omega) (by simp) (by simp) ⟨by simp;omega,by simp;omega,by simpa using i3'⟩⟩
  · have h9:i=(runsV t).length:=by omega
    subst h9
    rw[List.drop_length] at i3
    simp at i3
    simp[i3]
def hunksD (t:TableT) (c:Int) (dense:Bool):D:=if checkTab t=0 then (if 0≤c∧c≤1048576 then .tup [Rep.to (hunksV t c (!dense)),.int .i64 0] else .tup [.nilsl,.int .i64 3]) else .tup [.nilsl,.int .i64 (checkTab t)]
def boolC (n:Nat) (q:Nat→Bool):List A:=(List.range n).map fun i=>.d (.bool (q i))
theorem boolC_len (n:Nat) (q:Nat→Bool):(boolC n q).length=n:=by simp[boolC]
theorem boolC_false (n:Nat):List.replicate n (A.d (.bool false))=boolC n fun _=>false:=by
  apply List.ext_getElem
  · simp[boolC]
  · intro i h1 h2
    simp[boolC]
theorem boolC_set {n:Nat} {q r:Nat→Bool} {i:Nat} {b:Bool} (h:∀k,k<n→r k=if k=i then b else q k):(boolC n q).set i (.d (.bool b))=boolC n r:=by
  apply List.ext_getElem
  · simp[boolC]
  · intro k h1 h2
    have hk:k<n:=by simpa [boolC] using h2
    rw[List.getElem_set]
    simp only[boolC,List.getElem_map,List.getElem_range,h k hk]
    by_cases e:i=k
    · simp[e]
    · simp[e,Ne.symm e]
theorem boolC_all (n:Nat) (q:Nat→Bool):(boolC n q).all A.isD=true∧(boolC n q).map A.toD=((List.range n).map q).map Rep.to:=by
  constructor
  · rw[List.all_eq_true]
    intro y hy
    obtain⟨x,_,rfl⟩:=List.mem_map.1 hy
    rfl
  · simp[boolC,Function.comp_def,A.toD]
theorem boolC_under (n m:Nat) (q:Nat→Bool):(boolC n q).all (A.under m)=true:=by
  rw[List.all_eq_true]
  intro y hy
  obtain⟨x,_,rfl⟩:=List.mem_map.1 hy
  rfl
theorem spV_congr {p q:Nat→Bool}:∀n,(∀i,i<n→p i=q i)→spV p n=spV q n
  | 0,_=>rfl
  | n+1,h=>by
    have ih:=spV_congr n fun i hi=>h i (by omega)
    rw[spV,spV,ih,h n (by omega)]
    by_cases h0:0<n
    · rw[h (n-1) (by omega)]
    · simp[h0]
theorem spansB_of (n:Nat) (q:Nat→Bool):spansB ((List.range n).map q)=spV q n:=by
  unfold spansB
  rw[List.length_map,List.length_range]
  exact spV_congr n fun i hi=>by simp[List.getD,hi]
theorem near_take {l:List SpanT} {k:Nat} (h:k<l.length) (c:Int) (i:Nat):nearB (l.take (k+1)) c i=(nearB (l.take k) c i || decide (l[k].fr-c≤i∧(i:Int)<l[k].to+c)):=by
  unfold nearB
  rw[List.take_succ_eq_append_getElem h,List.any_append]
  simp
theorem intV_asc (t:TableT) (all:Bool):(intV t all).Pairwise fun s u=>s.to<u.fr:=List.Pairwise.filter _ (runsV_ok t).asc
theorem near_step {t:TableT} {all:Bool} {c:Int} {k:Nat} (hk:k<(intV t all).length) (hc:0≤c) {e:Int} (he:e=if k=0 then 0 else min (((intV t all).getD (k-1) default).to+c) t.rows.length) {x:Nat} (hx:x<t.rows.length) :
    nearB ((intV t all).take (k+1)) c x=(nearB ((intV t all).take k) c x || decide (max ((intV t all)[k].fr-c) e≤x∧(x:Int)<min ((intV t all)[k].to+c) t.rows.length)):=by
  rw[near_take hk]
  by_cases h1:(intV t all)[k].fr-c≤x∧(x:Int)<(intV t all)[k].to+c
  · by_cases h2:e≤(x:Int)
    · have:decide (max ((intV t all)[k].fr-c) e≤x∧(x:Int)<min ((intV t all)[k].to+c) t.rows.length)=true:=by simp;omega
      rw[this]
      simp[h1]
    · have hk0:k≠0:=by rintro rfl;simp at he;omega
      rw[if_neg hk0] at he
      have hk1:k-1<(intV t all).length:=by omega
      have hg:(intV t all).getD (k-1) default=(intV t all)[k-1]:=by simp[List.getD,hk1]
      rw[hg] at he
      have hasc:=List.pairwise_iff_getElem.1 (intV_asc t all) (k-1) k hk1 hk (by omega)
      have hm:=intV_mem (List.getElem_mem hk1)
      have:nearB ((intV t all).take k) c x=true:=by
        unfold nearB
        rw[List.any_eq_true]
        refine⟨(intV t all)[k-1],List.mem_take_iff_getElem.2 ⟨k-1,by omega,rfl⟩,?_⟩
        simp
        omega
      simp[this]
  · have h3:decide ((intV t all)[k].fr-c≤x∧(x:Int)<(intV t all)[k].to+c)=false:=by simpa using h1
    have h4:decide (max ((intV t all)[k].fr-c) e≤x∧(x:Int)<min ((intV t all)[k].to+c) t.rows.length)=false:=by
      rw[decide_eq_false_iff_not]
      omega
    rw[h3,h4]
def hQ (l:List SpanT) (c:Int) (k:Nat) (a j:Int):Nat→Bool:=fun x=>nearB (l.take k) c x || decide (a≤x∧(x:Int)<j)
theorem boolC_congr {n:Nat} {q r:Nat→Bool} (h:∀x,x<n→q x=r x):boolC n q=boolC n r:=by
  unfold boolC
  exact List.map_congr_left fun x hx=>by rw[h x (by simpa using hx)]
def eV (l:List SpanT) (c:Int) (n k:Nat):Int:=if k=0 then 0 else min ((l.getD (k-1) default).to+c) n
@[simp] def S_interest_Hunks:List D→Prop × D:=spec3 (α:=TableT) (β:=Int) (γ:=Bool) (fun t _ _=>tabWide t) (fun t c dense=>hunksD t c dense)
theorem ct_interest_Hunks {P:Program} {f g1 g2 g3 g4 g5:Nat} {G:Gam} (h:CodeOf P f 3 19 [4,5] (x_interest_Hunks g1 g2 g3 g4)) (hG:GamOk P G) (h1:G.find g1=some S_weave_Check) (h2:G.find g2=some S_interest_interesting) (h3:G.findR g3=some (R_interest_spans g5 g4)) (hne:decide (g4=g5)=false):Has P f S_interest_Hunks:=h.has3 hG fun t c dense hp=>by
  have hne:g4≠g5:=of_decide_eq_false hne
  by_cases ck:checkTab t=0
  · by_cases c1:c<0
    · have c9:¬0≤c:=by omega
      simp[x_interest_Hunks,h1,hp,ck,c1,hunksD,c9]
    by_cases c2:1048576<c
    · have c9:¬c≤1048576:=by omega
      simp[x_interest_Hunks,h1,hp,ck,c1,c2,hunksD,c9]
    have c3:0≤c:=by omega
    have c4:c≤1048576:=by omega
    have hgood:=tabGood_of hp ck
    have hn:=hp.1
    have hil:=intV_len t (!dense)
    have him:=fun s h=>intV_mem (t:=t) (all:=!dense) (s:=s) h
    have hstep:=fun k hk e he x hx=>near_step (t:=t) (all:=!dense) (c:=c) (k:=k) hk c3 (e:=e) he (x:=x) hx
    have hhv:hunksV t c (!dense)=spV (nearB (intV t (!dense)) c) t.rows.length:=rfl
    generalize hl:intV t (!dense)=l at hil him hstep hhv
    generalize hnl:t.rows.length=n at hn hil him hstep hhv
    simp[x_interest_Hunks,h1,h2,hp,hgood,ck,c1,c2,hunksD,c3,c4,hl,hnl]
    rw[boolC_false]
    refine⟨⟨by unfold room;omega,by omega⟩,?_⟩
    refine vc_lp (σ:=Nat) (fun k=>k≤l.length) (fun k=>l.length-k)
      (fun k=>[.any,.d (.int .i64 c),.any,.any,.any,.any,.any,.ref 2 0 0 0,.d (.int .i64 (eV l c n k)),.any,.any,.any,.any,.any,.d (Rep.to l),.d (.int .i64 l.length),.d (.int .i64 k),.any,.any])
      (fun k=>[.cells 0 2 [.d (Rep.to t)],.cells 0 1 (boolC n (nearB (l.take k) c)),.cells 0 1 [.own 1 0 0 n]]) 0 (by simp[eV]) ?_ (by simp) ?_
    · have e:(boolC n fun _=>false)=boolC n (nearB (l.take 0) c):=boolC_congr fun x _=>by simp[nearB]
      simp only[to_Table,SbS_cons,SbO_refl,true_and,SbS_nil,and_true]
      rw[e]
      simp
    intro k hk
    by_cases hkl:k<l.length
    · have w1:IntKind.i64.wrap ((k:Int)+1)=(k:Int)+1:=wrap_in (by omega) (by omega)
      obtain⟨m1,m2,m3⟩:=him _ (List.getElem_mem hkl)
      have wa:IntKind.i64.wrap (l[k].fr-c)=l[k].fr-c:=wrap_in (by omega) (by omega)
      have wb:IntKind.i64.wrap (l[k].to+c)=l[k].to+c:=wrap_in (by omega) (by omega)
      have e0:0≤eV l c n k:=by
        unfold eV
        split
        · omega
        · have hk1:k-1<l.length:=by omega
          have hg:l.getD (k-1) default=l[k-1]:=by simp[List.getD,hk1]
          have:=him _ (List.getElem_mem hk1)
          rw[hg]
          omega
      have e1:eV l c n (k+1)=min (l[k].to+c) n:=by
        unfold eV
        rw[if_neg (by omega)]
        simp[List.getD,hkl]
      have hns:=fun x hx=>hstep k hkl (eV l c n k) rfl x hx
      obtain⟨a,ha⟩:∃a:Nat,max (l[k].fr-c) (eV l c n k)=a:=⟨(max (l[k].fr-c) (eV l c n k)).toNat,by omega⟩
      obtain⟨b,hb⟩:∃b:Nat,min (l[k].to+c) (n:Int)=b:=⟨(min (l[k].to+c) (n:Int)).toNat,by omega⟩
      rw[ha,hb] at hns
      have hbn:b≤n:=by omega
      have hln:=boolC_len n (nearB (l.take k) c)
      simp[hkl,getD_map,wa,wb,ha,hb]
      refine vc_lp (σ:=Nat) (fun j=>a≤j∧(j≤b∨j=a)) (fun j=>b-j)
        (fun j=>[.any,.d (.int .i64 c),.any,.any,.any,.any,.any,.ref 2 0 0 0,.d (.int .i64 b),.any,.any,.d (.int .i64 j),.any,.any,.d (Rep.to l),.d (.int .i64 l.length),.d (.int .i64 k),.any,.any])
        (fun j=>[.cells 0 2 [.d (Rep.to t)],.cells 0 1 (boolC n (hQ l c k a j)),.cells 0 1 [.own 1 0 0 n]]) a (by simp) ?_ (by simp) ?_ (hc:=.inr ⟨by simp,by simpa using boolC_under n 3 (hQ l c k a a)⟩)
      · have e:boolC n (nearB (l.take k) c)=boolC n (hQ l c k a a):=boolC_congr fun x _=>by
          unfold hQ
          have:decide ((a:Int)≤x∧(x:Int)<a)=false:=by rw[decide_eq_false_iff_not];omega
          rw[this,Bool.or_false]
        rw[e]
        simp
      rintro j ⟨j1,j2⟩
      have hlen:=boolC_len n (hQ l c k a j)
      by_cases hj:j<b
      · have w2:IntKind.i64.wrap ((j:Int)+1)=(j:Int)+1:=wrap_in (by omega) (by omega)
        have hjn:j<n:=by omega
        have hset:(boolC n (hQ l c k a j)).set j (.d (.bool true))=boolC n (hQ l c k a ((j+1:Nat):Int)):=boolC_set fun x hx=>by
          unfold hQ
          by_cases e:x=j
          · subst e
            have:decide ((a:Int)≤x∧(x:Int)<((x+1:Nat):Int))=true:=by simp;omega
            rw[this]
            simp
          · have:decide ((a:Int)≤x∧(x:Int)<((j+1:Nat):Int))=decide ((a:Int)≤x∧(x:Int)<j):=by
              rw[decide_eq_decide]
              omega
            rw[this,if_neg e]
        simp[hj,hjn,hlen,w2,hset]
        exact Nxt.mk (j+1) (by omega) (by simp) (by simp) ⟨by omega,by omega⟩
      · have e:boolC n (hQ l c k a j)=boolC n (nearB (l.take (k+1)) c):=boolC_congr fun x hx=>by
          rw[hns x hx]
          unfold hQ
          congr 1
          rw[decide_eq_decide]
          omega
        simp[hj,w1,e]
        exact Nxt.mk (k+1) (by omega) (by simp[e1,hb]) (by simp) (by omega)
    · have h9:k=l.length:=by omega
      subst h9
      obtain⟨d1,d2⟩:=boolC_all n (nearB l c)
      have hcl:=boolC_len n (nearB l c)
      have hbl:((List.range n).map (nearB l c)).length=n:=by simp
      have hh:spansB ((List.range n).map (nearB l c))=hunksV t c (!dense):=by rw[spansB_of,hhv]
      have htk:l.take l.length=l:=List.take_length
      rw[htk]
      generalize (List.range n).map (nearB l c)=bl at d2 hh hbl
      generalize boolC n (nearB l c)=bc at d1 d2 hcl ⊢
      have hbn:bl.length≤1048576:=by omega
      simp
      refine Hint.of (T':=[.any,.d (.int .i64 c),.any,.any,.any,.any,.any,.ref 2 0 0 0,.any,.any,.any,.any,.any,.any,.any,.any,.any,.any,.any]) (s':=[.cells 0 2 [.d (Rep.to t)],.dead,.cells 0 1 [.d (Rep.to bl)]]) (Re.freeze 1 0 1 bc rfl ?_ ⟨rfl,?_⟩ rfl) ?_
      · simp
      · have hf:=Fz.own 1 0 1 0 n bc (by rw[List.drop_zero,List.take_of_length_le (by omega)];exact d1)
        rw[List.drop_zero,List.take_of_length_le (by omega),d2] at hf
        intro k hk h0
        simp at hk
        match k,hk,h0 with
        | 0,_,_=>exact .inl rfl
        | 2,_,_=>exact .inr ⟨0,1,_,_,rfl,rfl,rfl,fun i hi=>by
            simp at hi
            subst hi
            exact⟨rfl,hf,trivial⟩⟩
      · have hsp:∀(tb:TableT) (v:Nat),spV (spansP ⟨bl.length,false,tb,bl,v⟩) bl.length=hunksV t c (!dense):=fun _ _=>hh
        simp[h3,eRCall,hne,spansL,hbn,hsp]
  · simp[x_interest_Hunks,h1,hp,ck,hunksD]
def gapD (x:List Int) (s:List ChangeT) (k:Nat):D:=s.foldl (fun acc c=>if c.new=(k:Int) then .sl 1 (((x.drop c.old.toNat).take c.oldLen.toNat).map Rep.to) else acc) .nilsl
theorem gapD_of (x:List Int) (s:List ChangeT) (k:Nat):Rep.of (α:=List Int) (gapD x s k)=some (gapS x s k):=by
  unfold gapD gapS
  suffices ∀(s:List ChangeT) (a:D) (b:List Int),Rep.of (α:=List Int) a=some b→Rep.of (α:=List Int) (s.foldl (fun acc c=>if c.new=(k:Int) then .sl 1 (((x.drop c.old.toNat).take c.oldLen.toNat).map Rep.to) else acc) a)=some (s.foldl (fun acc c=>if c.new=(k:Int) then (x.drop c.old.toNat).take c.oldLen.toNat else acc) b) from this s .nilsl [] rfl
  intro s
  induction s with
  | nil=>intro a b h;exact h
  | cons c s ih =>
    intro a b h
    rw[List.foldl_cons,List.foldl_cons]
    refine ih _ _ ?_
    split
    · exact Rep.of_to (α:=List Int) _
    · exact h
theorem gapD_snoc (x:List Int) {s:List ChangeT} {c:Nat} (hc:c<s.length) (k:Nat):gapD x (s.take (c+1)) k=if s[c].new=(k:Int) then .sl 1 (((x.drop s[c].old.toNat).take s[c].oldLen.toNat).map Rep.to) else gapD x (s.take c) k:=by
  unfold gapD
  rw[List.take_succ_eq_append_getElem hc,List.foldl_append]
  rfl
def dAt (I:List (List Int)) (p c q k:Nat):D :=
  if q<p then gapD (I.getD (q+1) []) (scrV I q) k else if q=p then gapD (I.getD (q+1) []) ((scrV I q).take c) k else .nilsl
def rowD (n:Nat) (d:Nat→Nat→D) (k:Nat):List D:=(List.range n).map fun q=>d q k
def rowG (n:Nat) (d:Nat→Nat→D) (k:Nat):List A:=(List.range n).map fun q=>.d (d q k)
def rowsO (n:Nat) (d:Nat→Nat→D) (m:Nat):List Ob:=(List.range m).map fun k=>.cells 0 1 (rowG n d k)
def gapC (n m k:Nat):List A:=(List.range m).map fun j=>if j<k then .own (j+4) 0 0 n else .d .nilsl
def gapF (n m:Nat) (d:Nat→Nat→D) (k:Nat):List A:=(List.range m).map fun j=>if j<k then .d (.sl 1 (rowD n d j)) else .own (j+4) 0 0 n
def rowsF (n:Nat) (d:Nat→Nat→D) (m k:Nat):List Ob:=(List.range m).map fun j=>if j<k then .dead else .cells 0 1 (rowG n d j)
def marksC (L:Nat) (q:Nat→Nat):List A:=(List.range L).map fun k=>.d (.int .u32 (q k))
theorem rowG_len (n:Nat) (d:Nat→Nat→D) (k:Nat):(rowG n d k).length=n:=by simp[rowG]
theorem rowsO_len (n:Nat) (d:Nat→Nat→D) (m:Nat):(rowsO n d m).length=m:=by simp[rowsO]
theorem gapC_len (n m k:Nat):(gapC n m k).length=m:=by simp[gapC]
theorem marksC_len (L:Nat) (q:Nat→Nat):(marksC L q).length=L:=by simp[marksC]
theorem rowG_isD (n:Nat) (d:Nat→Nat→D) (k:Nat):(rowG n d k).all A.isD=true:=by simp[rowG,A.isD]
theorem rowG_toD (n:Nat) (d:Nat→Nat→D) (k:Nat):(rowG n d k).map A.toD=rowD n d k:=by simp[rowG,rowD,A.toD]
theorem marksC_isD (L:Nat) (q:Nat→Nat):(marksC L q).all A.isD=true:=by simp[marksC,A.isD]
theorem marksC_toD (L:Nat) (q:Nat→Nat):(marksC L q).map A.toD=((List.range L).map fun k=>(⟨q k⟩:U32T)).map Rep.to:=by simp[marksC,A.toD]
theorem rowsO_get {n:Nat} {d:Nat→Nat→D} {m k:Nat} (h:k<m):(rowsO n d m)[k]?=some (.cells 0 1 (rowG n d k)):=by
  simp[rowsO,h]
theorem gapC_get {n m k j:Nat} (h:j<m) (hk:j<k):(gapC n m k)[j]?=some (.own (j+4) 0 0 n):=by
  simp[gapC,h,hk]
theorem marksC_get {L:Nat} {q:Nat→Nat} {k:Nat} (h:k<L):(marksC L q)[k]?=some (.d (.int .u32 (q k))):=by
  simp[marksC,h]
theorem rowsO_succ (n:Nat) (d:Nat→Nat→D) (m:Nat):rowsO n d (m+1)=rowsO n d m++[.cells 0 1 (rowG n d m)]:=by simp[rowsO,List.range_succ]
theorem marksC_set {L:Nat} {q r:Nat→Nat} {k:Nat} {x:Int} (hx:x=(r k:Nat)) (h:∀j,j<L→j≠k→r j=q j):(marksC L q).set k (.d (.int .u32 x))=marksC L r:=by
  apply List.ext_getElem
  · simp[marksC]
  · intro i h1 h2
    simp only[marksC,List.getElem_set,List.getElem_map,List.getElem_range]
    simp[marksC] at h2
    by_cases e:k=i
    · subst e;simp[hx]
    · simp[e,h i h2 (Ne.symm e)]
theorem marksC_congr {L:Nat} {q r:Nat→Nat} (h:∀j,j<L→q j=r j):marksC L q=marksC L r:=by
  unfold marksC
  exact List.map_congr_left fun j hj=>by rw[h j (by simpa using hj)]
theorem rowsO_set {n m:Nat} {d e:Nat→Nat→D} {p k:Nat} {x:D} (hp:p<n) (hx:e p k=x) (h:∀q j,q<n→¬(q=p∧j=k)→e q j=d q j):(rowsO n d m).set k (.cells 0 1 ((rowG n d k).set p (.d x)))=rowsO n e m:=by
  apply List.ext_getElem
  · simp[rowsO]
  · intro i h1 h2
    simp only[rowsO,List.getElem_set,List.getElem_map,List.getElem_range]
    have key:∀j,j≠k→rowG n d j=rowG n e j:=fun j hj=>by
      unfold rowG
      exact List.map_congr_left fun q hq=>by rw[h q j (by simpa using hq) (by omega)]
    by_cases hki:k=i
    · subst hki
      simp only[if_true]
      congr 1
      apply List.ext_getElem
      · simp[rowG]
      · intro q q1 q2
        simp only[rowG,List.getElem_set,List.getElem_map,List.getElem_range]
        simp[rowG] at q2
        by_cases hqp:p=q
        · subst hqp;simp[hx]
        · simp[hqp,h q k q2 (by omega)]
    · rw[if_neg hki,key i (Ne.symm hki)]
def rowsD (n:Nat) (d:Nat→Nat→D) (m:Nat):List D:=(List.range m).map fun k=>.sl 1 (rowD n d k)
theorem fz_marks (L:Nat) (q:Nat→Nat):Fz 2 0 1 (marksC L q) (.own 2 0 0 L) (.d (.sl 1 (((List.range L).map fun k=>(⟨q k⟩:U32T)).map Rep.to))):=by
  have hl:=marksC_len L q
  have hf:=Fz.own 2 0 1 0 L (marksC L q) (by rw[List.drop_zero,List.take_of_length_le (by omega)];exact marksC_isD _ _)
  rw[List.drop_zero,List.take_of_length_le (by omega),marksC_toD] at hf
  exact hf
theorem ofAll_map2 {α β:Type} {f:D→Option β} {g:α→D} {h:α→β}:∀l:List α,(∀x,x∈l→f (g x)=some (h x))→ofAll f (l.map g)=some (l.map h)
  | [],_=>rfl
  | x::r,hx=>by
    simp only[List.map_cons,ofAll]
    rw[hx x (by simp),ofAll_map2 r fun y hy=>hx y (by simp[hy])]
theorem rowD_of (I:List (List Int)) (n k:Nat):ofAll (Rep.of (α:=List Int)) (rowD n (dAt I n 0) k)=some (gapV I n k):=by
  unfold rowD gapV
  exact ofAll_map2 _ fun q hq=>by
    have hq:q<n:=by simpa using hq
    unfold dAt
    rw[if_pos hq]
    exact gapD_of _ _ _
theorem dAt_start (I:List (List Int)) (q k:Nat):dAt I 0 0 q k=.nilsl:=by
  unfold dAt
  rw[if_neg (by omega)]
  split
  · rfl
  · rfl
theorem rowsD_get {n:Nat} {d:Nat→Nat→D} {m k:Nat} (h:k<m):(rowsD n d m)[k]?=some (.sl 1 (rowD n d k)):=by simp[rowsD,h]
/-! ### the merged gaps -/
theorem merged_ok {xs:List (List Int)} (h1:xs.length≤32) (h2:sumL xs≤4096):coalD xs=.tup [Rep.to (mergedV xs),.int .i64 0]∧CoalOk xs (mergedV xs):=by
  obtain⟨m,e1,e2⟩:=coalO_ok xs [] [] (by simpa using h1) (by simpa [sumL] using h2) ⟨by simp,by simp,by simp⟩
  have e1:coalO xs 0 []=some m:=e1
  have em:mergedV xs=m:=by unfold mergedV;rw[e1];rfl
  rw[em]
  refine⟨?_,e2⟩
  unfold coalD
  rw[if_neg (by omega),e1]
theorem gapV_len (I:List (List Int)) (n k:Nat):(gapV I n k).length=n:=by simp[gapV]
theorem sumL_gap {I:List (List Int)} {n B:Nat} (h:∀p,p<n→(I.getD (p+1) []).length≤B) (k:Nat):sumL (gapV I n k)≤B * n:=by
  induction n with
  | zero=>simp[gapV,sumL]
  | succ n ih =>
    have e:gapV I (n+1) k=gapV I n k++[gapS (I.getD (n+1) []) (scrV I n) k]:=by simp[gapV,List.range_succ]
    rw[e,sumL_app]
    have h1:=ih fun p hp=>h p (by omega)
    have h2:=gapS_len (I.getD (n+1) []) (scrV I n) k
    have h3:=h n (by omega)
    have h4:sumL [gapS (I.getD (n+1) []) (scrV I n) k]=(gapS (I.getD (n+1) []) (scrV I n) k).length:=by simp[sumL]
    rw[h4,Nat.mul_succ]
    omega
theorem merged_line {I:List (List Int)} {n B:Nat} (h:∀p,p<n→(I.getD (p+1) []).length≤B) (hn:n≤32) (hB:B * n≤4096) {k:Nat} {m:MergedT} (hm:m∈mergedV (gapV I n k)):∃p,p<n∧m.line∈I.getD (p+1) []:=by
  have h1:=sumL_gap h k
  obtain⟨_,h2⟩:=merged_ok (xs:=gapV I n k) (by rw[gapV_len];exact hn) (by omega)
  obtain⟨b,hb,h3⟩:=coal_mem h2 (by rw[gapV_len];exact hn) hm
  have hbn:b<n:=by rw[gapV_len] at hb;exact hb
  refine⟨b,hbn,?_⟩
  have:(gapV I n k)[b]=gapS (I.getD (b+1) []) (scrV I b) k:=by simp[gapV]
  rw[this] at h3
  exact gapS_mem _ _ _ _ h3
def totF {α:Type} (f:Nat→List α):Nat→Nat→List α
  | _,0=>[]
  | j,d+1=>f j++totF f (j+1) d
theorem totF_succ {α:Type} (f:Nat→List α) (j d:Nat):totF f j (d+1)=f j++totF f (j+1) d:=rfl
theorem totF_add {α:Type} (f:Nat→List α):∀(a b j:Nat),totF f j (a+b)=totF f j a++totF f (j+a) b
  | 0,b,j=>by simp[totF]
  | a+1,b,j=>by
    rw[Nat.add_right_comm,totF,totF,totF_add f a b (j+1),List.append_assoc,show j+1+a=j+(a+1) by omega]
theorem totF_congr {α:Type} {f g:Nat→List α}:∀(d j:Nat),(∀k,j≤k→k<j+d→f k=g k)→totF f j d=totF g j d
  | 0,_,_=>rfl
  | d+1,j,h=>by
    rw[totF,totF,h j (by omega) (by omega),totF_congr d (j+1) fun k h1 h2=>h k (by omega) (by omega)]
theorem totF_range {α:Type} (f:Nat→List α):∀m,(List.range m).flatMap f=totF f 0 m
  | 0=>by simp[totF]
  | m+1=>by
    rw[List.range_succ,List.flatMap_append,totF_range f m,totF_add f m 1 0]
    simp[totF]
theorem totF_nil {α:Type} {f:Nat→List α} (d j:Nat) (h:∀k,j≤k→k<j+d→f k=[]):totF f j d=[]:=by
  rw[totF_congr (g:=fun _=>[]) d j h]
  have:∀(d j:Nat),totF (fun _=>([]:List α)) j d=[]:=by
    intro d
    induction d with
    | zero=>intro j;rfl
    | succ d ih=>intro j;rw[totF,ih];rfl
  exact this d j
theorem drop_cons {x:List Int} {i:Nat} (h:i<x.length):x.drop i=x.getD i 0::x.drop (i+1):=by
  rw[List.drop_eq_getElem_cons h]
  simp[List.getD,h]
theorem run_ok (x y:List Int):∀(d i j:Nat),i+d≤x.length→(∀t,t<d→x.getD (i+t) 0=y.getD (j+t) 0)→totF (fun k=>[y.getD k 0]) j d=(x.drop i).take d
  | 0,i,j,_,_=>by simp[totF]
  | d+1,i,j,h,ht=>by
    have h0:=ht 0 (by omega)
    simp only[Nat.add_zero] at h0
    rw[totF,run_ok x y d (i+1) (j+1) (by omega) fun t htd=>by rw[Nat.add_right_comm,Nat.add_right_comm j,Nat.add_assoc,Nat.add_assoc j];exact ht (t+1) (by omega),drop_cons (i:=i) (by omega),List.take_succ_cons,h0]
    rfl
theorem gapS_fold_none (x:List Int) (k:Nat):∀(l:List ChangeT) (acc:List Int),(∀d,d∈l→d.new≠(k:Int))→l.foldl (fun acc c=>if c.new=(k:Int) then (x.drop c.old.toNat).take c.oldLen.toNat else acc) acc=acc
  | [],_,_=>rfl
  | c::l,acc,h=>by
    rw[List.foldl_cons,if_neg (h c (by simp))]
    exact gapS_fold_none x k l acc fun d hd=>h d (by simp[hd])
theorem gapS_none {x:List Int} {l:List ChangeT} {k:Nat} (h:∀d,d∈l→d.new≠(k:Int)):gapS x l k=[]:=gapS_fold_none x k l [] h
theorem gapS_hit {x:List Int} {c:ChangeT} {l:List ChangeT} {k:Nat} (hc:c.new=(k:Int)) (h:∀d,d∈l→d.new≠(k:Int)):gapS x (c::l) k=(x.drop c.old.toNat).take c.oldLen.toNat:=by
  unfold gapS
  rw[List.foldl_cons,if_pos hc,gapS_fold_none x k l _ h]
theorem gapS_miss {x:List Int} {c:ChangeT} {l:List ChangeT} {k:Nat} (hc:c.new≠(k:Int)):gapS x (c::l) k=gapS x l k:=by
  unfold gapS
  rw[List.foldl_cons,if_neg hc]
theorem okV_lt {l:List ChangeT} {i j m n:Int} (h:okV l i j false m n=true):∀c,c∈l→j<c.new:=by
  cases l with
  | nil=>simp
  | cons c l =>
    simp only[okV,Bool.and_eq_true] at h
    have h2:=stepV_true h.1
    have h3:=okV_new _ _ _ _ _ _ h.2
    intro d hd
    have:=h2.2.2.2.2.2.2.2 rfl
    rcases List.mem_cons.1 hd with rfl | hd
    · omega
    · have:=h3.2 d hd
      omega
def pieceK (x y:List Int) (s:List ChangeT) (k:Nat):List Int:=gapS x s k++if k<y.length∧insB s k=false then [y.getD k 0] else []
theorem proj_ok (x y:List Int):∀(l:List ChangeT) (i j:Nat) (fst:Bool),okV l i j fst x.length y.length=true→(∀s,s∈matV l i j x.length→x.getD s.fr.toNat 0=y.getD s.to.toNat 0) →
    totF (pieceK x y l) j (y.length+1-j)=x.drop i
  | [],i,j,fst,h,hm=>by
    simp only[okV,Bool.and_eq_true,decide_eq_true_eq] at h
    have hd:y.length+1-j=(x.length-i)+1:=by omega
    rw[hd,totF_add,totF_nil (f:=pieceK x y []) 1 (j+(x.length-i)),List.append_nil,
      totF_congr (g:=fun k=>[y.getD k 0]),run_ok x y (x.length-i) i j (by omega),List.take_of_length_le (by simp)]
    · intro t ht
      have:=hm ⟨(i:Int)+t,(j:Int)+t⟩ ((runN_mem _ _ _ _).2 ⟨t,by omega,rfl⟩)
      simp only at this
      rw[show ((i:Int)+t).toNat=i+t by omega,show ((j:Int)+t).toNat=j+t by omega] at this
      exact this
    · intro k h1 h2
      unfold pieceK
      rw[if_pos ⟨by omega,rfl⟩]
      rfl
    · intro k h1 h2
      unfold pieceK
      rw[if_neg (by omega)]
      rfl
  | c::l,i,j,fst,h,hm=>by
    simp only[okV,Bool.and_eq_true] at h
    have h2:=stepV_true h.1
    have hn:=okV_new _ _ _ _ _ _ h.2
    have hlt:=okV_lt h.2
    obtain⟨o,ho⟩:=Int.eq_ofNat_of_zero_le h2.1.1
    obtain⟨ol,hol⟩:=Int.eq_ofNat_of_zero_le h2.2.1.1
    obtain⟨nw,hnw⟩:=Int.eq_ofNat_of_zero_le h2.2.2.1.1
    obtain⟨nl,hnl⟩:=Int.eq_ofNat_of_zero_le h2.2.2.2.1.1
    have hle:=okV_le _ _ _ _ _ _ h.2
    rw[hnw,hnl] at hlt
    rw[ho,hol,hnw,hnl] at h hn hle
    have hoi:i≤o:=by omega
    have hji:j≤nw:=by omega
    have hlen:o-i=nw-j:=by omega
    have ih:=proj_ok x y l (o+ol) (nw+nl) false (by push_cast;exact h.2) fun s hs=>hm s (by
      rw[matV,List.mem_append,ho,hol,hnw,hnl]
      right
      push_cast at hs
      exact hs)
    have hins:∀k,insB (c::l) k=(decide (c.new≤(k:Int)∧(k:Int)<c.new+c.newLen) || insB l k):=fun k=>by simp[insB]
    have hlow:∀k:Nat,(k:Int)<(nw+nl:Nat)→insB l k=false:=fun k hk=>insB_low h.2 (by push_cast at hk;exact hk)
    have hge:∀k,nw+nl≤k→k≠nw→pieceK x y (c::l) k=pieceK x y l k:=fun k hk hne=>by
      unfold pieceK
      rw[gapS_miss (by rw[hnw];omega),hins k]
      have:decide (c.new≤(k:Int)∧(k:Int)<c.new+c.newLen)=false:=by rw[hnw,hnl,decide_eq_false_iff_not];omega
      rw[this,Bool.false_or]
    have hgl:∀k:Nat,k≤nw+nl→∀d,d∈l→d.new≠(k:Int):=fun k hk d hd=>by
      have:=hlt d hd
      omega
    have hfirst:totF (pieceK x y (c::l)) j (nw-j)=(x.drop i).take (o-i):=by
      rw[totF_congr (g:=fun k=>[y.getD k 0]),← hlen,run_ok x y (o-i) i j (by omega)]
      · intro t ht
        have:=hm ⟨(i:Int)+t,(j:Int)+t⟩ (by
          rw[matV,List.mem_append,ho]
          exact .inl ((runN_mem _ _ _ _).2 ⟨t,by omega,rfl⟩))
        simp only at this
        rw[show ((i:Int)+t).toNat=i+t by omega,show ((j:Int)+t).toNat=j+t by omega] at this
        exact this
      · intro k h3 h4
        unfold pieceK
        rw[gapS_miss (by rw[hnw];omega),gapS_none (hgl k (by omega)),hins k,hlow k (by push_cast;omega)]
        have:decide (c.new≤(k:Int)∧(k:Int)<c.new+c.newLen)=false:=by rw[hnw,decide_eq_false_iff_not];omega
        rw[this,if_pos ⟨by omega,rfl⟩]
        rfl
    have hhit:gapS x (c::l) nw=(x.drop o).take ol:=by
      rw[gapS_hit hnw (hgl nw (by omega)),ho,hol]
      simp
    have hsecond:totF (pieceK x y (c::l)) nw (y.length+1-nw)=(x.drop o).take ol++x.drop (o+ol):=by
      rw[← ih]
      rcases Nat.eq_zero_or_pos nl with h0 | h0
      · subst h0
        show _=_++totF (pieceK x y l) nw (y.length+1-nw)
        rw[show y.length+1-nw=(y.length-nw)+1 by omega,totF_succ (pieceK x y (c::l)),totF_succ (pieceK x y l),totF_congr (g:=pieceK x y l) _ _ fun k h3 h4=>hge k (by omega) (by omega),← List.append_assoc]
        congr 1
        unfold pieceK
        rw[hhit,gapS_none (hgl nw (by omega)),hins nw]
        have:decide (c.new≤(nw:Int)∧(nw:Int)<c.new+c.newLen)=false:=by rw[hnw,hnl,decide_eq_false_iff_not];omega
        rw[this,Bool.false_or,List.nil_append]
      · rw[show y.length+1-nw=1+((nl-1)+(y.length+1-(nw+nl))) by omega,totF_add,totF_add,show nw+1+(nl-1)=nw+nl by omega]
        rw[totF_congr (g:=pieceK x y l) _ (nw+nl) fun k h3 h4=>hge k (by omega) (by omega)]
        rw[totF_nil (nl-1) (nw+1),List.nil_append]
        · congr 1
          rw[totF,totF,List.append_nil]
          unfold pieceK
          rw[hhit,hins nw]
          have:decide (c.new≤(nw:Int)∧(nw:Int)<c.new+c.newLen)=true:=by rw[hnw,hnl,decide_eq_true_eq];omega
          rw[this,if_neg (by simp),List.append_nil]
        · intro k h3 h4
          unfold pieceK
          rw[gapS_miss (by rw[hnw];omega),gapS_none (hgl k (by omega)),hins k]
          have:decide (c.new≤(k:Int)∧(k:Int)<c.new+c.newLen)=true:=by rw[hnw,hnl,decide_eq_true_eq];omega
          rw[this,if_neg (by simp)]
          rfl
    rw[show y.length+1-j=(nw-j)+(y.length+1-nw) by omega,totF_add,hfirst,show j+(nw-j)=nw by omega,hsecond]
    have e1:(x.drop o).take ol++x.drop (o+ol)=x.drop o:=by rw[← List.drop_drop,List.take_append_drop]
    have e2:x.drop o=(x.drop i).drop (o-i):=by rw[List.drop_drop];congr 1;omega
    rw[e1,e2,List.take_append_drop]
theorem proj_all {x y:List Int} (hx:x.length≤4096) (hy:y.length≤4096):(List.range (y.length+1)).flatMap (pieceK x y (scriptV x y))=x:=by
  have hf:=script_fits hx hy
  simp only[fitsV,checkV,Bool.and_eq_true,List.all_eq_true,decide_eq_true_eq] at hf
  have:=proj_ok x y (scriptV x y) 0 0 true hf.1.2 fun s hs=>hf.2 s hs
  rw[totF_range]
  simpa using this
/-! ### the columns -/
theorem markN_bit (I:List (List Int)) (k:Nat):∀(n p:Nat),(markN I k n).testBit p=(decide (p<n) && insB (scrV I p) k)
  | 0,p=>by simp[markN]
  | n+1,p=>by
    unfold markN
    have ih:=markN_bit I k n p
    cases hb:insB (scrV I n) k with
    | true =>
      rw[if_pos rfl,Nat.testBit_or,Nat.testBit_two_pow,ih]
      by_cases e:p=n
      · subst e;simp[hb]
      · have:decide (n=p)=false:=by simpa using fun h=>e h.symm
        have h2:decide (p<n+1)=decide (p<n):=by rw[decide_eq_decide];omega
        rw[this,h2,Bool.or_false]
    | false =>
      rw[if_neg (by simp),ih]
      by_cases e:p=n
      · subst e;simp[hb]
      · have h2:decide (p<n+1)=decide (p<n):=by rw[decide_eq_decide];omega
        rw[h2]
def nmV (N:List Str) (x:Int):Str:=N.getD x.toNat []
theorem vis_lost (N:List Str) (m:MergedT) {p:Nat} (hp:p<32):visB (lostRow N m) p=hasV p m:=by
  unfold visB hasV lostRow
  rw[if_neg (by omega),if_neg (by omega)]
  simp
theorem vis_kept (N:List Str) (I:List (List Int)) {n p:Nat} (hn:n≤32) (hp:p<n) (k:Nat):visB (keptRow N I n k) p=!insB (scrV I p) k:=by
  unfold visB keptRow
  rw[if_neg (by omega),if_neg (by omega)]
  have hlt:markN I k n<4294967296:=Nat.lt_of_lt_of_le (markN_lt I k n) (pow_le hn)
  simp only[getU_nat hlt (show p<32 by omega),markN_bit]
  cases insB (scrV I p) k <;> simp[hp]
theorem col_app (a b:List RowT) (c:Int):colV (a++b) c=colV a c++colV b c:=by simp[colV]
theorem col_lost (N:List Str) (ml:List MergedT) {p:Nat} (hp:p<32):colV (ml.map (lostRow N)) p=(prB p ml).map (nmV N):=by
  unfold colV prB mlinesV
  rw[List.filter_map,List.map_map,List.map_map]
  have e:((fun r=>visB r (p:Int)) ∘ lostRow N)=hasV p:=funext fun m=>vis_lost N m hp
  rw[e]
  rfl
theorem col_gap {N:List Str} {I:List (List Int)} {n B p:Nat} (h:∀p,p<n→(I.getD (p+1) []).length≤B) (hn:n≤32) (hB:B * n≤4096) (hp:p<n) (k:Nat) :
    colV (gapRows N I n k) p=(pieceK (I.getD (p+1) []) (I.getD 0 []) (scrV I p) k).map (nmV N):=by
  have h1:=sumL_gap h k
  obtain⟨_,h2⟩:=merged_ok (xs:=gapV I n k) (by rw[gapV_len];exact hn) (by omega)
  have h3:=h2.pr p (by rw[gapV_len];exact hp)
  have h4:(gapV I n k)[p]'(by rw[gapV_len];exact hp)=gapS (I.getD (p+1) []) (scrV I p) k:=by simp[gapV]
  rw[h4] at h3
  unfold gapRows pieceK
  rw[col_app,col_lost N _ (by omega),h3,List.map_append]
  congr 1
  by_cases hk:k<(I.getD 0 []).length
  · rw[if_pos hk]
    have hv:=vis_kept N I hn hp k
    unfold colV
    cases hb:insB (scrV I p) k with
    | true=>rw[hb] at hv;rw[if_neg (by simp)];simp[hv]
    | false =>
      rw[hb] at hv
      rw[if_pos ⟨hk,rfl⟩,List.filter_cons,hv]
      rfl
  · rw[if_neg hk,if_neg (by omega)]
    rfl
theorem col_flat (c:Int) (f:Nat→List RowT):∀l:List Nat,colV (l.flatMap f) c=l.flatMap fun k=>colV (f k) c
  | []=>rfl
  | a::l=>by rw[List.flatMap_cons,List.flatMap_cons,col_app,col_flat c f l]
theorem map_flat {α β:Type} (g:α→β) (f:Nat→List α):∀l:List Nat,(l.flatMap f).map g=l.flatMap fun k=>(f k).map g
  | []=>rfl
  | a::l=>by rw[List.flatMap_cons,List.flatMap_cons,List.map_append,map_flat g f l]
theorem col_parent {N:List Str} {I:List (List Int)} {n B p:Nat} (h:∀p,p<n→(I.getD (p+1) []).length≤B) (hn:n≤32) (hB:B * n≤4096) (hp:p<n) (h0:(I.getD 0 []).length≤4096) :
    colV (rowsTo N I n ((I.getD 0 []).length+1)) p=(I.getD (p+1) []).map (nmV N):=by
  have hx:=h p hp
  have hB2:(I.getD (p+1) []).length≤4096:=by
    have:B≤B * n:=Nat.le_mul_of_pos_right B (by omega)
    omega
  have:=proj_all hB2 h0
  unfold rowsTo
  rw[col_flat]
  have e:(fun k=>colV (gapRows N I n k) (p:Int))=fun k=>(pieceK (I.getD (p+1) []) (I.getD 0 []) (scrV I p) k).map (nmV N):=funext fun k=>col_gap h hn hB hp k
  rw[e,← map_flat]
  congr 1
theorem col_res0 (N:List Str) (I:List (List Int)) (n k:Nat):colV (gapRows N I n k) (-1)=if k<(I.getD 0 []).length then [nmV N ((I.getD 0 []).getD k 0)] else []:=by
  unfold gapRows
  rw[col_app]
  have e1:colV ((mergedV (gapV I n k)).map (lostRow N)) (-1)=[]:=by
    unfold colV
    rw[List.filter_eq_nil_iff.2]
    · rfl
    · intro r hr
      obtain⟨m,_,rfl⟩:=List.mem_map.1 hr
      simp[vis_res,lostRow]
  rw[e1,List.nil_append]
  by_cases hk:k<(I.getD 0 []).length
  · rw[if_pos hk,if_pos hk]
    simp[colV,vis_res,keptRow,nmV]
  · rw[if_neg hk,if_neg hk]
    rfl
theorem col_res (N:List Str) (I:List (List Int)) (n:Nat):colV (rowsTo N I n ((I.getD 0 []).length+1)) (-1)=(I.getD 0 []).map (nmV N):=by
  unfold rowsTo
  rw[col_flat]
  generalize hy:I.getD 0 []=y
  have e:∀k,colV (gapRows N I n k) (-1)=if k<y.length then [nmV N (y.getD k 0)] else []:=fun k=>by rw[col_res0,hy]
  rw[funext e,totF_range,totF_add,totF_nil 1,List.append_nil,totF_congr (g:=fun k=>([y.getD k 0]).map (nmV N))]
  · have:∀(d j:Nat),totF (fun k=>([y.getD k 0]).map (nmV N)) j d=(totF (fun k=>[y.getD k 0]) j d).map (nmV N):=by
      intro d
      induction d with
      | zero=>intro j;rfl
      | succ d ih=>intro j;rw[totF,totF,ih,List.map_append]
    rw[this,run_ok y y y.length 0 0 (by omega) (fun _ _=>rfl)]
    simp
  · intro k _ hk
    rw[if_pos (by omega)]
    rfl
  · intro k hk _
    rw[if_neg (by omega)]
end Go.AE
namespace Go.AE
@[simp] theorem SbS_self:∀s:Store,SbS s s=True
  | []=>rfl
  | x::s=>by rw[SbS_cons,SbO_refl,SbS_self s];simp
def nearOne (raw:List Int) (fr:Int) (i:Nat) (x:Str):Str :=
  if (atV raw (fr+i)).tmod 6=0 then [] else if (atV raw (fr+i)).tmod 6=1 then lineV (atV raw (fr+40+i))++[10]++x else x
def nearS (l:List Str) (raw:List Int) (fr:Int) (k:Nat):Str:=(List.range k).flatMap fun i=>nearOne raw fr i (l.getD i [])
def nearV (blob:Str) (raw:List Int) (fr:Int):Str:=nearS (linesV blob) raw fr (linesV blob).length
theorem nearS_succ (l:List Str) (raw:List Int) (fr:Int) (k:Nat):nearS l raw fr (k+1)=nearS l raw fr k++nearOne raw fr k (l.getD k []):=by
  simp[nearS,List.range_succ]
theorem nearOne_good (raw:List Int) (fr:Int) (i:Nat) (x:Str):(nearOne raw fr i x).length≤4+x.length∧(nearOne raw fr i x).count 10≤1+x.count 10:=by
  obtain⟨h1,h2⟩:=lineV_good (atV raw (fr+40+i))
  unfold nearOne
  split
  · simp
  · split
    · simp only[List.length_append,List.count_append,h2,List.length_singleton]
      simp
      omega
    · omega
theorem nearS_good (l:List Str) (raw:List Int) (fr:Int):∀k,k≤l.length→(nearS l raw fr k).length≤4 * k+flen (l.take k)∧(nearS l raw fr k).count 10≤k+(l.take k).flatten.count 10
  | 0,_=>by simp[nearS]
  | k+1,h=>by
    have hk:k<l.length:=by omega
    obtain⟨h1,h2⟩:=nearS_good l raw fr k (by omega)
    obtain⟨h3,h4⟩:=nearOne_good raw fr k (l.getD k [])
    have e:l.getD k []=l[k]:=by simp[List.getD,hk]
    rw[e] at h3 h4
    have ef:=flen_succ hk
    have ec:(l.take (k+1)).flatten.count 10=(l.take k).flatten.count 10+l[k].count 10:=by
      rw[List.take_succ_eq_append_getElem hk,List.flatten_append,List.count_append]
      simp
    rw[nearS_succ,List.length_append,List.count_append,ef,ec,e]
    omega
theorem nearV_good (blob:Str) (raw:List Int) (fr:Int):(nearV blob raw fr).length≤4 * (linesV blob).length+blob.length∧(nearV blob raw fr).count 10≤(linesV blob).length+blob.count 10:=by
  have h:=nearS_good (linesV blob) raw fr _ (Nat.le_refl _)
  rw[List.take_length,lines_flat] at h
  have:flen (linesV blob)=blob.length:=by unfold flen;rw[lines_flat]
  rw[this] at h
  exact h
@[simp] def S_gen_Near:List D→Prop × D:=spec3 (α:=Str) (β:=List Int) (γ:=Int) (fun blob raw fr=>blob.length≤4096∧raw.length≤9223372036854775807∧0≤fr∧fr≤1000000) (fun blob raw fr=>Rep.to (nearV blob raw fr))
theorem ct_gen_Near {P:Program} {f g1 g2 g3:Nat} {G:Gam} (h:CodeOf P f 3 11 [3] (x_gen_Near g1 g2 g3)) (hG:GamOk P G) (h1:G.find g1=some S_ref02_Lines) (h2:G.find g2=some S_gen_At) (h3:G.find g3=some S_gen_Line):Has P f S_gen_Near:=h.has3 hG fun blob raw fr hp=>by
  obtain⟨p1,p2,p3,p4⟩:=hp
  have p1':blob.length≤4194304:=by omega
  have hll:=linesV_len blob
  have hcl:blob.count 10≤blob.length:=List.count_le_length
  have hfl:flen (linesV blob)=blob.length:=by unfold flen;rw[lines_flat]
  have hn:(linesV blob).length≤4097:=by rw[hll];split <;> omega
  simp[x_gen_Near,h1,p1']
  have hv:nearV blob raw fr=nearS (linesV blob) raw fr (linesV blob).length:=rfl
  rw[hv]
  clear hv hll
  generalize linesV blob=l at *
  have q2:raw.length≤9223372036854775807:=by omega
  refine vc_lp (σ:=Nat) (fun i=>i≤l.length) (fun i=>l.length-i) (fun i=>[.any,.d (Rep.to raw),.d (.int .i64 fr),.any,.d (Rep.to l),.d (.str (nearS l raw fr i)),.d (.int .i64 i),.any,.any,.any,.any]) (fun _=>[]) 0 (by simp[nearS]) (by simp) (by simp) ?_
  intro i hi
  by_cases hk:i<l.length
  · have w1:IntKind.i64.wrap ((i:Int)+1)=(i:Int)+1:=wrap_in (by omega) (by omega)
    have w2:IntKind.i64.wrap (fr+i)=fr+i:=wrap_in (by omega) (by omega)
    have w3:IntKind.i64.wrap (fr+40)=fr+40:=wrap_in (by omega) (by omega)
    have w4:IntKind.i64.wrap (fr+40+i)=fr+40+i:=wrap_in (by omega) (by omega)
    have r1:0≤fr+(i:Int)∧fr+(i:Int)<9223372036854775807:=by omega
    have r2:0≤fr+40+(i:Int)∧fr+40+(i:Int)<9223372036854775807:=by omega
    have hs:=nearS_succ l raw fr i
    have e:l.getD i []=l[i]:=by simp[List.getD,hk]
    rw[e] at hs
    unfold nearOne at hs
    obtain⟨g1',g2'⟩:=nearS_good l raw fr i (by omega)
    have ft:=flen_take l i
    have fs:=flen_take l (i+1)
    rw[flen_succ hk] at fs
    obtain⟨b1,b2⟩:=lineV_good (atV raw (fr+40+i))
    generalize hz:atV raw (fr+i)=z at *
    by_cases c0:z.tmod 6=0
    · rw[if_pos c0,List.append_nil] at hs
      simp[hk,h2,q2,w1,w2,r1,hz,c0]
      exact Nxt.mk (i+1) (by omega) (by simp[hs]) (by simp) (by omega)
    · rw[if_neg c0] at hs
      by_cases c1:z.tmod 6=1
      · rw[if_pos c1] at hs
        simp[hk,getD_map,h2,h3,q2,w1,w2,w3,w4,r1,r2,hz,c0,c1]
        refine⟨by omega,by omega,by omega,Nxt.mk (i+1) (by omega) (by simp[hs]) (by simp) (by omega)⟩
      · rw[if_neg c1] at hs
        simp[hk,getD_map,h2,q2,w1,w2,r1,hz,c0,c1]
        exact⟨by omega,Nxt.mk (i+1) (by omega) (by simp[hs]) (by simp) (by omega)⟩
  · have h9:i=l.length:=by omega
    subst h9
    simp
def blobOne (raw:List Int) (lines:Int) (p:Nat):Str :=
  if (atV raw (500+p)).tmod 5=0 then blobV raw (600+50 * p) lines 4 else if (atV raw (500+p)).tmod 5=1 then blobV raw 0 lines 5 else nearV (blobV raw 0 lines 5) raw (600+50 * p)
def blobsV (raw:List Int) (n:Nat) (lines:Int):List Str:=(List.range n).map (blobOne raw lines)
theorem blobsV_succ (raw:List Int) (n:Nat) (lines:Int):blobsV raw (n+1) lines=blobsV raw n lines++[blobOne raw lines n]:=by
  simp[blobsV,List.range_succ]
theorem lines_blob (raw:List Int) (fr kinds:Int) {n:Int} (hn:0≤n):(linesV (blobV raw fr n kinds)).length≤n.toNat+1:=by
  obtain⟨h1,h2⟩:=blobV_good raw fr kinds hn
  rw[linesV_len]
  split <;> omega
theorem blobOne_len (raw:List Int) {lines:Int} (hl:0≤lines) (p:Nat):(blobOne raw lines p).length≤8 * lines.toNat+4:=by
  unfold blobOne
  split
  · have:=(blobV_good raw (600+50 * p) 4 hl).1;omega
  · split
    · have:=(blobV_good raw 0 5 hl).1;omega
    · have h1:=(nearV_good (blobV raw 0 lines 5) raw (600+50 * p)).1
      have h2:=(blobV_good raw 0 5 hl).1
      have h3:=lines_blob raw 0 5 hl
      omega
@[simp] def S_gen_Blobs:List D→Prop × D:=spec3 (α:=List Int) (β:=Int) (γ:=Int) (fun raw n lines=>raw.length≤9223372036854775807∧n≤1000∧0≤lines∧lines≤100) (fun raw n lines=>Rep.to (blobsV raw n.toNat lines))
theorem ct_gen_Blobs {P:Program} {f g1 g2 g3:Nat} {G:Gam} (h:CodeOf P f 3 11 [3] (x_gen_Blobs g1 g2 g3)) (hG:GamOk P G) (h1:G.find g1=some S_gen_Blob) (h2:G.find g2=some S_gen_At) (h3:G.find g3=some S_gen_Near):Has P f S_gen_Blobs:=h.has3 hG fun raw n lines hp=>by
  obtain⟨p1,p2,p3,p4⟩:=hp
  have p5:lines≤1000:=by omega
  have q2:raw.length≤9223372036854775807:=by omega
  have hb:=(blobV_good raw 0 5 p3).1
  have hb2:(blobV raw 0 lines 5).length≤4096:=by omega
  simp[x_gen_Blobs,h1,p1,p3,p5]
  refine vc_lp (σ:=Nat) (fun i=>i≤n.toNat) (fun i=>n.toNat-i) (fun i=>[.d (Rep.to raw),.d (.int .i64 n),.d (.int .i64 lines),.any,.d (.str (blobV raw 0 lines 5)),.gr 0 1 ((blobsV raw i lines).map Rep.to),.d (.int .i64 i),.any,.any,.any,.any]) (fun i=>[.tip i]) 0 (by simp[blobsV]) (by simp) (by simp) ?_
  intro i hi
  have hlen:(blobsV raw i lines).length=i:=by simp[blobsV]
  by_cases hk:(i:Int)<n
  · have w1:IntKind.i64.wrap ((i:Int)+1)=(i:Int)+1:=wrap_in (by omega) (by omega)
    have w2:IntKind.i64.wrap (500+(i:Int))=500+i:=wrap_in (by omega) (by omega)
    have w3:IntKind.i64.wrap (50 * (i:Int))=50 * i:=wrap_in (by omega) (by omega)
    have w4:IntKind.i64.wrap (600+50 * (i:Int))=600+50 * i:=wrap_in (by omega) (by omega)
    have r1:0≤500+(i:Int)∧500+(i:Int)<9223372036854775807:=by omega
    have r2:0≤600+50 * (i:Int)∧600+50 * (i:Int)≤100000:=by omega
    have r3:600+50 * (i:Int)≤1000000:=by omega
    have hs:=blobsV_succ raw i lines
    unfold blobOne at hs
    generalize hz:atV raw (500+i)=z at *
    by_cases c0:z.tmod 5=0
    · rw[if_pos c0] at hs
      simp[hk,h1,h2,q2,p1,p3,p5,w1,w2,w3,w4,r1,r2,hz,c0,hlen]
      exact⟨by unfold room;omega,Nxt.mk (i+1) (by omega) (by simp[hs]) (by simp) (by omega)⟩
    · rw[if_neg c0] at hs
      by_cases c1:z.tmod 5=1
      · rw[if_pos c1] at hs
        simp[hk,h2,q2,w1,w2,r1,hz,c0,c1,hlen]
        exact⟨by unfold room;omega,Nxt.mk (i+1) (by omega) (by simp[hs]) (by simp) (by omega)⟩
      · rw[if_neg c1] at hs
        simp[hk,h2,h3,q2,p1,w1,w2,w3,w4,r1,r2,r3,hz,c0,c1,hlen,hb2]
        exact⟨by unfold room;omega,Nxt.mk (i+1) (by omega) (by simp[hs]) (by simp) (by omega)⟩
  · have h9:i=n.toNat:=by omega
    subst h9
    have hk2:¬(max n 0<n):=by omega
    simp[hk2]
end Go.AE
namespace Go.AE
theorem linesV_leB {s:Str} {B:Nat} (h:s.length≤B):(linesV s).length≤B+1:=by
  have hc:s.count 10≤s.length:=List.count_le_length
  rw[linesV_len]
  split <;> omega
structure Small (r:Str) (ps:List Str) (B:Nat):Prop where
  hr:r.length≤B
  hp:∀p,p∈ps→p.length≤B
  n1:1≤ps.length
  n2:ps.length≤32
  b1:B≤100
  b2:(B+1) * ps.length≤4096
theorem Small.ids {r:Str} {ps:List Str} {B:Nat} (h:Small r ps B):∀p,p<ps.length→((idsV (filesV r ps)).getD (p+1) []).length≤B+1:=fun p hp=>by
  rw[idsV_getD (by rw[filesV_len];omega),List.length_map,filesV_succ r ps hp]
  exact linesV_leB (h.hp _ (List.getElem_mem hp))
theorem Small.ids0 {r:Str} {ps:List Str} {B:Nat} (h:Small r ps B):((idsV (filesV r ps)).getD 0 []).length≤B+1:=by
  rw[ids0_len]
  exact linesV_leB h.hr
theorem nm_place {N:List Str} {y:Str} (h:y∈N):nmV N (placeV N y)=y:=by
  obtain⟨k,hk,h1,h2⟩:=placeV_mem h
  unfold nmV
  rw[h1]
  simp[List.getD,hk,h2]
theorem nm_ids {r:Str} {ps:List Str} {p:Nat} (hp:p<(filesV r ps).length):((idsV (filesV r ps)).getD p []).map (nmV (namesV (filesV r ps)))=(filesV r ps)[p]:=by
  rw[idsV_getD hp,List.map_map]
  have:∀l:List Str,(∀y,y∈l→y∈namesV (filesV r ps))→l.map (nmV (namesV (filesV r ps)) ∘ placeV (namesV (filesV r ps)))=l:=fun l hl=>by
    rw[List.map_congr_left fun y hy=>show (nmV (namesV (filesV r ps)) ∘ placeV (namesV (filesV r ps))) y=y from nm_place (hl y hy)]
    exact List.map_id' l
  exact this _ fun y hy=>mem_names.2 ⟨_,List.getElem_mem hp,hy⟩
theorem make_col {r:Str} {ps:List Str} {B:Nat} (h:Small r ps B) {p:Nat} (hp:p<ps.length):colV (makeV r ps).rows p=linesV ps[p]:=by
  have h0:=h.ids0
  have:=col_parent (N:=namesV (filesV r ps)) h.ids h.n2 h.b2 hp (by have:=h.b1;omega)
  unfold makeV
  simp only
  rw[← ids0_len r ps,this,nm_ids (by rw[filesV_len];omega),filesV_succ r ps hp]
theorem make_res {r:Str} {ps:List Str}:colV (makeV r ps).rows (-1)=linesV r:=by
  unfold makeV
  simp only
  rw[← ids0_len r ps,col_res,nm_ids (by rw[filesV_len];omega),filesV_zero]
theorem make_row {r:Str} {ps:List Str} {x:RowT} (hx:x∈(makeV r ps).rows) :
    (∃k m,m∈mergedV (gapV (idsV (filesV r ps)) ps.length k)∧x=lostRow (namesV (filesV r ps)) m)∨∃k,∃h:k<(linesV r).length,x=⟨false,markN (idsV (filesV r ps)) k ps.length,(linesV r)[k]⟩:=by
  unfold makeV rowsTo at hx
  simp only[List.mem_flatMap,List.mem_range] at hx
  obtain⟨k,hk,hx⟩:=hx
  unfold gapRows at hx
  rcases List.mem_append.1 hx with hx | hx
  · obtain⟨m,hm,rfl⟩:=List.mem_map.1 hx
    exact .inl ⟨k,m,hm,rfl⟩
  · rw[ids0_len] at hx
    split at hx
    · rename_i hkl
      simp only[List.mem_singleton] at hx
      subst hx
      refine .inr ⟨k,hkl,?_⟩
      unfold keptRow
      rw[(kept_text r ps hkl).1]
    · cases hx
theorem listV_okL {l:List Str} (h:listV l=true) {x:Str} (hx:x∈l):okL x=true:=by
  rw[listV_last,Bool.and_eq_true,List.all_eq_true] at h
  exact h.1 x hx
theorem lost_text {r:Str} {ps:List Str} {B:Nat} (h:Small r ps B) {k:Nat} {m:MergedT} (hm:m∈mergedV (gapV (idsV (filesV r ps)) ps.length k)):∃p,p∈ps∧(lostRow (namesV (filesV r ps)) m).text∈linesV p:=by
  obtain⟨p,hp,hl⟩:=merged_line h.ids h.n2 h.b2 hm
  have hp1:p+1<(filesV r ps).length:=by rw[filesV_len];omega
  obtain⟨j,h1,h2,y,h3,h4,h5⟩:=id_name hp1 hl
  refine⟨ps[p],List.getElem_mem hp,?_⟩
  rw[filesV_succ r ps hp] at h3
  have:(lostRow (namesV (filesV r ps)) m).text=y:=by
    unfold lostRow
    rw[h1,Int.toNat_natCast]
    exact h4
  rw[this]
  exact h3
theorem lines_ok {s x:Str} (h:x∈linesV s):okL x=true∧x.length≤s.length:=by
  have h1:listV (linesV s)=true:=listV_lines s [] (by simp)
  refine⟨listV_okL h1 h,?_⟩
  obtain⟨i,hi,rfl⟩:=List.mem_iff_getElem.1 h
  have h2:=mem_flat_le hi
  have h3:(linesV s).flatten.length=s.length:=by rw[lines_flat]
  omega
theorem make_marks {r:Str} {ps:List Str} {B:Nat} (h:Small r ps B) {x:RowT} (hx:x∈(makeV r ps).rows):∃k:Nat,x.marks=k∧k<2 ^ ps.length∧(x.lost=true→0<k):=by
  rcases make_row hx with ⟨k,m,hm,rfl⟩ | ⟨k,hk,rfl⟩
  · obtain⟨_,h2⟩:=merged_ok (xs:=gapV (idsV (filesV r ps)) ps.length k) (by rw[gapV_len];exact h.n2) (by have:=sumL_gap h.ids k;have:=h.b2;omega)
    obtain⟨q,q1,q2,q3⟩:=h2.ok m hm
    rw[gapV_len] at q3
    exact⟨q,q1,q3,fun _=>q2⟩
  · exact⟨_,rfl,markN_lt _ _ _,fun h=>by cases h⟩
theorem make_text {r:Str} {ps:List Str} {B:Nat} (h:Small r ps B) {x:RowT} (hx:x∈(makeV r ps).rows):okL x.text=true∧x.text.length≤B:=by
  rcases make_row hx with ⟨k,m,hm,rfl⟩ | ⟨k,hk,rfl⟩
  · obtain⟨p,hp,h2⟩:=lost_text h hm
    obtain⟨h3,h4⟩:=lines_ok h2
    exact⟨h3,Nat.le_trans h4 (h.hp p hp)⟩
  · obtain⟨h3,h4⟩:=lines_ok (List.getElem_mem hk)
    exact⟨h3,Nat.le_trans h4 h.hr⟩
theorem make_valid {r:Str} {ps:List Str} {B:Nat} (h:Small r ps B):checkTab (makeV r ps)=0:=by
  have hn1:=h.n1
  have hn2:=h.n2
  have hp:(makeV r ps).parents=(ps.length:Int):=rfl
  have hm:marksB (makeV r ps).rows (makeV r ps).parents.toNat=true:=by
    rw[hp,Int.toNat_natCast,marksB_all,List.all_eq_true]
    intro x hx
    obtain⟨k,h1,h2,h3⟩:=make_marks h hx
    unfold markB
    rw[h1]
    cases hl:x.lost with
    | false=>simp[h2]
    | true =>
      have:=h3 hl
      simp[h2]
      omega
  have ht:textsB (makeV r ps).rows (makeV r ps).parents.toNat=true:=by
    rw[hp,Int.toNat_natCast]
    unfold textsB
    rw[Bool.and_eq_true,List.all_eq_true,List.all_eq_true]
    refine⟨fun x hx=>(make_text h hx).1,fun c hc=>?_⟩
    rw[List.mem_range] at hc
    rcases Nat.eq_zero_or_pos c with h0 | h0
    · subst h0
      rw[show ((0:Nat):Int)-1=-1 from rfl,make_res]
      exact listV_lines r [] (by simp)
    · rw[show (c:Int)-1=((c-1:Nat):Int) by omega,make_col h (by omega)]
      exact listV_lines _ [] (by simp)
  unfold checkTab
  rw[if_neg (by rw[hp];omega),if_pos hm,if_pos ht]
theorem rows_len2 {N:List Str} {I:List (List Int)} {n B:Nat} (h:∀p,p<n→(I.getD (p+1) []).length≤B) (hn:n≤32) (hB:B * n≤4096):∀k,(rowsTo N I n k).length≤(B * n+1) * k
  | 0=>by simp[rowsTo]
  | k+1=>by
    rw[rowsTo_succ,List.length_append,Nat.mul_succ]
    have h0:=rows_len2 (N:=N) h hn hB k
    have h1:=sumL_gap h k
    obtain⟨_,h2⟩:=merged_ok (xs:=gapV I n k) (by rw[gapV_len];exact hn) (by omega)
    have h3:=h2.len
    have h4:(gapRows N I n k).length≤B * n+1:=by
      unfold gapRows
      rw[List.length_append,List.length_map]
      split <;> simp <;> omega
    omega
theorem flen_leB {B:Nat}:∀rows:List RowT,(∀x,x∈rows→x.text.length≤B)→flen (rows.map RowT.text)≤B * rows.length
  | [],_=>by simp[flen]
  | x::r,h=>by
    have h1:=flen_leB r fun y hy=>h y (by simp[hy])
    have h2:=h x (by simp)
    unfold flen at *
    rw[List.map_cons,List.flatten_cons,List.length_append,List.length_cons,Nat.mul_succ]
    omega
theorem make_len {r:Str} {ps:List Str} {B:Nat} (h:Small r ps B):(makeV r ps).rows.length≤((B+1) * ps.length+1) * (B+2):=by
  have h1:=rows_len2 (N:=namesV (filesV r ps)) h.ids h.n2 h.b2 ((linesV r).length+1)
  have h2:=linesV_leB h.hr
  exact Nat.le_trans h1 (Nat.mul_le_mul_left _ (by omega))
theorem make_tabOk {r:Str} {ps:List Str} {B:Nat} (h:Small r ps B) (hB:B * (((B+1) * ps.length+1) * (B+2))≤4194304):tabOk (makeV r ps):=by
  have hl:=make_len h
  refine⟨?_,fun x hx=>?_,?_⟩
  · have h1:(B+1) * ps.length+1≤4097:=by have:=h.b2;omega
    have h2:B+2≤102:=by have:=h.b1;omega
    have:=Nat.mul_le_mul h1 h2
    omega
  · obtain⟨k,h1,h2,_⟩:=make_marks h hx
    have h3:=pow_le h.n2
    unfold rowOk
    rw[h1]
    omega
  · have h1:=flen_leB (B:=B) (makeV r ps).rows fun x hx=>(make_text h hx).2
    exact Nat.le_trans h1 (Nat.le_trans (Nat.mul_le_mul_left _ hl) hB)
/-! ### free tables -/
structure HunkT where
  first:Int
  last:Int
  ofr:Int
  oto:Int
  nfr:Int
  nto:Int
  deriving DecidableEq,Inhabited
open Go.ChangeShapes Go.WideShapes Go.RowKit Go.Deep
instance:Rep PLineT where
  size:=2
  to x:=.agg [.int .u8 x.kind,.str x.text]
  of
    | .agg [.int .u8 a,.str b]=>some ⟨a,b⟩
    | _=>none
  of_to x:=rfl
  rep d x h w I v r:=by
    split at h
    · simp at h;subst h;exact r
    · simp at h
  fits x:=rfl
@[simp] theorem to_PLine (x:PLineT):Rep.to x=D.agg [.int .u8 x.kind,.str x.text]:=rfl
@[simp] theorem size_PLine:Rep.size PLineT=2:=rfl
@[simp] theorem of_PLine (a:Int) (b:Str):Rep.of (α:=PLineT) (.agg [.int .u8 a,.str b])=some ⟨a,b⟩:=rfl
instance:Rep PHunkT where
  size:=3
  to x:=.agg [.int .i64 x.old,.int .i64 x.new,Rep.to x.lines]
  of
    | .agg [.int .i64 a,.int .i64 b,c]=>(Rep.of (α:=List PLineT) c).map fun r=>⟨a,b,r⟩
    | _=>none
  of_to x:=by simp only[Rep.of_to];rfl
  rep d x h w I v r:=by
    split at h
    · rename_i a b c
      simp only[Option.map_eq_some_iff] at h
      obtain⟨rows,h1,rfl⟩:=h
      cases r with
      | agg cs vs hl ho hr =>
        refine .agg _ _ (by simpa using hl) rfl (fun k hk=>?_)
        have hk':k<3:=by simpa using hk
        match k,hk' with
        | 0,_=>exact hr 0 (by simp)
        | 1,_=>exact hr 1 (by simp)
        | 2,_=>exact Rep.rep _ _ h1 _ _ _ (hr 2 (by simp))
    · simp at h
  fits x:=rfl
@[simp] theorem to_PHunk (x:PHunkT):Rep.to x=D.agg [.int .i64 x.old,.int .i64 x.new,.sl 2 (x.lines.map Rep.to)]:=rfl
@[simp] theorem size_PHunk:Rep.size PHunkT=3:=rfl
@[simp] theorem of_PHunk (a b:Int) (c:D):Rep.of (α:=PHunkT) (.agg [.int .i64 a,.int .i64 b,c])=(Rep.of (α:=List PLineT) c).map fun r=>⟨a,b,r⟩:=rfl
instance:Rep PatchT where
  size:=3
  to x:=.agg [.str x.oldName,.str x.newName,Rep.to x.hunks]
  of
    | .agg [.str a,.str b,c]=>(Rep.of (α:=List PHunkT) c).map fun r=>⟨a,b,r⟩
    | _=>none
  of_to x:=by simp only[Rep.of_to];rfl
  rep d x h w I v r:=by
    split at h
    · rename_i a b c
      simp only[Option.map_eq_some_iff] at h
      obtain⟨rows,h1,rfl⟩:=h
      cases r with
      | agg cs vs hl ho hr =>
        refine .agg _ _ (by simpa using hl) rfl (fun k hk=>?_)
        have hk':k<3:=by simpa using hk
        match k,hk' with
        | 0,_=>exact hr 0 (by simp)
        | 1,_=>exact hr 1 (by simp)
        | 2,_=>exact Rep.rep _ _ h1 _ _ _ (hr 2 (by simp))
    · simp at h
  fits x:=rfl
@[simp] theorem to_Patch (x:PatchT):Rep.to x=D.agg [.str x.oldName,.str x.newName,.sl 3 (x.hunks.map Rep.to)]:=rfl
@[simp] theorem size_Patch:Rep.size PatchT=3:=rfl
@[simp] theorem of_Patch (a b:Str) (c:D):Rep.of (α:=PatchT) (.agg [.str a,.str b,c])=(Rep.of (α:=List PHunkT) c).map fun r=>⟨a,b,r⟩:=rfl
instance:Rep HunkT where
  size:=6
  to x:=.agg [.int .i64 x.first,.int .i64 x.last,.int .i64 x.ofr,.int .i64 x.oto,.int .i64 x.nfr,.int .i64 x.nto]
  of
    | .agg [.int .i64 a,.int .i64 b,.int .i64 c,.int .i64 d,.int .i64 e,.int .i64 f]=>some ⟨a,b,c,d,e,f⟩
    | _=>none
  of_to x:=rfl
  rep d x h w I v r:=by
    split at h
    · simp at h;subst h;exact r
    · simp at h
  fits x:=rfl
@[simp] theorem to_Hunk (x:HunkT):Rep.to x=D.agg [.int .i64 x.first,.int .i64 x.last,.int .i64 x.ofr,.int .i64 x.oto,.int .i64 x.nfr,.int .i64 x.nto]:=rfl
@[simp] theorem size_Hunk:Rep.size HunkT=6:=rfl
@[simp] theorem of_Hunk (a b c d e f:Int):Rep.of (α:=HunkT) (.agg [.int .i64 a,.int .i64 b,.int .i64 c,.int .i64 d,.int .i64 e,.int .i64 f])=some ⟨a,b,c,d,e,f⟩:=rfl
end Go.AE
namespace Go.AE
theorem frange_len (s c:Int):(frangeV s c).length≤43:=by
  have h1:=fmt_len s
  have h2:=fmt_len (s+1)
  have h3:=fmt_len c
  unfold frangeV
  split
  · simp
  · split
    · simp only[List.length_append,List.length_cons,List.length_nil];omega
    · split
      · omega
      · simp only[List.length_append,List.length_cons,List.length_nil];omega
@[simp] def buW (k:Nat) (bs:Str):Store:=[.cells 0 2 [.agg [.tref k 0 106,.bgr (k+1) 5 bs]],.tip bs.length]
theorem prefix_take (s p:Str):Lib.hasPrefix s p=decide (s.take p.length=p):=by
  unfold Lib.hasPrefix
  rw[Bool.eq_iff_iff,List.isPrefixOf_iff_prefix,List.prefix_iff_eq_take,decide_eq_true_eq]
  exact eq_comm
theorem suffix_drop (s p:Str):Lib.hasSuffix s p=decide (s.drop (s.length-p.length)=p):=by
  unfold Lib.hasSuffix
  rw[Bool.eq_iff_iff,List.isSuffixOf_iff_suffix,List.suffix_iff_eq_drop,decide_eq_true_eq]
  exact eq_comm
theorem prefix_le {s p:Str} (h:Lib.hasPrefix s p=true):p.length≤s.length:=by
  rw[prefix_take,decide_eq_true_eq] at h
  have:=congrArg List.length h
  simp at this
  omega
theorem suffix_le {s p:Str} (h:Lib.hasSuffix s p=true):p.length≤s.length:=by
  rw[suffix_drop,decide_eq_true_eq] at h
  have:=congrArg List.length h
  simp at this
  omega
@[simp] def S_strings_HasPrefix:List D→Prop × D:=spec2 (α:=Str) (β:=Str) (fun s _=>s.length≤9223372036854775807) (fun s p=>.bool (Lib.hasPrefix s p))
abbrev S_internal_stringslite_HasPrefix:=S_strings_HasPrefix
abbrev S_internal_stringslite_HasSuffix:=S_strings_HasSuffix
abbrev S_internal_stringslite_TrimSuffix:=S_strings_TrimSuffix
theorem ct_internal_stringslite_HasPrefix {P:Program} {f:Nat} {G:Gam} (h:CodeOf P f 2 3 [2] x_internal_stringslite_HasPrefix) (hG:GamOk P G):Has P f S_internal_stringslite_HasPrefix:=h.has2 hG fun s p hp=>by
  rw[prefix_take]
  by_cases hl:p.length≤s.length
  · simp[x_internal_stringslite_HasPrefix,hl]
  · have e:¬s.take p.length=p:=fun e=>by have:=congrArg List.length e;simp at this;omega
    simp[x_internal_stringslite_HasPrefix,hl,e]
theorem ct_strings_HasPrefix {P:Program} {f g1:Nat} {G:Gam} (h:CodeOf P f 2 3 [2] (x_strings_HasPrefix g1)) (hG:GamOk P G) (h1:G.find g1=some S_internal_stringslite_HasPrefix):Has P f S_strings_HasPrefix:=h.has2 hG fun s p hp=>by
  simp[x_strings_HasPrefix,h1,hp]
theorem ct_internal_stringslite_HasSuffix {P:Program} {f:Nat} {G:Gam} (h:CodeOf P f 2 3 [2] x_internal_stringslite_HasSuffix) (hG:GamOk P G):Has P f S_internal_stringslite_HasSuffix:=h.has2 hG fun s p hp=>by
  rw[suffix_drop]
  by_cases hl:p.length≤s.length
  · have w:IntKind.i64.wrap ((s.length:Int)-p.length)=((s.length-p.length:Nat):Int):=by rw[wrap_in (by omega) (by omega)];omega
    have hd:List.take (s.length-(s.length-p.length)) (s.drop (s.length-p.length))=s.drop (s.length-p.length):=List.take_of_length_le (by simp)
    simp[x_internal_stringslite_HasSuffix,hl,w,hd]
  · have e:¬s.drop (s.length-p.length)=p:=fun e=>by have:=congrArg List.length e;simp at this;omega
    simp[x_internal_stringslite_HasSuffix,hl,e]
theorem ct_strings_HasSuffix {P:Program} {f g1:Nat} {G:Gam} (h:CodeOf P f 2 3 [2] (x_strings_HasSuffix g1)) (hG:GamOk P G) (h1:G.find g1=some S_internal_stringslite_HasSuffix):Has P f S_strings_HasSuffix:=h.has2 hG fun s p hp=>by
  simp[x_strings_HasSuffix,h1,hp]
theorem ct_internal_stringslite_TrimSuffix {P:Program} {f g1:Nat} {G:Gam} (h:CodeOf P f 2 4 [2] (x_internal_stringslite_TrimSuffix g1)) (hG:GamOk P G) (h1:G.find g1=some S_internal_stringslite_HasSuffix):Has P f S_internal_stringslite_TrimSuffix:=h.has2 hG fun s p hp=>by
  cases c:Lib.hasSuffix s p with
  | true =>
    have hl:=suffix_le c
    have w:IntKind.i64.wrap ((s.length:Int)-p.length)=((s.length-p.length:Nat):Int):=by rw[wrap_in (by omega) (by omega)];omega
    have e:Lib.trimSuffix s p=s.take (s.length-p.length):=by unfold Lib.trimSuffix;rw[if_pos c]
    rw[e]
    simp[x_internal_stringslite_TrimSuffix,h1,hp,c,w]
  | false =>
    have e:Lib.trimSuffix s p=s:=by unfold Lib.trimSuffix;rw[if_neg (by rw[c];simp)]
    rw[e]
    simp[x_internal_stringslite_TrimSuffix,h1,hp,c]
theorem ct_strings_TrimSuffix {P:Program} {f g1:Nat} {G:Gam} (h:CodeOf P f 2 3 [2] (x_strings_TrimSuffix g1)) (hG:GamOk P G) (h1:G.find g1=some S_internal_stringslite_TrimSuffix):Has P f S_strings_TrimSuffix:=h.has2 hG fun s p hp=>by
  simp[x_strings_TrimSuffix,h1,hp]
def cutPre (s p:Str):Str:=if Lib.hasPrefix s p=true then s.drop p.length else s
def cutSuf (s p:Str):Str:=if Lib.hasSuffix s p=true then s.take (s.length-p.length) else s
@[simp] def S_strings_CutPrefix:List D→Prop × D:=spec2 (α:=Str) (β:=Str) (fun s _=>s.length≤9223372036854775807) (fun s p=>.tup [.str (cutPre s p),.bool (Lib.hasPrefix s p)])
abbrev S_internal_stringslite_CutPrefix:=S_strings_CutPrefix
@[simp] def S_strings_CutSuffix:List D→Prop × D:=spec2 (α:=Str) (β:=Str) (fun s _=>s.length≤9223372036854775807) (fun s p=>.tup [.str (cutSuf s p),.bool (Lib.hasSuffix s p)])
abbrev S_internal_stringslite_CutSuffix:=S_strings_CutSuffix
theorem ct_internal_stringslite_CutPrefix {P:Program} {f g1:Nat} {G:Gam} (h:CodeOf P f 2 5 [2,3] (x_internal_stringslite_CutPrefix g1)) (hG:GamOk P G) (h1:G.find g1=some S_internal_stringslite_HasPrefix):Has P f S_internal_stringslite_CutPrefix:=h.has2 hG fun s p hp=>by
  cases c:Lib.hasPrefix s p with
  | true =>
    have hl:=prefix_le c
    have e:cutPre s p=s.drop p.length:=by unfold cutPre;rw[if_pos c]
    have hd:List.take (s.length-p.length) (s.drop p.length)=s.drop p.length:=List.take_of_length_le (by simp)
    rw[e]
    simp[x_internal_stringslite_CutPrefix,h1,hp,c,hl,hd]
  | false =>
    have e:cutPre s p=s:=by unfold cutPre;rw[if_neg (by rw[c];simp)]
    rw[e]
    simp[x_internal_stringslite_CutPrefix,h1,hp,c]
theorem ct_strings_CutPrefix {P:Program} {f g1:Nat} {G:Gam} (h:CodeOf P f 2 4 [2,3] (x_strings_CutPrefix g1)) (hG:GamOk P G) (h1:G.find g1=some S_internal_stringslite_CutPrefix):Has P f S_strings_CutPrefix:=h.has2 hG fun s p hp=>by
  simp[x_strings_CutPrefix,h1,hp]
theorem ct_internal_stringslite_CutSuffix {P:Program} {f g1:Nat} {G:Gam} (h:CodeOf P f 2 5 [2,3] (x_internal_stringslite_CutSuffix g1)) (hG:GamOk P G) (h1:G.find g1=some S_internal_stringslite_HasSuffix):Has P f S_internal_stringslite_CutSuffix:=h.has2 hG fun s p hp=>by
  cases c:Lib.hasSuffix s p with
  | true =>
    have hl:=suffix_le c
    have w:IntKind.i64.wrap ((s.length:Int)-p.length)=((s.length-p.length:Nat):Int):=by rw[wrap_in (by omega) (by omega)];omega
    have e:cutSuf s p=s.take (s.length-p.length):=by unfold cutSuf;rw[if_pos c]
    rw[e]
    simp[x_internal_stringslite_CutSuffix,h1,hp,c,w]
  | false =>
    have e:cutSuf s p=s:=by unfold cutSuf;rw[if_neg (by rw[c];simp)]
    rw[e]
    simp[x_internal_stringslite_CutSuffix,h1,hp,c]
theorem ct_strings_CutSuffix {P:Program} {f g1:Nat} {G:Gam} (h:CodeOf P f 2 4 [2,3] (x_strings_CutSuffix g1)) (hG:GamOk P G) (h1:G.find g1=some S_internal_stringslite_CutSuffix):Has P f S_strings_CutSuffix:=h.has2 hG fun s p hp=>by
  simp[x_strings_CutSuffix,h1,hp]
@[simp] def S_strings_Split:List D→Prop × D:=spec2 (α:=Str) (β:=Str) (fun s sep=>sep.length=1∧s.length<4294967281) (fun s sep=>Rep.to (Lib.splitK sep 0 (Lib.count s sep) s))
theorem ct_strings_Split {P:Program} {f g:Nat} {G:Gam} (h:CodeOf P f 2 3 [2] (x_strings_Split g)) (hG:GamOk P G) (hg:G.find g=some S_strings_genSplit):Has P f S_strings_Split:=h.has2 hG fun s sep hp=>by
  obtain⟨h1,h2⟩:=hp
  simp[x_strings_Split,hg,h1,h2]
@[simp] def S_strings_Repeat:List D→Prop × D:=spec2 (α:=Str) (β:=Int) (fun s c=>0≤c∧s.length * c.toNat≤140737488355328∧c≤9223372036854775807) (fun s c=>.str (Lib.repeatL s c.toNat))
def linesS (s:Str):List Str × Bool :=
  if s=[] then ([],true) else if Lib.hasSuffix s [10]=true then (Lib.splitK [10] 0 (Lib.count (cutSuf s [10]) [10]) (cutSuf s [10]),true) else ([],false)
def unendL:Str:=[92,32,78,111,32,110,101,119,108,105,110,101,32,97,116,32,101,110,100,32,111,102,32,102,105,108,101]
structure CHunkT where
  at_:List Int
  rows:List RowT
  deriving DecidableEq,Inhabited
structure CombT where
  path:Str
  dense:Bool
  parents:Int
  hunks:List CHunkT
  deriving DecidableEq,Inhabited
def ctsV (rows:List RowT) (n:Nat):List Int:=((List.range n).map fun (p:Nat)=>((rows.countP fun r=>visB r p:Nat):Int))++[((rows.countP fun r=>!r.lost:Nat):Int)]
theorem ctsV_len (rows:List RowT) (n:Nat):(ctsV rows n).length=n+1:=by simp[ctsV]
def markC (c:CombT):Bool:=c.hunks.all fun h=>h.rows.all (markB c.parents.toNat)
def atOk:List Int→List Int→Bool
  | a::as,e::es=>!(decide (a<e) || decide (4096<a)) && atOk as es
  | _,_=>true
def folV (h:CHunkT) (n:Nat) (ends:List Int):Option (List Int) :=
  if h.at_.length≠n+1∨h.rows=[] then none else if atOk h.at_ ends=true then some ((ctsV h.rows n).zipWith (·+·) h.at_) else none
def adsV:Bool→Nat→List RowT→Option (Bool × Nat)
  | res,par,[]=>some (res,par)
  | res,par,r::rs=>if (lineB r.text && endsOk res par r)=true then adsV (endsRes res r) (endsPar par r) rs else none
def wellC (n:Nat):Bool→Nat→List Int→List CHunkT→Option (List Int)
  | _,_,ends,[]=>some ends
  | res,par,ends,h::hs=>match folV h n ends with
    | none=>none
    | some nx=>match adsV res par h.rows with
      | none=>none
      | some (res',par')=>wellC n res' par' nx hs
def maxV (l:List Int):Int:=l.tail.foldl max (l.headD 0)
def formB (c:CombT):Bool:=match wellC c.parents.toNat false 0 (List.replicate (c.parents.toNat+1) 0) c.hunks with
  | none=>false
  | some ends=>decide (maxV ends≤4096)
/-! ### the written form -/
def titleW (c:CombT):Str:=[100,105,102,102,32,45,45]++((if c.dense then [99,99] else [99,111,109,98,105,110,101,100])++(32::(quoteV c.path++([10,112,97,114,101,110,116,115,32]++(fmtV c.parents++[10])))))
def atsW (n:Nat):Str:=List.replicate (n+1) 64
def rangesW (at_ ns:List Int):Nat→Str
  | 0=>[]
  | p+1=>rangesW at_ ns p++([32,45]++frangeV (at_.getD p 0) (ns.getD p 0))
def headC (h:CHunkT) (n:Nat):Str:=atsW n++(rangesW h.at_ (ctsV h.rows n) n++([32,43]++(frangeV (h.at_.getD n 0) ((ctsV h.rows n).getD n 0)++(32::(atsW n++[10])))))
def markW (r:RowT):Nat→Str
  | 0=>[]
  | p+1=>markW r p++[if getU r.marks p=1 then (if r.lost then 45 else 43) else 32]
def rowW (r:RowT) (n:Nat):Str:=markW r n++(r.text++if endedV r.text=true then [] else unendS)
def hunkC (n:Nat) (h:CHunkT):Str:=headC h n++h.rows.flatMap fun r=>rowW r n
def writC (c:CombT):Str:=titleW c++c.hunks.flatMap (hunkC c.parents.toNat)
def chkC (c:CombT):Int :=
  if namedB c.path=false then 120 else if c.parents<1∨32<c.parents then 2 else if markC c=false then 180 else if formB c=false then 121 else if 16777216<(writC c).length then 1 else 0
open Go.ChangeShapes Go.WideShapes Go.RowKit Go.Deep
instance:Rep CHunkT where
  size:=2
  to x:=.agg [Rep.to x.at_,Rep.to x.rows]
  of
    | .agg [a,b]=>match Rep.of (α:=List Int) a,Rep.of (α:=List RowT) b with
      | some l,some r=>some ⟨l,r⟩
      | _,_=>none
    | _=>none
  of_to x:=by simp only[Rep.of_to]
  rep d x h w I v r:=by
    split at h
    · rename_i a b
      split at h
      · rename_i l rs h1 h2
        simp at h
        subst h
        cases r with
        | agg cs vs hl ho hr =>
          refine .agg _ _ (by simpa using hl) rfl (fun k hk=>?_)
          have hk':k<2:=by simpa using hk
          match k,hk' with
          | 0,_=>exact Rep.rep _ _ h1 _ _ _ (hr 0 (by simp))
          | 1,_=>exact Rep.rep _ _ h2 _ _ _ (hr 1 (by simp))
      · simp at h
    · simp at h
  fits x:=rfl
@[simp] theorem to_CHunk (x:CHunkT):Rep.to x=D.agg [.sl 1 (x.at_.map Rep.to),.sl 3 (x.rows.map Rep.to)]:=rfl
@[simp] theorem size_CHunk:Rep.size CHunkT=2:=rfl
@[simp] theorem of_CHunk (a b:D):Rep.of (α:=CHunkT) (.agg [a,b])=(match Rep.of (α:=List Int) a,Rep.of (α:=List RowT) b with
      | some l,some r=>some ⟨l,r⟩
      | _,_=>none):=rfl
instance:Rep CombT where
  size:=4
  to x:=.agg [.str x.path,.bool x.dense,.int .i64 x.parents,Rep.to x.hunks]
  of
    | .agg [.str a,.bool b,.int .i64 c,d]=>(Rep.of (α:=List CHunkT) d).map fun r=>⟨a,b,c,r⟩
    | _=>none
  of_to x:=by simp only[Rep.of_to];rfl
  rep d x h w I v r:=by
    split at h
    · rename_i a b c e
      simp only[Option.map_eq_some_iff] at h
      obtain⟨rows,h1,rfl⟩:=h
      cases r with
      | agg cs vs hl ho hr =>
        refine .agg _ _ (by simpa using hl) rfl (fun k hk=>?_)
        have hk':k<4:=by simpa using hk
        match k,hk' with
        | 0,_=>exact hr 0 (by simp)
        | 1,_=>exact hr 1 (by simp)
        | 2,_=>exact hr 2 (by simp)
        | 3,_=>exact Rep.rep _ _ h1 _ _ _ (hr 3 (by simp))
    · simp at h
  fits x:=rfl
@[simp] theorem to_Comb (x:CombT):Rep.to x=D.agg [.str x.path,.bool x.dense,.int .i64 x.parents,.sl 2 (x.hunks.map Rep.to)]:=rfl
@[simp] theorem size_Comb:Rep.size CombT=4:=rfl
@[simp] theorem of_Comb (a:Str) (b:Bool) (c:Int) (d:D):Rep.of (α:=CombT) (.agg [.str a,.bool b,.int .i64 c,d])=(Rep.of (α:=List CHunkT) d).map fun r=>⟨a,b,c,r⟩:=rfl
end Go.AE
namespace Go.AE
structure LoomX where
  names:List Str
  i0:List Int
  n:Nat
  L:Nat
  q:Nat→Nat
  d:Nat→Nat→D
  vg:Nat
  p:Nat
  x:List Int
  pn:Nat
def boxO:Ob:=.cells 0 2 [.d (.agg [.int .i64 0,.nilsl])]
def loomO (names:List Str) (i0:List Int) (L vg pn:Nat):Ob:=.cells 0 6 [.agg [.d (Rep.to names),.d (Rep.to i0),.own 2 0 0 L,.own 3 vg 0 (L+1),.d (.int .i64 pn),.d .nilsl]]
def addQ (s:List ChangeT) (p:Nat) (q:Nat→Nat) (k:Nat):Nat:=if insB s k=true then q k ||| 2 ^ p else q k
def addD (x:List Int) (s:List ChangeT) (p:Nat) (d:Nat→Nat→D) (r k:Nat):D:=if r=p then gapD x s k else d r k
def Ob.len:Ob→Nat
  | .cells _ _ xs=>xs.length
  | _=>0
def Ob.agn:Ob→Nat→A
  | .cells _ _ (.agg cs::_),j=>cs.getD j .any
  | _,_=>.any
def loomS (names:List Str) (i0:List Int) (n L:Nat) (q:Nat→Nat) (d:Nat→Nat→D) (vg pn:Nat):Store :=
  boxO::loomO names i0 L vg pn::.cells 0 1 (marksC L q)::.cells vg 1 (gapC n (L+1) (L+1))::rowsO n d (L+1)
@[simp] theorem loomS_len (names:List Str) (i0:List Int) (n L:Nat) (q:Nat→Nat) (d:Nat→Nat→D) (vg pn:Nat):(loomS names i0 n L q d vg pn).length=L+5:=by simp[loomS,rowsO_len]
def F_weave_loom_add:RF LoomX where
  new:=0
  view a s:=⟨((s.getD 1 .dead).agn 0).gl Str,((s.getD 1 .dead).agn 1).gl Int,(s.getD 4 .dead).len,(s.getD 2 .dead).len,fun k=>((s.getD 2 .dead).el k).gi.toNat,fun r k=>((s.getD (k+4) .dead).el r).toD,(s.getD 3 .dead).ver,(a.getD 1 .any).gi.toNat,(a.getD 2 .any).gl Int,((s.getD 1 .dead).agn 4).gi.toNat⟩
  args x:=[.ref 1 0 0 0,.d (.int .i64 x.p),.d (Rep.to x.x)]
  st x:=loomS x.names x.i0 x.n x.L x.q x.d x.vg x.pn
  pre x:=x.x.length≤4096∧x.i0.length=x.L∧x.L≤4096∧x.p<x.n∧x.n≤32∧(∀k,k<x.L→x.q k<4294967296)∧∀k,k<x.L+1→x.d x.p k=.nilsl
  res _:=.d (.int .i64 0)
  st' x:=loomS x.names x.i0 x.n x.L (addQ (scriptV x.x x.i0) x.p x.q) (addD x.x (scriptV x.x x.i0) x.p x.d) x.vg x.pn
abbrev R_weave_loom_add:RSpec:=F_weave_loom_add.specW
theorem pow32 {p:Nat} (h:p<32):2 ^ p<4294967296:=by
  have:(4294967296:Nat)=2 ^ 32:=rfl
  rw[this]
  exact Nat.pow_lt_pow_right (by omega) h
theorem or_lt32 {a p:Nat} (h:a<4294967296) (hp:p<32):a ||| 2 ^ p<4294967296:=by
  have:(4294967296:Nat)=2 ^ 32:=rfl
  have h2:=pow32 hp
  rw[this] at *
  exact Nat.or_lt_two_pow h h2
theorem or_idem (a b:Nat):a ||| b ||| b=a ||| b:=by rw[Nat.or_assoc,Nat.or_self]
theorem rowsO_congr2 {n m:Nat} {d e:Nat→Nat→D} (h:∀q k,q<n→k<m→d q k=e q k):rowsO n d m=rowsO n e m:=by
  unfold rowsO rowG
  exact List.map_congr_left fun k hk=>by
    congr 1
    exact List.map_congr_left fun q hq=>by rw[h q k (by simpa using hq) (by simpa using hk)]
theorem insB_snoc {s:List ChangeT} {c:Nat} (h:c<s.length) (k:Nat):insB (s.take (c+1)) k=(insB (s.take c) k || decide (s[c].new≤(k:Int)∧(k:Int)<s[c].new+s[c].newLen)):=by
  unfold insB
  rw[List.take_succ_eq_append_getElem h,List.any_append]
  simp
theorem SbS_app:∀s t:Store,SbS (s++t) s=True
  | [],t=>by simp
  | x::s,t=>by rw[List.cons_append,SbS_cons,SbO_refl,SbS_app s t];simp
theorem marksC_under (L:Nat) (q:Nat→Nat) (N:Nat):(marksC L q).all (A.under N)=true:=by
  rw[List.all_eq_true]
  intro x hx
  obtain⟨k,_,rfl⟩:=List.mem_map.1 hx
  rfl
theorem gapC_under (n m k:Nat) {N:Nat} (h:m+4≤N):(gapC n m k).all (A.under N)=true:=by
  rw[List.all_eq_true]
  intro x hx
  obtain⟨j,hj,rfl⟩:=List.mem_map.1 hx
  have hj:j<m:=by simpa using hj
  split
  · simp only[A.under,decide_eq_true_eq];omega
  · rfl
theorem rowsO_under (n:Nat) (d:Nat→Nat→D) (m N:Nat):(rowsO n d m).all (Ob.under N)=true:=by
  rw[List.all_eq_true]
  intro x hx
  obtain⟨j,hj,rfl⟩:=List.mem_map.1 hx
  show (rowG n d j).all (A.under N)=true
  rw[List.all_eq_true]
  intro y hy
  obtain⟨k,_,rfl⟩:=List.mem_map.1 hy
  rfl
theorem loomS_under (names:List Str) (i0:List Int) (n L:Nat) (q:Nat→Nat) (d:Nat→Nat→D) (vg pn:Nat):(loomS names i0 n L q d vg pn).all (Ob.under (L+5))=true:=by
  have h1:=marksC_under L q (L+5)
  have h2:=gapC_under n (L+1) (L+1) (N:=L+5) (by omega)
  have h3:=rowsO_under n d (L+1) (L+5)
  unfold loomS
  rw[List.all_cons,List.all_cons,List.all_cons,List.all_cons,h3]
  simp only[Ob.under,h1,h2,Bool.and_true]
  simp[boxO,loomO]
theorem get_snoc {α:Type} {l:List α} {n:Nat} (h:l.length=n) (x:α):(l++[x])[n]?=some x:=by subst h;simp
theorem get_snoc_lt {α:Type} {l:List α} {k:Nat} (h:k<l.length) (x:α):(l++[x])[k]?=l[k]?:=by rw[List.getElem?_append_left h]
theorem set_snoc_lt {α:Type} {l:List α} {k:Nat} (h:k<l.length) (x y:α):(l++[x]).set k y=l.set k y++[x]:=List.set_append_left _ _ h
def stepQ (s:List ChangeT) (p:Nat) (q:Nat→Nat) (c a j:Nat) (k:Nat):Nat:=if (insB (s.take c) k || decide (a≤k∧k<j))=true then q k ||| 2 ^ p else q k
theorem ct_weave_loom_add {P:Program} {f g1:Nat} {G:Gam} (hc:CodeOf P f 3 14 [3] (x_weave_loom_add g1)) (hG:GamOk P G) (h1:G.find g1=some S_shortest_Script):RSpec.Ok P f R_weave_loom_add:=by
  refine RF.okW hc.call fun x hx=>hc.rcalls hG rfl ?_
  obtain⟨names,i0,n,L,q,d,vg,p,x,pn⟩:=x
  obtain⟨p1,p2,p3,p4,p5,p6,p7⟩:=hx
  simp only at p1 p2 p3 p4 p5 p6 p7
  have hso:=script_ok (a:=x) (b:=i0) (by omega) (by omega)
  obtain⟨hck,_,_⟩:=hso
  simp only[checkV,Bool.and_eq_true] at hck
  obtain⟨_,hok⟩:=hck
  have hsl:=scriptV_len x i0
  have hlg:¬longV x i0:=by unfold longV;omega
  obtain⟨_,hnw⟩:=okV_new _ _ _ _ _ _ hok
  simp[F_weave_loom_add,x_weave_loom_add,startA,h1,loomS,loomO,boxO,hlg,show x.length≤1048576 by omega,show i0.length≤1048576 by omega]
  have hsl2:(scriptV x i0).length≤4097:=by omega
  generalize scriptV x i0=s at *
  have hA0:addQ (s.take 0) p q=q:=by funext k;simp[addQ,insB]
  have hD0:rowsO n (addD x (s.take 0) p d) (L+1)=rowsO n d (L+1):=rowsO_congr2 fun r k _ hk=>by
    unfold addD
    by_cases h:r=p
    · subst h;rw[if_pos rfl,p7 k hk];rfl
    · rw[if_neg h]
  refine vc_lp (σ:=Nat) (fun c=>c≤s.length) (fun c=>s.length-c)
    (fun c=>[.ref 1 0 0 0,.d (.int .i64 p),.d (Rep.to x),.any,.any,.any,.any,.any,.any,.d (Rep.to s),.d (.int .i64 s.length),.d (.int .i64 c),.any,.any])
    (fun c=>boxO::loomO names i0 L vg pn::.cells 0 1 (marksC L (addQ (s.take c) p q))::.cells vg 1 (gapC n (L+1) (L+1))::rowsO n (addD x (s.take c) p d) (L+1)) 0 (by simp) ?_ (by simp) ?_ (h0:=by simp[rowsO_len]) (hc:=.inl (by simp[rowsO_len]))
  · rw[hA0,hD0]
    simp[boxO,loomO]
  intro c hc
  by_cases hcl:c<s.length
  · have w1:IntKind.i64.wrap ((c:Int)+1)=(c:Int)+1:=wrap_in (by omega) (by omega)
    obtain⟨m3,m4,m5,m6,m7,m8⟩:=hnw _ (List.getElem_mem hcl)
    obtain⟨j,hj⟩:=Int.eq_ofNat_of_zero_le m3
    obtain⟨jl,hjl⟩:=Int.eq_ofNat_of_zero_le m4
    obtain⟨o,ho⟩:=Int.eq_ofNat_of_zero_le m6
    obtain⟨ol,hol⟩:=Int.eq_ofNat_of_zero_le m7
    have hrl:=rowsO_len n (addD x (s.take c) p d) (L+1)
    have hins:=fun k=>insB_snoc hcl k
    rw[hj,hjl] at hins
    have hq0:marksC L (addQ (s.take c) p q)=marksC L (stepQ s p q c j j):=marksC_congr fun k _=>by
      unfold addQ stepQ
      have:decide (j≤k∧k<j)=false:=by rw[decide_eq_false_iff_not];omega
      rw[this,Bool.or_false]
    rw[hq0]
    simp[hcl,getD_map,hrl,boxO,loomO,hj,hjl,ho,hol]
    have hgx:∀(l:List Ob) (y:Ob),l.length=L+1→(l++[y])[L+1]?=some y:=fun l y h=>get_snoc h y
    have hsy:∀(l:List Ob) (y z:Ob),l.length=L+1→(l++[y]).set (L+1) z=l++[z]:=fun l y z h=>by rw[List.set_append_right _ _ (by omega),h,Nat.sub_self];rfl
    have hgx2:∀(l:List Ob) (y:Ob),l.length=L+1→j<L+1→(l++[y])[j]?=l[j]?:=fun l y h1 h2=>get_snoc_lt (by omega) y
    have hsx:∀(l:List Ob) (y z:Ob),l.length=L+1→j<L+1→(l++[y]).set j z=l.set j z++[y]:=fun l y z h1 h2=>set_snoc_lt (by omega) _ _
    refine vc_lp (σ:=Nat) (fun k=>j≤k∧k≤j+jl) (fun k=>j+jl-k)
      (fun k=>[.ref 1 0 0 0,.d (.int .i64 p),.d (Rep.to x),.any,.any,.any,.ref (L+5) 0 0 0,.d (.int .i64 k),.any,.d (Rep.to s),.d (.int .i64 s.length),.d (.int .i64 c),.any,.any])
      (fun k=>boxO::.cells 0 6 [.agg [.d (Rep.to names),.d (Rep.to i0),.own 2 0 0 L,.own 3 vg 0 (L+1),.d (.int .i64 pn),.d .nilsl]]::.cells 0 1 (marksC L (stepQ s p q c j k))::.cells vg 1 (gapC n (L+1) (L+1))::(rowsO n (addD x (s.take c) p d) (L+1)++[.cells 0 4 [.d (.agg [.int .i64 o,.int .i64 ol,.int .i64 j,.int .i64 jl])]])) j (by simp) (by simp[boxO]) (by simp) ?_ (h0:=by simp[rowsO_len]) (hc:=.inl (by simp))
    rintro k ⟨k1,k2⟩
    by_cases hkj:k<j+jl
    · have w2:IntKind.i64.wrap ((k:Int)+1)=(k:Int)+1:=wrap_in (by omega) (by omega)
      have w3:IntKind.i64.wrap ((j:Int)+jl)=(j:Int)+jl:=wrap_in (by omega) (by omega)
      have hkL:k<L:=by omega
      have hmg:=marksC_get (q:=stepQ s p q c j k) hkL
      have hml:=marksC_len L (stepQ s p q c j k)
      have hv:stepQ s p q c j k k ||| 2 ^ p=q k ||| 2 ^ p:=by
        unfold stepQ
        split
        · exact or_idem _ _
        · rfl
      have hvl:stepQ s p q c j k k<4294967296:=by
        unfold stepQ
        split
        · exact or_lt32 (p6 k hkL) (by omega)
        · exact p6 k hkL
      have hms:∀y:Int,y=((q k ||| 2 ^ p:Nat):Int)→(marksC L (stepQ s p q c j k)).set k (.d (.int .u32 y))=marksC L (stepQ s p q c j (k+1)):=fun y hy =>
        marksC_set (by
          rw[hy]
          unfold stepQ
          have:decide (j≤k∧k<k+1)=true:=by rw[decide_eq_true_eq];omega
          rw[this,Bool.or_true,if_pos rfl]) fun i _ hi=>by
          unfold stepQ
          have:decide (j≤i∧i<k+1)=decide (j≤i∧i<k):=by rw[decide_eq_decide];omega
          rw[this]
      obtain⟨v,hvv⟩:∃v,stepQ s p q c j k k=v:=⟨_,rfl⟩
      rw[hvv] at hmg hv hvl
      have hor:IntKind.u32.wrap ((v % 2 ^ IntKind.u32.bits ||| (IntKind.u32.wrap (2 ^ min p IntKind.u32.bits) % 2 ^ IntKind.u32.bits).toNat:Nat):Int)=((q k ||| 2 ^ p:Nat):Int):=by
        have:=orU_nat (a:=v) (b:=2 ^ p) hvl (pow32 (by omega))
        rw[← bitV_nat (by omega),hv] at this
        rw[← this]
        unfold orU
        congr 2
      have hmg2:∀h:k<(marksC L (stepQ s p q c j k)).length,(marksC L (stepQ s p q c j k))[k]'h=.d (.int .u32 v):=fun h=>by obtain⟨_,h9⟩:=List.getElem?_eq_some_iff.1 hmg;exact h9
      simp[hgx,hsy,hrl,show (k:Int)<j+jl by omega,w3,hml,hkL,hmg,hmg2,hor,hms _ rfl,w2]
      exact Nxt.mk (k+1) (by omega) (by simp) (by simp) (by omega) (by simp[rowsO_len]) (.inl (by simp))
    · have h9:k=j+jl:=by omega
      subst h9
      have w3:IntKind.i64.wrap ((j:Int)+jl)=(j:Int)+jl:=wrap_in (by omega) (by omega)
      have w4:IntKind.i64.wrap ((o:Int)+ol)=(o:Int)+ol:=wrap_in (by omega) (by omega)
      have hq1:marksC L (stepQ s p q c j (j+jl))=marksC L (addQ (s.take (c+1)) p q):=marksC_congr fun k _=>by
        unfold addQ stepQ
        rw[hins k]
        have:decide ((j:Int)≤k∧(k:Int)<j+jl)=decide (j≤k∧k<j+jl):=by rw[decide_eq_decide];omega
        rw[this]
      have hjL:j<L+1:=by omega
      have hgg:=gapC_get (n:=n) (m:=L+1) (k:=L+1) (j:=j) (by omega) (by omega)
      have hgl:=gapC_len n (L+1) (L+1)
      have hrg:=rowsO_get (n:=n) (d:=addD x (s.take c) p d) (m:=L+1) (k:=j) (by omega)
      have hrw:=rowG_len n (addD x (s.take c) p d) j
      have hrs:=rowsO_set (n:=n) (m:=L+1) (d:=addD x (s.take c) p d) (e:=addD x (s.take (c+1)) p d) (p:=p) (k:=j) (x:=.sl 1 (((x.drop o).take ol).map Rep.to)) p4 (by
        unfold addD
        rw[if_pos rfl,gapD_snoc _ hcl,if_pos hj,ho,hol]
        simp) fun r i _ hri=>by
          unfold addD
          by_cases h:r=p
          · subst h
            rw[if_pos rfl,if_pos rfl,gapD_snoc _ hcl,if_neg (by rw[hj];omega)]
          · rw[if_neg h,if_neg h]
      simp at hrs
      have hgg2:∀h:j<(gapC n (L+1) (L+1)).length,(gapC n (L+1) (L+1))[j]'h=.own (j+4) 0 0 n:=fun h=>by obtain⟨_,h9⟩:=List.getElem?_eq_some_iff.1 hgg;exact h9
      have hrg2:∀h:j<(rowsO n (addD x (s.take c) p d) (L+1)).length,(rowsO n (addD x (s.take c) p d) (L+1))[j]'h=.cells 0 1 (rowG n (addD x (s.take c) p d) j):=fun h=>by obtain⟨_,h9⟩:=List.getElem?_eq_some_iff.1 hrg;exact h9
      rw[hq1]
      simp[hgx,hrg2,hsy,hgx2,hsx,hrl,hrg,w1,w3,w4,hjL,hgg,hgg2,hgl,hrw,p4,hrs,show ((o:Int)+ol).toNat-o=ol by omega]
      refine⟨by omega,by omega,Nxt.mk (c+1) (by omega) (by simp) ?_ (by omega) (by simp[rowsO_len]) (.inr ⟨by simp[rowsO_len],?_⟩)⟩
      · rw[SbS_cons,SbS_cons,SbS_cons,SbS_cons,SbS_app]
        simp[boxO]
      · have hl:∀s':Store,s'=loomS names i0 n L (addQ (s.take (c+1)) p q) (addD x (s.take (c+1)) p d) vg pn→s'.all (Ob.under s'.length)=true:=fun s' h=>by
          subst h
          rw[loomS_len]
          exact loomS_under _ _ _ _ _ _ _ _
        exact hl _ rfl
  · have h9:c=s.length:=by omega
    subst h9
    rw[List.take_length]
    simp
    refine FinR.done (by simp) (by simp[boxO,loomO]) (by simp[rowsO_len]) rfl ?_ (by simp)
    have hl:∀s':Store,s'=loomS names i0 n L (addQ s p q) (addD x s p d) vg pn→s'.all (Ob.under s'.length)=true:=fun s' h=>by
      subst h
      rw[loomS_len]
      exact loomS_under _ _ _ _ _ _ _ _
    exact hl _ rfl
def A.dl:A→List D
  | .d (.sl _ xs)=>xs
  | _=>[]
attribute [simp] A.dl Ob.agn
def ofDD (d:D):List (List Int):=(Rep.of (α:=List (List Int)) d).getD []
structure WeaveX where
  names:List Str
  i0:List Int
  marks:List U32T
  gaps:List D
  pn:Nat
  v:Nat
def weaveRow (names:List Str) (i0:List Int) (marks:List U32T) (gaps:List D) (k:Nat):List RowT :=
  (mergedV (ofDD (gaps.getD k .nilsl))).map (lostRow names)++if k<i0.length then [⟨false,(marks.getD k default).n,names.getD (i0.getD k 0).toNat []⟩] else []
def weaveTo (names:List Str) (i0:List Int) (marks:List U32T) (gaps:List D) (k:Nat):List RowT:=(List.range k).flatMap (weaveRow names i0 marks gaps)
theorem weaveTo_succ (names:List Str) (i0:List Int) (marks:List U32T) (gaps:List D) (k:Nat):weaveTo names i0 marks gaps (k+1)=weaveTo names i0 marks gaps k++weaveRow names i0 marks gaps k:=by simp[weaveTo,List.range_succ]
structure WeaveOk (x:WeaveX):Prop where
  l1:x.gaps.length=x.i0.length+1
  l2:x.marks.length=x.i0.length
  l3:x.i0.length≤101
  gp:∀k (h:k<x.gaps.length),∃ds xs,x.gaps[k]=.sl 1 ds∧ofAll (Rep.of (α:=List Int)) ds=some xs∧xs.length≤32∧sumL xs≤4096∧∀m,m∈mergedV xs→∃j:Nat,m.line=j∧j<x.names.length
  nm:∀k (h:k<x.i0.length),∃j:Nat,x.i0[k]=j∧j<x.names.length
@[simp] def F_weave_loom_weave:RF WeaveX where
  new:=1
  view a s:=⟨((s.getD 0 .dead).agn 0).gl Str,((s.getD 0 .dead).agn 1).gl Int,((s.getD 0 .dead).agn 2).gl U32T,((s.getD 0 .dead).agn 3).dl,((s.getD 0 .dead).agn 4).gi.toNat,(s.getD 0 .dead).ver⟩
  args x:=[.ref 0 x.v 0 0]
  st x:=[.cells x.v 6 [.agg [.d (Rep.to x.names),.d (Rep.to x.i0),.d (Rep.to x.marks),.d (.sl 1 x.gaps),.d (.int .i64 x.pn),.d .nilsl]],.res]
  pre x:=WeaveOk x
  res _:=.d (.int .i64 0)
  st' x:=[.cells x.v 6 [.agg [.d (Rep.to x.names),.d (Rep.to x.i0),.d (Rep.to x.marks),.d (.sl 1 x.gaps),.d (.int .i64 x.pn),.gr 1 3 ((weaveTo x.names x.i0 x.marks x.gaps (x.i0.length+1)).map Rep.to)]],.tip (weaveTo x.names x.i0 x.marks x.gaps (x.i0.length+1)).length]
abbrev R_weave_loom_weave:RSpec:=F_weave_loom_weave.spec
def weaveIn (names:List Str) (i0:List Int) (marks:List U32T) (gaps:List D) (k:Nat) (ml:List MergedT) (i:Nat):List RowT:=weaveTo names i0 marks gaps k++(ml.take i).map (lostRow names)
theorem weaveIn_zero (names:List Str) (i0:List Int) (marks:List U32T) (gaps:List D) (k:Nat) (ml:List MergedT):weaveIn names i0 marks gaps k ml 0=weaveTo names i0 marks gaps k:=by simp[weaveIn]
theorem weaveIn_succ (names:List Str) (i0:List Int) (marks:List U32T) (gaps:List D) (k:Nat) {ml:List MergedT} {i:Nat} (h:i<ml.length):weaveIn names i0 marks gaps k ml (i+1)=weaveIn names i0 marks gaps k ml i++[lostRow names ml[i]]:=by
  unfold weaveIn
  rw[List.take_succ_eq_append_getElem h,List.map_append,List.append_assoc]
  rfl
theorem weaveIn_len (names:List Str) (i0:List Int) (marks:List U32T) (gaps:List D) (k:Nat) {ml:List MergedT} {i:Nat} (h:i≤ml.length):(weaveIn names i0 marks gaps k ml i).length=(weaveTo names i0 marks gaps k).length+i:=by
  simp[weaveIn];omega
theorem FinR.pick2 {rs:List Nat} {o:Ob} {a:Nat} {res:A} {v e:Nat} {xs ys:List A} {T:List A} (h:resOf rs T [.cells v e xs,.res,.tip a]=res) (hu:∃y,res=.d y)
    (h1:xs.map (A.ren (idxIn [0,2]))=ys) (h2:ys.all (A.under 2)=true) (hp:resPre rs T [.cells v e xs,.res,.tip a]):FinR rs [o,.res] res [.cells v e ys,.tip a] .ret T [.cells v e xs,.res,.tip a]:=by
  refine⟨hp,[0,2],rfl,⟨by decide,by simp,?_⟩,fun k hk=>?_,?_,?_,?_⟩
  · simp[pickS,Ob.ren,h1]
    simpa using h2
  · match k,hk with
    | 0,_=>exact .inl rfl
    | 1,_=>exact .inr rfl
  · simp[pickS,Ob.ren,h1]
  · rw[h]
    obtain⟨y,rfl⟩:=hu
    rfl
  · obtain⟨y,rfl⟩:=hu
    rfl
theorem ct_weave_loom_weave {P:Program} {f g1:Nat} {G:Gam} (hc:CodeOf P f 1 17 [1] (x_weave_loom_weave g1)) (hG:GamOk P G) (h1:G.find g1=some S_lost_Coalesce):RSpec.Ok P f R_weave_loom_weave:=by
  refine RF.ok hc.call fun x hx=>hc.rcalls hG rfl ?_
  obtain⟨names,i0,marks,gaps,pn,v⟩:=x
  obtain⟨l1,l2,l3,gp,nm⟩:=hx
  simp only at l1 l2 l3 gp nm
  obtain⟨L,hL⟩:∃L,i0.length=L:=⟨_,rfl⟩
  rw[hL] at l1 l2 l3
  simp[x_weave_loom_weave,startA,hL,l1]
  refine vc_lpR (σ:=Nat) (fun k=>k≤L+1∧(weaveTo names i0 marks gaps k).length≤4097 * k) (fun k=>L+1-k)
    (fun k=>[.ref 0 v 0 0,.any,.any,.any,.any,.any,.any,.d (.sl 1 gaps),.d (.int .i64 ((L:Int)+1)),.d (.int .i64 k),.any,.any,.any,.any,.any,.any,.any])
    (fun k=>[.cells v 6 [.agg [.d (Rep.to names),.d (Rep.to i0),.d (Rep.to marks),.d (.sl 1 gaps),.d (.int .i64 pn),.gr 2 3 ((weaveTo names i0 marks gaps k).map Rep.to)]],.res,.tip (weaveTo names i0 marks gaps k).length]) 0 ?_ (by simp[weaveTo]) ?_
  · refine Re.weak (k:=[.tip 0]) (s':=[.cells v 6 [.agg [.d (Rep.to names),.d (Rep.to i0),.d (Rep.to marks),.d (.sl 1 gaps),.d (.int .i64 pn),.gr 2 3 []]],.res]) (by simp) (by simp) (by simp) ⟨.cellsL ?_,.inl rfl,trivial⟩
    simp
    exact Wk.fresh 2 [.tip 0] 3 0 rfl
  rintro k ⟨hk,hkl⟩
  by_cases hkL:k<L+1
  · have w1:IntKind.i64.wrap ((k:Int)+1)=(k:Int)+1:=wrap_in (by omega) (by omega)
    obtain⟨ds,xs,hds,hof,x1,x2,x3⟩:=gp k (by omega)
    obtain⟨hco,hcok⟩:=merged_ok (xs:=xs) x1 x2
    have hml:=hcok.len
    have hkg:k<gaps.length:=by omega
    have hofd:ofDD (gaps.getD k .nilsl)=xs:=by
      unfold ofDD
      have:gaps.getD k .nilsl=gaps[k]:=by simp[List.getD,hkg]
      rw[this,hds]
      show (if 1=1 then ofAll (Rep.of (α:=List Int)) ds else none).getD []=xs
      rw[if_pos rfl,hof]
      rfl
    have hrs:=weaveTo_succ names i0 marks gaps k
    unfold weaveRow at hrs
    rw[hofd,hL] at hrs
    have hxl:∀x,x∈xs→x.length≤1048576:=fun x hx=>by
      have:x.length≤sumL xs:=by
        unfold sumL
        obtain⟨i,hi,rfl⟩:=List.mem_iff_getElem.1 hx
        have e:=sumL_drop (xs:=xs.drop 0) (k:=i) (by simpa using hi)
        have:∀(l:List (List Int)) (i:Nat) (h:i<l.length),l[i].length≤(l.map List.length).sum:=by
          intro l
          induction l with
          | nil=>intro i h;simp at h
          | cons a l ih =>
            intro i h
            cases i with
            | zero=>simp
            | succ i =>
              have:=ih i (by simpa using h)
              simp only[List.getElem_cons_succ,List.map_cons,List.sum_cons]
              omega
        exact this xs i hi
      omega
    simp[hkL,show (k:Int)<(L:Int)+1 by omega,hkg,h1,hds,hof,hco,hxl,show xs.length≤1048576 by omega]
    refine⟨hxl,?_⟩
    have hmm:∀m,m∈mergedV xs→∃j:Nat,m.line=j∧j<names.length:=x3
    generalize mergedV xs=ml at *
    have hk101:(weaveTo names i0 marks gaps k).length≤4097 * 101:=by omega
    have hmll:ml.length≤4096:=by omega
    rw[← weaveIn_zero names i0 marks gaps k ml]
    refine vc_lp (σ:=Nat) (fun i=>i≤ml.length) (fun i=>ml.length-i)
      (fun i=>[.ref 0 v 0 0,.any,.d (.int .i64 k),.any,.any,.any,.any,.d (.sl 1 gaps),.d (.int .i64 ((L:Int)+1)),.d (.int .i64 k),.any,.any,.d (Rep.to ml),.d (.int .i64 ml.length),.d (.int .i64 i),.any,.any])
      (fun i=>[.cells v 6 [.agg [.d (Rep.to names),.d (Rep.to i0),.d (Rep.to marks),.d (.sl 1 gaps),.d (.int .i64 pn),.gr 2 3 ((weaveIn names i0 marks gaps k ml i).map Rep.to)]],.res,.tip (weaveIn names i0 marks gaps k ml i).length]) 0 (by simp) (by simp) (by simp) ?_
    intro i hi
    by_cases hil:i<ml.length
    · have w2:IntKind.i64.wrap ((i:Int)+1)=(i:Int)+1:=wrap_in (by omega) (by omega)
      obtain⟨j,hj,hjN⟩:=hmm _ (List.getElem_mem hil)
      have hst:=weaveIn_succ names i0 marks gaps k hil
      have hsl:=weaveIn_len names i0 marks gaps k hi
      have hlr:lostRow names ml[i]=⟨true,ml[i].parents,names[j]⟩:=by unfold lostRow;rw[hj];simp[List.getD,hjN]
      rw[hlr] at hst
      simp[hil,getD_map,hj,hjN,w2,hsl]
      exact⟨by unfold room;omega,Nxt.mk (i+1) (by omega) (by simp) (by simp[hst,hsl]) (by omega)⟩
    · have h9:i=ml.length:=by omega
      subst h9
      have hsl:=weaveIn_len names i0 marks gaps k (Nat.le_refl ml.length)
      have hre:weaveIn names i0 marks gaps k ml ml.length=weaveTo names i0 marks gaps k++ml.map (lostRow names):=by unfold weaveIn;rw[List.take_length]
      by_cases hkl2:k<L
      · obtain⟨j,hj,hjN⟩:=nm k (by omega)
        have hki:k<i0.length:=by omega
        have hkm:k<marks.length:=by omega
        have e1:marks.getD k default=marks[k]:=by simp[List.getD,hkm]
        have e2:i0.getD k 0=i0[k]:=by simp[List.getD,hki]
        have e3:names.getD (i0[k]).toNat []=names[j]:=by rw[hj];simp[List.getD,hjN]
        have hrs2:weaveTo names i0 marks gaps (k+1)=weaveIn names i0 marks gaps k ml ml.length++[⟨false,marks[k].n,names[j]⟩]:=by rw[hrs,if_pos hkl2,hre,List.append_assoc,e1,e2,e3]
        have hl2:(weaveTo names i0 marks gaps (k+1)).length=(weaveTo names i0 marks gaps k).length+ml.length+1:=by rw[hrs2];simp[hsl]
        simp[hkl2,hL,hki,hkm,getD_map,w1,hj,hjN,hsl]
        exact⟨by unfold room;omega,Nxt.mk (k+1) (by omega) (by simp) (by simp[hrs2,hsl]) ⟨by omega,by omega⟩⟩
      · have hrs2:weaveTo names i0 marks gaps (k+1)=weaveIn names i0 marks gaps k ml ml.length:=by rw[hrs,if_neg hkl2,hre,List.append_nil]
        have hl2:(weaveTo names i0 marks gaps (k+1)).length=(weaveTo names i0 marks gaps k).length+ml.length:=by rw[hrs2];simp[hsl]
        simp[w1,hL,show ¬k<L by omega]
        exact Nxt.mk (k+1) (by omega) (by simp) (by simp[hrs2]) ⟨by omega,by omega⟩
  · have h9:k=L+1:=by omega
    subst h9
    simp
    exact FinR.pick2 (by simp[resOf,resE]) ⟨_,rfl⟩ (by simp[idxIn] <;> rfl) (by simp) (by simp[resPre,resE])
theorem loomS_congr {names:List Str} {i0:List Int} {n L:Nat} {q q':Nat→Nat} {d d':Nat→Nat→D} {vg pn:Nat} (h1:∀k,k<L→q k=q' k) (h2:∀r k,r<n→k<L+1→d r k=d' r k):loomS names i0 n L q d vg pn=loomS names i0 n L q' d' vg pn:=by
  unfold loomS
  rw[marksC_congr h1,rowsO_congr2 h2]
theorem eR_loom_add {G:Gam} {f:Nat} (hf:G.findR f=some R_weave_loom_add) {names:List Str} {i0:List Int} {n L:Nat} {q:Nat→Nat} {d:Nat→Nat→D} {vg pn p:Nat} {x:List Int}
    (p1:x.length≤4096) (p2:i0.length=L) (p3:L≤4096) (p4:p<n) (p5:n≤32) (p6:∀k,k<L→q k<4294967296) (p7:∀k,k<L+1→d p k=.nilsl) :
    eRCall G (loomS names i0 n L q d vg pn) (L+5) f [.ref 1 0 0 0,.d (.int .i64 p),.d (.sl 1 (x.map Rep.to))]=⟨True,wholeFp (L+5) (loomS names i0 n L (addQ (scriptV x i0) p q) (addD x (scriptV x i0) p d) vg pn),.d (.int .i64 0)⟩:=by
  have hv:∃q' d',F_weave_loom_add.view [.ref 1 0 0 0,.d (.int .i64 p),.d (.sl 1 (x.map Rep.to))] (loomS names i0 n L q d vg pn)=⟨names,i0,n,L,q',d',vg,p,x,pn⟩∧(∀k,k<L→q' k=q k)∧∀r k,r<n→k<L+1→d' r k=d r k:=by
    refine⟨fun k=>(((loomS names i0 n L q d vg pn).getD 2 .dead).el k).gi.toNat,fun r k=>(((loomS names i0 n L q d vg pn).getD (k+4) .dead).el r).toD,?_,fun k hk=>?_,fun r k hr hk=>?_⟩
    · have h4:(loomS names i0 n L q d vg pn).getD 4 .dead=.cells 0 1 (rowG n d 0):=by
        simp[loomS,List.getD,rowsO_get (n:=n) (d:=d) (m:=L+1) (k:=0) (by omega)]
      unfold F_weave_loom_add
      simp only[h4,LoomX.mk.injEq]
      refine⟨?_,?_,by simp[Ob.len,rowG_len],?_,by first | rfl | trivial,by first | rfl | trivial,rfl,by simp,by simp[ofAll_to],?_⟩
      · simp[loomS,loomO,ofAll_to]
      · simp[loomS,loomO,ofAll_to]
      · simp[loomS,Ob.len,marksC_len]
      · simp[loomS,loomO]
    · simp[loomS,List.getD,marksC_get hk]
    · simp[loomS,List.getD,rowsO_get (n:=n) (d:=d) hk,rowG,hr] <;> rfl
  obtain⟨q',d',hv,hq,hd⟩:=hv
  have e1:loomS names i0 n L q d vg pn=loomS names i0 n L q' d' vg pn:=loomS_congr (fun k hk=>(hq k hk).symm) fun r k hr hk=>(hd r k hr hk).symm
  have hst:F_weave_loom_add.st ⟨names,i0,n,L,q',d',vg,p,x,pn⟩=loomS names i0 n L q' d' vg pn:=rfl
  have hst':F_weave_loom_add.st' ⟨names,i0,n,L,q',d',vg,p,x,pn⟩=loomS names i0 n L (addQ (scriptV x i0) p q) (addD x (scriptV x i0) p d) vg pn:=by
    show loomS names i0 n L (addQ (scriptV x i0) p q') (addD x (scriptV x i0) p d') vg pn=_
    exact loomS_congr (fun k hk=>by unfold addQ;rw[hq k hk]) fun r k hr hk=>by unfold addD;rw[hd r k hr hk]
  have key:=eR_whole (r:=F_weave_loom_add) hf (s:=loomS names i0 n L q d vg pn) (nw:=L+5) (args:=[.ref 1 0 0 0,.d (.int .i64 p),.d (.sl 1 (x.map Rep.to))]) (loomS_len _ _ _ _ _ _ _ _) (loomS_under _ _ _ _ _ _ _ _) (by simp)
    (by rw[hv];rfl) (by rw[hv,hst];exact e1) (by
      rw[hv]
      exact⟨p1,p2,p3,p4,p5,fun k hk=>by simp only at hk ⊢;rw[hq k hk];exact p6 k hk,fun k hk=>by simp only at hk ⊢;rw[hd p k p4 hk];exact p7 k hk⟩)
    (by rw[hv,hst'];exact loomS_len _ _ _ _ _ _ _ _) (by rw[hv,hst'];exact loomS_under _ _ _ _ _ _ _ _) (by rw[hv];rfl)
  rw[key,hv,hst']
  rfl
theorem freezeRowsV {lo:Nat} {T:List A} (b0 b1:Ob) (mk:List A) (n m vg:Nat) (d:Nat→Nat→D):∀k,k≤m→Re lo T (b0::b1::.cells 0 1 mk::.cells vg 1 (gapC n m m)::rowsO n d m) T (b0::b1::.cells 0 1 mk::.cells vg 1 (gapF n m d k)::rowsF n d m k)
  | 0,_=>by
    have e1:gapC n m m=gapF n m d 0:=by
      unfold gapC gapF
      exact List.map_congr_left fun j hj=>by simp at hj;simp[hj]
    have e2:rowsO n d m=rowsF n d m 0:=by
      unfold rowsO rowsF
      exact List.map_congr_left fun j hj=>by simp
    rw[e1,e2]
    exact Re.refl _ _ _
  | k+1,h=>by
    refine Re.trans (freezeRowsV b0 b1 mk n m vg d k (by omega)) ?_
    have hlf:(rowsF n d m k).length=m:=by simp[rowsF]
    have hlg:(rowsF n d m (k+1)).length=m:=by simp[rowsF]
    refine Re.freeze (k+4) 0 1 (rowG n d k) ?_ (FzL.refl _ _ _ _ _) ⟨by simp[hlf,hlg],?_⟩ ?_
    · simp[rowsF,List.getD,show k<m by omega]
    · intro j hj hne
      match j,hj,hne with
      | 0,_,_=>exact .inl rfl
      | 1,_,_=>exact .inl rfl
      | 2,_,_=>exact .inl rfl
      | 3,_,_ =>
        refine .inr ⟨vg,1,_,_,rfl,rfl,by simp[gapF],fun i hi=>?_⟩
        have hi:i<m:=by simpa [gapF] using hi
        have g1:(gapF n m d k).getD i .any=if i<k then .d (.sl 1 (rowD n d i)) else .own (i+4) 0 0 n:=by simp[gapF,List.getD,hi]
        have g2:(gapF n m d (k+1)).getD i .any=if i<k+1 then .d (.sl 1 (rowD n d i)) else .own (i+4) 0 0 n:=by simp[gapF,List.getD,hi]
        rw[g1,g2]
        by_cases c:i<k
        · rw[if_pos c,if_pos (by omega)]
          exact⟨rfl,FzL.refl _ _ _ _ _⟩
        · rw[if_neg c]
          by_cases c2:i<k+1
          · rw[if_pos c2]
            obtain rfl:i=k:=by omega
            refine⟨rfl,?_,trivial⟩
            have hf:=Fz.own (i+4) 0 1 0 n (rowG n d i) (by rw[List.drop_zero,List.take_of_length_le (by rw[rowG_len];omega)];exact rowG_isD _ _ _)
            rw[List.drop_zero,List.take_of_length_le (by rw[rowG_len];omega),rowG_toD] at hf
            exact hf
          · rw[if_neg c2]
            exact⟨rfl,FzL.refl _ _ _ _ _⟩
      | j+4,hj,hne =>
        refine .inl ?_
        have hjm:j<m:=by simp[hlf] at hj;omega
        have hjk:j≠k:=by omega
        have e:(j<k+1)=(j<k):=by rw[eq_iff_iff];omega
        simp[rowsF,List.getD,hjm,e]
    · simp[rowsF,List.getD,show k<m by omega]
def loomD (names:List Str) (i0:List Int) (marks:List U32T) (gaps:List D) (pn:Nat):Ob:=.cells 0 6 [.agg [.d (Rep.to names),.d (Rep.to i0),.d (Rep.to marks),.d (.sl 1 gaps),.d (.int .i64 pn),.d .nilsl]]
def marksT (L:Nat) (q:Nat→Nat):List U32T:=(List.range L).map fun k=>⟨q k⟩
theorem fz_gapsV (n m vg:Nat) (d:Nat→Nat→D):Fz 3 vg 1 (gapF n m d m) (.own 3 vg 0 m) (.d (.sl 1 (rowsD n d m))):=by
  have hg:gapF n m d m=(rowsD n d m).map .d:=by
    unfold gapF rowsD
    rw[List.map_map]
    exact List.map_congr_left fun j hj=>by simp at hj;simp[hj]
  have hl:(gapF n m d m).length=m:=by simp[gapF]
  have hf:=Fz.own 3 vg 1 0 m (gapF n m d m) (by rw[List.drop_zero,List.take_of_length_le (by omega),hg];simp[A.isD])
  rw[List.drop_zero,List.take_of_length_le (by omega)] at hf
  rw[show (gapF n m d m).map A.toD=rowsD n d m by rw[hg,List.map_map];exact List.map_id' _] at hf
  exact hf
theorem freezeLoom {lo:Nat} (hlo:lo≤2) {T:List A} (hT:T.all (A.under 2)=true) (names:List Str) (i0:List Int) (n L:Nat) (q:Nat→Nat) (d:Nat→Nat→D) (vg pn:Nat) :
    Re lo T (loomS names i0 n L q d vg pn) T [boxO,loomD names i0 (marksT L q) (rowsD n d (L+1)) pn]:=by
  refine Re.trans (freezeRowsV boxO (loomO names i0 L vg pn) (marksC L q) n (L+1) vg d (L+1) (Nat.le_refl _)) ?_
  refine Re.trans (Re.freeze (T':=T) (s':=boxO::.cells 0 6 [.agg [.d (Rep.to names),.d (Rep.to i0),.own 2 0 0 L,.d (.sl 1 (rowsD n d (L+1))),.d (.int .i64 pn),.d .nilsl]]::.cells 0 1 (marksC L q)::.dead::rowsF n d (L+1) (L+1)) 3 vg 1 (gapF n (L+1) d (L+1)) rfl (FzL.refl _ _ _ _ _) ⟨by simp,?_⟩ rfl) ?_
  · intro j hj hne
    match j,hj,hne with
    | 0,_,_=>exact .inl rfl
    | 1,_,_ =>
      refine .inr ⟨0,6,_,_,rfl,rfl,rfl,fun i hi=>?_⟩
      simp at hi
      subst hi
      exact⟨rfl,Fz.refl _ _ _ _ _,Fz.refl _ _ _ _ _,Fz.refl _ _ _ _ _,fz_gapsV n (L+1) vg d,Fz.refl _ _ _ _ _,Fz.refl _ _ _ _ _,trivial⟩
    | 2,_,_=>exact .inl rfl
    | j+4,_,_=>exact .inl rfl
  refine Re.trans (Re.freeze (T':=T) (s':=boxO::loomD names i0 (marksT L q) (rowsD n d (L+1)) pn::.dead::.dead::rowsF n d (L+1) (L+1)) 2 0 1 (marksC L q) rfl (FzL.refl _ _ _ _ _) ⟨by simp,?_⟩ rfl) ?_
  · intro j hj hne
    match j,hj,hne with
    | 0,_,_=>exact .inl rfl
    | 1,_,_ =>
      refine .inr ⟨0,6,_,_,rfl,rfl,rfl,fun i hi=>?_⟩
      simp at hi
      subst hi
      exact⟨rfl,Fz.refl _ _ _ _ _,Fz.refl _ _ _ _ _,fz_marks L q,Fz.refl _ _ _ _ _,Fz.refl _ _ _ _ _,Fz.refl _ _ _ _ _,trivial⟩
    | 3,_,_=>exact .inl rfl
    | j+4,_,_=>exact .inl rfl
  refine Sub.re ⟨by simpa using hlo,?_,by simp,.inr ⟨by simpa using hT,rfl⟩⟩
  have:∀T:List A,SbL T T:=by
    intro T
    induction T with
    | nil=>trivial
    | cons x T ih=>exact⟨.inr (.inl rfl),ih⟩
  exact this T
theorem gapC_snoc (n k:Nat):gapC n k k++[.own (k+4) 0 0 n]=gapC n (k+1) (k+1):=by
  unfold gapC
  rw[List.range_succ,List.map_append]
  congr 1
  · exact List.map_congr_left fun j hj=>by
      have hj:j<k:=by simpa using hj
      rw[if_pos hj,if_pos (by omega)]
  · simp
theorem split_small {s:Str} (h:s.length≤100):splitD s=.tup [Rep.to (linesV s),.int .i64 0]:=by
  have ck:checkT s=0:=check_of (by omega) (by have:s.count 10≤s.length:=List.count_le_length;omega)
  unfold splitD
  rw[if_pos ck]
theorem marksC_ren (L:Nat) (q:Nat→Nat) (f:Nat→Nat):(marksC L q).map (A.ren f)=marksC L q:=by
  unfold marksC
  rw[List.map_map]
  rfl
def tkF (F:List (List Str)) (i:Nat):List (List Str):=F.take i
theorem tkF_succ {F:List (List Str)} {i:Nat} (h:i<F.length):tkF F (i+1)=tkF F i++[F[i]]:=List.take_succ_eq_append_getElem h
theorem tkF_len {F:List (List Str)} {i:Nat} (h:i≤F.length):(tkF F i).length=i:=by simp[tkF];omega
def allC (l:List Str):List A:=l.map fun x=>.d (.str x)
theorem allC_len (l:List Str):(allC l).length=l.length:=by simp[allC]
theorem allC_under (l:List Str) (n:Nat):∀x,x∈allC l→A.under n x=true:=by
  intro x hx
  obtain⟨y,_,rfl⟩:=List.mem_map.1 hx
  rfl
theorem allC_get {l:List Str} {i:Nat} (h:i<l.length):(allC l)[i]?=some (.d (.str l[i])):=by simp[allC,h]
def loomK (N:List Str) (i0:List Int) (n L k:Nat):Store :=
  boxO::.cells 0 6 [.agg [.d (Rep.to N),.d (Rep.to i0),.own 2 0 0 L,.own 3 k 0 k,.d (.int .i64 n),.d .nilsl]]::.cells 0 1 (marksC L fun _=>0)::.cells k 1 (gapC n k k)::rowsO n (fun _ _=>.nilsl) k
theorem loomK_len (N:List Str) (i0:List Int) (n L k:Nat):(loomK N i0 n L k).length=k+4:=by simp[loomK,rowsO_len]
theorem loomK_under (N:List Str) (i0:List Int) (n L k:Nat):(loomK N i0 n L k).all (Ob.under (k+4))=true:=by
  have h1:=marksC_under L (fun _=>0) (k+4)
  have h2:=gapC_under n k k (N:=k+4) (by omega)
  have h3:=rowsO_under n (fun _ _=>.nilsl) k (k+4)
  unfold loomK
  rw[List.all_cons,List.all_cons,List.all_cons,List.all_cons,h3]
  simp only[Ob.under,h1,h2,Bool.and_true]
  simp[boxO]
theorem flat_congr {α:Type} {f g:Nat→List α}:∀l:List Nat,(∀k,k∈l→f k=g k)→l.flatMap f=l.flatMap g
  | [],_=>rfl
  | a::l,h=>by rw[List.flatMap_cons,List.flatMap_cons,h a (by simp),flat_congr l fun k hk=>h k (by simp[hk])]
@[simp] def S_weave_Make:List D→Prop × D:=spec2 (α:=Str) (β:=List Str) (fun r ps=>r.length≤100∧∀p,p∈ps→p.length≤100) (fun r ps=>makeD r ps)
theorem ct_weave_Make {P:Program} {f g1 g2 g3 g4 g5:Nat} {G:Gam} (h:CodeOf P f 2 28 [22002,3] (x_weave_Make g1 g2 g3 g4 g5)) (hG:GamOk P G) (h1:G.find g1=some S_text_Split) (h2:G.find g2=some S_intern_Ids) (h3:G.find g3=some S_intern_Names) (h4:G.findR g4=some R_weave_loom_add) (h5:G.findR g5=some R_weave_loom_weave):Has P f S_weave_Make:=h.has2 hG fun r ps hp=>by
  obtain⟨p1,p2⟩:=hp
  by_cases c1:(ps.length:Int)<1
  · have:makeD r ps=.tup [Rep.to (⟨0,[]⟩:TableT),.int .i64 2]:=by unfold makeD;rw[if_pos (by omega)]
    simp[x_weave_Make,c1,this]
  by_cases c2:32<(ps.length:Int)
  · have:makeD r ps=.tup [Rep.to (⟨0,[]⟩:TableT),.int .i64 2]:=by unfold makeD;rw[if_pos (by omega)]
    simp[x_weave_Make,c1,c2,this]
  have hmk:makeD r ps=.tup [Rep.to (makeV r ps),.int .i64 0]:=by unfold makeD;rw[if_neg (by omega)]
  rw[hmk]
  have hsmall:Small r ps 100:=⟨p1,p2,by omega,by omega,by omega,by omega⟩
  have hIl:=hsmall.ids
  have hI0l:=hsmall.ids0
  have hFl:=filesV_len r ps
  have hIlen:(idsV (filesV r ps)).length=(filesV r ps).length:=by simp[idsV]
  have hall:∀p,p∈r::ps→p.length≤100:=fun p hp=>by
    rcases List.mem_cons.1 hp with rfl | hp
    · exact p1
    · exact p2 p hp
  have hsm:smallL (filesV r ps):=by
    refine⟨by omega,?_⟩
    have key:∀l:List (List Str),(∀x,x∈l→x.length≤101)→l.flatten.length≤101 * l.length:=by
      intro l
      induction l with
      | nil=>simp
      | cons x r ih =>
        intro hx
        have:=hx x (by simp)
        have:=ih fun y hy=>hx y (by simp[hy])
        simp
        simp at this
        omega
    have:=key (filesV r ps) fun x hx=>by
      obtain⟨y,hy,rfl⟩:=List.mem_map.1 hx
      exact linesV_leB (hall y hy)
    omega
  have hps:ps≠[]:=by rintro rfl;simp at c1
  simp[x_weave_Make,c1,c2,hps]
  have hn1:0<ps.length:=by omega
  refine⟨by unfold room;omega,?_⟩
  refine vc_lp (σ:=Nat) (fun i=>i≤ps.length+1) (fun i=>ps.length+1-i)
    (fun i=>[.any,.any,.ref 0 0 0 0,.any,.d (.int .i64 ps.length),.gr 1 1 ((tkF (filesV r ps) i).map Rep.to),.any,.any,.any,.any,.any,.any,.any,.any,.any,.own 2 1 0 (ps.length+1),.d (.int .i64 ((ps.length:Int)+1)),.d (.int .i64 i),.any,.any,.any,.any,.any,.any,.any,.any,.any,.any])
    (fun i=>[.cells 0 2 [.d (.agg [.int .i64 0,.nilsl])],.tip i,.cells 1 1 (allC (r::ps))]) 0 (by simp[tkF];omega) (by simp[allC]) (by simp) ?_ (hc:=.inr ⟨by simp,by simpa using allC_under _ _⟩)
  intro i hi
  by_cases hk:i<ps.length+1
  · have w1:IntKind.i64.wrap ((i:Int)+1)=(i:Int)+1:=wrap_in (by omega) (by omega)
    have hil:i<(r::ps).length:=by simpa using hk
    have hpi:=hall _ (List.getElem_mem hil)
    have hsp:=split_small hpi
    have hag:=allC_get hil
    have hal:(allC (r::ps)).length=ps.length+1:=by simp[allC_len]
    have hiF:i<(filesV r ps).length:=by omega
    have hs:=tkF_succ hiF
    have hFi:(filesV r ps)[i]=linesV (r::ps)[i]:=List.getElem_map _
    rw[hFi] at hs
    clear hFi
    generalize hx:(r::ps)[i]=x at *
    have hag2:∀h:i<(allC (r::ps)).length,(allC (r::ps))[i]'h=.d (.str x):=fun h=>by obtain⟨_,h9⟩:=List.getElem?_eq_some_iff.1 hag;exact h9
    have hfl:(tkF (filesV r ps) i).length=i:=tkF_len (by omega)
    simp[show (i:Int)<(ps.length:Int)+1 by omega,hag,hag2,hal,hk,h1,hsp,w1,hfl,show x.length≤4194304 by omega]
    exact⟨by unfold room;omega,Nxt.mk (i+1) (by omega) (by simp[hs]) (by simp) (by omega) (by simp) (.inr ⟨by simp,by simpa using allC_under _ _⟩)⟩
  · have h9:i=ps.length+1:=by omega
    subst h9
    have htk:tkF (filesV r ps) (ps.length+1)=filesV r ps:=List.take_of_length_le (by omega)
    rw[htk]
    have hkt:=fun k hk=>kept_text r ps (k:=k) hk
    have hL:((idsV (filesV r ps)).getD 0 []).length=(linesV r).length:=ids0_len r ps
    have hIm:∀p,p<ps.length→∀x,x∈(idsV (filesV r ps)).getD (p+1) []→∃k:Nat,x=k∧k<(namesV (filesV r ps)).length:=fun p hp x hx=>by
      obtain⟨k,e1,e2,_⟩:=id_name (files:=filesV r ps) (p:=p+1) (by rw[hFl];omega) hx
      exact⟨k,e1,e2⟩
    have hIm0:∀x,x∈(idsV (filesV r ps)).getD 0 []→∃k:Nat,x=k∧k<(namesV (filesV r ps)).length:=fun x hx=>by
      obtain⟨k,e1,e2,_⟩:=id_name (files:=filesV r ps) (p:=0) (by rw[hFl];omega) hx
      exact⟨k,e1,e2⟩
    clear hkt
    have hmv:makeV r ps=⟨ps.length,rowsTo (namesV (filesV r ps)) (idsV (filesV r ps)) ps.length ((linesV r).length+1)⟩:=rfl
    rw[hmv,← hL]
    generalize hI:idsV (filesV r ps)=I at *
    generalize hN:namesV (filesV r ps)=N at *
    generalize filesV r ps=F at *
    generalize hn:ps.length=n at *
    have hI0:0<I.length:=by omega
    have hgI:I.getD 0 []=I[0]:=by simp[List.getD,hI0]
    rw[hgI] at hI0l hIm0 ⊢
    obtain⟨i0,hi0⟩:∃i0,I[0]=i0:=⟨_,rfl⟩
    rw[hi0] at hI0l hIm0 ⊢
    obtain⟨L,hLL⟩:∃L,i0.length=L:=⟨_,rfl⟩
    rw[hLL] at hI0l ⊢
    have wL:IntKind.i64.wrap ((L:Int)+1)=(L:Int)+1:=wrap_in (by omega) (by omega)
    simp[h2,h3,hsm,hI,hN,hI0,getD_map,hi0,hLL,wL]
    refine⟨⟨by unfold room;omega,by omega⟩,?_⟩
    refine vc_lpR (σ:=Nat) (fun k=>k≤L+1) (fun k=>L+1-k)
      (fun k=>[.any,.any,.ref 0 0 0 0,.any,.d (.int .i64 n),.any,.any,.any,.any,.d (Rep.to I),.ref 1 0 0 0,.any,.any,.any,.any,.any,.any,.any,.any,.any,.d (.int .i64 ((L:Int)+1)),.d (.int .i64 k),.any,.any,.any,.any,.any,.any])
      (fun k=>boxO::.cells 0 6 [.agg [.d (Rep.to N),.d (Rep.to i0),.own 2 0 0 L,.own 3 k 0 k,.d (.int .i64 n),.d .nilsl]]::.cells 0 1 (marksC L fun _=>0)::.cells k 1 (gapC n k k)::rowsO n (fun _ _=>.nilsl) k) 0 ?_ (by simp) ?_
    · have e1:List.replicate L (A.d (D.int .u32 0))=marksC L fun _=>0:=by
        apply List.ext_getElem
        · simp[marksC]
        · intro a b c;simp[marksC]
      rw[e1]
      refine Re.norm (s':=[boxO,.cells 0 6 [.agg [.d (Rep.to N),.d (Rep.to i0),.own 2 0 0 L,.own 3 0 0 0,.d (.int .i64 n),.d .nilsl]],.cells 0 1 (marksC L fun _=>0)]) [false,false,true,false,true,false,false,false,false,true,true,false,false,false,false,false,false,false,false,false,true,true] [0,4,3] [.cells 0 1 []] (by simp) ⟨by decide,by simp,?_⟩ (by decide) (by simp) ?_ ?_ ?_ ?_
      · simp[pickS]
        intro x hx
        obtain⟨k,_,rfl⟩:=List.mem_map.1 hx
        rfl
      · simp
      · simp
      · simp[pickS]
        rw[marksC_ren]
        refine⟨.inl rfl,.cellsL ?_,.inl rfl⟩
        simp
        exact Wk.freshO 3 [.cells 0 1 []] 1 0 rfl
      · simp[rowsO,gapC]
    intro k hk
    by_cases hkl:k<L+1
    · have w1:IntKind.i64.wrap ((k:Int)+1)=(k:Int)+1:=wrap_in (by omega) (by omega)
      have hgl:=gapC_len n k k
      have hrl:=rowsO_len n (fun _ _=>.nilsl) k
      have hgs:=gapC_snoc n k
      have hrs:=rowsO_succ n (fun _ _=>.nilsl) k
      have hrg:rowG n (fun _ _=>.nilsl) k=List.replicate n (A.d D.nilsl):=by
        apply List.ext_getElem
        · simp[rowG]
        · intro a b c;simp[rowG]
      rw[hrg] at hrs
      simp[show (k:Int)<(L:Int)+1 by omega,w1,hgl,hrl,hgs,boxO]
      refine⟨⟨by unfold room;omega,by omega⟩,by unfold room;omega,Nxt.mk (k+1) (by omega) (by simp) ?_ (by omega) (by simp) (.inr ⟨by simp,?_⟩)⟩
      · have e:∀x y z:Ob,rowsO n (fun _ _=>.nilsl) k++[x,y,z]=(rowsO n (fun _ _=>.nilsl) k++[x])++[y,z]:=fun x y z=>by simp
        rw[e,← hrs]
        simp[SbS_app,boxO]
      · have hl:∀s':Store,s'=loomK N i0 n L (k+1)→s'.all (Ob.under s'.length)=true:=fun s' h=>by
          subst h
          rw[loomK_len]
          exact loomK_under _ _ _ _ _
        exact hl _ rfl
    · have h9:k=L+1:=by omega
      subst h9
      have hls:∀s',s'=loomS N i0 n L (fun k=>markN I k 0) (dAt I 0 0) (L+1) n→(boxO::.cells 0 6 [.agg [.d (Rep.to N),.d (Rep.to i0),.own 2 0 0 L,.own 3 (L+1) 0 (L+1),.d (.int .i64 n),.d .nilsl]]::.cells 0 1 (marksC L fun _=>0)::.cells (L+1) 1 (gapC n (L+1) (L+1))::rowsO n (fun _ _=>.nilsl) (L+1))=s':=fun s' h=>by
        subst h
        unfold loomS loomO
        rw[marksC_congr (q:=fun k=>markN I k 0) (r:=fun _=>0) fun k _=>rfl,rowsO_congr2 (d:=dAt I 0 0) (e:=fun _ _=>.nilsl) fun q j _ _=>dAt_start I q j]
      rw[hls _ rfl]
      simp
      refine vc_lp (σ:=Nat) (fun p=>p≤n) (fun p=>n-p)
        (fun p=>[.any,.any,.ref 0 0 0 0,.any,.d (.int .i64 n),.any,.any,.any,.any,.d (Rep.to I),.ref 1 0 0 0,.any,.any,.any,.any,.any,.any,.any,.any,.any,.any,.any,.any,.d (.int .i64 n),.d (.int .i64 p),.any,.any,.any])
        (fun p=>loomS N i0 n L (fun k=>markN I k p) (dAt I p 0) (L+1) n) 0 (by simp) (by simp) (by simp) ?_ (hc:=.inl (by simp))
      intro p hp
      by_cases hpn:p<n
      · have w1:IntKind.i64.wrap ((p:Int)+1)=(p:Int)+1:=wrap_in (by omega) (by omega)
        have hpI:p+1<I.length:=by omega
        have hgp:I.getD (p+1) []=I[p+1]:=by simp[List.getD,hpI]
        have hxl:I[p+1].length≤4096:=by
          have:=hIl p hpn
          rw[hgp] at this
          omega
        have hscr:scriptV I[p+1] i0=scrV I p:=by unfold scrV;rw[hgp,hgI,hi0]
        have hcall:=eR_loom_add (f:=g4) h4 (names:=N) (i0:=i0) (n:=n) (L:=L) (q:=fun k=>markN I k p) (d:=dAt I p 0) (vg:=L+1) (pn:=n) (p:=p) (x:=I[p+1]) hxl hLL (by omega) hpn (by omega) (fun k _=>Nat.lt_of_lt_of_le (markN_lt I k p) (pow_le (by omega))) fun k _=>by
          unfold dAt
          rw[if_neg (by omega),if_pos rfl,List.take_zero]
          rfl
        have hnext:loomS N i0 n L (addQ (scriptV I[p+1] i0) p fun k=>markN I k p) (addD I[p+1] (scriptV I[p+1] i0) p (dAt I p 0)) (L+1) n=loomS N i0 n L (fun k=>markN I k (p+1)) (dAt I (p+1) 0) (L+1) n:=by
          rw[hscr]
          refine loomS_congr (fun k _=>?_) fun r k _ _=>?_
          · unfold addQ
            rw[markN]
          · unfold addD dAt
            by_cases h:r=p
            · subst h
              rw[if_pos rfl,if_pos (by omega),hgp]
            · rw[if_neg h]
              by_cases h2:r<p
              · rw[if_pos h2,if_pos (by omega)]
              · rw[if_neg h2,if_neg h,if_neg (by omega)]
                split <;> rfl
        rw[hnext] at hcall
        simp[show (p:Int)<n by omega,w1,hpI,getD_map,hcall]
        exact⟨by omega,Nxt.mk (p+1) (by omega) (by simp) (by simp) (by omega) (by simp) (.inl (by simp))⟩
      · have h9:p=n:=by omega
        subst h9
        simp
        refine Hint.of (T':=[.any,.any,.ref 0 0 0 0,.any,.d (.int .i64 p),.any,.any,.any,.any,.d (Rep.to I),.ref 1 0 0 0,.any,.any,.any,.any,.any,.any,.any,.any,.any,.any,.any,.any,.any,.any,.any,.any,.any]) (s':=[boxO,loomD N i0 (marksT L fun k=>markN I k p) (rowsD p (dAt I p 0) (L+1)) p]) (Re.trans (Sub.re (T':=[.any,.any,.ref 0 0 0 0,.any,.d (.int .i64 p),.any,.any,.any,.any,.d (Rep.to I),.ref 1 0 0 0,.any,.any,.any,.any,.any,.any,.any,.any,.any,.any,.any,.any,.any,.any,.any,.any,.any]) ⟨by simp,by simp,by simp,.inl rfl⟩) (freezeLoom (by omega) (by simp) N i0 p L (fun k=>markN I k p) (dAt I p 0) (L+1) p)) ?_
        have hBn:(100+1) * p≤4096:=by omega
        have hp32:p≤32:=by omega
        have hof:=fun k=>rowD_of I p k
        have hwv:weaveTo N i0 (marksT L fun k=>markN I k p) (rowsD p (dAt I p 0) (L+1)) (L+1)=rowsTo N I p (L+1):=by
          unfold weaveTo rowsTo
          refine flat_congr _ fun k hk=>?_
          have hk:k<L+1:=by simpa using hk
          have hgd:(rowsD p (dAt I p 0) (L+1)).getD k .nilsl=.sl 1 (rowD p (dAt I p 0) k):=by
            have:=rowsD_get (n:=p) (d:=dAt I p 0) (m:=L+1) (k:=k) hk
            simp[List.getD,this]
          have hdd:ofDD (.sl 1 (rowD p (dAt I p 0) k))=gapV I p k:=by
            show (if 1=1 then ofAll (Rep.of (α:=List Int)) (rowD p (dAt I p 0) k) else none).getD []=_
            rw[if_pos rfl,hof k]
            rfl
          unfold weaveRow gapRows
          rw[hgd,hdd,hgI,hi0,hLL]
          congr 1
          by_cases hkL:k<L
          · rw[if_pos hkL,if_pos hkL]
            unfold keptRow
            have:(marksT L fun k=>markN I k p).getD k default=⟨markN I k p⟩:=by simp[marksT,List.getD,hkL]
            rw[this,hgI,hi0]
          · rw[if_neg hkL,if_neg hkL]
        have hok:WeaveOk ⟨N,i0,marksT L fun k=>markN I k p,rowsD p (dAt I p 0) (L+1),p,0⟩:=by
          refine⟨by simp[rowsD,hLL],by simp[marksT,hLL],by simp only;omega,fun k hk=>?_,fun k hk=>?_⟩
          · simp only[rowsD,List.length_map,List.length_range] at hk
            refine⟨rowD p (dAt I p 0) k,gapV I p k,by simp[rowsD],hof k,by rw[gapV_len];exact hp32,Nat.le_trans (sumL_gap hIl k) hBn,fun m hm=>?_⟩
            obtain⟨b,hb,hbm⟩:=merged_line hIl hp32 hBn hm
            exact hIm b hb _ hbm
          · exact hIm0 _ (List.getElem_mem _)
        have hml:(marksT L fun k=>markN I k p).length=L:=by simp[marksT]
        generalize (marksT L fun k=>markN I k p)=mt at *
        generalize rowsD p (dAt I p 0) (L+1)=gd at *
        simp[loomD,boxO,h5,eRCall,hLL,hok,hwv]
@[simp] def S_weave_Visible:List D→Prop × D:=spec2 (α:=RowT) (β:=Int) (fun _ _=>True) (fun r c=>.bool (visB r c))
theorem ct_weave_Visible {P:Program} {f:Nat} {G:Gam} (h:CodeOf P f 2 6 [3] x_weave_Visible) (hG:GamOk P G):Has P f S_weave_Visible:=h.has2 hG fun r c _=>by
  by_cases c1:c < -1
  · have:visB r c=false:=by unfold visB;rw[if_neg (by omega),if_pos (by omega)]
    simp[x_weave_Visible,c1,this]
  by_cases c2:32≤c
  · have:visB r c=false:=by unfold visB;rw[if_neg (by omega),if_pos (by omega)]
    simp[x_weave_Visible,c1,c2,this]
  by_cases c3:c<0
  · have:visB r c=!r.lost:=by unfold visB;rw[if_pos (by omega)]
    simp[x_weave_Visible,c1,c2,c3,this]
  · obtain⟨n,rfl⟩:=Int.eq_ofNat_of_zero_le (show 0≤c by omega)
    have:visB r n=(decide (getU r.marks n=1) == r.lost):=by unfold visB;rw[if_neg (by omega),if_neg (by omega)]
    have e:getU r.marks n=IntKind.u32.wrap ↑((r.marks.fdiv (2 ^ min n IntKind.u32.bits) % 2 ^ IntKind.u32.bits).toNat &&& 1 % 2 ^ IntKind.u32.bits):=rfl
    simp[x_weave_Visible,c1,c2,c3,this,← e]
    cases r.lost <;> simp
@[simp] def S_combined_named:List D→Prop × D:=spec1 (α:=Str) (fun _=>True) (fun s=>.bool (namedB s))
theorem ct_combined_named {P:Program} {f:Nat} {G:Gam} (h:CodeOf P f 1 2 [1] x_combined_named) (hG:GamOk P G):Has P f S_combined_named:=h.has1 hG fun s _=>by
  by_cases c:1≤s.length
  · have c2:(1:Int)≤(s.length:Int):=by omega
    simp[x_combined_named,namedB,c,c2]
    omega
  · have c2:¬(1:Int)≤(s.length:Int):=by omega
    simp[x_combined_named,namedB,c,c2]
def RowsOk (l:List RowT):Prop:=∀r,r∈l→rowOk r∧r.text.length≤4194304
def CombOk (c:CombT):Prop:=c.hunks.length≤1000000000∧c.path.length≤1048576∧(∀h,h∈c.hunks→h.rows.length≤1000000000∧h.at_.length≤1000000000∧RowsOk h.rows)∧(writC c).length≤1000000000
@[simp] def S_combined_marked:List D→Prop × D:=spec1 (α:=CombT) (fun c=>CombOk c∧1≤c.parents∧c.parents≤32) (fun c=>.bool (markC c))
theorem ct_combined_marked {P:Program} {f g1:Nat} {G:Gam} (h:CodeOf P f 1 14 [2] (x_combined_marked g1)) (hG:GamOk P G) (h1:G.find g1=some S_weave_Marked):Has P f S_combined_marked:=h.has1 hG fun c hp=>by
  obtain⟨⟨p1,p2,p3,_⟩,p4,p5⟩:=hp
  obtain⟨path,dense,par,hs⟩:=c
  simp only at p1 p2 p3 p4 p5
  have hm:markC ⟨path,dense,par,hs⟩=hs.all fun h=>h.rows.all (markB par.toNat):=rfl
  rw[hm]
  simp[x_combined_marked]
  refine vc_lp (σ:=Nat) (fun i=>i≤hs.length∧(hs.all fun h=>h.rows.all (markB par.toNat))=((hs.drop i).all fun h=>h.rows.all (markB par.toNat))) (fun i=>hs.length-i)
    (fun i=>[.any,.ref 0 0 0 0,.any,.any,.any,.d (.sl 2 (hs.map Rep.to)),.d (.int .i64 hs.length),.d (.int .i64 i),.any,.any,.any,.any,.any,.any])
    (fun i=>[.cells 0 4 [.d (Rep.to (⟨path,dense,par,hs⟩:CombT))]]) 0 (by simp) (by simp) ⟨by simp,by simp⟩ ?_
  rintro i ⟨i1,i2⟩
  by_cases hi:i<hs.length
  · have w1:IntKind.i64.wrap ((i:Int)+1)=(i:Int)+1:=wrap_in (by omega) (by omega)
    obtain⟨q1,q2,q3⟩:=p3 _ (List.getElem_mem hi)
    rw[List.drop_eq_getElem_cons hi,List.all_cons] at i2
    simp[hi,getD_map]
    generalize hs[i].at_=at_ at *
    generalize hs[i].rows=rows at *
    refine vc_lp (σ:=Nat) (fun k=>k≤rows.length∧rows.all (markB par.toNat)=(rows.drop k).all (markB par.toNat)) (fun k=>rows.length-k)
      (fun k=>[.any,.ref 0 0 0 0,.any,.any,.any,.d (.sl 2 (hs.map Rep.to)),.d (.int .i64 hs.length),.d (.int .i64 i),.any,.d (.sl 3 (rows.map Rep.to)),.d (.int .i64 rows.length),.d (.int .i64 k),.any,.any])
      (fun k=>[.cells 0 4 [.d (Rep.to (⟨path,dense,par,hs⟩:CombT))]]) 0 (by simp) (by simp) ⟨by simp,by simp⟩ ?_
    rintro k ⟨k1,k2⟩
    by_cases hk:k<rows.length
    · have w2:IntKind.i64.wrap ((k:Int)+1)=(k:Int)+1:=wrap_in (by omega) (by omega)
      have hr:=(q3 _ (List.getElem_mem hk)).1
      have hre:rowOk ⟨rows[k].lost,rows[k].marks,rows[k].text⟩:=hr
      have hbe:markB par.toNat ⟨rows[k].lost,rows[k].marks,rows[k].text⟩=markB par.toNat rows[k]:=rfl
      rw[List.drop_eq_getElem_cons hk,List.all_cons] at k2
      cases hb:markB par.toNat rows[k] with
      | true =>
        rw[hb,Bool.true_and] at k2
        simp[hk,getD_map,h1,hre,hbe,hb,p4,p5,w2]
        exact Nxt.mk (k+1) (by omega) (by simp) (by simp) ⟨by omega,k2⟩
      | false =>
        rw[hb,Bool.false_and] at k2
        rw[k2,Bool.false_and] at i2
        rw[i2]
        simp[hk,getD_map,h1,hre,hbe,hb,p4,p5]
    · rw[List.drop_of_length_le (by omega),List.all_nil] at k2
      rw[k2,Bool.true_and] at i2
      simp[hk,w1]
      exact Nxt.mk (i+1) (by omega) (by simp) (by simp) ⟨by omega,i2⟩
  · rw[List.drop_of_length_le (by omega),List.all_nil] at i2
    rw[i2]
    simp[hi]
/-! ### the numbers of the visible rows -/
def visN (n:Nat) (r:RowT) (p:Nat):Bool:=if p<n then visB r p else !r.lost
def cfV (rows:List RowT) (n p:Nat):Nat:=rows.countP fun r=>visN n r p
theorem cfV_succ {rows:List RowT} {i:Nat} (hi:i<rows.length) (n p:Nat):cfV (rows.take (i+1)) n p=cfV (rows.take i) n p+(if visN n rows[i] p=true then 1 else 0):=by
  unfold cfV
  rw[List.take_succ_eq_append_getElem hi,List.countP_append,List.countP_singleton]
theorem ctsV_eq (rows:List RowT) (n:Nat):ctsV rows n=(List.range (n+1)).map fun p=>((cfV rows n p:Nat):Int):=by
  rw[List.range_succ,List.map_append]
  unfold ctsV
  congr 1
  · apply List.map_congr_left
    intro p hp
    have hp:=List.mem_range.1 hp
    unfold cfV visN
    simp only[if_pos hp]
  · simp[cfV,visN]
def cellN (f:Nat→Nat) (n:Nat):List A:=(List.range (n+1)).map fun p=>A.d (.int .i64 (f p))
@[simp] theorem cellN_len (f:Nat→Nat) (n:Nat):(cellN f n).length=n+1:=by simp[cellN]
theorem cellN_get (f:Nat→Nat) {n p:Nat} (hp:p≤n):(cellN f n)[p]?=some (A.d (.int .i64 (f p))):=by
  simp[cellN,List.getElem?_range (show p<n+1 by omega)]
@[simp] theorem cellN_at (f:Nat→Nat) (n p:Nat) (h:p<(cellN f n).length):(cellN f n)[p]=A.d (.int .i64 (f p)):=by
  have h1:=cellN_get f (n:=n) (p:=p) (by simp at h;omega)
  rw[List.getElem?_eq_getElem h] at h1
  exact Option.some.inj h1
theorem cellN_congr {f g:Nat→Nat} {n:Nat} (h:∀p,p≤n→f p=g p):cellN f n=cellN g n:=by
  unfold cellN
  apply List.map_congr_left
  intro p hp
  rw[h p (by have:=List.mem_range.1 hp;omega)]
theorem cellN_set (f:Nat→Nat) {n p:Nat} (hp:p≤n) (v:Nat):(cellN f n).set p (A.d (.int .i64 (v:Nat)))=cellN (fun q=>if q=p then v else f q) n:=by
  apply List.ext_getElem?
  intro q
  by_cases hq:q≤n
  · rw[cellN_get _ hq]
    by_cases hqp:q=p
    · subst hqp
      rw[List.getElem?_set_self (by simp;omega),if_pos rfl]
    · rw[List.getElem?_set_ne (Ne.symm hqp),cellN_get _ hq,if_neg hqp]
  · rw[List.getElem?_eq_none (by simp;omega),List.getElem?_eq_none (by simp;omega)]
@[simp] theorem cellN_under (f:Nat→Nat) (n m:Nat):(cellN f n).all (A.under m)=true:=by
  rw[List.all_eq_true]
  intro x hx
  obtain⟨p,_,rfl⟩:=List.mem_map.1 hx
  rfl
@[simp] theorem cellN_ren (f:Nat→Nat) (n:Nat) (r:Nat→Nat):(cellN f n).map (A.ren r)=cellN f n:=by
  unfold cellN
  rw[List.map_map]
  rfl
theorem cellN_zero (n:Nat):List.replicate (n+1) (A.d (.int .i64 0))=cellN (fun _=>0) n:=by
  unfold cellN
  rw[List.map_const']
  simp
structure CtsX where
  rows:List RowT
  n:Nat
@[simp] def F_combined_counts:RF CtsX where
  new:=1
  view a _:=⟨(a.getD 0 .any).gl RowT,(a.getD 1 .any).gi.toNat⟩
  args x:=[.d (.sl 3 (x.rows.map Rep.to)),.d (.int .i64 x.n)]
  st _:=[.res]
  pre x:=x.n≤32∧x.rows.length≤1000000000
  res x:=.own 0 0 0 (x.n+1)
  st' x:=[.cells 0 1 (cellN (cfV x.rows x.n) x.n)]
abbrev R_combined_counts:RSpec:=F_combined_counts.spec
theorem ct_combined_counts {P:Program} {f g1:Nat} {G:Gam} (hc:CodeOf P f 2 15 [2] (x_combined_counts g1)) (hG:GamOk P G) (h1:G.find g1=some S_weave_Visible):RSpec.Ok P f R_combined_counts:=by
  refine RF.ok hc.call fun x hx=>hc.rcalls hG rfl ?_
  obtain⟨rows,n⟩:=x
  obtain⟨p1,p2⟩:=hx
  simp only at p1 p2
  have w0:IntKind.i64.wrap ((n:Int)+1)=(n:Int)+1:=wrap_in (by omega) (by omega)
  have e0:((n:Int)+1).toNat=n+1:=by omega
  simp[x_combined_counts,startA,w0,e0,cellN_zero]
  have hz:cellN (fun _=>0) n=cellN (cfV (rows.take 0) n) n:=cellN_congr fun p _=>by simp[cfV]
  rw[hz]
  refine⟨⟨by omega,by unfold room;omega,by omega⟩,?_⟩
  refine vc_lp (σ:=Nat) (fun i=>i≤rows.length) (fun i=>rows.length-i)
    (fun i=>[.any,.d (.int .i64 n),.any,.own 1 0 0 (n+1),.any,.any,.d (.sl 3 (rows.map Rep.to)),.d (.int .i64 rows.length),.d (.int .i64 i),.any,.any,.any,.any,.any,.any])
    (fun i=>[.res,.cells 0 1 (cellN (cfV (rows.take i) n) n)]) 0 (by simp) (by simp) (by simp) ?_
  intro i i1
  by_cases hi:i<rows.length
  · have w1:IntKind.i64.wrap ((i:Int)+1)=(i:Int)+1:=wrap_in (by omega) (by omega)
    have hs:=cfV_succ hi n
    have hle:∀p,cfV (rows.take i) n p≤rows.length:=fun p=>by
      unfold cfV
      have:=List.countP_le_length (p:=fun r=>visN n r p) (l:=rows.take i)
      simp at this
      omega
    simp[hi,getD_map]
    generalize hr:rows[i]=r at *
    obtain⟨F,hF⟩:∃F:Nat→Nat→Nat,F=fun k p=>if p<k then cfV (rows.take (i+1)) n p else cfV (rows.take i) n p:=⟨_,rfl⟩
    have hF0:cellN (cfV (rows.take i) n) n=cellN (F 0) n:=cellN_congr fun p _=>by rw[hF];simp
    rw[hF0]
    refine vc_lp (σ:=Nat) (fun k=>k≤n) (fun k=>n-k)
      (fun k=>[.any,.d (.int .i64 n),.any,.own 1 0 0 (n+1),.ref 2 0 0 0,.any,.d (.sl 3 (rows.map Rep.to)),.d (.int .i64 rows.length),.d (.int .i64 i),.any,.d (.int .i64 n),.d (.int .i64 k),.any,.any,.any])
      (fun k=>[.res,.cells 0 1 (cellN (F k) n),.cells 0 3 [.d (Rep.to r)]]) 0 (by simp) (by simp) (by simp) ?_
    intro k k1
    have hFk:F k k=cfV (rows.take i) n k:=by rw[hF];simp
    have hg:=cellN_get (F k) k1
    rw[hFk] at hg
    have hb:=hle k
    have w3:IntKind.i64.wrap ((cfV (rows.take i) n k:Int)+1)=((cfV (rows.take i) n k+1:Nat):Int):=by rw[wrap_in (by omega) (by omega)];omega
    have hset:=cellN_set (F k) k1 (cfV (rows.take i) n k+1)
    by_cases hk:k<n
    · have w2:IntKind.i64.wrap ((k:Int)+1)=(k:Int)+1:=wrap_in (by omega) (by omega)
      have hvn:visN n r k=visB r k:=by unfold visN;rw[if_pos hk]
      have hsk:=hs k
      rw[hvn] at hsk
      have hve:visB ⟨r.lost,r.marks,r.text⟩ k=visB r k:=rfl
      cases hv:visB r k with
      | true =>
        rw[hv,if_pos rfl] at hsk
        have hn:cellN (fun q=>if q=k then cfV (rows.take i) n k+1 else F k q) n=cellN (F (k+1)) n:=cellN_congr fun q _=>by
          rw[hF]
          simp only
          by_cases e:q=k
          · subst e
            rw[if_pos rfl,if_pos (by omega),hsk]
          · rw[if_neg e]
            by_cases e2:q<k
            · rw[if_pos e2,if_pos (by omega)]
            · rw[if_neg e2,if_neg (by omega)]
        rw[hn] at hset
        simp only[Int.natCast_add,Int.natCast_one] at hset w3
        simp[hk,h1,hve,hv,w2,hg,hFk,w3,hset]
        refine⟨by omega,by omega,by omega,by omega,Nxt.mk (k+1) (by omega) (by simp) (by simp) (by omega)⟩
      | false =>
        rw[hv] at hsk
        simp at hsk
        have hn:cellN (F k) n=cellN (F (k+1)) n:=cellN_congr fun q _=>by
          rw[hF]
          simp only
          by_cases e:q=k
          · subst e
            rw[if_neg (by omega),if_pos (by omega),hsk]
          · by_cases e2:q<k
            · rw[if_pos e2,if_pos (by omega)]
            · rw[if_neg e2,if_neg (by omega)]
        rw[hn]
        simp[hk,h1,hve,hv,w2]
        exact Nxt.mk (k+1) (by omega) (by simp) (by simp) (by omega)
    · obtain rfl:k=n:=by omega
      have hvn:visN k r k=!r.lost:=by unfold visN;rw[if_neg (by omega)]
      have hsk:=hs k
      rw[hvn] at hsk
      cases hv:r.lost with
      | true =>
        rw[hv] at hsk
        simp at hsk
        have hn:cellN (F k) k=cellN (cfV (rows.take (i+1)) k) k:=cellN_congr fun q hq=>by
          rw[hF]
          simp only
          by_cases e:q=k
          · subst e
            rw[if_neg (by omega),hsk]
          · rw[if_pos (by omega)]
        rw[hn]
        simp[hv,w1]
        exact Nxt.mk (i+1) (by omega) (by simp) (by simp) (by omega)
      | false =>
        rw[hv] at hsk
        simp at hsk
        have hn:cellN (fun q=>if q=k then cfV (rows.take i) k k+1 else F k q) k=cellN (cfV (rows.take (i+1)) k) k:=cellN_congr fun q hq=>by
          rw[hF]
          simp only
          by_cases e:q=k
          · subst e
            rw[if_pos rfl,hsk]
          · rw[if_neg e,if_pos (by omega)]
        rw[hn] at hset
        simp only[Int.natCast_add,Int.natCast_one] at hset w3
        simp[hv,w1,hg,hFk,w3,hset]
        refine⟨by omega,Nxt.mk (i+1) (by omega) (by simp) (by simp) (by omega)⟩
  · rw[List.take_of_length_le (by omega)]
    simp[hi]
    refine⟨by simp[resPre,resE],[1],rfl,⟨by decide,by simp,?_⟩,fun k hk=>?_,?_,?_,by simp[A.under,A.unders]⟩
    · simp[pickS,Ob.ren]
    · match k,hk with
      | 0,_=>exact .inr rfl
    · simp[pickS,Ob.ren]
    · simp[resOf,resE,A.ren,A.rens,idxIn]
theorem maxV_succ {l:List Int} {i:Nat} (h1:1≤i) (hi:i<l.length):maxV (l.take (i+1))=max (maxV (l.take i)) l[i]:=by
  unfold maxV
  obtain⟨a,r,rfl⟩:∃a r,l=a::r:=by cases l with
    | nil=>simp at hi
    | cons a r=>exact⟨a,r,rfl⟩
  obtain⟨i,rfl⟩:∃j,i=j+1:=⟨i-1,by omega⟩
  have hr:i<r.length:=by simpa using hi
  show List.foldl max a (r.take (i+1))=max (List.foldl max a (r.take i)) r[i]
  rw[List.take_succ_eq_append_getElem hr,List.foldl_append]
  rfl
@[simp] def S_slices_Max_int_int:List D→Prop × D:=spec1 (α:=List Int) (fun l=>0<l.length∧l.length≤1000000000) (fun l=>.int .i64 (maxV l))
theorem ct_slices_Max_int_int {P:Program} {f:Nat} {G:Gam} (h:CodeOf P f 1 6 [1] x_slices_Max_int_int) (hG:GamOk P G):Has P f S_slices_Max_int_int:=h.has1 hG fun l hp=>by
  obtain⟨p1,p2⟩:=hp
  have c1:¬(l.length:Int)<1:=by omega
  have hm1:maxV (l.take 1)=l[0]:=by
    cases l with
    | nil=>simp at p1
    | cons a r=>simp[maxV]
  have g0:l[0]?=some l[0]:=List.getElem?_eq_getElem p1
  simp[x_slices_Max_int_int,c1,p1]
  refine vc_lp (σ:=Nat) (fun i=>1≤i∧i≤l.length) (fun i=>l.length-i) (fun i=>[.d (.sl 1 (l.map Rep.to)),.any,.d (.int .i64 (maxV (l.take i))),.d (.int .i64 i),.any,.any]) (fun _=>[]) 1 (by simp[hm1]) (by simp) ⟨by omega,by omega⟩ ?_
  rintro i ⟨i1,i2⟩
  by_cases hi:i<l.length
  · have w1:IntKind.i64.wrap ((i:Int)+1)=(i:Int)+1:=wrap_in (by omega) (by omega)
    have hs:=maxV_succ i1 hi
    simp[hi,getD_map,w1]
    exact Nxt.mk (i+1) (by omega) (by simp[hs]) (by simp) ⟨by omega,by omega⟩
  · rw[List.take_of_length_le (by omega)]
    simp[hi]
@[simp] def S_slices_Clone_Row_Row:List D→Prop × D:=spec1 (α:=List RowT) (fun l=>l≠[]∧l.length≤1000000000) (fun l=>Rep.to l)
theorem ct_slices_Clone_Row_Row {P:Program} {f:Nat} {G:Gam} (h:CodeOf P f 1 3 [1] x_slices_Clone_Row_Row) (hG:GamOk P G):Has P f S_slices_Clone_Row_Row:=h.has1 hG fun l hp=>by
  obtain⟨p1,p2⟩:=hp
  simp[x_slices_Clone_Row_Row,p1]
  unfold room
  omega
theorem RCalls.wk {P:Program} {f:FuncId} {args:List A} {s0:Store} {res res':A} {s1:Store} (h:RCalls P f args s0 res s1) (hw:Wk 0 [] res res'):RCalls P f args s0 res' s1:=by
  intro w M vs hW hN g hl ha
  refine (h w M vs hW hN g hl ha).mono ?_
  rintro e w' ⟨v,M',rfl,h1,h2,h3⟩
  exact⟨v,M',rfl,h1,h2,hw w' M' s1 v (fun i hi=>by simp at hi) h3⟩
@[simp] def S_combined_title:List D→Prop × D:=spec1 (α:=CombT) (fun c=>c.path.length≤1048576∧1≤c.parents∧c.parents≤32) (fun c=>.str (titleW c))
theorem ct_combined_title {P:Program} {f g1 g2:Nat} {G:Gam} (h:CodeOf P f 1 5 [2] (x_combined_title g1 g2)) (hG:GamOk P G) (h1:G.find g1=some S_scan_Quote) (h2:G.find g2=some S_scan_Format):Has P f S_combined_title:=h.has1 hG fun c hp=>by
  obtain⟨path,dense,par,hs⟩:=c
  obtain⟨p1,p2,p3⟩:=hp
  simp only at p1 p2 p3
  have q1:=quote_len path
  have q2:=fmt_len par
  cases dense with
  | true =>
    simp[x_combined_title,h1,h2,p1,titleW]
    omega
  | false =>
    simp[x_combined_title,h1,h2,p1,titleW]
    omega
theorem markW_len (r:RowT) (n:Nat):(markW r n).length=n:=by
  induction n with
  | zero=>rfl
  | succ n ih=>simp[markW,ih]
theorem rowW_len (r:RowT) (n:Nat):(rowW r n).length=n+r.text.length+(if endedV r.text=true then 0 else 29):=by
  have:unendS.length=29:=rfl
  unfold rowW
  rw[List.length_append,List.length_append,markW_len]
  split <;> simp[this] <;> omega
@[simp] def S_combined_row:List D→Prop × D:=spec2 (α:=RowT) (β:=Int) (fun r n=>r.text.length≤4194304∧0≤n∧n≤32) (fun r n=>.str (rowW r n.toNat))
theorem ct_combined_row {P:Program} {f g1:Nat} {G:Gam} (h:CodeOf P f 2 13 [3] (x_combined_row g1)) (hG:GamOk P G) (h1:G.find g1=some S_text_Ended):Has P f S_combined_row:=h.has2 hG fun r n hp=>by
  obtain⟨lost,marks,text⟩:=r
  obtain⟨p1,p2,p3⟩:=hp
  simp only at p1
  obtain⟨n,rfl⟩:=Int.eq_ofNat_of_zero_le p2
  have w0:IntKind.i64.wrap ((n:Int)+text.length)=(n:Int)+text.length:=wrap_in (by omega) (by omega)
  have w1:IntKind.i64.wrap ((n:Int)+text.length+29)=(n:Int)+text.length+29:=wrap_in (by omega) (by omega)
  have e0:((n:Int)+text.length+29).toNat=n+text.length+29:=by omega
  simp only[Int.toNat_natCast]
  have main:vc G 0 (x_combined_row g1) (Fin [3] (D.str (rowW ⟨lost,marks,text⟩ n))) (start [Rep.to (⟨lost,marks,text⟩:RowT),Rep.to (n:Int)] 13) []:=by
    cases lost
    case' false =>
      simp[x_combined_row,w0,w1,e0]
      refine⟨⟨by omega,by unfold room;omega,by omega⟩,?_⟩
      obtain⟨R,hR⟩:∃R,R=(⟨false,marks,text⟩:RowT):=⟨_,rfl⟩
      have hlost:R.lost=false:=by rw[hR]
      rw[← hR]
    case' true =>
      simp[x_combined_row,w0,w1,e0]
      refine⟨⟨by omega,by unfold room;omega,by omega⟩,?_⟩
      obtain⟨R,hR⟩:∃R,R=(⟨true,marks,text⟩:RowT):=⟨_,rfl⟩
      have hlost:R.lost=true:=by rw[hR]
      rw[← hR]
    all_goals
      have hmarks:R.marks=marks:=by rw[hR]
      have htext:R.text=text:=by rw[hR]
      have b0:(bytesD [])=[]:=rfl
      refine vc_lp (σ:=Nat) (fun k=>k≤n) (fun k=>n-k)
        (fun k=>[.any,.d (.int .i64 n),.ref 0 0 0 0,.any,.d (.int .u8 (if R.lost then 45 else 43)),.gr 1 1 (bytesD (markW R k)),.any,.any,.d (.int .i64 n),.d (.int .i64 k),.any,.any,.any])
        (fun k=>[.cells 0 3 [.d (.agg [.bool R.lost,.int .u32 marks,.str text])],.tip k]) 0 (by simp[hlost,markW,b0]) (by simp[hlost]) (by simp) ?_
      intro k k1
      by_cases hk:k<n
      · have w2:IntKind.i64.wrap ((k:Int)+1)=(k:Int)+1:=wrap_in (by omega) (by omega)
        have e:getU marks k=IntKind.u32.wrap ↑((marks.fdiv (2 ^ min k IntKind.u32.bits) % 2 ^ IntKind.u32.bits).toNat &&& 1 % 2 ^ IntKind.u32.bits):=rfl
        have hml:(bytesD (markW R k)).length=k:=by rw[bytesD_len,markW_len]
        by_cases c:getU marks k=1
        · have hb:bytesD (markW R k)++[.int .u8 (if R.lost then 45 else 43)]=bytesD (markW R (k+1)):=by
            rw[markW,hmarks,if_pos c,← bytesD_app]
            cases R.lost <;> rfl
          simp[hk,← e,c,hml,w2]
          rw[hb]
          exact⟨by unfold room;omega,Nxt.mk (k+1) (by omega) (by simp) (by simp) (by omega)⟩
        · have hb:bytesD (markW R k)++[.int .u8 32]=bytesD (markW R (k+1)):=by
            rw[markW,hmarks,if_neg c,← bytesD_app]
            rfl
          simp[hk,← e,c,hml,w2,hb]
          exact⟨by unfold room;omega,Nxt.mk (k+1) (by omega) (by simp) (by simp) (by omega)⟩
      · obtain rfl:k=n:=by omega
        have hml:(bytesD (markW R k)).length=k:=by rw[bytesD_len,markW_len]
        cases he:endedV text with
        | true =>
          have hrow:rowW R k=markW R k++text:=by unfold rowW;rw[htext,he];simp
          rw[hrow]
          simp[h1,p1,he,hml,bytesD_app]
          have hb:=bytesD_len text
          exact⟨by unfold room;omega,by omega⟩
        | false =>
          have hrow:rowW R k=markW R k++(text++unendS):=by unfold rowW;rw[htext,he];simp
          rw[hrow]
          simp[h1,p1,he,hml,bytesD_app]
          have hb:=bytesD_len text
          have hb2:(bytesD (markW R k++text)).length=k+text.length:=by rw[bytesD_len,List.length_append,markW_len]
          refine⟨by unfold room;omega,by omega,⟨by omega,?_⟩,rfl⟩
          rw[hb2,bytesD_len]
          unfold room
          simp
          omega
  exact main
def AtsOk (c:CombT):Prop:=∀h,h∈c.hunks→h.at_.length=c.parents.toNat+1
@[simp] def S_combined_header:List D→Prop × D:=spec2 (α:=CHunkT) (β:=Int) (fun h n=>h.rows.length≤1000000000∧0≤n∧n≤32∧h.at_.length=n.toNat+1) (fun h n=>.str (headC h n.toNat))
def lenH (n:Nat) (hs:List CHunkT) (i:Nat):Nat:=((hs.take i).flatMap (hunkC n)).length
theorem lenH_succ (n:Nat) {hs:List CHunkT} {i:Nat} (hi:i<hs.length):lenH n hs (i+1)=lenH n hs i+(headC hs[i] n).length+(hs[i].rows.flatMap fun r=>rowW r n).length:=by
  unfold lenH
  rw[List.take_succ_eq_append_getElem hi,List.flatMap_append,List.length_append,List.flatMap_singleton,hunkC,List.length_append]
  omega
theorem lenH_le (n:Nat) (hs:List CHunkT) (i:Nat):lenH n hs i≤(hs.flatMap (hunkC n)).length:=by
  unfold lenH
  conv=>rhs;rw[← List.take_append_drop i hs,List.flatMap_append,List.length_append]
  omega
def lenR (n:Nat) (rs:List RowT) (k:Nat):Nat:=((rs.take k).flatMap fun r=>rowW r n).length
theorem lenR_succ (n:Nat) {rs:List RowT} {k:Nat} (hk:k<rs.length):lenR n rs (k+1)=lenR n rs k+(n+rs[k].text.length+(if endedV rs[k].text=true then 0 else 29)):=by
  unfold lenR
  rw[List.take_succ_eq_append_getElem hk,List.flatMap_append,List.length_append,List.flatMap_singleton,rowW_len]
theorem lenR_le (n:Nat) (rs:List RowT) (k:Nat):lenR n rs k≤(rs.flatMap fun r=>rowW r n).length:=by
  unfold lenR
  conv=>rhs;rw[← List.take_append_drop k rs,List.flatMap_append,List.length_append]
  omega
@[simp] def S_combined_size:List D→Prop × D:=spec1 (α:=CombT) (fun c=>CombOk c∧1≤c.parents∧c.parents≤32∧AtsOk c) (fun c=>.int .i64 (writC c).length)
theorem ct_combined_size {P:Program} {f g1 g2 g3:Nat} {G:Gam} (h:CodeOf P f 1 15 [2] (x_combined_size g1 g2 g3)) (hG:GamOk P G) (h1:G.find g1=some S_combined_title) (h2:G.find g2=some S_combined_header) (h3:G.find g3=some S_text_Ended):Has P f S_combined_size:=h.has1 hG fun c hp=>by
  obtain⟨⟨p1,p2,p3,p4⟩,p5,p6,p7⟩:=hp
  obtain⟨path,dense,par,hs⟩:=c
  simp only[AtsOk] at p1 p2 p3 p5 p6 p7
  obtain⟨n,rfl⟩:=Int.eq_ofNat_of_zero_le (show 0≤par by omega)
  simp only[Int.toNat_natCast] at p7
  have hw:(writC ⟨path,dense,n,hs⟩).length=(titleW ⟨path,dense,n,hs⟩).length+(hs.flatMap (hunkC n)).length:=by unfold writC;rw[List.length_append];rfl
  rw[hw] at p4 ⊢
  have hte:titleW ⟨path,dense,n,hs⟩=titleW ⟨path,dense,n,hs⟩:=rfl
  generalize hT:titleW ⟨path,dense,n,hs⟩=T at *
  have hfin:lenH n hs hs.length=(hs.flatMap (hunkC n)).length:=by unfold lenH;rw[List.take_length]
  have hlle:=lenH_le n hs
  generalize hW:(hs.flatMap (hunkC n)).length=W at *
  simp[x_combined_size,h1,p2,p5,p6,hT]
  refine vc_lp (σ:=Nat) (fun i=>i≤hs.length) (fun i=>hs.length-i)
    (fun i=>[.any,.ref 0 0 0 0,.any,.d (.int .i64 ((T.length+lenH n hs i:Nat):Int)),.any,.any,.d (.sl 2 (hs.map Rep.to)),.d (.int .i64 hs.length),.d (.int .i64 i),.any,.any,.any,.any,.any,.any])
    (fun i=>[.cells 0 4 [.d (Rep.to (⟨path,dense,n,hs⟩:CombT))]]) 0 (by simp[lenH]) (by simp) (by simp) ?_
  intro i i1
  have hli:=hlle i
  by_cases hi:i<hs.length
  · have w1:IntKind.i64.wrap ((i:Int)+1)=(i:Int)+1:=wrap_in (by omega) (by omega)
    obtain⟨q1,q2,q3⟩:=p3 _ (List.getElem_mem hi)
    have q4:=p7 _ (List.getElem_mem hi)
    have hls:=lenH_succ n hi
    have hli2:=hlle (i+1)
    have hhe:headC ⟨hs[i].at_,hs[i].rows⟩ n=headC hs[i] n:=rfl
    have hw1:IntKind.i64.wrap (((T.length:Int)+(lenH n hs i:Int))+(headC hs[i] n).length)=(T.length:Int)+(lenH n hs i:Int)+(headC hs[i] n).length:=wrap_in (by omega) (by omega)
    simp[hi,getD_map,h2,q1,q4,p6,hhe,hw1]
    have hrl:=lenR_le n hs[i].rows
    generalize hs[i].at_=at_ at *
    generalize hH:(headC hs[i] n).length=H at *
    generalize hs[i].rows=rows at *
    have hfr:lenR n rows rows.length=(rows.flatMap fun r=>rowW r n).length:=by unfold lenR;rw[List.take_length]
    generalize hRW:(rows.flatMap fun r=>rowW r n).length=RW at *
    refine vc_lp (σ:=Nat) (fun k=>k≤rows.length) (fun k=>rows.length-k)
      (fun k=>[.any,.ref 0 0 0 0,.any,.d (.int .i64 ((T.length+lenH n hs i+H+lenR n rows k:Nat):Int)),.any,.any,.d (.sl 2 (hs.map Rep.to)),.d (.int .i64 hs.length),.d (.int .i64 i),.any,.d (.sl 3 (rows.map Rep.to)),.d (.int .i64 rows.length),.d (.int .i64 k),.any,.any])
      (fun k=>[.cells 0 4 [.d (Rep.to (⟨path,dense,n,hs⟩:CombT))]]) 0 (by simp[lenR]) (by simp) (by simp) ?_
    intro k k1
    have hrk:=hrl k
    by_cases hk:k<rows.length
    · have w2:IntKind.i64.wrap ((k:Int)+1)=(k:Int)+1:=wrap_in (by omega) (by omega)
      have hrs:=lenR_succ n hk
      have hrk2:=hrl (k+1)
      have ht:=(q3 _ (List.getElem_mem hk)).2
      have ht2:rows[k].text.length≤9223372036854775807:=by omega
      have w3:IntKind.i64.wrap ((n:Int)+rows[k].text.length)=(n:Int)+rows[k].text.length:=wrap_in (by omega) (by omega)
      have w4:IntKind.i64.wrap ((T.length:Int)+(lenH n hs i:Int)+(H:Int)+(lenR n rows k:Int)+((n:Int)+rows[k].text.length))=(T.length:Int)+(lenH n hs i:Int)+(H:Int)+(lenR n rows k:Int)+((n:Int)+rows[k].text.length):=wrap_in (by omega) (by omega)
      cases he:endedV rows[k].text with
      | true =>
        rw[he,if_pos rfl] at hrs
        simp[hk,getD_map,h3,ht2,he,w2,w3,w4]
        exact Nxt.mk (k+1) (by omega) (by simp[hrs];omega) (by simp) (by omega)
      | false =>
        rw[he,if_neg (by simp)] at hrs
        have w5:IntKind.i64.wrap ((T.length:Int)+(lenH n hs i:Int)+(H:Int)+(lenR n rows k:Int)+((n:Int)+rows[k].text.length)+29)=(T.length:Int)+(lenH n hs i:Int)+(H:Int)+(lenR n rows k:Int)+((n:Int)+rows[k].text.length)+29:=wrap_in (by omega) (by omega)
        simp[hk,getD_map,h3,ht2,he,w2,w3,w4,w5]
        exact Nxt.mk (k+1) (by omega) (by simp[hrs];omega) (by simp) (by omega)
    · obtain rfl:k=rows.length:=by omega
      rw[hfr]
      simp[w1]
      exact Nxt.mk (i+1) (by omega) (by simp[hls];omega) (by simp) (by omega)
  · obtain rfl:i=hs.length:=by omega
    rw[hfin]
    simp
@[simp] def S_combined_wellFormed:List D→Prop × D:=spec1 (α:=CombT) (fun c=>CombOk c∧1≤c.parents∧c.parents≤32) (fun c=>.bool (formB c))
theorem fol_len {h:CHunkT} {n:Nat} {ends nx:List Int} (e:folV h n ends=some nx):h.at_.length=n+1∧h.rows≠[]:=by
  unfold folV at e
  split at e
  · cases e
  · rename_i c
    simp only[not_or,Classical.not_not] at c
    exact c
theorem well_ats:∀(hs:List CHunkT) (n:Nat) (res:Bool) (par:Nat) (ends fin:List Int),wellC n res par ends hs=some fin→∀h,h∈hs→h.at_.length=n+1
  | [],_,_,_,_,_,_,h,hh=>by simp at hh
  | u::hs,n,res,par,ends,fin,e,h,hh=>by
    rw[wellC] at e
    cases hf:folV u n ends with
    | none=>rw[hf] at e;cases e
    | some nx =>
      rw[hf] at e
      cases ha:adsV res par u.rows with
      | none=>simp only[ha] at e;cases e
      | some x =>
        obtain⟨r',p'⟩:=x
        simp only[ha] at e
        rcases List.mem_cons.1 hh with rfl | hh
        · exact (fol_len hf).1
        · exact well_ats hs n r' p' nx fin e h hh
theorem form_ats {c:CombT} (h:formB c=true):AtsOk c:=by
  unfold formB at h
  split at h
  · cases h
  · rename_i fin e
    exact well_ats _ _ _ _ _ _ e
@[simp] def S_combined_Check:List D→Prop × D:=spec1 (α:=CombT) CombOk (fun c=>.int .i64 (chkC c))
theorem ct_combined_Check {P:Program} {f g1 g2 g3 g4:Nat} {G:Gam} (h:CodeOf P f 1 8 [2] (x_combined_Check g1 g2 g3 g4)) (hG:GamOk P G) (h1:G.find g1=some S_combined_named) (h2:G.find g2=some S_combined_marked) (h3:G.find g3=some S_combined_wellFormed) (h4:G.find g4=some S_combined_size):Has P f S_combined_Check:=h.has1 hG fun c hp=>by
  have hce:CombOk ⟨c.path,c.dense,c.parents,c.hunks⟩:=hp
  have hm:markC ⟨c.path,c.dense,c.parents,c.hunks⟩=markC c:=rfl
  have hfm:formB ⟨c.path,c.dense,c.parents,c.hunks⟩=formB c:=rfl
  have hw:writC ⟨c.path,c.dense,c.parents,c.hunks⟩=writC c:=rfl
  have hk:chkC c=if namedB c.path=false then 120 else if c.parents<1∨32<c.parents then 2 else if markC c=false then 180 else if formB c=false then 121 else if 16777216<(writC c).length then 1 else 0:=rfl
  cases c1:namedB c.path with
  | false =>
    rw[hk,c1,if_pos rfl]
    simp[x_combined_Check,h1,c1]
  | true =>
    rw[c1,if_neg (by simp)] at hk
    by_cases c2:c.parents<1
    · rw[hk,if_pos (.inl c2)]
      simp[x_combined_Check,h1,c1,c2]
    by_cases c3:32<c.parents
    · rw[hk,if_pos (.inr c3)]
      simp[x_combined_Check,h1,c1,c2,c3]
    rw[if_neg (by omega)] at hk
    have n1:1≤c.parents:=by omega
    have n2:c.parents≤32:=by omega
    cases c4:markC c with
    | false =>
      rw[hk,c4,if_pos rfl]
      simp[x_combined_Check,h1,c1,c2,c3,h2,hce,n1,n2,hm,c4]
    | true =>
      rw[c4,if_neg (by simp)] at hk
      cases c5:formB c with
      | false =>
        rw[hk,c5,if_pos rfl]
        simp[x_combined_Check,h1,c1,c2,c3,h2,hce,n1,n2,hm,c4,h3,hfm,c5]
      | true =>
        rw[c5,if_neg (by simp)] at hk
        have ha:AtsOk ⟨c.path,c.dense,c.parents,c.hunks⟩:=form_ats c5
        by_cases c6:16777216<(writC c).length
        · rw[hk,if_pos c6]
          simp[x_combined_Check,h1,c1,c2,c3,h2,hce,n1,n2,hm,c4,h3,hfm,c5,h4,ha,hw,show (16777216:Int)<(writC c).length by omega]
        · rw[hk,if_neg c6]
          simp[x_combined_Check,h1,c1,c2,c3,h2,hce,n1,n2,hm,c4,h3,hfm,c5,h4,ha,hw,show ¬(16777216:Int)<(writC c).length by omega]
theorem chkC_zero {c:CombT} (h:chkC c=0):namedB c.path=true∧1≤c.parents∧c.parents≤32∧markC c=true∧formB c=true∧(writC c).length≤16777216:=by
  unfold chkC at h
  split at h
  · cases h
  · rename_i c1
    split at h
    · cases h
    · rename_i c2
      split at h
      · cases h
      · rename_i c3
        split at h
        · cases h
        · rename_i c4
          split at h
          · cases h
          · exact⟨by simpa using c1,by omega,by omega,by simpa using c3,by simpa using c4,by omega⟩
def prefC (c:CombT) (i:Nat):Str:=titleW c++(c.hunks.take i).flatMap (hunkC c.parents.toNat)
theorem prefC_succ {c:CombT} {i:Nat} (hi:i<c.hunks.length):prefC c (i+1)=prefC c i++(headC c.hunks[i] c.parents.toNat++c.hunks[i].rows.flatMap fun r=>rowW r c.parents.toNat):=by
  unfold prefC
  rw[List.take_succ_eq_append_getElem hi,List.flatMap_append,List.flatMap_singleton,List.append_assoc]
  rfl
theorem prefC_all (c:CombT):prefC c c.hunks.length=writC c:=by unfold prefC;rw[List.take_length];rfl
theorem prefC_le (c:CombT) (i:Nat):(prefC c i).length≤(writC c).length:=by
  have:=lenH_le c.parents.toNat c.hunks i
  unfold lenH at this
  unfold prefC writC
  rw[List.length_append,List.length_append]
  omega
def prefR (n:Nat) (rs:List RowT) (k:Nat):Str:=(rs.take k).flatMap fun r=>rowW r n
theorem prefR_succ (n:Nat) {rs:List RowT} {k:Nat} (hk:k<rs.length):prefR n rs (k+1)=prefR n rs k++rowW rs[k] n:=by
  unfold prefR
  rw[List.take_succ_eq_append_getElem hk,List.flatMap_append,List.flatMap_singleton]
def fmtC (c:CombT):D:=if chkC c=0 then .tup [.str (writC c),.int .i64 0] else .tup [.str [],.int .i64 (chkC c)]
@[simp] def S_combined_Format:List D→Prop × D:=spec1 (α:=CombT) CombOk (fun c=>fmtC c)
theorem ct_combined_Format {P:Program} {f g1 g2 g3 g4 g5 g6:Nat} {G:Gam} (h:CodeOf P f 1 17 [2,3] (x_combined_Format g1 g2 g3 g4 g5 g6)) (hG:GamOk P G) (h1:G.find g1=some S_combined_Check) (h2:G.find g2=some S_combined_title) (h3:G.find g3=some S_combined_header) (h4:G.find g4=some S_combined_row)
    (h5:G.findR g5=some R___strings_Builder__WriteString) (h6:G.findR g6=some R___strings_Builder__String):Has P f S_combined_Format:=h.has1 hG fun c hp=>by
  have hce:CombOk ⟨c.path,c.dense,c.parents,c.hunks⟩:=hp
  have hke:chkC ⟨c.path,c.dense,c.parents,c.hunks⟩=chkC c:=rfl
  have hte:titleW ⟨c.path,c.dense,c.parents,c.hunks⟩=titleW c:=rfl
  by_cases c0:chkC c=0
  · have e:fmtC c=.tup [.str (writC c),.int .i64 0]:=if_pos c0
    rw[e]
    obtain⟨z1,z2,z3,z4,z5,z6⟩:=chkC_zero c0
    have hat:=form_ats z5
    obtain⟨p1,p2,p3,p4⟩:=hp
    have ht0:titleW c=prefC c 0:=by simp[prefC]
    have hle:=prefC_le c
    have hl0:=hle 0
    have hte:titleW ⟨c.path,c.dense,c.parents,c.hunks⟩=prefC c 0:=ht0
    obtain⟨n,hn⟩:=Int.eq_ofNat_of_zero_le (show 0≤c.parents by omega)
    have hnn:c.parents.toNat=n:=by omega
    simp[x_combined_Format,h1,hce,hke,c0,h2,p2,z2,z3,eRCall,h5,hte]
    refine⟨by omega,?_⟩
    refine vc_lp (σ:=Nat) (fun i=>i≤c.hunks.length) (fun i=>c.hunks.length-i)
      (fun i=>[.any,.ref 0 0 0 0,.any,.any,.any,.ref 1 0 0 0,.any,.any,.any,.d (.sl 2 (c.hunks.map Rep.to)),.d (.int .i64 c.hunks.length),.d (.int .i64 i),.any,.any,.any,.any,.any])
      (fun i=>.cells 0 4 [.d (Rep.to c)]::buW 1 (prefC c i)) 0 (by simp) (by simp) (by simp) ?_
    intro i i1
    by_cases hi:i<c.hunks.length
    · have w1:IntKind.i64.wrap ((i:Int)+1)=(i:Int)+1:=wrap_in (by omega) (by omega)
      obtain⟨q1,q2,q3⟩:=p3 _ (List.getElem_mem hi)
      have q4:=hat _ (List.getElem_mem hi)
      have hs:=prefC_succ hi
      have hsl:=hle (i+1)
      rw[hs,List.length_append,List.length_append] at hsl
      have hhe:headC ⟨c.hunks[i].at_,c.hunks[i].rows⟩ c.parents.toNat=headC c.hunks[i] c.parents.toNat:=rfl
      simp[hi,getD_map,h3,q1,q4,show 0≤c.parents by omega,z3,hhe,eRCall,h5]
      refine⟨by omega,?_⟩
      generalize hB:prefC c i++headC c.hunks[i] c.parents.toNat=B at *
      have hBl:B.length=(prefC c i).length+(headC c.hunks[i] c.parents.toNat).length:=by rw[← hB,List.length_append]
      rw[← List.append_assoc,hB] at hs
      generalize c.hunks[i].at_=at_ at *
      generalize c.hunks[i].rows=rows at *
      have hrl:∀k,(prefR c.parents.toNat rows k).length≤(rows.flatMap fun r=>rowW r c.parents.toNat).length:=fun k=>lenR_le c.parents.toNat rows k
      have hra:prefR c.parents.toNat rows rows.length=rows.flatMap fun r=>rowW r c.parents.toNat:=by unfold prefR;rw[List.take_length]
      generalize (rows.flatMap fun r=>rowW r c.parents.toNat)=RW at *
      refine vc_lp (σ:=Nat) (fun k=>k≤rows.length) (fun k=>rows.length-k)
        (fun k=>[.any,.ref 0 0 0 0,.any,.any,.any,.ref 1 0 0 0,.any,.any,.any,.d (.sl 2 (c.hunks.map Rep.to)),.d (.int .i64 c.hunks.length),.d (.int .i64 i),.any,.d (.sl 3 (rows.map Rep.to)),.d (.int .i64 rows.length),.d (.int .i64 k),.any])
        (fun k=>.cells 0 4 [.d (Rep.to c)]::buW 1 (B++prefR c.parents.toNat rows k)) 0 (by simp) (by simp[prefR];omega) (by simp) ?_
      intro k k1
      by_cases hk:k<rows.length
      · have w2:IntKind.i64.wrap ((k:Int)+1)=(k:Int)+1:=wrap_in (by omega) (by omega)
        have ht:=(q3 _ (List.getElem_mem hk)).2
        have hps:=prefR_succ c.parents.toNat hk
        have hpl:=hrl (k+1)
        rw[hps,List.length_append] at hpl
        have hre:rowW ⟨rows[k].lost,rows[k].marks,rows[k].text⟩ c.parents.toNat=rowW rows[k] c.parents.toNat:=rfl
        simp[hk,getD_map,h4,ht,show 0≤c.parents by omega,z3,hre,eRCall,h5,w2]
        refine⟨by omega,Nxt.mk (k+1) (by omega) (by simp) (by simp[hps];omega) (by omega)⟩
      · obtain rfl:k=rows.length:=by omega
        rw[hra,← hs]
        simp[w1]
        exact Nxt.mk (i+1) (by omega) (by simp) (by simp) (by omega)
    · obtain rfl:i=c.hunks.length:=by omega
      have hne:writC c≠[]:=by simp[writC,titleW]
      rw[prefC_all]
      simp[eRCall,h6,hne]
      omega
  · have e:fmtC c=.tup [.str [],.int .i64 (chkC c)]:=if_neg c0
    rw[e]
    simp[x_combined_Format,h1,hce,hke,c0]
def folD (h:CHunkT) (n:Nat) (ends:List Int):D:=match folV h n ends with
  | none=>.tup [.nilsl,.bool false]
  | some nx=>.tup [.sl 1 (nx.map Rep.to),.bool true]
def cellI (f:Nat→Int) (n:Nat):List A:=(List.range (n+1)).map fun p=>A.d (.int .i64 (f p))
theorem cellN_I (f:Nat→Nat) (n:Nat):cellN f n=cellI (fun p=>(f p:Int)) n:=rfl
@[simp] theorem cellI_len (f:Nat→Int) (n:Nat):(cellI f n).length=n+1:=by simp[cellI]
theorem cellI_get (f:Nat→Int) {n p:Nat} (hp:p≤n):(cellI f n)[p]?=some (A.d (.int .i64 (f p))):=by
  simp[cellI,List.getElem?_range (show p<n+1 by omega)]
@[simp] theorem cellI_at (f:Nat→Int) (n p:Nat) (h:p<(cellI f n).length):(cellI f n)[p]=A.d (.int .i64 (f p)):=by
  have h1:=cellI_get f (n:=n) (p:=p) (by simp at h;omega)
  rw[List.getElem?_eq_getElem h] at h1
  exact Option.some.inj h1
theorem cellI_congr {f g:Nat→Int} {n:Nat} (h:∀p,p≤n→f p=g p):cellI f n=cellI g n:=by
  unfold cellI
  apply List.map_congr_left
  intro p hp
  rw[h p (by have:=List.mem_range.1 hp;omega)]
theorem cellI_set (f:Nat→Int) {n p:Nat} (hp:p≤n) (v:Int):(cellI f n).set p (A.d (.int .i64 v))=cellI (fun q=>if q=p then v else f q) n:=by
  apply List.ext_getElem?
  intro q
  by_cases hq:q≤n
  · rw[cellI_get _ hq]
    by_cases hqp:q=p
    · subst hqp
      rw[List.getElem?_set_self (by simp;omega),if_pos rfl]
    · rw[List.getElem?_set_ne (Ne.symm hqp),cellI_get _ hq,if_neg hqp]
  · rw[List.getElem?_eq_none (by simp;omega),List.getElem?_eq_none (by simp;omega)]
theorem cellI_un (f:Nat→Int) (n m:Nat):∀x,x∈cellI f n→A.under m x=true:=fun x hx=>by
  obtain⟨p,_,rfl⟩:=List.mem_map.1 hx
  rfl
@[simp] theorem cellI_und (f:Nat→Int) (n m:Nat):(∀x,x∈cellI f n→A.under m x=true)↔True:=iff_true_intro (cellI_un f n m)
@[simp] theorem cellI_ren (f:Nat→Int) (n:Nat) (r:Nat→Nat):(cellI f n).map (A.ren r)=cellI f n:=by
  unfold cellI
  rw[List.map_map]
  rfl
theorem cellI_isD (f:Nat→Int) (n:Nat):(cellI f n).all A.isD=true:=by
  rw[List.all_eq_true]
  intro x hx
  obtain⟨p,_,rfl⟩:=List.mem_map.1 hx
  rfl
theorem bor_cellI (s:Store) (j v n:Nat) (f:Nat→Int) (h:s.getD j .dead=.cells v 1 (cellI f n)):bor s (.own j v 0 (n+1))=(True,.sl 1 (((List.range (n+1)).map f).map Rep.to)):=by
  unfold bor
  simp only[h,List.drop_zero]
  rw[List.take_of_length_le (by simp),cellI_isD]
  simp[cellI,Function.comp_def,A.toD]
theorem ats_get:∀(as es:List Int),as.length=es.length→(atOk as es=true↔∀k,k<as.length→es.getD k 0≤as.getD k 0∧as.getD k 0≤4096)
  | [],[],_=>by simp[atOk]
  | a::as,e::es,h=>by
    have ih:=ats_get as es (by simpa using h)
    simp only[atOk,Bool.and_eq_true,Bool.not_eq_true',Bool.or_eq_false_iff,decide_eq_false_iff_not,ih]
    constructor
    · rintro⟨h1,h2⟩ k hk
      cases k with
      | zero=>simp;omega
      | succ k=>simpa using h2 k (by simpa using hk)
    · intro h2
      refine⟨?_,fun k hk=>?_⟩
      · have:=h2 0 (by simp)
        simp at this
        omega
      · simpa using h2 (k+1) (by simpa using hk)
def EndsB (ends:List Int):Prop:=∀e,e∈ends→0≤e∧e≤2000000000
@[simp] def S_combined_follows:List D→Prop × D:=spec3 (α:=CHunkT) (β:=Int) (γ:=List Int) (fun h n ends=>h.rows.length≤1000000000∧h.at_.length≤1000000000∧1≤n∧n≤32∧ends.length=n.toNat+1∧EndsB ends) (fun h n ends=>folD h n.toNat ends)
theorem ct_combined_follows {P:Program} {f g1:Nat} {G:Gam} (h:CodeOf P f 3 15 [4,5] (x_combined_follows g1)) (hG:GamOk P G) (h1:G.findR g1=some R_combined_counts):Has P f S_combined_follows:=h.has3 hG fun u n ends hp=>by
  obtain⟨p1,p2,p3,p4,p5,p6⟩:=hp
  obtain⟨at_,rows⟩:=u
  simp only at p1 p2
  obtain⟨n,rfl⟩:=Int.eq_ofNat_of_zero_le (show 0≤n by omega)
  simp only[Int.toNat_natCast] at p5 ⊢
  have w0:IntKind.i64.wrap ((n:Int)+1)=(n:Int)+1:=wrap_in (by omega) (by omega)
  have hfd:folD ⟨at_,rows⟩ n ends=if at_.length≠n+1∨rows=[] then .tup [.nilsl,.bool false] else if atOk at_ ends=true then .tup [.sl 1 (((ctsV rows n).zipWith (·+·) at_).map Rep.to),.bool true] else .tup [.nilsl,.bool false]:=by
    unfold folD folV
    by_cases k:at_.length≠n+1∨rows=[]
    · rw[if_pos k,if_pos k]
    · rw[if_neg k,if_neg k]
      by_cases k2:atOk at_ ends=true
      · rw[if_pos k2,if_pos k2]
      · rw[if_neg k2,if_neg k2]
  rw[hfd]
  by_cases c1:at_.length=n+1
  · by_cases c2:rows=[]
    · subst c2
      rw[if_pos (.inr rfl)]
      simp[x_combined_follows,w0,c1]
    · rw[if_neg (by simp[c1,c2])]
      have c2l:¬(rows.length:Int)=0:=by have:=List.length_pos_iff.2 c2;omega
      have hag:=ats_get at_ ends (by omega)
      have hz:(ctsV rows n).zipWith (·+·) at_=(List.range (n+1)).map fun p=>(cfV rows n p:Int)+at_.getD p 0:=by
        apply List.ext_getElem?
        intro q
        rw[ctsV_eq]
        by_cases hq:q<n+1
        · simp[List.getElem?_zipWith,List.getElem?_range hq,List.getElem?_eq_getElem (show q<at_.length by omega)]
        · rw[List.getElem?_eq_none (by simp;omega),List.getElem?_eq_none (by simp;omega)]
      rw[hz]
      obtain⟨F,hF⟩:∃F:Nat→Nat→Int,F=fun k p=>if p<k then (cfV rows n p:Int)+at_.getD p 0 else cfV rows n p:=⟨_,rfl⟩
      have hF0:cellN (cfV rows n) n=cellI (F 0) n:=by rw[cellN_I];exact cellI_congr fun p _=>by rw[hF];simp
      have hcb:∀p,cfV rows n p≤rows.length:=fun p=>List.countP_le_length
      generalize hV:(if atOk at_ ends=true then D.tup [.sl 1 (((List.range (n+1)).map fun p=>(cfV rows n p:Int)+at_.getD p 0).map Rep.to),.bool true] else D.tup [.nilsl,.bool false])=V
      simp[x_combined_follows,w0,c1,c2,c2l,eRCall,h1,p1,show n≤32 by omega,hF0]
      refine vc_lp (σ:=Nat) (fun k=>k≤n+1∧∀j,j<k→ends.getD j 0≤at_.getD j 0∧at_.getD j 0≤4096) (fun k=>n+1-k)
        (fun k=>[.any,.any,.d (.sl 1 (ends.map Rep.to)),.any,.any,.any,.own 1 0 0 (n+1),.any,.any,.any,.d (.sl 1 (at_.map Rep.to)),.d (.int .i64 ((n:Int)+1)),.d (.int .i64 k),.any,.any])
        (fun k=>[.cells 0 2 [.d (.agg [.sl 1 (at_.map Rep.to),.sl 3 (rows.map Rep.to)])],.cells 0 1 (cellI (F k) n)]) 0 (by simp) (by simp) ⟨by simp,by simp⟩ ?_
      rintro k ⟨k1,k2⟩
      by_cases hk:k<n+1
      · have w1:IntKind.i64.wrap ((k:Int)+1)=(k:Int)+1:=wrap_in (by omega) (by omega)
        have ga:at_[k]?=some (at_.getD k 0):=by rw[List.getD_eq_getElem?_getD,List.getElem?_eq_getElem (by omega)];rfl
        have ge:ends[k]?=some (ends.getD k 0):=by rw[List.getD_eq_getElem?_getD,List.getElem?_eq_getElem (by omega)];rfl
        have gb:0≤ends.getD k 0:=by
          rw[List.getD_eq_getElem?_getD,List.getElem?_eq_getElem (by omega)]
          exact (p6 _ (List.getElem_mem _)).1
        have hFk:F k k=cfV rows n k:=by rw[hF];simp
        have hg:=cellI_get (F k) (n:=n) (p:=k) (by omega)
        rw[hFk] at hg
        have hcn:cellI (fun q=>if q=k then (cfV rows n k:Int)+at_.getD k 0 else F k q) n=cellI (F (k+1)) n:=cellI_congr fun q hq=>by
          rw[hF]
          simp only
          by_cases e:q=k
          · subst e;rw[if_pos rfl,if_pos (by omega)]
          · rw[if_neg e]
            by_cases e2:q<k
            · rw[if_pos e2,if_pos (by omega)]
            · rw[if_neg e2,if_neg (by omega)]
        have hset:=cellI_set (F k) (n:=n) (p:=k) (by omega) ((cfV rows n k:Int)+at_.getD k 0)
        rw[hcn] at hset
        have hc:=hcb k
        have hbad:¬(ends.getD k 0≤at_.getD k 0∧at_.getD k 0≤4096)→V=D.tup [.nilsl,.bool false]:=fun hb=>by
          rw[← hV,if_neg]
          rw[hag]
          exact fun hh=>hb (hh k (by omega))
        have hnx:(ends.getD k 0≤at_.getD k 0∧at_.getD k 0≤4096)→∀j,j<k+1→ends.getD j 0≤at_.getD j 0∧at_.getD j 0≤4096:=fun hb j hj=>by
          by_cases e:j=k
          · subst e;exact hb
          · exact k2 j (by omega)
        clear k2 hag
        have ge2:ends[k]'(by omega)=ends.getD k 0:=by rw[List.getElem?_eq_getElem (by omega)] at ge;exact Option.some.inj ge
        have ga2:at_[k]'(by omega)=at_.getD k 0:=by rw[List.getElem?_eq_getElem (by omega)] at ga;exact Option.some.inj ga
        generalize at_.getD k 0=a at *
        generalize ends.getD k 0=e at *
        by_cases b1:a<e
        · rw[hbad (by omega)]
          simp[show (k:Int)<(n:Int)+1 by omega,hk,c1,p5,ga,ge,ga2,ge2,b1]
        · by_cases b2:4096<a
          · rw[hbad (by omega)]
            simp[show (k:Int)<(n:Int)+1 by omega,hk,c1,p5,ga,ge,ga2,ge2,b1,b2]
          · have w3:IntKind.i64.wrap ((cfV rows n k:Int)+a)=(cfV rows n k:Int)+a:=wrap_in (by omega) (by omega)
            simp[show (k:Int)<(n:Int)+1 by omega,hk,c1,p5,ga,ge,ga2,ge2,b1,b2,hg,hFk,w3,hset,w1]
            have hn:=hnx ⟨by omega,by omega⟩
            exact Nxt.mk (k+1) (by omega) (by simp) (by simp) ⟨by omega,by simpa using hn⟩
      · obtain rfl:k=n+1:=by omega
        have hb:=bor_cellI [.cells 0 2 [.d (.agg [.sl 1 (at_.map Rep.to),.sl 3 (rows.map Rep.to)])],.cells 0 1 (cellI (F (n+1)) n)] 1 0 n (F (n+1)) rfl
        have hv:V=D.tup [.sl 1 (((List.range (n+1)).map (F (n+1))).map Rep.to),.bool true]:=by
          rw[← hV,if_pos (by rw[hag];intro j hj;exact k2 j (by omega))]
          congr 4
          apply List.map_congr_left
          intro p hp
          have:=List.mem_range.1 hp
          rw[hF]
          simp only
          rw[if_pos this]
        rw[hv]
        simp[hb]
  · rw[if_pos (.inl c1)]
    simp[x_combined_follows,w0,c1,show ¬(at_.length:Int)=(n:Int)+1 by omega]
structure WfcX where
  i:Nat
  res:Bool
  par:Nat
  ends:List Int
def wfI (n:Nat) (hs:List CHunkT) (z:WfcX):Prop:=z.i≤hs.length∧z.par<4294967296∧z.ends.length=n+1∧EndsB z.ends∧wellC n z.res z.par z.ends (hs.drop z.i)=wellC n false 0 (List.replicate (n+1) 0) hs
theorem fol_ends {h:CHunkT} {n:Nat} {ends nx:List Int} (hl:ends.length=n+1) (hr:h.rows.length≤1000000000) (e:folV h n ends=some nx) (hb:EndsB ends):nx.length=n+1∧EndsB nx:=by
  have h1:=fol_len e
  unfold folV at e
  rw[if_neg (by simp[h1.1,h1.2])] at e
  split at e
  · rename_i ha
    have ha:=(ats_get _ _ (by omega)).1 ha
    cases e
    have hlen:((ctsV h.rows n).zipWith (·+·) h.at_).length=n+1:=by simp[ctsV_len,h1.1]
    refine⟨hlen,fun x hx=>?_⟩
    obtain⟨q,hq,rfl⟩:=List.getElem_of_mem hx
    rw[hlen] at hq
    rw[List.getElem_zipWith]
    have hc:∃c:Nat,(ctsV h.rows n)[q]'(by rw[ctsV_len];omega)=(c:Int)∧c≤1000000000:=by
      have:(ctsV h.rows n)[q]'(by rw[ctsV_len];omega)=((cfV h.rows n q:Nat):Int):=by simp[ctsV_eq]
      exact⟨_,this,Nat.le_trans List.countP_le_length hr⟩
    obtain⟨c,hc,hcl⟩:=hc
    have hk:=ha q (by omega)
    have e1:h.at_.getD q 0=h.at_[q]'(by omega):=by simp[List.getD,show q<h.at_.length by omega]
    have e2:ends.getD q 0=ends[q]'(by omega):=by simp[List.getD,show q<ends.length by omega]
    have h0:=(hb (ends[q]'(by omega)) (List.getElem_mem _)).1
    rw[e1,e2] at hk
    rw[hc]
    omega
  · cases e
theorem ct_combined_wellFormed {P:Program} {f g1 g2 g3 g4:Nat} {G:Gam} (h:CodeOf P f 1 18 [2] (x_combined_wellFormed g1 g2 g3 g4)) (hG:GamOk P G) (h1:G.find g1=some S_combined_follows) (h2:G.find g2=some S_weave_Single) (h3:G.find g3=some S_slices_Max_int_int) (h4:G.findR g4=some R_weave_Ends_Add):Has P f S_combined_wellFormed:=h.has1 hG fun c hp=>by
  obtain⟨⟨p1,p2,p3,_⟩,p5,p6⟩:=hp
  obtain⟨path,dense,par,hs⟩:=c
  simp only at p1 p2 p3 p5 p6
  obtain⟨n,rfl⟩:=Int.eq_ofNat_of_zero_le (show 0≤par by omega)
  have w0:IntKind.i64.wrap ((n:Int)+1)=(n:Int)+1:=wrap_in (by omega) (by omega)
  have e0:((n:Int)+1).toNat=n+1:=by omega
  obtain⟨V,hV⟩:∃V,V=formB ⟨path,dense,n,hs⟩:=⟨_,rfl⟩
  rw[← hV]
  have hz:List.replicate (n+1) (A.d (.int .i64 0))=cellI (fun _=>0) n:=by rw[cellN_zero,cellN_I];rfl
  simp[x_combined_wellFormed,w0,e0,hz]
  refine⟨⟨by omega,by unfold room;omega,by omega⟩,?_⟩
  have hfz:=Fz.own 2 0 1 0 (n+1) (cellI (fun _=>0) n) (by rw[List.drop_zero,List.take_of_length_le (by simp)];exact cellI_isD _ _)
  have hzl:((((cellI (fun _=>0) n).drop 0).take (n+1)).map A.toD)=(List.replicate (n+1) (0:Int)).map Rep.to:=by
    rw[List.drop_zero,List.take_of_length_le (by simp)]
    simp only[cellI,List.map_map,List.map_replicate]
    have e:(A.toD ∘ fun (p:Nat)=>A.d (.int .i64 0))=fun _=>D.int .i64 0:=rfl
    rw[e,List.map_const']
    simp
  rw[hzl] at hfz
  refine vc_lpR (σ:=WfcX) (wfI n hs) (fun z=>hs.length-z.i)
    (fun z=>[.any,.ref 0 0 0 0,.any,.ref 1 0 0 0,.d (.sl 1 (z.ends.map Rep.to)),.any,.any,.any,.d (.sl 2 (hs.map Rep.to)),.d (.int .i64 hs.length),.d (.int .i64 z.i),.any,.any,.any,.any,.any,.any,.any])
    (fun z=>[.cells 0 4 [.d (Rep.to (⟨path,dense,n,hs⟩:CombT))],.cells 0 2 [.agg [.d (.bool z.res),.d (.int .u32 z.par)]],.dead]) ⟨0,false,0,List.replicate (n+1) 0⟩ ?_ ⟨by simp,by simp,by simp,fun e he=>by have:=List.eq_of_mem_replicate he;omega,by simp⟩ ?_
  · refine Re.trans (T':=[A.d (D.agg [D.str path,D.bool dense,D.int IntKind.i64 ↑n,D.sl 2 (List.map Rep.to hs)]),A.ref 0 0 0 0,A.d (D.bool false),A.ref 1 0 0 0,.d (.sl 1 ((List.replicate (n+1) (0:Int)).map Rep.to)),A.any,A.any,A.any,A.d (D.sl 2 (List.map Rep.to hs)),A.d (D.int IntKind.i64 ↑hs.length),A.d (D.int IntKind.i64 0),A.any,A.any,A.any,A.any,A.any,A.any,A.any])
      (s':=[Ob.cells 0 4 [A.d (D.agg [D.str path,D.bool dense,D.int IntKind.i64 ↑n,D.sl 2 (List.map Rep.to hs)])],Ob.cells 0 2 [A.d (D.agg [D.bool false,D.int IntKind.u32 0])],.dead]) (Re.freeze 2 0 1 (cellI (fun _=>0) n) rfl ?_ ⟨rfl,?_⟩ rfl) ?_
    · simp
      simpa using hfz
    · intro k hk h0
      have:k=0∨k=1:=by simp at hk;omega
      rcases this with rfl | rfl
      · exact .inl rfl
      · exact .inl rfl
    · refine Re.wn (s':=[.cells 0 4 [.d (Rep.to (⟨path,dense,n,hs⟩:CombT))],.cells 0 2 [.agg [.d (.bool false),.d (.int .u32 0)]],.dead]) [false,true,false,true,true,false,false,false,true,true,true] [] (by simp) (by simp) ?_ ?_ ?_
      · simp
      · exact⟨.inl rfl,WkO.agg1 _ _ 0 2 [.bool false,.int .u32 0] rfl,.inl rfl,trivial⟩
      · rfl
  rintro⟨i,res,par,ends⟩ ⟨i1,i2,i3,i4,i5⟩
  simp only at i1 i2 i3 i4 i5
  by_cases hi:i<hs.length
  · have w1:IntKind.i64.wrap ((i:Int)+1)=(i:Int)+1:=wrap_in (by omega) (by omega)
    obtain⟨q1,q2,q3⟩:=p3 _ (List.getElem_mem hi)
    rw[List.drop_eq_getElem_cons hi,wellC] at i5
    have hfe:folD ⟨hs[i].at_,hs[i].rows⟩ n ends=folD hs[i] n ends:=rfl
    have hfn:∀nx,folV hs[i] n ends=some nx→nx.length=n+1∧EndsB nx:=fun nx e=>fol_ends i3 q1 e i4
    have hfb:formB ⟨path,dense,n,hs⟩=match wellC n false 0 (List.replicate (n+1) 0) hs with
      | none=>false
      | some ends=>decide (maxV ends≤4096):=rfl
    cases hf:folV hs[i] n ends with
    | none =>
      have hd:folD hs[i] n ends=.tup [.nilsl,.bool false]:=by unfold folD;rw[hf]
      rw[hf] at i5
      rw[hfb,← i5] at hV
      have hV:V=false:=hV
      subst hV
      simp[hi,getD_map,h1,q1,q2,p5,p6,i3,i4,hfe,hd,show n≤32 by omega]
    | some nx =>
      have hd:folD hs[i] n ends=.tup [.sl 1 (nx.map Rep.to),.bool true]:=by unfold folD;rw[hf]
      rw[hf] at i5
      obtain⟨nl,nb⟩:=hfn nx hf
      simp[hi,getD_map,h1,q1,q2,p5,p6,i3,i4,hfe,hd,show n≤32 by omega]
      have i5:(match adsV res par hs[i].rows with
        | none=>none
        | some (res',par')=>wellC n res' par' nx (hs.drop (i+1)))=wellC n false 0 (List.replicate (n+1) 0) hs:=i5
      have hbad:adsV res par hs[i].rows=none→V=false:=fun e=>by
        rw[e] at i5
        rw[hV,hfb,← i5]
      generalize hs[i].rows=rows at *
      generalize hs[i].at_=at_ at *
      refine vc_lp (σ:=Nat × Bool × Nat) (fun x=>x.1≤rows.length∧x.2.2<4294967296∧adsV x.2.1 x.2.2 (rows.drop x.1)=adsV res par rows) (fun x=>rows.length-x.1)
        (fun x=>[.any,.ref 0 0 0 0,.any,.ref 1 0 0 0,.d (.sl 1 (nx.map Rep.to)),.any,.any,.any,.d (.sl 2 (hs.map Rep.to)),.d (.int .i64 hs.length),.d (.int .i64 i),.any,.any,.d (.sl 3 (rows.map Rep.to)),.d (.int .i64 rows.length),.d (.int .i64 x.1),.any,.any])
        (fun x=>[.cells 0 4 [.d (Rep.to (⟨path,dense,n,hs⟩:CombT))],.cells 0 2 [.agg [.d (.bool x.2.1),.d (.int .u32 x.2.2)]],.dead]) (0,res,par) (by simp) (by simp) ⟨by simp,i2,by simp⟩ ?_
      rintro⟨k,r,p⟩ ⟨k1,k3,k4⟩
      simp only at k1 k3 k4
      by_cases hk:k<rows.length
      · have w2:IntKind.i64.wrap ((k:Int)+1)=(k:Int)+1:=wrap_in (by omega) (by omega)
        obtain⟨hr,ht⟩:=q3 _ (List.getElem_mem hk)
        have ht:=Nat.le_trans ht (show 4194304≤9223372036854775807 by omega)
        have hre:rowOk ⟨rows[k].lost,rows[k].marks,rows[k].text⟩:=hr
        rw[List.drop_eq_getElem_cons hk,adsV] at k4
        have q:=endsPar_lt k3 hr
        have o1:endsOk r p ⟨rows[k].lost,rows[k].marks,rows[k].text⟩=endsOk r p rows[k]:=rfl
        have o2:endsRes r ⟨rows[k].lost,rows[k].marks,rows[k].text⟩=endsRes r rows[k]:=rfl
        have o3:endsPar p ⟨rows[k].lost,rows[k].marks,rows[k].text⟩=endsPar p rows[k]:=rfl
        cases hb:lineB rows[k].text with
        | false =>
          rw[hb,Bool.false_and,if_neg (by simp)] at k4
          rw[hbad k4.symm]
          simp[hk,getD_map,h2,ht,hb]
        | true =>
          cases ho:endsOk r p rows[k] with
          | false =>
            rw[hb,ho,Bool.and_false,if_neg (by simp)] at k4
            rw[hbad k4.symm]
            simp[hk,getD_map,h2,ht,hb,eRCall,h4,k3,hre,o1,ho]
          | true =>
            rw[hb,ho,Bool.and_true,if_pos rfl] at k4
            simp[hk,getD_map,h2,ht,hb,eRCall,h4,k3,hre,o1,o2,o3,ho,w2]
            exact Nxt.mk (k+1,endsRes r rows[k],endsPar p rows[k]) (by simp;omega) (by simp) (by simp) ⟨by simp;omega,q,k4⟩
      · obtain rfl:k=rows.length:=by omega
        rw[List.drop_length,adsV] at k4
        rw[← k4] at i5
        simp[w1]
        exact Nxt.mk ⟨i+1,r,p,nx⟩ (by simp only;omega) (by simp) (by simp) ⟨by simp only;omega,k3,nl,nb,i5⟩
  · obtain rfl:i=hs.length:=by omega
    rw[List.drop_length,wellC] at i5
    have hv:V=decide (maxV ends≤4096):=by
      rw[hV]
      show (match wellC n false 0 (List.replicate (n+1) 0) hs with
        | none=>false
        | some ends=>decide (maxV ends≤4096))=_
      rw[← i5]
    rw[hv]
    simp[h3,i3,show n+1≤1000000000 by omega]
theorem ctsV_get (rows:List RowT) {n p:Nat} (hp:p≤n):(ctsV rows n).getD p 0=(cfV rows n p:Int):=by
  rw[ctsV_eq]
  simp[List.getD,List.getElem?_range (show p<n+1 by omega)]
theorem repeat_at (k:Nat):Lib.repeatL [64] k=List.replicate k 64:=by
  induction k with
  | zero=>rfl
  | succ k ih =>
    rw[List.replicate_succ,← ih]
    rfl
theorem ranges_len (at_ ns:List Int):∀p,(rangesW at_ ns p).length≤45 * p
  | 0=>by simp[rangesW]
  | p+1=>by
    have h1:=ranges_len at_ ns p
    have h2:=frange_len (at_.getD p 0) (ns.getD p 0)
    simp only[rangesW,List.length_append,List.length_cons,List.length_nil]
    omega
theorem ct_combined_header {P:Program} {f g1 g2 g3 g4 g5:Nat} {G:Gam} (h:CodeOf P f 2 11 [3] (x_combined_header g1 g2 g3 g4 g5)) (hG:GamOk P G) (h1:G.find g1=some S_strings_Repeat) (h2:G.find g2=some S_scan_FormatRange) (h3:G.findR g3=some R_combined_counts) (h4:G.findR g4=some R___strings_Builder__WriteString) (h5:G.findR g5=some R___strings_Builder__String):Has P f S_combined_header:=h.has2 hG fun u n hp=>by
  obtain⟨p1,p2,p3,p4⟩:=hp
  obtain⟨at_,rows⟩:=u
  simp only at p1 p4
  obtain⟨n,rfl⟩:=Int.eq_ofNat_of_zero_le p2
  simp only[Int.toNat_natCast] at p4 ⊢
  have w0:IntKind.i64.wrap ((n:Int)+1)=(n:Int)+1:=wrap_in (by omega) (by omega)
  have e0:((n:Int)+1).toNat=n+1:=by omega
  have hr:Lib.repeatL [64] (n+1)=atsW n:=repeat_at (n+1)
  have hal:(atsW n).length=n+1:=by simp[atsW]
  have hh:headC ⟨at_,rows⟩ n=atsW n++(rangesW at_ (ctsV rows n) n++([32,43]++(frangeV (at_.getD n 0) ((ctsV rows n).getD n 0)++(32::(atsW n++[10]))))):=rfl
  rw[hh]
  simp[x_combined_header,eRCall,h3,p1,show n≤32 by omega,w0,e0,h1,hr,h4,hal]
  refine⟨⟨by omega,by omega,by omega⟩,by omega,?_⟩
  have hrl:=ranges_len at_ (ctsV rows n)
  have hga:∀p,p≤n→at_[p]?=some (at_.getD p 0):=fun p hp=>by rw[List.getD_eq_getElem?_getD,List.getElem?_eq_getElem (by omega)];rfl
  have hgc:∀p,p≤n→(ctsV rows n).getD p 0=(cfV rows n p:Int):=fun p hp=>ctsV_get rows hp
  refine vc_lp (σ:=Nat) (fun p=>p≤n) (fun p=>n-p)
    (fun p=>[.any,.d (.int .i64 n),.ref 0 0 0 0,.any,.own 1 0 0 (n+1),.d (.str (atsW n)),.ref 2 0 0 0,.any,.d (.int .i64 n),.d (.int .i64 p),.any])
    (fun p=>.cells 0 2 [.d (.agg [.sl 1 (at_.map Rep.to),.sl 3 (rows.map Rep.to)])]::.cells 0 1 (cellN (cfV rows n) n)::buW 2 (atsW n++rangesW at_ (ctsV rows n) p)) 0 (by simp[rangesW]) (by simp[rangesW,hal]) (by simp) ?_
  intro p k1
  have hpl:=hrl p
  have ga:=hga p k1
  have gc:=cellN_get (cfV rows n) (n:=n) (p:=p) k1
  have fl:=frange_len (at_.getD p 0) (cfV rows n p)
  have hgp:=hgc p k1
  by_cases hk:p<n
  · have w2:IntKind.i64.wrap ((p:Int)+1)=(p:Int)+1:=wrap_in (by omega) (by omega)
    have hs:rangesW at_ (ctsV rows n) (p+1)=rangesW at_ (ctsV rows n) p++([32,45]++frangeV (at_.getD p 0) (cfV rows n p)):=by rw[rangesW,hgp]
    have ga2:at_[p]'(by omega)=at_.getD p 0:=by rw[List.getElem?_eq_getElem (by omega)] at ga;exact Option.some.inj ga
    generalize at_.getD p 0=a at *
    simp[hk,show p<at_.length by omega,ga,ga2,gc,h2,eRCall,h4,hal,w2]
    refine⟨by omega,by omega,by omega,by omega,Nxt.mk (p+1) (by omega) (by simp) (by simp[hs,hal];omega) (by omega)⟩
  · obtain rfl:p=n:=by omega
    have ga2:at_[p]'(by omega)=at_.getD p 0:=by rw[List.getElem?_eq_getElem (by omega)] at ga;exact Option.some.inj ga
    generalize at_.getD p 0=a at *
    simp[show p<at_.length by omega,ga,ga2,gc,h2,eRCall,h4,h5,hal]
    have hgp2:(ctsV rows p)[p]?.getD 0=(cfV rows p p:Int):=by rw[← List.getD_eq_getElem?_getD];exact hgp
    refine⟨by omega,by omega,by omega,by omega,by omega,by omega,⟨by omega,by omega⟩,by rw[hgp2]⟩
def ordC (n:Int):Int→List SpanT→Bool
  | _,[]=>true
  | e,s::r=>!(decide (s.fr<e) || decide (s.to≤s.fr) || decide (n<s.to)) && ordC n s.to r
structure OrcX where
  i:Nat
  e:Int
@[simp] def S_combined_ordered:List D→Prop × D:=spec2 (α:=List SpanT) (β:=Int) (fun l _=>l.length≤1000000000) (fun l n=>.bool (ordC n 0 l))
theorem ct_combined_ordered {P:Program} {f:Nat} {G:Gam} (h:CodeOf P f 2 10 [2] x_combined_ordered) (hG:GamOk P G):Has P f S_combined_ordered:=h.has2 hG fun l n p1=>by
  obtain⟨V,hV⟩:∃V,ordC n 0 l=V:=⟨_,rfl⟩
  rw[hV]
  simp[x_combined_ordered]
  refine vc_lp (σ:=OrcX) (fun z=>z.i≤l.length∧ordC n z.e (l.drop z.i)=V) (fun z=>l.length-z.i)
    (fun z=>[.any,.d (.int .i64 n),.any,.d (.int .i64 z.e),.any,.d (.sl 2 (l.map Rep.to)),.d (.int .i64 l.length),.d (.int .i64 z.i),.any,.any]) (fun _=>[]) ⟨0,0⟩ (by simp) (by simp) ⟨by simp,by simpa using hV⟩ ?_
  rintro⟨i,e⟩ ⟨i1,i2⟩
  simp only at i1 i2
  by_cases hi:i<l.length
  · have w1:IntKind.i64.wrap ((i:Int)+1)=(i:Int)+1:=wrap_in (by omega) (by omega)
    rw[List.drop_eq_getElem_cons hi,ordC] at i2
    by_cases b1:l[i].fr<e
    · have hv:V=false:=by rw[← i2];simp[b1]
      rw[hv]
      simp[hi,getD_map,b1]
    · by_cases b2:l[i].to≤l[i].fr
      · have hv:V=false:=by rw[← i2];simp[b2]
        rw[hv]
        simp[hi,getD_map,b1,b2]
      · by_cases b3:n<l[i].to
        · have hv:V=false:=by rw[← i2];simp[b3]
          rw[hv]
          simp[hi,getD_map,b1,b2,b3]
        · have hv:ordC n l[i].to (l.drop (i+1))=V:=by rw[← i2];simp[b1,b2,b3]
          simp[hi,getD_map,b1,b2,b3,w1]
          exact Nxt.mk ⟨i+1,l[i].to⟩ (by simp only;omega) (by simp) (by simp) ⟨by simp only;omega,hv⟩
  · rw[List.drop_of_length_le (by omega),ordC] at i2
    rw[← i2]
    simp[hi]
def lstI (l:List Int):List A:=l.map fun z=>A.d (.int .i64 z)
theorem cellI_l (f:Nat→Int) (n:Nat):cellI f n=lstI ((List.range (n+1)).map f):=by simp[cellI,lstI,Function.comp_def]
def Ob.intsA:Ob→List Int
  | .cells _ _ xs=>xs.map A.gi
  | _=>[]
@[simp] theorem ints_l (v e:Nat) (l:List Int):Ob.intsA (.cells v e (lstI l))=l:=by
  show (lstI l).map A.gi=l
  unfold lstI
  rw[List.map_map]
  exact (List.map_congr_left fun z _=>rfl).trans (List.map_id l)
@[simp] theorem lstI_len (l:List Int):(lstI l).length=l.length:=by simp[lstI]
@[simp] theorem lstI_ren (l:List Int) (r:Nat→Nat):(lstI l).map (A.ren r)=lstI l:=by simp[lstI,Function.comp_def,A.ren]
theorem lstI_under (l:List Int) (m:Nat):∀x,x∈lstI l→A.under m x=true:=fun x hx=>by
  obtain⟨p,_,rfl⟩:=List.mem_map.1 hx
  rfl
@[simp] theorem lstI_und (l:List Int) (m:Nat):(∀x,x∈lstI l→A.under m x=true)↔True:=iff_true_intro (lstI_under l m)
theorem lstI_isD (l:List Int):(lstI l).all A.isD=true:=by simp[lstI,A.isD]
theorem lstI_toD (l:List Int):(lstI l).map A.toD=l.map Rep.to:=by simp[lstI,Function.comp_def,A.toD]
structure CliX where
  l:List Int
  v:Nat
@[simp] def F_slices_Clone_int_int:RF CliX where
  new:=1
  view a s:=⟨(s.getD 0 .dead).intsA,(s.getD 0 .dead).ver⟩
  args x:=[.own 0 x.v 0 x.l.length]
  st x:=[.cells x.v 1 (lstI x.l),.res]
  pre x:=0<x.l.length∧x.l.length≤1000000000
  res x:=.d (.sl 1 (x.l.map Rep.to))
  st' x:=[.cells x.v 1 (lstI x.l),.tip x.l.length]
abbrev R_slices_Clone_int_int:RSpec:=F_slices_Clone_int_int.spec
theorem ct_slices_Clone_int_int {P:Program} {f:Nat} {G:Gam} (hc:CodeOf P f 1 3 [1] x_slices_Clone_int_int) (hG:GamOk P G):RSpec.Ok P f R_slices_Clone_int_int:=by
  refine RF.ok hc.call fun x hx=>?_
  obtain⟨l,v⟩:=x
  obtain⟨p1,p2⟩:=hx
  simp only at p1 p2
  refine RCalls.wk (res:=.gr 1 1 (l.map Rep.to)) (hc.rcalls hG rfl ?_) (Wk.gr _ _ _ _ _)
  have hs:src [Ob.cells v 1 (lstI l),Ob.res,Ob.tip 0,Ob.res] 1 (A.own 0 v 0 l.length)=(True,l.map Rep.to):=by
    simp only[src,List.getD_cons_zero,List.drop_zero]
    rw[List.take_of_length_le (by simp),lstI_isD,lstI_toD]
    simp
  have hb:borFp [Ob.cells v 1 (lstI l),Ob.res,Ob.tip 0,Ob.res] (A.own 0 v 0 l.length)=[(0,Ob.cells v 1 (lstI l))]:=by
    simp[borFp]
  simp[x_slices_Clone_int_int,startA,p1,hs,hb]
  refine⟨by unfold room;omega,by simp[resPre,resE],[0,2],rfl,⟨by decide,by simp,?_⟩,fun k hk=>?_,?_,?_,by simp[A.under,A.unders]⟩
  · simp[pickS,Ob.ren]
  · match k,hk with
    | 0,_=>exact .inl rfl
    | 1,_=>exact .inr rfl
  · simp[pickS,Ob.ren]
  · simp[resOf,resE,A.ren,A.rens,idxIn] <;> rfl
def rdM (s:Str):Nat→Option (Nat × Nat)
  | 0=>some (0,0)
  | p+1=>match rdM s p with
    | none=>none
    | some (a,b)=>if s.getD p 0=43 then some (a ||| 2 ^ p,b) else if s.getD p 0=45 then some (a,b ||| 2 ^ p) else if s.getD p 0=32 then some (a,b) else none
theorem rdM_lt {s:Str}:∀{p:Nat} {a b:Nat},rdM s p=some (a,b)→a<2 ^ p∧b<2 ^ p
  | 0,a,b,h=>by simp[rdM] at h;omega
  | p+1,a,b,h=>by
    rw[rdM] at h
    cases hm:rdM s p with
    | none=>rw[hm] at h;cases h
    | some x =>
      obtain⟨c,d⟩:=x
      rw[hm] at h
      obtain⟨h1,h2⟩:=rdM_lt hm
      have e:(2:Nat) ^ (p+1)=2 ^ p * 2:=Nat.pow_succ ..
      have hp:(2:Nat) ^ p<2 ^ (p+1):=by have:=Nat.two_pow_pos p;omega
      simp only at h
      split at h
      · cases h
        exact⟨Nat.or_lt_two_pow (by omega) hp,by omega⟩
      · split at h
        · cases h
          exact⟨by omega,Nat.or_lt_two_pow (by omega) hp⟩
        · split at h
          · cases h
            omega
          · cases h
theorem rdM_none {s:Str} {p:Nat} (h:rdM s p=none):∀q,p≤q→rdM s q=none:=by
  intro q hq
  induction q with
  | zero =>
    obtain rfl:p=0:=by omega
    exact h
  | succ q ih =>
    by_cases e:p=q+1
    · subst e;exact h
    · rw[rdM,ih (by omega)]
def noRow:RowT:=⟨false,0,[]⟩
def rowRd (s:Str) (n:Int):RowT × Bool :=
  if n<1∨32<n∨(s.length:Int)<n then (noRow,false) else match rdM s n.toNat with
    | none=>(noRow,false)
    | some (a,b)=>if a≠0∧b≠0 then (noRow,false) else (⟨decide (b≠0),((a ||| b:Nat):Int),s.drop n.toNat⟩,true)
theorem shl_one {p:Nat} (h:p<32):IntKind.u32.wrap ((2:Int) ^ min p IntKind.u32.bits)=((2 ^ p:Nat):Int):=by
  have e:min p IntKind.u32.bits=p:=Nat.min_eq_left (by show p≤32;omega)
  rw[e,show (2:Int) ^ p=((2 ^ p:Nat):Int) by push_cast;rfl,u32_wrap]
  exact Nat.lt_of_lt_of_le (Nat.pow_lt_pow_right (by omega) h) (Nat.le_refl _)
structure RowX where
  p:Nat
  a:Nat
  b:Nat
@[simp] def S_recombine_Row:List D→Prop × D:=spec2 (α:=Str) (β:=Int) (fun s _=>s.length≤1000000000) (fun s n=>.tup [Rep.to (rowRd s n).1,.bool (rowRd s n).2])
theorem ct_recombine_Row {P:Program} {f:Nat} {G:Gam} (h:CodeOf P f 2 16 [32002,3] x_recombine_Row) (hG:GamOk P G):Has P f S_recombine_Row:=h.has2 hG fun s n p1=>by
  obtain⟨R,hR⟩:∃R,rowRd s n=R:=⟨_,rfl⟩
  rw[hR]
  by_cases c1:n<1
  · have:R=(noRow,false):=by rw[← hR];unfold rowRd;rw[if_pos (.inl c1)]
    subst this
    simp[x_recombine_Row,c1,noRow]
  by_cases c2:32<n
  · have:R=(noRow,false):=by rw[← hR];unfold rowRd;rw[if_pos (.inr (.inl c2))]
    subst this
    simp[x_recombine_Row,c1,c2,noRow]
  by_cases c3:(s.length:Int)<n
  · have:R=(noRow,false):=by rw[← hR];unfold rowRd;rw[if_pos (.inr (.inr c3))]
    subst this
    simp[x_recombine_Row,c1,c2,c3,noRow]
  unfold rowRd at hR
  rw[if_neg (by omega)] at hR
  obtain⟨n,rfl⟩:=Int.eq_ofNat_of_zero_le (show 0≤n by omega)
  simp only[Int.toNat_natCast] at hR
  simp[x_recombine_Row,c1,c2,c3]
  refine vc_lp (σ:=RowX) (fun z=>z.p≤n∧rdM s z.p=some (z.a,z.b)) (fun z=>n-z.p)
    (fun z=>[.d (.str s),.d (.int .i64 n),.ref 0 0 0 0,.any,.d (.int .u32 z.a),.d (.int .u32 z.b),.any,.any,.d (.int .i64 n),.d (.int .i64 z.p),.any,.any,.any,.any,.any,.any])
    (fun z=>[.cells 0 3 [.d (.agg [.bool false,.int .u32 0,.str []])]]) ⟨0,0,0⟩ (by simp) (by simp) ⟨by simp,rfl⟩ ?_
  rintro⟨p,a,b⟩ ⟨i1,i2⟩
  simp only at i1 i2
  by_cases hk:p<n
  · have w1:IntKind.i64.wrap ((p:Int)+1)=(p:Int)+1:=wrap_in (by omega) (by omega)
    have hps:p<s.length:=by omega
    have hlt:=rdM_lt i2
    have h32:(2:Nat) ^ p≤2 ^ 31:=Nat.pow_le_pow_right (by omega) (by omega)
    have h31:(2:Nat) ^ 31=2147483648:=rfl
    have hsh:=shl_one (p:=p) (by omega)
    have hp2:((2:Int) ^ p % 2 ^ IntKind.u32.bits).toNat=2 ^ p % 2 ^ IntKind.u32.bits:=by
      rw[show (2:Int) ^ p=((2 ^ p:Nat):Int) by push_cast;rfl,show (2:Int) ^ IntKind.u32.bits=((2 ^ IntKind.u32.bits:Nat):Int) by push_cast;rfl,← Int.natCast_emod,Int.toNat_natCast]
    have o1:=orU2 (a:=a) (b:=2 ^ p) (by omega) (by omega)
    have o2:=orU2 (a:=b) (b:=2 ^ p) (by omega) (by omega)
    rw[← hp2] at o1 o2
    have hg:s[p]?=some s[p]:=List.getElem?_eq_getElem hps
    have hd:s.getD p 0=s[p]:=by simp[List.getD,hps]
    have hst:rdM s (p+1)=if s[p]=43 then some (a ||| 2 ^ p,b) else if s[p]=45 then some (a,b ||| 2 ^ p) else if s[p]=32 then some (a,b) else none:=by
      rw[rdM,i2,hd]
    have u8:∀x y:UInt8,x≠y→¬(x.toNat:Int)=(y.toNat:Int):=fun x y hne e=>hne (UInt8.toNat_inj.1 (by omega))
    have hnone:rdM s (p+1)=none→R=(noRow,false):=fun e=>by
      rw[rdM_none e n (by omega)] at hR
      exact hR.symm
    generalize hc:s[p]=c at *
    by_cases e1:c=43
    · subst e1
      rw[if_pos rfl] at hst
      simp[hk,hps,hg,hc,w1,hsh,o1]
      exact Nxt.mk ⟨p+1,a ||| 2 ^ p,b⟩ (by simp only;omega) (by simp) (by simp) ⟨by simp only;omega,hst⟩
    · have f1:=u8 c 43 e1
      rw[if_neg e1] at hst
      by_cases e2:c=45
      · subst e2
        rw[if_pos rfl] at hst
        simp[hk,hps,hg,hc,w1,hsh,o2]
        exact Nxt.mk ⟨p+1,a,b ||| 2 ^ p⟩ (by simp only;omega) (by simp) (by simp) ⟨by simp only;omega,hst⟩
      · have f2:=u8 c 45 e2
        rw[if_neg e2] at hst
        by_cases e3:c=32
        · subst e3
          rw[if_pos rfl] at hst
          simp[hk,hps,hg,hc,w1]
          exact Nxt.mk ⟨p+1,a,b⟩ (by simp only;omega) (by simp) (by simp) ⟨by simp only;omega,hst⟩
        · have f3:=u8 c 32 e3
          rw[if_neg e3] at hst
          rw[hnone hst]
          simp at f1 f2 f3
          simp[hk,hps,hg,hc,f1,f2,f3,noRow]
  · obtain rfl:p=n:=by omega
    rw[i2] at hR
    simp only at hR
    have hlt:=rdM_lt i2
    have h32:(2:Nat) ^ p≤2 ^ 32:=Nat.pow_le_pow_right (by omega) (by omega)
    have h31:(2:Nat) ^ 32=4294967296:=rfl
    have o1:=orU2 (a:=a) (b:=b) (by omega) (by omega)
    have hps:p≤s.length:=by omega
    have htk:List.take (s.length-p) (s.drop p)=s.drop p:=List.take_of_length_le (by simp)
    by_cases b1:a=0
    · rw[if_neg (by simp[b1])] at hR
      subst hR
      by_cases b2:b=0
      · subst b1 b2
        simp at o1
        simp[hps,htk,o1]
      · subst b1
        simp at o1
        simp[hps,htk,o1,b2]
    · by_cases b2:b=0
      · rw[if_neg (by simp[b2])] at hR
        subst hR
        subst b2
        simp at o1
        simp[hps,htk,o1,b1]
      · rw[if_pos ⟨b1,b2⟩] at hR
        subst hR
        simp[b1,b2,noRow]
def linesSD (s:Str):D:=if s=[] then .tup [.nilsl,.bool true] else if Lib.hasSuffix s [10]=true then .tup [Rep.to (linesS s).1,.bool true] else .tup [.nilsl,.bool false]
@[simp] def S_strict_Lines:List D→Prop × D:=spec1 (α:=Str) (fun s=>s.length≤16777216) (fun s=>linesSD s)
theorem ct_strict_Lines {P:Program} {f g1 g2:Nat} {G:Gam} (h:CodeOf P f 1 6 [1,2] (x_strict_Lines g1 g2)) (hG:GamOk P G) (h1:G.find g1=some S_strings_CutSuffix) (h2:G.find g2=some S_strings_Split):Has P f S_strict_Lines:=h.has1 hG fun s hp=>by
  by_cases c:s=[]
  · subst c
    have e:linesSD []=.tup [.nilsl,.bool true]:=rfl
    rw[e]
    simp[x_strict_Lines]
  · cases c2:Lib.hasSuffix s [10] with
    | true =>
      have hl:(cutSuf s [10]).length≤s.length:=by unfold cutSuf;split <;> simp
      have e:linesSD s=.tup [Rep.to (Lib.splitK [10] 0 (Lib.count (cutSuf s [10]) [10]) (cutSuf s [10])),.bool true]:=by
        unfold linesSD linesS
        rw[if_neg c,if_pos c2,if_neg c,if_pos c2]
      rw[e]
      simp[x_strict_Lines,c,h1,c2,h2,show s.length≤9223372036854775807 by omega,show (cutSuf s [10]).length<4294967281 by omega]
    | false =>
      have e:linesSD s=.tup [.nilsl,.bool false]:=by
        unfold linesSD
        rw[if_neg c,if_neg (by rw[c2];simp)]
      rw[e]
      simp[x_strict_Lines,c,h1,c2,show s.length≤9223372036854775807 by omega]
theorem objsL_app:∀a b:List A,A.objsL (a++b)=A.objsL a++A.objsL b
  | [],b=>by simp[A.objsL]
  | x::a,b=>by simp only[List.cons_append,A.objsL,objsL_app a b,List.append_assoc]
theorem objsL_d {α:Type} (f:α→D):∀l:List α,A.objsL (l.map fun x=>.d (f x))=[]
  | []=>rfl
  | x::l=>by simp only[List.map_cons,A.objsL,A.objs,objsL_d f l,List.nil_append]
end Go.AE
namespace Go.AE
theorem WkE.app {n:Nat} {k:List Ob} {e:Nat} {xs ys us vs:List A} (h1:WkE n k e xs ys) (h2:WkE n k e us vs):WkE n k e (xs++us) (ys++vs):=by
  obtain⟨a1,a2⟩:=h1
  obtain⟨b1,b2⟩:=h2
  refine⟨by simp[a1,b1],fun i hi=>?_⟩
  by_cases c:i<xs.length
  · have:=a2 i c
    rw[show (xs++us).getD i .any=xs.getD i .any by simp[List.getD,List.getElem?_append,c],show (ys++vs).getD i .any=ys.getD i .any by simp[List.getD,List.getElem?_append,show i<ys.length by omega]]
    exact this
  · have:=b2 (i-xs.length) (by simp at hi;omega)
    rw[show (xs++us).getD i .any=us.getD (i-xs.length) .any by simp[List.getD,List.getElem?_append,c],show (ys++vs).getD i .any=vs.getD (i-xs.length) .any by simp[List.getD,List.getElem?_append,show ¬i<ys.length by omega,a1]]
    exact this
theorem idxIn4:idxIn [0,1,2,4] 0=0∧idxIn [0,1,2,4] 1=1∧idxIn [0,1,2,4] 2=2∧idxIn [0,1,2,4] 4=3:=by decide
def FzE (l ver esz:Nat) (zs:List A) (e:Nat) (xs ys:List A):Prop:=xs.length=ys.length∧∀i,i<xs.length→((ys.getD i .any).fits e=true∧FzL l ver esz zs (xs.getD i .any).cells (ys.getD i .any).cells)
theorem FzE.app {l ver esz:Nat} {zs:List A} {e:Nat} {xs ys us vs:List A} (h1:FzE l ver esz zs e xs ys) (h2:FzE l ver esz zs e us vs):FzE l ver esz zs e (xs++us) (ys++vs):=by
  obtain⟨a1,a2⟩:=h1
  obtain⟨b1,b2⟩:=h2
  refine⟨by simp[a1,b1],fun i hi=>?_⟩
  by_cases c:i<xs.length
  · have:=a2 i c
    rw[show (xs++us).getD i .any=xs.getD i .any by simp[List.getD,List.getElem?_append,c],show (ys++vs).getD i .any=ys.getD i .any by simp[List.getD,List.getElem?_append,show i<ys.length by omega]]
    exact this
  · have:=b2 (i-xs.length) (by simp at hi;omega)
    rw[show (xs++us).getD i .any=us.getD (i-xs.length) .any by simp[List.getD,List.getElem?_append,c],show (ys++vs).getD i .any=vs.getD (i-xs.length) .any by simp[List.getD,List.getElem?_append,show ¬i<ys.length by omega,a1]]
    exact this
theorem FzE.refl {l ver esz:Nat} {zs:List A} {e:Nat} {xs:List A} (h:∀x,x∈xs→x.fits e=true):FzE l ver esz zs e xs xs :=
  ⟨rfl,fun i hi=>⟨h _ (by simp[List.getD,hi]),FzL.refl _ _ _ _ _⟩⟩
theorem FzE.one {l ver esz:Nat} {zs:List A} {e:Nat} {x y:A} (h1:y.fits e=true) (h2:FzL l ver esz zs x.cells y.cells):FzE l ver esz zs e [x] [y] :=
  ⟨rfl,fun i hi=>by
    obtain rfl:i=0:=by simp at hi;omega
    exact⟨h1,h2⟩⟩
theorem FzE.ob {l ver esz v:Nat} {zs:List A} {e:Nat} {xs ys:List A} (h:FzE l ver esz zs e xs ys):FzO l ver esz zs (.cells v e xs) (.cells v e ys):=.inr ⟨v,e,xs,ys,rfl,rfl,h.1,h.2⟩
def splitC (c:UInt8) (cur:Str):Str→List Str
  | []=>[cur]
  | x::s=>if x=c then cur::splitC c [] s else splitC c (cur++[x]) s
theorem occC (c:UInt8) (s:Str) (j:Nat):Lib.occAt s [c] j=true↔s[j]?=some c:=by
  unfold Lib.occAt
  rw[List.isPrefixOf_iff_prefix]
  constructor
  · rintro⟨t,ht⟩
    have:(s.drop j)[0]?=some c:=by rw[← ht];rfl
    simpa using this
  · intro h
    obtain⟨h1,h2⟩:=List.getElem?_eq_some_iff.1 h
    exact⟨s.drop (j+1),by rw[List.drop_eq_getElem_cons h1,h2];rfl⟩
theorem splitC_none (c:UInt8):∀(s cur:Str),(∀j:Nat,s[j]?≠some c)→splitC c cur s=[cur++s]
  | [],cur,_=>by simp[splitC]
  | x::s,cur,h=>by
    have h0:x≠c:=fun e=>h 0 (by simp[e])
    simp only[splitC,if_neg h0]
    rw[splitC_none c s (cur++[x]) fun j=>h (j+1)]
    simp
theorem splitC_some (c:UInt8):∀(s cur:Str) (i:Nat),s[i]?=some c→(∀j:Nat,j<i→s[j]?≠some c)→splitC c cur s=(cur++s.take i)::splitC c [] (s.drop (i+1))
  | [],_,i,h,_=>by simp at h
  | x::s,cur,0,h,_=>by
    simp at h
    simp[splitC,h]
  | x::s,cur,i+1,h,h2=>by
    have h0:x≠c:=fun e=>h2 0 (by omega) (by simp[e])
    simp only[splitC,if_neg h0]
    rw[splitC_some c s (cur++[x]) i (by simpa using h) fun j hj=>h2 (j+1) (by omega)]
    simp
theorem firstC (c:UInt8) (s:Str):(∀j:Nat,s[j]?≠some c)∨∃i,s[i]?=some c∧∀j:Nat,j<i→s[j]?≠some c:=by
  induction s with
  | nil=>exact .inl (by simp)
  | cons x s ih =>
    by_cases h:x=c
    · exact .inr ⟨0,by simp[h],by omega⟩
    · rcases ih with ih | ⟨i,h1,h2⟩
      · refine .inl fun j=>?_
        cases j with
        | zero=>simpa using h
        | succ j=>simpa using ih j
      · refine .inr ⟨i+1,by simpa using h1,fun j hj=>?_⟩
        cases j with
        | zero=>simpa using h
        | succ j=>simpa using h2 j (by omega)
theorem splitK_C (c:UInt8):∀(k:Nat) (s:Str),Lib.count s [c]=k→Lib.splitK [c] 0 k s=splitC c [] s:=by
  intro k
  induction k with
  | zero =>
    intro s hk
    rcases firstC c s with h | ⟨i,h1,h2⟩
    · rw[splitC_none c s [] h];rfl
    · have hi:Lib.index s [c]=i:=Lib.index_first (by have:=List.getElem?_eq_some_iff.1 h1;obtain⟨h3,_⟩:=this;omega) ((occC c s i).2 h1) fun j hj=>by
        have:=h2 j hj
        cases h3:Lib.occAt s [c] j with
        | false=>rfl
        | true=>exact absurd ((occC c s j).1 h3) this
      have:=Lib.count_hit (by simp) hi
      omega
  | succ k ih =>
    intro s hk
    rcases firstC c s with h | ⟨i,h1,h2⟩
    · have hi:Lib.index s [c]=-1:=Lib.index_none fun j hj=>by
        cases h3:Lib.occAt s [c] j with
        | false=>rfl
        | true=>exact absurd ((occC c s j).1 h3) (h j)
      have:=Lib.count_miss hi
      omega
    · have hi:Lib.index s [c]=i:=Lib.index_first (by have:=List.getElem?_eq_some_iff.1 h1;obtain⟨h3,_⟩:=this;omega) ((occC c s i).2 h1) fun j hj=>by
        have:=h2 j hj
        cases h3:Lib.occAt s [c] j with
        | false=>rfl
        | true=>exact absurd ((occC c s j).1 h3) this
      have hc:=Lib.count_hit (by simp) hi
      have hn:¬((i:Int) == -1)=true:=by simp
      simp only[Lib.splitK,hi,hn,if_false,Int.toNat_natCast,List.length_singleton]
      simp only[List.length_singleton] at hc
      rw[ih _ (by omega),splitC_some c s [] i h1 h2]
      simp
theorem splitC_len (c:UInt8):∀(s cur:Str),flen (splitC c cur s)≤cur.length+s.length∧(splitC c cur s).length≤s.length+1
  | [],cur=>by simp[splitC,flen]
  | x::s,cur=>by
    have h1:=splitC_len c s []
    have h2:=splitC_len c s (cur++[x])
    simp only[splitC]
    split
    · simp only[flen,List.flatten_cons,List.length_append,List.length_cons,List.length_nil] at *
      omega
    · simp only[List.length_append,List.length_cons,List.length_nil] at *
      omega
theorem linesS_len (s:Str):flen (linesS s).1≤s.length∧(linesS s).1.length≤s.length+1:=by
  unfold linesS
  split
  · simp[flen]
  · split
    · simp only
      rw[splitK_C 10 _ _ rfl]
      have h1:=splitC_len 10 (cutSuf s [10]) []
      have h2:(cutSuf s [10]).length≤s.length:=by unfold cutSuf;split <;> simp
      simp only[List.length_nil] at h1
      omega
    · simp[flen]
structure RsT where
  path:Str
  dense:Bool
  par:Int
  done:List CHunkT
  cur:Option CHunkT
  deriving DecidableEq
def ccP:Str:=[100,105,102,102,32,45,45,99,99,32]
def cbP:Str:=[100,105,102,102,32,45,45,99,111,109,98,105,110,101,100,32]
def parP:Str:=[112,97,114,101,110,116,115,32]
def titR (dense:Bool) (r b:Str):RsT × Bool :=
  (⟨((unqV r 0).getD ([],0)).1,dense,((numV (cutPre b parP) 0).getD (0,0)).1,[],none⟩,
    Lib.hasPrefix b parP && (unqV r 0).isSome && decide (((unqV r 0).getD ([],0)).2=r.length) && (numV (cutPre b parP) 0).isSome && decide (((numV (cutPre b parP) 0).getD (0,0)).2=(cutPre b parP).length) && decide (1≤((numV (cutPre b parP) 0).getD (0,0)).1) && decide (((numV (cutPre b parP) 0).getD (0,0)).1≤32))
def titV (a b:Str):RsT × Bool :=
  if Lib.hasPrefix a ccP=true then titR true (a.drop 10) b else if Lib.hasPrefix a cbP=true then titR false (a.drop 16) b else (⟨[],false,0,[],none⟩,false)
def wordR (sg w:Str):Option Int :=
  if Lib.hasPrefix w sg=true then (match rangeV (w.drop 1) 0 with
    | none=>none
    | some x=>if x.2.2=(w.drop 1).length then some x.1 else none) else none
def wordsR (n:Int):List Int→List Str→Option (List Int)
  | acc,[]=>some acc
  | acc,w::ws=>match wordR (if (acc.length:Int)=n then [43] else [45]) w with
    | none=>none
    | some a=>wordsR n (acc++[a]) ws
def splS (s:Str):List Str:=Lib.splitK [32] 0 (Lib.count s [32]) s
def headR (n:Nat) (line:Str):Option (List Int) :=
  if Lib.hasPrefix line (atsW n++[32])=true then
    (if Lib.hasSuffix (line.drop (n+2)) (32::atsW n)=true then wordsR n [] (splS ((line.drop (n+2)).take ((line.drop (n+2)).length-(n+2)))) else none) else none
def endRow:List RowT→List RowT
  | []=>[]
  | [x]=>[⟨x.lost,x.marks,Lib.trimSuffix x.text [10]⟩]
  | x::y::r=>x::endRow (y::r)
def lineR (x:RsT) (line:Str):Option RsT :=
  if Lib.hasPrefix line [64]=true then (match headR x.par.toNat line with
    | none=>none
    | some a=>if (a.length:Int)=x.par+1 then some ⟨x.path,x.dense,x.par,x.done++x.cur.toList,some ⟨a,[]⟩⟩ else none)
  else match x.cur with
    | none=>none
    | some h=>if line=unendL then (if h.rows=[] then none else some ⟨x.path,x.dense,x.par,x.done,some ⟨h.at_,endRow h.rows⟩⟩) else
      if (rowRd (line++[10]) x.par).2=true then some ⟨x.path,x.dense,x.par,x.done,some ⟨h.at_,h.rows++[(rowRd (line++[10]) x.par).1]⟩⟩ else none
def foldR:RsT→List Str→Option RsT
  | x,[]=>some x
  | x,l::r=>match lineR x l with
    | none=>none
    | some y=>foldR y r
def RsT.hunks (x:RsT):List CHunkT:=x.done++x.cur.toList
def parseR (l:List Str):Option CombT :=
  if l.length<2 then none else
    if (titV (l.getD 0 []) (l.getD 1 [])).2=true then (match foldR (titV (l.getD 0 []) (l.getD 1 [])).1 (l.drop 2) with
      | none=>none
      | some x=>some ⟨x.path,x.dense,x.par,x.hunks⟩)
    else none
def noC:CombT:=⟨[],false,0,[]⟩
def readC (s:Str):CombT × Int :=
  if 16777216<s.length then (noC,1) else if (linesS s).2=false then (noC,4) else
    match parseR (linesS s).1 with
    | none=>(noC,4)
    | some c=>if chkC c=0∧writC c=s then (c,0) else (noC,4)
theorem readC_ok {s:Str} (h:(readC s).2=0):chkC (readC s).1=0∧writC (readC s).1=s:=by
  unfold readC at *
  split
  · rename_i c;rw[if_pos c] at h;simp at h
  · rename_i c
    rw[if_neg c] at h
    split
    · rename_i c2;rw[if_pos c2] at h;simp at h
    · rename_i c2
      rw[if_neg c2] at h
      cases hp:parseR (linesS s).1 with
      | none=>rw[hp] at h;simp at h
      | some p =>
        rw[hp] at h
        simp only at h ⊢
        by_cases c3:chkC p=0∧writC p=s
        · rw[if_pos c3];exact c3
        · rw[if_neg c3] at h;simp at h
theorem readC_bad {s:Str} (h:(readC s).2≠0):(readC s).1=noC:=by
  unfold readC at *
  split
  · rfl
  · rename_i c
    rw[if_neg c] at h
    split
    · rfl
    · rename_i c2
      rw[if_neg c2] at h
      cases hp:parseR (linesS s).1 with
      | none=>rfl
      | some p =>
        rw[hp] at h
        simp only at h ⊢
        by_cases c3:chkC p=0∧writC p=s
        · rw[if_pos c3] at h;exact absurd rfl h
        · rw[if_neg c3]
/-! ### how great it may become -/
def rwM (x:RowT):Nat:=62+x.text.length
def chunkM (n:Nat) (h:CHunkT):Nat:=47 * (n+1)+10+(h.rows.map rwM).sum
def chunksM (n:Nat) (l:List CHunkT):Nat:=(l.map (chunkM n)).sum
theorem rowW_leM (x:RowT) {n:Nat} (hn:n≤32):(rowW x n).length≤rwM x:=by
  rw[rowW_len]
  unfold rwM
  split <;> omega
theorem rowsW_leM {n:Nat} (hn:n≤32):∀l:List RowT,(l.flatMap fun r=>rowW r n).length≤(l.map rwM).sum
  | []=>by simp
  | x::r=>by
    have:=rowsW_leM hn r
    have:=rowW_leM x hn
    simp only[List.flatMap_cons,List.length_append,List.map_cons,List.sum_cons]
    omega
theorem headC_leM (h:CHunkT) (n:Nat):(headC h n).length≤47 * (n+1)+10:=by
  have h1:=ranges_len h.at_ (ctsV h.rows n) n
  have h2:=frange_len (h.at_.getD n 0) ((ctsV h.rows n).getD n 0)
  have h3:(atsW n).length=n+1:=by simp[atsW]
  unfold headC
  simp only[List.length_append,List.length_cons,List.length_nil,h3]
  omega
theorem hunkC_leM (h:CHunkT) {n:Nat} (hn:n≤32):(hunkC n h).length≤chunkM n h:=by
  have h1:=headC_leM h n
  have h2:=rowsW_leM hn h.rows
  unfold hunkC chunkM
  rw[List.length_append]
  omega
theorem hunksC_leM {n:Nat} (hn:n≤32):∀l:List CHunkT,(l.flatMap (hunkC n)).length≤chunksM n l
  | []=>by simp
  | x::r=>by
    have:=hunksC_leM hn r
    have:=hunkC_leM x hn
    simp only[List.flatMap_cons,List.length_append,chunksM,List.map_cons,List.sum_cons] at *
    omega
theorem chunksM_app (n:Nat) (a b:List CHunkT):chunksM n (a++b)=chunksM n a+chunksM n b:=by simp[chunksM]
theorem rows_leM (l:List RowT):62 * l.length≤(l.map rwM).sum:=by
  induction l with
  | nil=>simp
  | cons x r ih=>simp only[List.length_cons,List.map_cons,List.sum_cons,rwM] at *;omega
theorem chunks_leM (n:Nat) (l:List CHunkT):57 * l.length≤chunksM n l:=by
  induction l with
  | nil=>simp
  | cons x r ih=>simp only[List.length_cons,chunksM,List.map_cons,List.sum_cons,chunkM] at *;omega
theorem chunk_leM (n:Nat) {l:List CHunkT} {h:CHunkT} (hh:h∈l):chunkM n h≤chunksM n l:=by
  induction l with
  | nil=>simp at hh
  | cons x r ih =>
    simp only[chunksM,List.map_cons,List.sum_cons] at *
    rcases List.mem_cons.1 hh with rfl | hh
    · omega
    · have:=ih hh;omega
theorem endRow_spec:∀l:List RowT,((endRow l).map rwM).sum≤(l.map rwM).sum∧(endRow l).length=l.length∧∀y,y∈endRow l→∃x,x∈l∧y.marks=x.marks∧y.text.length≤x.text.length
  | []=>⟨Nat.le_refl _,rfl,fun y hy=>by simp[endRow] at hy⟩
  | [x]=>by
    have:(Lib.trimSuffix x.text [10]).length≤x.text.length:=by unfold Lib.trimSuffix;split <;> simp
    refine⟨by simp[endRow,rwM];omega,rfl,fun y hy=>?_⟩
    simp[endRow] at hy
    subst hy
    exact⟨x,by simp,rfl,this⟩
  | x::y::r=>by
    obtain⟨h1,h2,h3⟩:=endRow_spec (y::r)
    refine⟨?_,by simp[endRow,h2],fun z hz=>?_⟩
    · simp only[endRow,List.map_cons,List.sum_cons] at *
      omega
    · rw[endRow] at hz
      rcases List.mem_cons.1 hz with rfl | hz
      · exact⟨z,by simp,rfl,Nat.le_refl _⟩
      · obtain⟨u,hu,h4,h5⟩:=h3 z hz
        exact⟨u,List.mem_cons_of_mem _ hu,h4,h5⟩
def RsT.M (x:RsT):Nat:=chunksM x.par.toNat x.hunks
structure RsOk (x:RsT) (N:Nat):Prop where
  m:x.M≤N
  none:x.cur=Option.none→x.done=[]
  oks:∀h,h∈x.hunks→h.at_.length≤33∧RowsOk h.rows
  path:x.path.length≤1048576
  p1:1≤x.par
  p2:x.par≤32
theorem rowRd_ok {s:Str} {n:Int} (hs:s.length≤4194304):rowOk (rowRd s n).1∧(rowRd s n).1.text.length≤s.length:=by
  have h0:rowOk noRow∧noRow.text.length≤s.length:=⟨⟨by simp[noRow],by simp[noRow]⟩,by simp[noRow]⟩
  unfold rowRd
  split
  · exact h0
  · rename_i c
    split
    · exact h0
    · rename_i a b hm
      split
      · exact h0
      · obtain⟨h1,h2⟩:=rdM_lt hm
        have h3:(2:Nat) ^ n.toNat≤2 ^ 32:=Nat.pow_le_pow_right (by omega) (by omega)
        have h4:a ||| b<2 ^ 32:=Nat.or_lt_two_pow (by omega) (by omega)
        refine⟨⟨by simp only;omega,by simp only;omega⟩,by simp⟩
theorem head_lenR {n:Nat} {line:Str} {a:List Int} (h:headR n line=some a):n+2≤line.length:=by
  unfold headR at h
  split at h
  · rename_i c
    unfold Lib.hasPrefix at c
    have:=(List.isPrefixOf_iff_prefix.1 c).length_le
    simp[atsW] at this
    omega
  · cases h
theorem RsOk.step {x y:RsT} {N:Nat} {line:Str} (h:RsOk x N) (hs:lineR x line=some y) (hl:line.length≤1048576):RsOk y (N+63+47 * line.length):=by
  unfold lineR at hs
  split at hs
  · split at hs
    · cases hs
    · rename_i a ha
      split at hs
      · rename_i hal
        cases hs
        refine⟨?_,by simp,fun g hg=>?_,h.path,h.p1,h.p2⟩
        · have:=h.m
          have:=head_lenR ha
          simp only[RsT.M,RsT.hunks,Option.toList_some,chunksM_app] at *
          simp[chunksM,chunkM] at *
          omega
        · simp only[RsT.hunks,Option.toList_some,List.mem_append,List.mem_singleton] at hg
          rcases hg with hg | rfl
          · exact h.oks g (by simpa [RsT.hunks] using hg)
          · have:=h.p2
            exact⟨by simp only;omega,fun r hr=>by simp at hr⟩
      · cases hs
  · cases hc:x.cur with
    | none=>rw[hc] at hs;cases hs
    | some c =>
      rw[hc] at hs
      simp only at hs
      have hm:=h.m
      have hco:=h.oks c (by simp[RsT.hunks,hc])
      split at hs
      · split at hs
        · cases hs
        · cases hs
          obtain⟨e1,e2,e3⟩:=endRow_spec c.rows
          refine⟨?_,by simp,fun g hg=>?_,h.path,h.p1,h.p2⟩
          · simp only[RsT.M,RsT.hunks,hc,Option.toList_some,chunksM_app] at *
            simp[chunksM,chunkM] at *
            omega
          · simp only[RsT.hunks,Option.toList_some,List.mem_append,List.mem_singleton] at hg
            rcases hg with hg | rfl
            · exact h.oks g (by simp[RsT.hunks,hg])
            · refine⟨hco.1,fun r hr=>?_⟩
              obtain⟨u,hu,h4,h5⟩:=e3 r hr
              have:=hco.2 u hu
              exact⟨by unfold rowOk;rw[h4];exact this.1,by omega⟩
      · split at hs
        · cases hs
          obtain⟨r1,r2⟩:=rowRd_ok (s:=line++[10]) (n:=x.par) (by simp;omega)
          rw[List.length_append,List.length_singleton] at r2
          generalize (rowRd (line++[10]) x.par).1=R at *
          refine⟨?_,by simp,fun g hg=>?_,h.path,h.p1,h.p2⟩
          · simp only[RsT.M,RsT.hunks,hc,Option.toList_some,chunksM_app] at *
            simp[chunksM,chunkM,rwM] at *
            omega
          · simp only[RsT.hunks,Option.toList_some,List.mem_append,List.mem_singleton] at hg
            rcases hg with hg | rfl
            · exact h.oks g (by simp[RsT.hunks,hg])
            · refine⟨hco.1,fun r hr=>?_⟩
              simp only[List.mem_append,List.mem_singleton] at hr
              rcases hr with hr | rfl
              · exact hco.2 r hr
              · exact⟨r1,by omega⟩
        · cases hs
theorem foldR_ok:∀(R:List Str) (x y:RsT) (N:Nat),RsOk x N→foldR x R=some y→flen R≤1048576→RsOk y (N+63 * R.length+47 * flen R)
  | [],x,y,N,h,hf,_=>by
    simp only[foldR,Option.some.injEq] at hf
    subst hf
    simpa [flen] using h
  | l::R,x,y,N,h,hf,hl=>by
    simp only[foldR] at hf
    have e:flen (l::R)=l.length+flen R:=by simp[flen]
    rw[e] at hl
    cases hs:lineR x l with
    | none=>rw[hs] at hf;cases hf
    | some z =>
      rw[hs] at hf
      have:=foldR_ok R z y _ (h.step hs (by omega)) hf (by omega)
      rw[e,List.length_cons]
      rw[show N+63 * (R.length+1)+47 * (l.length+flen R)=N+63+47 * l.length+63 * R.length+47 * flen R by omega]
      exact this
theorem unq_len {s:Str} {x:Str × Nat} (h:unqV s 0=some x):x.1.length≤s.length:=by
  unfold unqV at h
  split at h
  · cases h
  · split at h
    · cases h
      have:=(wordV_rng (s:=s) (i:=(0:Int).toNat) (by simp)).2.2
      simp at this ⊢
      omega
    · cases h
theorem titR_ok {dense:Bool} {r b:Str} (h:(titR dense r b).2=true) (hr:r.length≤1048576):RsOk (titR dense r b).1 0:=by
  unfold titR at *
  simp only[Bool.and_eq_true,decide_eq_true_eq] at h
  refine⟨by simp[RsT.M,RsT.hunks,chunksM],fun _=>rfl,fun g hg=>by simp[RsT.hunks] at hg,?_,h.1.2,h.2⟩
  cases hu:unqV r 0 with
  | none=>simp
  | some x =>
    have:=unq_len hu
    simp only[Option.getD_some]
    omega
theorem titV_ok {a b:Str} (h:(titV a b).2=true) (ha:a.length≤1048576):RsOk (titV a b).1 0:=by
  unfold titV at *
  split
  · rename_i c
    rw[if_pos c] at h
    exact titR_ok h (by simp;omega)
  · rename_i c
    rw[if_neg c] at h
    split
    · rename_i c2
      rw[if_pos c2] at h
      exact titR_ok h (by simp;omega)
    · rename_i c2
      rw[if_neg c2] at h
      cases h
theorem RsOk.comb {x:RsT} {N:Nat} (h:RsOk x N) (hN:N≤900000000):CombOk ⟨x.path,x.dense,x.par,x.hunks⟩:=by
  have hm:=h.m
  have hp:=h.path
  have h2:=h.p2
  have hw:=hunksC_leM (n:=x.par.toNat) (by omega) x.hunks
  have hn:=chunks_leM x.par.toNat x.hunks
  have hq:=quote_len x.path
  have hf:=fmt_len x.par
  simp only[RsT.M] at hm
  refine⟨by simp only;omega,hp,fun g hg=>?_,?_⟩
  · have hg:g∈x.hunks:=hg
    obtain⟨q1,q2⟩:=h.oks g hg
    have:=chunk_leM x.par.toNat hg
    have:=rows_leM g.rows
    unfold chunkM at *
    exact⟨by omega,by omega,q2⟩
  · have ht:(titleW ⟨x.path,x.dense,x.par,x.hunks⟩).length≤50+(quoteV x.path).length+(fmtV x.par).length:=by
      unfold titleW
      simp only[List.length_append,List.length_cons,List.length_nil]
      split <;> simp <;> omega
    unfold writC
    rw[List.length_append]
    simp only
    omega
theorem parseR_ok {l:List Str} {c:CombT} (h:parseR l=some c) (h1:flen l≤1048576) (h2:l.length≤1048577):CombOk c:=by
  unfold parseR at h
  split at h
  · cases h
  · rename_i hlen
    split at h
    · rename_i ht
      have g0:(l.getD 0 []).length≤flen l:=by
        have:=mem_flat_le (l:=l) (i:=0) (by omega)
        have e:l.getD 0 []=l[0]:=by simp[List.getD,show 0<l.length by omega]
        unfold flen
        rw[e]
        omega
      have hfr:flen (l.drop 2)≤1048576:=by have:=flen_take l 2;omega
      have hlr:(l.drop 2).length=l.length-2:=by simp
      have h0:=titV_ok ht (by omega)
      generalize titV (l.getD 0 []) (l.getD 1 [])=a at *
      split at h
      · cases h
      · rename_i x hx
        cases h
        exact (foldR_ok _ _ _ 0 h0 hx (by omega)).comb (by omega)
    · cases h
end Go.AE
