/-
  A contract of a function out of what its abstract code asks.
-/
import Derived.Test.YtafcebkjmeinnaaGreatDoorAe2
import Derived.Carry
import Derived.ChangeSame
import Derived.Deep.Slices
import Derived.Deep.Strs
import Derived.IntWalk
import Derived.JoinedCond
import Derived.OpenShut

set_option linter.unusedSimpArgs false
set_option linter.unusedVariables false
set_option linter.unnecessarySimpa false
namespace Go.AE
mutual
def LeD:D→D→Prop
  | .tup as,y=>match y with | .tup bs=>LeDs as bs | _=>False
  | .agg as,y=>match y with | .agg bs=>LeDs as bs | _=>False
  | .nilsl,y=>match y with | .sl _ xs=>xs=[] | y=>y=.nilsl
  | .bool b,y=>y=.bool b
  | .int k n,y=>y=.int k n
  | .str s,y=>y=.str s
  | .nilp,y=>y=.nilp
  | .nilif,y=>y=.nilif
  | .nilfn,y=>y=.nilfn
  | .nilmp,y=>y=.nilmp
  | .sl e xs,y=>y=.sl e xs
  | .iface t x,y=>y=.iface t x
  | .fn f a b,y=>y=.fn f a b
def LeDs:List D→List D→Prop
  | [],y=>y=[]
  | a::as,y=>match y with | b::bs=>LeD a b∧LeDs as bs | []=>False
end
theorem LeDs.get:∀{as bs:List D},LeDs as bs→as.length=bs.length∧∀k,k<as.length→LeD (as.getD k default) (bs.getD k default)
  | [],bs,h=>by simp only[LeDs] at h;subst h;exact⟨rfl,fun k hk=>by simp at hk⟩
  | a::as,[],h=>by simp only[LeDs] at h
  | a::as,b::bs,h=>by
    simp only[LeDs] at h
    obtain⟨h1,h2⟩:=LeDs.get h.2
    refine⟨by simp[h1],fun k hk=>?_⟩
    cases k with
    | zero=>exact h.1
    | succ k=>simpa using h2 k (by simpa using hk)
theorem LeD.one {x y:D} (h:LeD x y):x.one=true→y.one=true:=by
  cases x <;> intro h1 <;> first | (simp[D.one] at h1) | skip
  case nilsl=>cases y <;> simp[LeD] at h <;> rfl
  all_goals (simp only[LeD] at h;subst h;rfl)
theorem LeD.rep {w:World} {I:Nat→Nat→Prop} {x:D} {v:Value} (r:DRep w I x v):∀{y:D},LeD x y→DRep w I y v:=by
  induction r with
  | agg cs vs hl ho hr ih =>
    intro y h
    cases y <;> simp only[LeD] at h
    rename_i ds
    obtain⟨h1,h2⟩:=LeDs.get h
    refine .agg _ _ (by omega) ?_ (fun k hk=>ih k (by omega) (h2 k (by omega)))
    rw[List.all_eq_true] at ho ⊢
    intro x hx
    obtain⟨i,hi,rfl⟩:=List.getElem_of_mem hx
    have h3:=h2 i (by omega)
    have h4:=ho _ (List.getElem_mem (by omega:i<cs.length))
    rw[getD_lt _ _ hi,getD_lt _ _ (by omega:i<cs.length)] at h3
    exact h3.one h4
  | tup cs vs hl hr ih =>
    intro y h
    cases y <;> simp only[LeD] at h
    obtain⟨h1,h2⟩:=LeDs.get h
    exact .tup _ _ (by omega) (fun k hk=>ih k (by omega) (h2 k (by omega)))
  | nilsl =>
    intro y h
    cases y <;> simp[LeD] at h
    · exact .nilsl
    · subst h;exact .sl0 _ _ _
  | bool b=>intro y h;simp only[LeD] at h;subst h;exact .bool b
  | int k n=>intro y h;simp only[LeD] at h;subst h;exact .int k n
  | str s=>intro y h;simp only[LeD] at h;subst h;exact .str s
  | nilp=>intro y h;simp only[LeD] at h;subst h;exact .nilp
  | nilif=>intro y h;simp only[LeD] at h;subst h;exact .nilif
  | nilfn=>intro y h;simp only[LeD] at h;subst h;exact .nilfn
  | nilmp=>intro y h;simp only[LeD] at h;subst h;exact .nilmp
  | sl0 e a c=>intro y h;simp only[LeD] at h;subst h;exact .sl0 e a c
  | sl esz xs b off n cap u hn hcap hsz hI hc hr ih=>intro y h;simp only[LeD] at h;subst h;exact .sl esz xs b off n cap u hn hcap hsz hI hc hr
  | iface t x v h ih=>intro y h1;simp only[LeD] at h1;subst h1;exact .iface t x v h
  | fn f fi ca vf vc h1 h2 h3 h4 ih1 ih2=>intro y h;simp only[LeD] at h;subst h;exact .fn f fi ca vf vc h1 h2 h3 h4
mutual
theorem LeD.refl:∀x:D,LeD x x
  | .tup as=>by simp only[LeD];exact LeDs.refl as
  | .agg as=>by simp only[LeD];exact LeDs.refl as
  | .nilsl | .bool _ | .int _ _ | .str _ | .nilp | .nilif | .nilfn | .nilmp | .sl _ _ | .iface _ _ | .fn _ _ _=>by simp[LeD]
theorem LeDs.refl:∀x:List D,LeDs x x
  | []=>by simp[LeDs]
  | a::as=>by simp only[LeDs];exact⟨LeD.refl a,LeDs.refl as⟩
end
def resE (T:List A) (s:Store) (k:Nat):Prop × A :=
  if k<1000 then (True,T.getD k .any) else ((eLoad s (decide (2000≤k % 10000)) (k / 10000) (T.getD (k % 1000) .any)).pre,(eLoad s (decide (2000≤k % 10000)) (k / 10000) (T.getD (k % 1000) .any)).res)
def RetOk (rs:List Nat) (r:D) (T:List A) (s:Store):Prop :=
  match rs with
  | [k]=>(resE T s k).1∧(bor s (resE T s k).2).1∧LeD (bor s (resE T s k).2).2 r
  | rs=>(∀k,k∈rs→(resE T s k).1)∧allOf (rs.map fun k=>bor s (resE T s k).2)∧LeD (D.tup (rs.map fun k=>(bor s (resE T s k).2).2)) r
def Fin (rs:List Nat) (r:D):XE→List A→Store→Prop
  | .exit _,_,_=>False
  | _,T,s=>RetOk rs r T s
def start (args:List D) (n:Nat):List A:=args.map .d++List.replicate (n-args.length) .any
def rdRes (tmps:Array Value):ResultVar→Sem Value
  | .tmp t=>pure (tmps.getD t undef)
  | .cell a t=>do loadVar t (← asAddr (tmps.getD a undef))
def tupV:List Value→Value
  | [v]=>v
  | vs=>.tuple vs.toArray
theorem results_run {P:Program} {fn:Func} {tmps:Array Value} {w:World} {vs:List Value} (hl:fn.results.toList.length=vs.length) (hv:∀i,i<vs.length→(rdRes tmps (fn.results.toList.getD i default)).run P w=.ok (vs.getD i undef) w) :
    (results fn tmps).run P w=.ok (tupV vs) w:=by
  have key:(fn.results.mapM (rdRes tmps)).run P w=.ok vs.toArray w:=by
    rw[Array.mapM_eq_mapM_toList]
    generalize fn.results.toList=l at *
    have key:(List.mapM (rdRes tmps) l).run P w=.ok vs w:=by
      induction l generalizing vs with
      | nil =>
        cases vs with
        | nil=>rfl
        | cons v vs=>simp at hl
      | cons x l ih =>
        cases vs with
        | nil=>simp at hl
        | cons v vs =>
          have h0:=hv 0 (by simp)
          simp at h0
          simp only[List.mapM_cons,Sem.run_bind,Sem.run_pure,h0,Result.andThen_ok,ih (vs:=vs) (by simpa using hl) (fun i hi=>by simpa using hv (i+1) (by simpa using hi))]
    simp only[Sem.run_map,key,Result.andThen_ok]
  have e:∀g:ResultVar→Sem Value,(∀x,g x=rdRes tmps x)→fn.results.mapM g=fn.results.mapM (rdRes tmps):=fun g hg=>by rw[funext hg]
  unfold results
  simp only[Sem.run_bind]
  rw[e _ (fun x=>by cases x <;> rfl),key]
  simp only[Result.andThen_ok,Sem.run_pure]
  match vs with
  | []=>rfl
  | [t]=>rfl
  | a::b::r=>simp[tupV]
def resCode (P:Program) (vars:List Tmp) (k:Nat):ResultVar→Bool
  | .tmp t=>decide (k<1000) && t == vars.getD k 0 && decide (k<vars.length)
  | .cell t ty=>decide (1000≤k) && t == vars.getD (k % 1000) 0 && decide (k % 1000<vars.length) && tagg P ty == some (decide (2000≤k % 10000)) && tsize P ty == some (k / 10000)
theorem rdRes_run {P:Program} {w:World} {M:Mem} {s:Store} (g:Good w M s) {vars:List Tmp} {k:Nat} {x:ResultVar} (hc:resCode P vars k x=true) {tmps:Array Value} {T:List A} (hv:∀k d,vars[k]?=some d→ARep w M s (T.getD k .any) (tmps.getD d undef)) (hp:(resE T s k).1) :
    ∃v,(rdRes tmps x).run P w=.ok v w∧ARep w M s (resE T s k).2 v:=by
  cases x with
  | tmp t =>
    simp only[resCode,Bool.and_eq_true,decide_eq_true_eq,beq_iff_eq] at hc
    obtain⟨⟨h1,rfl⟩,h3⟩:=hc
    refine⟨_,rfl,?_⟩
    unfold resE
    rw[if_pos h1]
    exact hv k _ (by simp[List.getD,h3])
  | cell t ty =>
    simp only[resCode,Bool.and_eq_true,decide_eq_true_eq,beq_iff_eq] at hc
    obtain⟨⟨⟨⟨h1,rfl⟩,h3⟩,h4⟩,h5⟩:=hc
    unfold resE at hp ⊢
    rw[if_neg (by omega)] at hp ⊢
    obtain⟨r,a,e,hr,ha⟩:=eLoad_core (P:=P) g h4 h5 (hv (k % 1000) (vars.getD (k % 1000) 0) (by simp[List.getD,h3])) hp
    refine⟨r,?_,ha⟩
    rw[e] at hr
    simp only[rdRes]
    rw[show tmps.getD (vars.getD (k % 1000) 0) undef=Value.pointer (some a) from e]
    simpa [Instr.loadAt,Instr.sureAddr,asAddr] using hr
section
variable {P:Program} {w:World} {M:Mem} {s:Store}
theorem bor_own (g:Good w M s) {x:A} {v:Value} (hx:ARep w M s x v) (h:(bor s x).1):DRep w (fun b j=>M.I b j∨∃l o,M.B l=some (b,o)) (bor s x).2 v:=by
  by_cases hn:x.noOwn=true
  · exact (bor_noOwn hx h hn).mono (fun b j hb=>⟨.inl hb,rfl⟩)
  · cases x with
    | own l ver off n =>
      unfold bor at h ⊢
      simp only at h ⊢
      split at h
      · rename_i ver' esz xs hs
        obtain⟨rfl,hd⟩:=h
        by_cases h0:n=0
        · subst h0
          simp only[List.take_zero,List.map_nil]
          rcases inv_own hx hs with ⟨_,_,_,rfl⟩ | ⟨_,_,a,cap,_,_,_,_,rfl,_⟩ <;> exact .sl0 _ _ _
        · obtain⟨b,o,a,cap,c,E,f,hB,rfl,h2,h3,h4,h5,h6,h7,h8,h9⟩:=own_part g hx hs hd (by omega)
          rw[h4 (by omega)]
          have hm:n * esz≤cap * esz:=Nat.mul_le_mul_right _ h3
          rw[Nat.add_mul] at h6
          refine .sl esz _ b (o+off * esz) n cap (fun i j=>c.getD (o+off * esz+i * esz+j) undef) (by simpa using h7.symm) h3 h8 (fun i j hi hj=>.inr ⟨l,o,hB⟩) (fun i j hi hj=>?_) (fun i j hi hj=>?_)
          · have:=flat_lt hi hj
            exact cell?_heap h5 (by omega)
          · exact (h9 i j hi hj).mono (fun b j hb=>⟨.inl hb,rfl⟩)
      · exact h.elim
    | _=>simp[A.noOwn] at hn
theorem fcalls_of_vc {f:FuncId} {fn:Func} {c:Code} {vars:List Tmp} {rf:FuncId→Option Nat} {gs:Tmp→Bool} {xc:XC} {G:Gam} {args:List D} {rs:List Nat} {r:D} (hf:P.funcs[f]?=some fn) (hb:fn.body=some c) (hm:P.follows .mixedOrders=true) (hc:cC P vars fn.ntmps rf gs c=some xc)
    (hvn:vars.Nodup) (hlt:∀d,d∈vars→d<fn.ntmps) (hpar:∀k,k<args.length→vars[k]?=some k) (hres:fn.results.toList.length=rs.length) (hrs:∀i,i<rs.length→resCode P vars (rs.getD i 0) (fn.results.toList.getD i default)=true) (hG:GamOk P G)
    (h:vc G 0 xc (Fin rs r) (start args vars.length) []):FCalls P f args r:=by
  intro w I vs hW hI hsz hargs
  have g0:Good w ⟨I,fun _=>none,P.low⟩ []:=⟨hI,fun b j l o _ h=>by simp at h,fun l l' b o o' h=>by simp at h,fun l=>by simp[obOk],hW.low,fun l b o h=>by simp at h⟩
  have hle:args.length≤vars.length:=by
    rcases Nat.lt_or_ge vars.length args.length with h | h
    · have:=hpar vars.length h
      simp at this
    · exact h
  have hnt:args.length≤fn.ntmps:=by
    rcases Nat.eq_zero_or_pos args.length with h | h
    · omega
    · have h1:=hpar (args.length-1) (by omega)
      have h2:args.length-1<fn.ntmps:=hlt _ (List.mem_of_getElem? h1)
      omega
  have hbears:Bears w ⟨I,fun _=>none,P.low⟩ [] vars fn.ntmps { tmps:=vs++Array.replicate (fn.ntmps-vs.size) undef,defers:=[] } w (start args vars.length) []:=by
    refine⟨⟨⟨I,fun _=>none,P.low⟩,g0,Ext.refl _ _ _,fun k d hk=>?_,fun i d hi=>by simp at hi⟩,by simp[hsz];omega,rfl,by simp[start];omega,rfl⟩
    rcases Nat.lt_or_ge k args.length with hk2 | hk2
    · have h1:=hpar k hk2
      rw[hk] at h1
      simp at h1
      subst h1
      have e1:(start args vars.length).getD d .any=.d (args.getD d default):=by
        simp only[start,List.getD,List.getElem?_append]
        rw[if_pos (by simpa using hk2)]
        simp[hk2]
      have e2:(vs++Array.replicate (fn.ntmps-vs.size) undef).getD d undef=vs.getD d undef:=by
        simp only[Array.getD_eq_getD_getElem?,Array.getElem?_append]
        rw[if_pos (by omega)]
      simp only
      rw[e1,e2]
      exact .d _ _ (hargs d hk2)
    · have e1:(start args vars.length).getD k .any=.any:=by
        simp only[start,List.getD,List.getElem?_append]
        rw[if_neg (by simp;omega)]
        simp only[List.getElem?_replicate]
        split <;> rfl
      simp only
      rw[e1]
      exact .any _
  have hwp:=vc_sound (s0:=[]) hm hvn hlt hG g0 hW (Nat.le_refl _) c xc hc _ _ w _ _ hbears h
  refine calls_of_wp hf hb (wp_mono hwp ?_)
  have fin:∀(a:Act) (w':World) (T:List A) (s:Store),RetOk rs r T s→Bears w ⟨I,fun _=>none,P.low⟩ [] vars fn.ntmps a w' T s →
      a.defers=[]∧∃v,(results fn a.tmps).run P w'=.ok v w'∧∃v',Ending.returned v=.returned v'∧DRep w' (fun b j=>I b j∨w.heap.size≤b) r v'∧RowKit.Below w.heap.size w w':=by
    intro a w' T s hr hb
    obtain⟨⟨M,g,e0,hv,_⟩,hsz',hdef,htl,_⟩:=hb
    have hbelow:RowKit.Below w.heap.size w w':=⟨e0.os,e0.tape,e0.output,e0.size,fun k hk=>e0.keep k hk (fun l o=>by simp)⟩
    have hI':∀b j,(M.I b j∨∃l o,M.B l=some (b,o))→I b j∨w.heap.size≤b:=by
      rintro b j (h | ⟨l,o,h⟩)
      · rcases e0.immNew b j h with h | h | ⟨l,o,h,_⟩
        · exact .inl h
        · exact .inr h
        · simp at h
      · rcases e0.own l b o h with h | ⟨l',o',h,_⟩
        · exact .inr h
        · simp at h
    have hpre:∀k,k∈rs→(resE T s k).1∧(bor s (resE T s k).2).1:=by
      match rs,hr with
      | [],_=>simp
      | [k],hr=>intro k' hk';simp at hk';subst hk';exact⟨hr.1,hr.2.1⟩
      | k1::k2::ks,hr=>exact fun k hk=>⟨hr.1 k hk,allOf_get hr.2.1 _ (List.mem_map.2 ⟨_,hk,rfl⟩)⟩
    have one:∀i,i<rs.length→∃v,(rdRes a.tmps (fn.results.toList.getD i default)).run P w'=.ok v w'∧DRep w' (fun b j=>I b j∨w.heap.size≤b) (bor s (resE T s (rs.getD i 0)).2).2 v:=by
      intro i hi
      obtain⟨p1,p2⟩:=hpre _ (getD_mem rs 0 hi)
      obtain⟨v,hv1,hv2⟩:=rdRes_run (P:=P) g (hrs i hi) hv p1
      exact⟨v,hv1,(bor_own g hv2 p2).mono (fun b j h=>⟨hI' b j h,rfl⟩)⟩
    obtain⟨fv,hfv⟩:∃fv:Nat→Value,∀i,i<rs.length→(rdRes a.tmps (fn.results.toList.getD i default)).run P w'=.ok (fv i) w'∧DRep w' (fun b j=>I b j∨w.heap.size≤b) (bor s (resE T s (rs.getD i 0)).2).2 (fv i):=by
      refine⟨fun i=>if h:i<rs.length then (one i h).choose else undef,fun i hi=>?_⟩
      simp only[hi,dif_pos]
      exact (one i hi).choose_spec
    have hrun:=results_run (P:=P) (fn:=fn) (tmps:=a.tmps) (w:=w') (vs:=(List.range rs.length).map fv) (by simpa using hres) (fun i hi=>by
      have hi':i<rs.length:=by simpa using hi
      rw[show ((List.range rs.length).map fv).getD i undef=fv i by simp[List.getD,hi']]
      exact (hfv i hi').1)
    refine⟨hdef,_,hrun,_,rfl,?_,hbelow⟩
    clear hrun one hpre hres hrs h
    match rs,hr,hfv with
    | [],hr,_ =>
      exact LeD.rep (.tup _ _ rfl (fun k hk=>by simp at hk)) hr.2.2
    | [k],hr,hfv =>
      exact LeD.rep (hfv 0 (by simp)).2 hr.2.2
    | k1::k2::ks,hr,hfv =>
      have e:(List.range (k1::k2::ks).length).map fv=fv 0::fv 1::(List.range ks.length).map (fun i=>fv (i+2)):=by
        simp only[List.length_cons,List.range_succ_eq_map,List.map_cons,List.map_map]
        rfl
      rw[e]
      refine LeD.rep (.tup _ _ (by simp) (fun k hk=>?_)) hr.2.2
      simp only[List.length_map] at hk
      have h3:=(hfv k hk).2
      rw[show ((k1::k2::ks).map fun k=>(bor s (resE T s k).2).2).getD k default=(bor s (resE T s ((k1::k2::ks).getD k 0)).2).2 by
        rw[getD_lt _ _ (by simpa using hk),List.getElem_map,getD_lt _ _ hk]]
      have e2:(fv 0::fv 1::(List.range ks.length).map (fun i=>fv (i+2))).toArray.getD k undef=fv k:=by
        rw[← e]
        simp only[Array.getD_eq_getD_getElem?,List.getElem?_toArray]
        rw[List.getElem?_map,List.getElem?_range (by simpa using hk)]
        rfl
      show DRep _ _ _ ((fv 0::fv 1::(List.range ks.length).map (fun i=>fv (i+2))).toArray.getD k undef)
      rw[e2]
      exact h3
  intro e a w' hp
  cases e with
  | normal =>
    obtain⟨T,s,hq,hb⟩:=hp
    exact fin a w' T s hq hb
  | ret =>
    obtain⟨T,s,hq,hb⟩:=hp
    exact fin a w' T s hq hb
  | exit id =>
    obtain⟨T,s,hq,hb⟩:=hp
    exact hq.elim
  | _=>exact hp.elim
end
end Go.AE
namespace Go.AE
structure CodeOf (P:Program) (f:FuncId) (np nv:Nat) (rs:List Nat) (xc:XC):Prop where
  call:isCall P f=true
  code:∃(fn:Func) (c:Code) (vars gs:List Tmp) (rf:FuncId→Option Nat),P.funcs[f]?=some fn∧fn.body=some c∧P.follows .mixedOrders=true∧cC P vars fn.ntmps rf (fun t=>gs.contains t) c=some xc∧vars.Nodup∧(∀d,d∈vars→d<fn.ntmps) ∧
    vars.length=nv∧np≤nv∧(∀k,k<np→vars[k]?=some k)∧fn.results.toList.length=rs.length∧(∀i,i<rs.length→resCode P vars (rs.getD i 0) (fn.results.toList.getD i default)=true)
def codeB (P:Program) (f:FuncId) (fn:Func) (vars gs:List Tmp) (np nv:Nat) (rs:List Nat):Bool :=
  isCall P f && P.follows .mixedOrders && decide vars.Nodup && vars.all (fun d=>decide (d<fn.ntmps)) && vars.length == nv && decide (np≤nv) && (List.range np).all (fun k=>vars[k]? == some k) &&
  fn.results.toList.length == rs.length && (List.range rs.length).all fun i=>resCode P vars (rs.getD i 0) (fn.results.toList.getD i default)
theorem CodeOf.of {P:Program} {f:FuncId} {fn:Func} (vars gs:List Tmp) (rfs:List (FuncId × Nat)) {c:Code} {np nv:Nat} {rs:List Nat} {xc:XC} (hf:P.funcs[f]?=some fn) (hb:fn.body=some c) (h:codeB P f fn vars gs np nv rs=true) (hc:cC P vars fn.ntmps (fun f=>rfs.lookup f) (fun t=>gs.contains t) c=some xc) :
    CodeOf P f np nv rs xc:=by
  simp only[codeB,Bool.and_eq_true,decide_eq_true_eq,List.all_eq_true,beq_iff_eq,List.mem_range] at h
  obtain⟨⟨⟨⟨⟨⟨⟨⟨h1,h2⟩,h3⟩,h4⟩,h5⟩,h6⟩,h7⟩,h8⟩,h9⟩:=h
  exact⟨h1,fn,c,vars,gs,_,hf,hb,h2,hc,h3,h4,h5,h6,h7,h8,h9⟩
theorem CodeOf.fcalls {P:Program} {f:FuncId} {np nv:Nat} {rs:List Nat} {xc:XC} (h:CodeOf P f np nv rs xc) {G:Gam} (hG:GamOk P G) {args:List D} {r:D} (ha:args.length=np) (hv:vc G 0 xc (Fin rs r) (start args nv) []):FCalls P f args r:=by
  obtain⟨_,fn,c,vars,gs,rf,h1,h2,h3,h4,h5,h6,h7,h8,h9,h10,h11⟩:=h
  subst h7
  exact fcalls_of_vc h1 h2 h3 h4 h5 h6 (fun k hk=>h9 k (by omega)) h10 h11 hG hv
theorem GamOk.nil (P:Program):GamOk P ⟨[],[]⟩:=⟨fun f sp h=>by simp[Gam.find] at h,fun f sp h=>by simp[Gam.findR] at h⟩
theorem GamOk.cons {P:Program} {fs:List (FuncId × (List D→Prop × D))} {rs:List (FuncId × RSpec)} {f:FuncId} {sp:List D→Prop × D} (h1:isCall P f=true) (h2:∀ds,(sp ds).1→FCalls P f ds (sp ds).2) (hG:GamOk P ⟨fs,rs⟩):GamOk P ⟨(f,sp)::fs,rs⟩:=by
  refine⟨fun g sp' h=>?_,fun g r h=>hG.rs g r h⟩
  simp only[Gam.find,List.find?_cons] at h
  by_cases hfg:f=g
  · subst hfg
    simp at h
    subst h
    exact⟨h1,h2⟩
  · have:(f == g)=false:=by simpa using hfg
    rw[this] at h
    exact hG.fs g sp' h
theorem GamOk.consR {P:Program} {fs:List (FuncId × (List D→Prop × D))} {rs:List (FuncId × RSpec)} {f:FuncId} {sp:RSpec} (h1:sp.Ok P f) (hG:GamOk P ⟨fs,rs⟩):GamOk P ⟨fs,(f,sp)::rs⟩:=by
  refine⟨fun g sp' h=>hG.fs g sp' h,fun g r h=>?_⟩
  simp only[Gam.findR,List.find?_cons] at h
  by_cases hfg:f=g
  · subst hfg
    simp at h
    subst h
    exact h1
  · have:(f == g)=false:=by simpa using hfg
    rw[this] at h
    exact hG.rs g r h
section
variable {w:World} {M:Mem} {s:Store}
def pickS (R:List Nat) (s:Store):Store:=R.map fun l=>(s.getD l .dead).ren (idxIn R)
def Mem.pick (M:Mem) (R:List Nat):Mem:=⟨M.I,fun k=>if k<R.length then M.B (R.getD k 0) else none,M.N⟩
structure PickOk (R:List Nat) (s:Store):Prop where
  nd:R.Nodup
  lt:∀l,l∈R→l<s.length
  un:(pickS R s).all (Ob.under R.length)=true
theorem pick_get {R:List Nat} {k:Nat} (hk:k<R.length):(pickS R s)[k]?=some ((s.getD (R.getD k 0) .dead).ren (idxIn R)):=by
  simp[pickS,List.getD,hk]
theorem pick_getD {R:List Nat} {k:Nat} (hk:k<R.length):(pickS R s).getD k .dead=(s.getD (R.getD k 0) .dead).ren (idxIn R):=by
  simp[List.getD,pickS,hk]
theorem pick_arep {R:List Nat} (h:PickOk R s) {x:A} {v:Value} (hx:ARep w M s x v) (hu:(x.ren (idxIn R)).under R.length=true):ARep w (M.pick R) (pickS R s) (x.ren (idxIn R)) v:=by
  refine ARep.ren (M:=M) (M':=M.pick R) (p:=fun l=>decide (idxIn R l<R.length)) (fun b j h=>h) (fun l hl=>?_) (fun l hl=>?_) hx (by rwa [A.ren_under] at hu)
  · simp only[decide_eq_true_eq] at hl
    have:=idxIn_lt (idxIn_mem hl)
    simp only[Mem.pick,if_pos hl,this.2]
  · simp only[decide_eq_true_eq] at hl
    have:=idxIn_lt (idxIn_mem hl)
    rw[pick_get hl,this.2,getElem?_of_lt (h.lt l (idxIn_mem hl))]
    rfl
theorem pick_good {R:List Nat} (h:PickOk R s) (g:Good w M s):Good w (M.pick R) (pickS R s):=by
  have q3:∀k,k<R.length→idxIn R (R.getD k 0)=k:=fun k hk=>idxIn_back h.nd hk
  have m0':∀k b o,(M.pick R).B k=some (b,o)→k<R.length∧M.B (R.getD k 0)=some (b,o):=by
    intro k b o hk
    simp only[Mem.pick] at hk
    split at hk
    · exact⟨by assumption,hk⟩
    · simp at hk
  refine⟨g.imm,fun b j k o h1 h2=>g.off b j _ o h1 (m0' k b o h2).2,fun k k' b o o' h1 h2=>?_,fun k=>?_,g.nle,fun k b o h1=>g.nof _ b o (m0' k b o h1).2⟩
  · obtain⟨a1,a2⟩:=m0' k b o h1
    obtain⟨b1,b2⟩:=m0' k' b o' h2
    have:=g.sep _ _ _ _ _ a2 b2
    rw[← q3 k a1,this,q3 k' b1]
  · by_cases hk:k<R.length
    · rw[pick_getD hk]
      refine obOk.ren (M:=M) (M':=M.pick R) (p:=fun l=>decide (idxIn R l<R.length)) (fun b j h=>h) (fun l hl=>?_) (fun l hl=>?_) (g.obj (R.getD k 0)) (by simp[Mem.pick,hk]) (fun v e xs hx y hy=>?_)
      · simp only[decide_eq_true_eq] at hl
        have:=idxIn_lt (idxIn_mem hl)
        simp only[Mem.pick,if_pos hl,this.2]
      · simp only[decide_eq_true_eq] at hl
        have:=idxIn_lt (idxIn_mem hl)
        rw[pick_get hl,this.2,getElem?_of_lt (h.lt l (idxIn_mem hl))]
        rfl
      · have hu:=h.un
        rw[List.all_eq_true] at hu
        have h1:=hu _ (List.mem_of_getElem? (pick_get hk))
        rw[hx] at h1
        simp only[Ob.ren,Ob.under,List.all_map,List.all_eq_true,Function.comp] at h1
        have h2:=h1 y hy
        rwa [A.ren_under] at h2
    · have:(pickS R s).getD k .dead=.dead:=by
        have:(pickS R s).length=R.length:=by simp[pickS]
        simp[List.getD,List.getElem?_eq_none (by omega:(pickS R s).length≤k)]
      rw[this]
      simp[obOk,Mem.pick,hk]
theorem pick_ext {w0:World} {M0:Mem} {s0:Store} {R:List Nat} (e:Ext w0 M0 s0 w M s) (hn:s0.length≤R.length) (hk:∀k,k<s0.length→R.getD k 0=k∨s0.getD k .dead=.res):Ext w0 M0 s0 w (M.pick R) (pickS R s):={
  os:=e.os,tape:=e.tape,output:=e.output,size:=e.size,keep:=e.keep,low:=e.low,blk:=e.blk,imm:=e.imm,immNew:=e.immNew
  own:=fun k b o hb=>by
    simp only[Mem.pick] at hb
    split at hb
    · exact e.own _ b o hb
    · simp at hb
  N:=e.N
  len:=by simpa [pickS] using hn
  ob:=fun l hl=>by
    have hlR:l<R.length:=by omega
    rcases hk l hl with h1 | h1
    · have h2:=e.ob l hl
      have hB:(M.pick R).B l=M.B l:=by simp only[Mem.pick,if_pos hlR,h1]
      rw[pick_getD hlR,h1]
      have key:∀x y:Ob,obStep M0 M l x y→obStep M0 (M.pick R) l x (y.ren (idxIn R)):=by
        intro x y h
        cases x <;> cases y <;> simp only[Ob.ren,obStep,List.length_map] at h ⊢ <;> try trivial
        all_goals (simp only[hB];exact h)
      exact key _ _ h2
    · rw[h1]
      simp[obStep] }
end
def resOf (rs:List Nat) (T:List A) (s:Store):A :=
  match rs with
  | [k]=>(resE T s k).2
  | rs=>.tup (rs.map fun k=>(resE T s k).2)
def resPre (rs:List Nat) (T:List A) (s:Store):Prop:=∀k,k∈rs→(resE T s k).1
def FinR (rs:List Nat) (s0:Store) (res:A) (s1:Store):XE→List A→Store→Prop
  | .exit _,_,_=>False
  | _,T,s=>resPre rs T s∧∃R:List Nat,R.length=s0.length∧PickOk R s∧(∀k,k<s0.length→R.getD k 0=k∨s0.getD k .dead=.res)∧s1=pickS R s∧res=(resOf rs T s).ren (idxIn R)∧res.under R.length=true
def startA (args:List A) (n:Nat):List A:=args++List.replicate (n-args.length) .any
theorem rcalls_of_vc {P:Program} {f:FuncId} {fn:Func} {c:Code} {vars:List Tmp} {rf:FuncId→Option Nat} {gs:Tmp→Bool} {xc:XC} {G:Gam} {args:List A} {rs:List Nat} {res:A} {s0 s1:Store} (hf:P.funcs[f]?=some fn) (hb:fn.body=some c) (hm:P.follows .mixedOrders=true) (hc:cC P vars fn.ntmps rf gs c=some xc)
    (hvn:vars.Nodup) (hlt:∀d,d∈vars→d<fn.ntmps) (hpar:∀k,k<args.length→vars[k]?=some k) (hres:fn.results.toList.length=rs.length) (hrs:∀i,i<rs.length→resCode P vars (rs.getD i 0) (fn.results.toList.getD i default)=true) (hG:GamOk P G)
    (h:vc G s0.length xc (FinR rs s0 res s1) (startA args vars.length) s0):RCalls P f args s0 res s1:=by
  intro w M vs hW hN g0 hsz hargs
  have hle:args.length≤vars.length:=by
    rcases Nat.lt_or_ge vars.length args.length with h | h
    · have:=hpar vars.length h
      simp at this
    · exact h
  have hnt:args.length≤fn.ntmps:=by
    rcases Nat.eq_zero_or_pos args.length with h | h
    · omega
    · have h1:=hpar (args.length-1) (by omega)
      have h2:args.length-1<fn.ntmps:=hlt _ (List.mem_of_getElem? h1)
      omega
  have hbears:Bears w M s0 vars fn.ntmps { tmps:=vs++Array.replicate (fn.ntmps-vs.size) undef,defers:=[] } w (startA args vars.length) s0:=by
    refine⟨⟨M,g0,Ext.refl _ _ _,fun k d hk=>?_,fun i d hi=>by simp at hi⟩,by simp[hsz];omega,rfl,by simp[startA];omega,rfl⟩
    rcases Nat.lt_or_ge k args.length with hk2 | hk2
    · have h1:=hpar k hk2
      rw[hk] at h1
      simp at h1
      subst h1
      have e1:(startA args vars.length).getD d .any=args.getD d .any:=by
        simp only[startA,List.getD,List.getElem?_append]
        rw[if_pos hk2]
      have e2:(vs++Array.replicate (fn.ntmps-vs.size) undef).getD d undef=vs.getD d undef:=by
        simp only[Array.getD_eq_getD_getElem?,Array.getElem?_append]
        rw[if_pos (by omega)]
      simp only
      rw[e1,e2]
      exact hargs d hk2
    · have e1:(startA args vars.length).getD k .any=.any:=by
        simp only[startA,List.getD,List.getElem?_append]
        rw[if_neg (by omega)]
        simp only[List.getElem?_replicate]
        split <;> rfl
      simp only
      rw[e1]
      exact .any _
  have hwp:=vc_sound hm hvn hlt hG g0 hW hN c xc hc _ _ w _ _ hbears h
  refine calls_of_wp hf hb (wp_mono hwp ?_)
  have fin:∀(a:Act) (w':World) (T:List A) (s:Store),(resPre rs T s∧∃R:List Nat,R.length=s0.length∧PickOk R s∧(∀k,k<s0.length→R.getD k 0=k∨s0.getD k .dead=.res)∧s1=pickS R s∧res=(resOf rs T s).ren (idxIn R)∧res.under R.length=true)→Bears w M s0 vars fn.ntmps a w' T s →
      a.defers=[]∧∃v,(results fn a.tmps).run P w'=.ok v w'∧∃v' M',Ending.returned v=.returned v'∧Good w' M' s1∧Ext w M s0 w' M' s1∧ARep w' M' s1 res v':=by
    intro a w' T s hr hb
    obtain⟨⟨M',g,e0,hv,_⟩,hsz',hdef,htl,_⟩:=hb
    obtain⟨hpre,R,hr1,hr2,hr3,rfl,rfl,hr6⟩:=hr
    have one:∀i,i<rs.length→∃v,(rdRes a.tmps (fn.results.toList.getD i default)).run P w'=.ok v w'∧ARep w' M' s (resE T s (rs.getD i 0)).2 v:=fun i hi=>rdRes_run (P:=P) g (hrs i hi) hv (hpre _ (getD_mem rs 0 hi))
    obtain⟨fv,hfv⟩:∃fv:Nat→Value,∀i,i<rs.length→(rdRes a.tmps (fn.results.toList.getD i default)).run P w'=.ok (fv i) w'∧ARep w' M' s (resE T s (rs.getD i 0)).2 (fv i):=by
      refine⟨fun i=>if h:i<rs.length then (one i h).choose else undef,fun i hi=>?_⟩
      simp only[hi,dif_pos]
      exact (one i hi).choose_spec
    have hrun:=results_run (P:=P) (fn:=fn) (tmps:=a.tmps) (w:=w') (vs:=(List.range rs.length).map fv) (by simpa using hres) (fun i hi=>by
      have hi':i<rs.length:=by simpa using hi
      rw[show ((List.range rs.length).map fv).getD i undef=fv i by simp[List.getD,hi']]
      exact (hfv i hi').1)
    have key:∃v,(results fn a.tmps).run P w'=.ok v w'∧ARep w' M' s (resOf rs T s) v:=by
      refine⟨_,hrun,?_⟩
      clear hrun one hpre hr6 hres hrs h
      match rs,hfv with
      | [],_=>exact .tup _ _ rfl (fun k hk=>by simp at hk)
      | [k],hfv=>exact (hfv 0 (by simp)).2
      | k1::k2::ks,hfv =>
        have e:(List.range (k1::k2::ks).length).map fv=fv 0::fv 1::(List.range ks.length).map (fun i=>fv (i+2)):=by
          simp only[List.length_cons,List.range_succ_eq_map,List.map_cons,List.map_map]
          rfl
        rw[e]
        refine .tup _ _ (by simp) (fun k hk=>?_)
        simp only[List.length_map] at hk
        have h3:=(hfv k hk).2
        rw[show ((k1::k2::ks).map fun k=>(resE T s k).2).getD k .any=(resE T s ((k1::k2::ks).getD k 0)).2 by
          rw[getD_lt _ _ (by simpa using hk),List.getElem_map,getD_lt _ _ hk]]
        have e2:(fv 0::fv 1::(List.range ks.length).map (fun i=>fv (i+2))).toArray.getD k undef=fv k:=by
          rw[← e]
          simp only[Array.getD_eq_getD_getElem?,List.getElem?_toArray]
          rw[List.getElem?_map,List.getElem?_range (by simpa using hk)]
          rfl
        show ARep _ _ _ _ ((fv 0::fv 1::(List.range ks.length).map (fun i=>fv (i+2))).toArray.getD k undef)
        rw[e2]
        exact h3
    obtain⟨v,hv1,hv2⟩:=key
    exact⟨hdef,v,hv1,v,M'.pick R,rfl,pick_good hr2 g,pick_ext e0 (by omega) hr3,pick_arep hr2 hv2 hr6⟩
  intro e a w' hp
  cases e with
  | normal =>
    obtain⟨T,s,hq,hb⟩:=hp
    exact fin a w' T s hq hb
  | ret =>
    obtain⟨T,s,hq,hb⟩:=hp
    exact fin a w' T s hq hb
  | exit id =>
    obtain⟨T,s,hq,hb⟩:=hp
    exact hq.elim
  | _=>exact hp.elim
theorem CodeOf.rcalls {P:Program} {f:FuncId} {np nv:Nat} {rs:List Nat} {xc:XC} (h:CodeOf P f np nv rs xc) {G:Gam} (hG:GamOk P G) {args:List A} {s0 s1:Store} {res:A} (ha:args.length=np) (hv:vc G s0.length xc (FinR rs s0 res s1) (startA args nv) s0):RCalls P f args s0 res s1:=by
  obtain⟨_,fn,c,vars,gs,rf,h1,h2,h3,h4,h5,h6,h7,h8,h9,h10,h11⟩:=h
  subst h7
  exact rcalls_of_vc h1 h2 h3 h4 h5 h6 (fun k hk=>h9 k (by omega)) h10 h11 hG hv
end Go.AE
namespace Go.AE
class Rep (α:Type) where
  size:Nat
  to:α→D
  of:D→Option α
  of_to:∀x,of (to x)=some x
  rep:∀d x,of d=some x→∀(w:World) (I:Nat→Nat→Prop) (v:Value),DRep w I d v→DRep w I (to x) v
  fits:∀x,(to x).fits size=true
def ofAll {α:Type} (f:D→Option α):List D→Option (List α)
  | []=>some []
  | x::r=>match f x,ofAll f r with
    | some y,some ys=>some (y::ys)
    | _,_=>none
instance:Rep Int where
  size:=1
  to n:=.int .i64 n
  of | .int .i64 n=>some n | _=>none
  of_to x:=rfl
  rep d x h w I v r:=by
    split at h
    · simp at h;subst h;exact r
    · simp at h
  fits x:=rfl
instance:Rep Bool where
  size:=1
  to b:=.bool b
  of | .bool b=>some b | _=>none
  of_to x:=rfl
  rep d x h w I v r:=by
    split at h
    · simp at h;subst h;exact r
    · simp at h
  fits x:=rfl
abbrev Str:=List UInt8
instance:Rep (List UInt8) where
  size:=1
  to s:=.str s
  of | .str s=>some s | _=>none
  of_to x:=rfl
  rep d x h w I v r:=by
    split at h
    · simp at h;subst h;exact r
    · simp at h
  fits x:=rfl
theorem ofAll_map {α:Type} {f:D→Option α} {g:α→D} (h:∀x,f (g x)=some x) (l:List α):ofAll f (l.map g)=some l:=by
  induction l with
  | nil=>rfl
  | cons x l ih=>simp only[List.map_cons,ofAll,h,ih]
theorem ofAll_get {α:Type} {f:D→Option α}:∀{xs:List D} {l:List α},ofAll f xs=some l→xs.length=l.length∧∀k,(h1:k<xs.length)→(h2:k<l.length)→f xs[k]=some l[k]:=by
  intro xs
  induction xs with
  | nil=>intro l h;simp[ofAll] at h;subst h;exact⟨rfl,fun k h=>by simp at h⟩
  | cons x xs ih =>
    intro l h
    simp only[ofAll] at h
    split at h
    · rename_i y ys h1 h2
      simp at h
      subst h
      obtain⟨i1,i2⟩:=ih h2
      refine⟨by simp[i1],fun k hk1 hk2=>?_⟩
      cases k with
      | zero=>simpa using h1
      | succ k=>simpa using i2 k (by simpa using hk1) (by simpa using hk2)
    · simp at h
theorem DRep.cells_le {w:World} {I:Nat→Nat→Prop} {x y:D} {n:Nat} (hx:x.fits n=true) (hy:y.fits n=true) (h:∀v,DRep w I x v→DRep w I y v) (u:Nat→Value)
    (hr:∀j,j<n→DRep w I (x.cells.getD j default) (u j)):∀j,j<n→DRep w I (y.cells.getD j default) (u j):=by
  simp only[D.fits,Bool.and_eq_true,beq_iff_eq] at hx hy
  have one:∀z:D,z.cells.length=n→z.cells.all D.one=true→(∃cs,z=.agg cs)∨(z.cells=[z]∧n=1):=by
    intro z h1 h2
    cases z with
    | agg cs=>exact .inl ⟨cs,rfl⟩
    | _=>exact .inr ⟨rfl,by simpa [D.cells] using h1.symm⟩
  rcases one x hx.1 hx.2 with ⟨cs,rfl⟩ | ⟨hxc,hn⟩
  · have r:DRep w I (.agg cs) (.agg (Array.ofFn (n:=n) fun j=>u j)):=by
      simp only[D.cells] at hx hr
      refine .agg cs _ (by simp[hx.1]) hx.2 (fun k hk=>?_)
      have hk':k<n:=by omega
      have:=hr k hk'
      simpa [Array.getD_eq_getD_getElem?,hk'] using this
    have r2:=h _ r
    rcases one y hy.1 hy.2 with ⟨ds,rfl⟩ | ⟨hyc,hn⟩
    · cases r2 with
      | agg cs' vs hl ho hr2 =>
        intro j hj
        have:=hr2 j (by simp only[D.cells] at hy;omega)
        simpa [D.cells,Array.getD_eq_getD_getElem?,hj] using this
    · cases r2 with
      | agg cs' vs hl ho hr2 =>
        intro j hj
        have:=hr2 j (by simp only[D.cells] at hy;omega)
        simpa [D.cells,Array.getD_eq_getD_getElem?,hj] using this
  · subst hn
    intro j hj
    have hj0:j=0:=by omega
    subst hj0
    have r:=hr 0 (by omega)
    rw[hxc] at r
    have r2:=h _ r
    rcases one y hy.1 hy.2 with ⟨ds,rfl⟩ | ⟨hyc,_⟩
    · have hxo:x.one=true:=by rw[hxc] at hx;simpa using hx.2
      exfalso
      generalize u 0=v at r r2
      cases r2 with
      | agg cs' vs hl ho hr2=>cases r <;> simp[D.one] at hxo
    · rw[hyc]
      exact r2
instance {α:Type} [Rep α]:Rep (List α) where
  size:=1
  to l:=.sl (Rep.size α) (l.map Rep.to)
  of
    | .sl e xs=>if e=Rep.size α then ofAll Rep.of xs else none
    | .nilsl=>some []
    | _=>none
  of_to l:=by simp only[if_true];exact ofAll_map Rep.of_to l
  rep d l h w I v r:=by
    split at h
    · rename_i e xs
      split at h
      · rename_i he
        subst he
        obtain⟨h1,h2⟩:=ofAll_get h
        cases r with
        | sl0 _ a cap =>
          have:l=[]:=by simpa using h1.symm
          subst this
          exact .sl0 _ _ _
        | sl _ _ b off n cap u hn hcap hsz hI hc hr =>
          refine .sl _ _ b off n cap u (by simp[hn,h1]) hcap (fun x hx=>?_) hI hc (fun i j hi hj=>?_)
          · obtain⟨y,_,rfl⟩:=List.mem_map.1 hx
            exact Rep.fits y
          · have hx:i<xs.length:=by omega
            have hl:i<l.length:=by omega
            have e1:(l.map Rep.to).getD i default=Rep.to l[i]:=by simp[List.getD,hl]
            have e2:xs.getD i default=xs[i]:=by simp[List.getD,hx]
            have h4:=hr i
            rw[e2] at h4
            rw[e1]
            exact DRep.cells_le (hsz _ (List.getElem_mem _)) (Rep.fits _) (fun v hv=>Rep.rep _ _ (h2 i hx hl) w I v hv) (u i) (fun j hj=>h4 j hi hj) j hj
      · simp at h
    · simp at h
      subst h
      cases r
      exact .sl0 _ _ _
    · simp at h
  fits l:=rfl
/-! contracts -/
def spec0 (pre:Prop) (r:D):List D→Prop × D
  | []=>(pre,r)
  | _=>(False,.nilp)
def spec1 {α:Type} [Rep α] (pre:α→Prop) (r:α→D):List D→Prop × D
  | [a]=>match Rep.of (α:=α) a with
    | some x=>(pre x,r x)
    | none=>(False,.nilp)
  | _=>(False,.nilp)
def spec2 {α β:Type} [Rep α] [Rep β] (pre:α→β→Prop) (r:α→β→D):List D→Prop × D
  | [a,b]=>match Rep.of (α:=α) a,Rep.of (α:=β) b with
    | some x,some y=>(pre x y,r x y)
    | _,_=>(False,.nilp)
  | _=>(False,.nilp)
def spec3 {α β γ:Type} [Rep α] [Rep β] [Rep γ] (pre:α→β→γ→Prop) (r:α→β→γ→D):List D→Prop × D
  | [a,b,c]=>match Rep.of (α:=α) a,Rep.of (α:=β) b,Rep.of (α:=γ) c with
    | some x,some y,some z=>(pre x y z,r x y z)
    | _,_,_=>(False,.nilp)
  | _=>(False,.nilp)
def spec4 {α β γ δ:Type} [Rep α] [Rep β] [Rep γ] [Rep δ] (pre:α→β→γ→δ→Prop) (r:α→β→γ→δ→D):List D→Prop × D
  | [a,b,c,d]=>match Rep.of (α:=α) a,Rep.of (α:=β) b,Rep.of (α:=γ) c,Rep.of (α:=δ) d with
    | some x,some y,some z,some u=>(pre x y z u,r x y z u)
    | _,_,_,_=>(False,.nilp)
  | _=>(False,.nilp)
theorem FCalls.le {P:Program} {f:FuncId} {as bs:List D} {r:D} (hl:as.length=bs.length) (h:∀k,k<as.length→∀(w:World) (I:Nat→Nat→Prop) (v:Value),DRep w I (as.getD k default) v→DRep w I (bs.getD k default) v) (hb:FCalls P f bs r):FCalls P f as r :=
  fun w I vs h0 h1 h2 h3=>hb w I vs h0 h1 (by omega) (fun k hk=>h k (by omega) w I _ (h3 k (by omega)))
theorem FCalls.of0 {P:Program} {f:FuncId} {pre:Prop} {r:D} (h:pre→FCalls P f [] r):∀ds,(spec0 pre r ds).1→FCalls P f ds (spec0 pre r ds).2:=by
  intro ds hp
  match ds,hp with
  | [],hp=>exact h hp
theorem FCalls.of1 {α:Type} [Rep α] {P:Program} {f:FuncId} {pre:α→Prop} {r:α→D} (h:∀x,pre x→FCalls P f [Rep.to x] (r x)):∀ds,(spec1 pre r ds).1→FCalls P f ds (spec1 pre r ds).2:=by
  intro ds hp
  match ds,hp with
  | [a],hp =>
    simp only[spec1] at hp ⊢
    split at hp
    · rename_i x hx
      refine FCalls.le (as:=[a]) (bs:=[Rep.to x]) rfl (fun k hk w I v hv=>?_) (h x hp)
      match k,hk with
      | 0,_=>exact Rep.rep _ _ hx w I v hv
    · exact hp.elim
theorem FCalls.of2 {α β:Type} [Rep α] [Rep β] {P:Program} {f:FuncId} {pre:α→β→Prop} {r:α→β→D} (h:∀x y,pre x y→FCalls P f [Rep.to x,Rep.to y] (r x y)):∀ds,(spec2 pre r ds).1→FCalls P f ds (spec2 pre r ds).2:=by
  intro ds hp
  match ds,hp with
  | [a,b],hp =>
    simp only[spec2] at hp ⊢
    split at hp
    · rename_i x y hx hy
      refine FCalls.le (as:=[a,b]) (bs:=[Rep.to x,Rep.to y]) rfl (fun k hk w I v hv=>?_) (h x y hp)
      match k,hk with
      | 0,_=>exact Rep.rep _ _ hx w I v hv
      | 1,_=>exact Rep.rep _ _ hy w I v hv
    · exact hp.elim
theorem FCalls.of3 {α β γ:Type} [Rep α] [Rep β] [Rep γ] {P:Program} {f:FuncId} {pre:α→β→γ→Prop} {r:α→β→γ→D} (h:∀x y z,pre x y z→FCalls P f [Rep.to x,Rep.to y,Rep.to z] (r x y z)):∀ds,(spec3 pre r ds).1→FCalls P f ds (spec3 pre r ds).2:=by
  intro ds hp
  match ds,hp with
  | [a,b,c],hp =>
    simp only[spec3] at hp ⊢
    split at hp
    · rename_i x y z hx hy hz
      refine FCalls.le (as:=[a,b,c]) (bs:=[Rep.to x,Rep.to y,Rep.to z]) rfl (fun k hk w I v hv=>?_) (h x y z hp)
      match k,hk with
      | 0,_=>exact Rep.rep _ _ hx w I v hv
      | 1,_=>exact Rep.rep _ _ hy w I v hv
      | 2,_=>exact Rep.rep _ _ hz w I v hv
    · exact hp.elim
theorem FCalls.of4 {α β γ δ:Type} [Rep α] [Rep β] [Rep γ] [Rep δ] {P:Program} {f:FuncId} {pre:α→β→γ→δ→Prop} {r:α→β→γ→δ→D} (h:∀x y z u,pre x y z u→FCalls P f [Rep.to x,Rep.to y,Rep.to z,Rep.to u] (r x y z u)):∀ds,(spec4 pre r ds).1→FCalls P f ds (spec4 pre r ds).2:=by
  intro ds hp
  match ds,hp with
  | [a,b,c,d],hp =>
    simp only[spec4] at hp ⊢
    split at hp
    · rename_i x y z u hx hy hz hu
      refine FCalls.le (as:=[a,b,c,d]) (bs:=[Rep.to x,Rep.to y,Rep.to z,Rep.to u]) rfl (fun k hk w I v hv=>?_) (h x y z u hp)
      match k,hk with
      | 0,_=>exact Rep.rep _ _ hx w I v hv
      | 1,_=>exact Rep.rep _ _ hy w I v hv
      | 2,_=>exact Rep.rep _ _ hz w I v hv
      | 3,_=>exact Rep.rep _ _ hu w I v hv
    · exact hp.elim
def seqQ (G:Gam) (lo:Nat) (b:XC) (Q:XE→List A→Store→Prop):XE→List A→Store→Prop
  | .normal,T,s=>vc G lo b Q T s
  | e,T,s=>Q e T s
def blkQ (id:Nat) (Q:XE→List A→Store→Prop):XE→List A→Store→Prop
  | .exit j,T,s=>if j=id then Q .normal T s else Q (.exit j) T s
  | e,T,s=>Q e T s
def loopQ (keep:List Bool) (n:Nat) (I:Nat→List A→Store→Prop) (Q:XE→List A→Store→Prop) (m:Nat):XE→List A→Store→Prop
  | .normal,T,s=>inScope n (mask keep T) s∧∃m',m'<m∧I m' (mask keep T) (s.take n)
  | e,T,s=>Q e T s
section
variable (G:Gam) (lo:Nat) (Q:XE→List A→Store→Prop) (T:List A) (s:Store)
@[simp ↓] theorem seqQ_normal (b:XC):seqQ G lo b Q .normal T s=vc G lo b Q T s:=by first | exact (rfl) | rfl
@[simp ↓] theorem seqQ_ret (b:XC):seqQ G lo b Q .ret T s=Q .ret T s:=by first | exact (rfl) | rfl
@[simp ↓] theorem seqQ_exit (b:XC) (j:Nat):seqQ G lo b Q (.exit j) T s=Q (.exit j) T s:=by first | exact (rfl) | rfl
@[simp ↓] theorem blkQ_normal (id:Nat):blkQ id Q .normal T s=Q .normal T s:=by first | exact (rfl) | rfl
@[simp ↓] theorem blkQ_ret (id:Nat):blkQ id Q .ret T s=Q .ret T s:=by first | exact (rfl) | rfl
@[simp ↓] theorem blkQ_exit (id j:Nat):blkQ id Q (.exit j) T s=if j=id then Q .normal T s else Q (.exit j) T s:=by first | exact (rfl) | rfl
@[simp] theorem loopQ_ret (keep:List Bool) (n:Nat) (I:Nat→List A→Store→Prop) (m:Nat):loopQ keep n I Q m .ret T s=Q .ret T s:=by first | exact (rfl) | rfl
@[simp] theorem loopQ_exit (keep:List Bool) (n:Nat) (I:Nat→List A→Store→Prop) (m j:Nat):loopQ keep n I Q m (.exit j) T s=Q (.exit j) T s:=by first | exact (rfl) | rfl
@[simp] theorem loopQ_normal (keep:List Bool) (n:Nat) (I:Nat→List A→Store→Prop) (m:Nat):loopQ keep n I Q m .normal T s=(inScope n (mask keep T) s∧∃m',m'<m∧I m' (mask keep T) (s.take n)):=by first | exact (rfl) | rfl
@[simp ↓] theorem vc_skip:vc G lo .skip Q T s=Q .normal T s:=by first | exact (rfl) | rfl
@[simp ↓] theorem vc_ret:vc G lo .ret Q T s=Q .ret T s:=by first | exact (rfl) | rfl
@[simp ↓] theorem vc_exit (j:Nat):vc G lo (.exit j) Q T s=Q (.exit j) T s:=by first | exact (rfl) | rfl
@[simp ↓] theorem vc_seq (a b:XC):vc G lo (.seq a b) Q T s=vc G lo a (seqQ G lo b Q) T s:=by
  simp only[vc]
  congr 1
  funext e T s
  cases e <;> rfl
@[simp ↓] theorem vc_block (id:Nat) (a:XC):vc G lo (.block id a) Q T s=vc G lo a (blkQ id Q) T s:=by
  simp only[vc]
  congr 1
  funext e T s
  cases e <;> rfl
def Whn (b:Bool) (p:Prop):Prop:=b=true→p
def Whl (b:Bool) (p:Prop):Prop:=b=false→p
@[congr] theorem Whn_congr {b c:Bool} {p:Prop} (h:b=c):Whn b p=Whn c p:=by rw[h]
@[congr] theorem Whl_congr {b c:Bool} {p:Prop} (h:b=c):Whl b p=Whl c p:=by rw[h]
@[simp low] theorem Whn_eq (b:Bool) (p:Prop):Whn b p=(b=true→p):=by first | exact (rfl) | rfl
@[simp low] theorem Whl_eq (b:Bool) (p:Prop):Whl b p=(b=false→p):=by first | exact (rfl) | rfl
@[simp ↓] theorem Whn_true (p:Prop):Whn true p=p:=by simp[Whn]
@[simp ↓] theorem Whn_false (p:Prop):Whn false p=True:=by simp[Whn]
@[simp ↓] theorem Whl_true (p:Prop):Whl true p=True:=by simp[Whl]
@[simp ↓] theorem Whl_false (p:Prop):Whl false p=p:=by simp[Whl]
def condK (c:A) (a b:Prop):Prop:=match c with | .d (.bool t)=>(t=true→a)∧(t=false→b) | _=>False
@[simp ↓] theorem condK_bool (t:Bool) (a b:Prop):condK (.d (.bool t)) a b=(Whn t a∧Whl t b):=by first | exact (rfl) | rfl
def getC (T L:List A) (c:V):A:=V.get T L c
@[simp] theorem getC_eq (T L:List A) (c:V):getC T L c=V.get T L c:=by first | exact (rfl) | rfl
def getL (L:List A) (j:Nat):A:=L.getD j .any
@[simp] theorem getL_eq (L:List A) (j:Nat):getL L j=L.getD j .any:=by first | exact (rfl) | rfl
def effOf (G:Gam) (s:Store) (nw:Nat) (r:V→A) (x:X):Eff:=x.eff G s nw r
@[simp] theorem effOf_eq (G:Gam) (s:Store) (nw:Nat) (r:V→A) (x:X):effOf G s nw r x=x.eff G s nw r:=by first | exact (rfl) | rfl
def setw (T:List A) (v:Option Nat) (x:A):List A:=setv T v x
@[simp] theorem setw_eq (T:List A) (v:Option Nat) (x:A):setw T v x=setv T v x:=by first | exact (rfl) | rfl
@[simp] theorem vc_cond (c:V) (a b:XC):vc G lo (.cond c a b) Q T s=condK (getC T [] c) (vc G lo a Q T s) (vc G lo b Q T s):=by first | exact (rfl) | rfl
@[simp] theorem vc_reg (xs:List XO) (al:Nat):vc G lo (.reg xs al) Q T s=vOps G s.length xs T [] (s++List.replicate al .res) (Q .normal):=by first | exact (rfl) | rfl
def Hint (lo:Nat) (Q:XE→List A→Store→Prop) (T:List A) (s:Store):Prop:=∃T' s',Re lo T s T' s'∧Q .normal T' s'
@[simp] theorem vc_hint:vc G lo .hint Q T s=Hint lo Q T s:=by first | exact (rfl) | rfl
theorem Hint.of {lo:Nat} {Q:XE→List A→Store→Prop} {T T':List A} {s s':Store} (h:Re lo T s T' s') (k:Q .normal T' s'):Hint lo Q T s:=⟨T',s',h,k⟩
def regK (pairs:List (Nat × Nat)) (Q:XE→List A→Store→Prop) (T:List A) (s:Store) (F:List (List Nat)):Prop:=pairsOk F pairs∧Q .normal T s
@[simp] theorem regK_eq (pairs:List (Nat × Nat)) (F:List (List Nat)):regK pairs Q T s F=(pairsOk F pairs∧Q .normal T s):=by first | exact (rfl) | rfl
@[simp] theorem vc_regD (xs:List XO) (al:Nat) (pairs:List (Nat × Nat)):vc G lo (.regD xs al pairs) Q T s=vOpsD G s.length xs T [] (s++List.replicate al .res) [] (regK pairs Q):=by first | exact (rfl) | rfl
def loopR (I:Nat→List A→Store→Prop) (Q:XE→List A→Store→Prop) (m:Nat):XE→List A→Store→Prop
  | .normal,T,s=>∃m' T' s',m'<m∧Re lo T s T' s'∧I m' T' s'
  | e,T,s=>Q e T s
@[simp] theorem loopR_ret (I:Nat→List A→Store→Prop) (m:Nat):loopR lo I Q m .ret T s=Q .ret T s:=by first | exact (rfl) | rfl
@[simp] theorem loopR_exit (I:Nat→List A→Store→Prop) (m j:Nat):loopR lo I Q m (.exit j) T s=Q (.exit j) T s:=by first | exact (rfl) | rfl
@[simp] theorem loopR_normal (I:Nat→List A→Store→Prop) (m:Nat):loopR lo I Q m .normal T s=∃m' T' s',m'<m∧Re lo T s T' s'∧I m' T' s':=by first | exact (rfl) | rfl
theorem vc_loopR (I:Nat→List A→Store→Prop) (a:XC) (h2:∃m T' s',Re lo T s T' s'∧I m T' s') (h3:∀m T s,I m T s→vc G lo a (loopR lo I Q m) T s):vc G lo (.loop a) Q T s:=by
  refine⟨I,h2,fun m T s hI=>vc_mono _ _ _ _ _ (fun e T s h=>?_) (h3 m T s hI)⟩
  cases e with
  | normal=>exact h
  | exit j=>exact h
  | ret=>exact h
theorem vc_loop (keep:List Bool) (n:Nat) (I:Nat→List A→Store→Prop) (a:XC) (h0:lo≤n) (h1:inScope n (mask keep T) s) (h2:∃m,I m (mask keep T) (s.take n)) (h3:∀m T s,I m T s→vc G lo a (loopQ keep n I Q m) T s):vc G lo (.loop a) Q T s:=by
  obtain⟨m,h2⟩:=h2
  refine vc_loopR _ _ _ _ _ I a ⟨m,_,_,Re.forget keep h0 h1,h2⟩ fun m T s hI=>vc_mono _ _ _ _ _ (fun e T s h=>?_) (h3 m T s hI)
  cases e with
  | normal =>
    obtain⟨h4,m',h5,h6⟩:=h
    exact⟨m',_,_,h5,Re.forget keep h0 h4,h6⟩
  | exit j=>exact h
  | ret=>exact h
end
section
variable (G:Gam) (n0:Nat) (T L:List A) (s:Store) (F:List (List Nat)) (K:List A→Store→Prop) (KD:List A→Store→List (List Nat)→Prop)
def vStep (var:Option Nat) (r:List XO) (e:Eff):Prop:=e.pre∧vOps G n0 r (setw T var e.res) (L++[e.res]) (s.setAll e.fp) K
def vStepD (var:Option Nat) (r:List XO) (e:Eff):Prop:=e.pre∧vOpsD G n0 r (setw T var e.res) (L++[e.res]) (s.setAll e.fp) (F++[e.fp.map (·.1)]) KD
def guardK (c:A) (want:Bool) (a b:A→Prop):Prop:=match c with
  | .d (.bool t)=>(t=true→(if want=true then a (.d (.bool true)) else b (.d (.bool true))))∧(t=false→(if want=true then b (.d (.bool false)) else a (.d (.bool false))))
  | .tup []=>b (.tup [])
  | _=>False
@[simp ↓] theorem guardK_true (t:Bool) (a b:A→Prop):guardK (.d (.bool t)) true a b=(Whn t (a (.d (.bool true)))∧Whl t (b (.d (.bool false)))):=by first | exact (rfl) | rfl
@[simp ↓] theorem guardK_false (t:Bool) (a b:A→Prop):guardK (.d (.bool t)) false a b=(Whn t (b (.d (.bool true)))∧Whl t (a (.d (.bool false)))):=by first | exact (rfl) | rfl
@[simp ↓] theorem guardK_over (w:Bool) (a b:A→Prop):guardK (.tup []) w a b=b (.tup []):=by first | exact (rfl) | rfl
@[simp] theorem vOps_nil:vOps G n0 [] T L s K=K T s:=by first | exact (rfl) | rfl
@[simp] theorem vOps_cons (x:X) (var:Option Nat) (al:Nat) (r:List XO):vOps G n0 (⟨x,var,none,al⟩::r) T L s K=vStep G n0 T L s K var r (effOf G s (n0+al) (V.get T L) x):=by first | exact (rfl) | rfl
@[simp] theorem vOps_guard (x:X) (var:Option Nat) (al j:Nat) (want:Bool) (r:List XO):vOps G n0 (⟨x,var,some (j,want),al⟩::r) T L s K =
    guardK (getL L j) want (fun t=>vStep G n0 T (L.set j t) s K var r (effOf G s (n0+al) (V.get T (L.set j t)) x)) (fun t=>vOps G n0 r (setw T var (.tup [])) (L.set j t++[.tup []]) s K):=by
  rw[vOps]
  simp only[guardK,vGuard,vStep,getL_eq,effOf_eq,setw_eq]
  have hset:∀x,L.getD j .any=x→x≠.any→L.set j x=L:=fun x=>set_getD'
  generalize L.getD j .any=c at hset
  cases c with
  | d x=>cases x <;> first | rfl | (cases want <;> rfl)
  | tup cs =>
    cases cs with
    | nil=>simp only[hset _ rfl (by simp)]
    | cons _ _=>rfl
  | _=>rfl
@[simp] theorem vOpsD_nil:vOpsD G n0 [] T L s F KD=KD T s F:=by first | exact (rfl) | rfl
@[simp] theorem vOpsD_cons (x:X) (var:Option Nat) (al:Nat) (r:List XO):vOpsD G n0 (⟨x,var,none,al⟩::r) T L s F KD=vStepD G n0 T L s F KD var r (effOf G s (n0+al) (V.get T L) x):=by first | exact (rfl) | rfl
@[simp] theorem vOpsD_guard (x:X) (var:Option Nat) (al j:Nat) (want:Bool) (r:List XO):vOpsD G n0 (⟨x,var,some (j,want),al⟩::r) T L s F KD =
    guardK (getL L j) want (fun t=>vStepD G n0 T (L.set j t) s F KD var r (effOf G s (n0+al) (V.get T (L.set j t)) x)) (fun t=>vOpsD G n0 r (setw T var (.tup [])) (L.set j t++[.tup []]) s (F++[[]]) KD):=by
  rw[vOpsD]
  simp only[guardK,vGuard,vStepD,getL_eq,effOf_eq,setw_eq]
  have hset:∀x,L.getD j .any=x→x≠.any→L.set j x=L:=fun x=>set_getD'
  generalize L.getD j .any=c at hset
  cases c with
  | d x=>cases x <;> first | rfl | (cases want <;> rfl)
  | tup cs =>
    cases cs with
    | nil=>simp only[hset _ rfl (by simp)]
    | cons _ _=>rfl
  | _=>rfl
@[simp] theorem vStep_mk (var:Option Nat) (r:List XO) (p:Prop) (fp:List (Nat × Ob)) (res:A):vStep G n0 T L s K var r ⟨p,fp,res⟩=(p∧vOps G n0 r (setw T var res) (L++[res]) (s.setAll fp) K):=by first | exact (rfl) | rfl
@[simp] theorem vStep_val (var:Option Nat) (r:List XO) (x:D):vStep G n0 T L s K var r (.val x)=vOps G n0 r (setv T var (.d x)) (L++[.d x]) s K:=by
  simp[vStep,Eff.val,Store.setAll]
@[simp] theorem vStep_valIf (var:Option Nat) (r:List XO) (p:Prop) (x:D):vStep G n0 T L s K var r (.valIf p x)=(p∧vOps G n0 r (setv T var (.d x)) (L++[.d x]) s K):=by
  simp[vStep,Eff.valIf,Store.setAll]
@[simp] theorem vStepD_mk (var:Option Nat) (r:List XO) (p:Prop) (fp:List (Nat × Ob)) (res:A):vStepD G n0 T L s F KD var r ⟨p,fp,res⟩=(p∧vOpsD G n0 r (setw T var res) (L++[res]) (s.setAll fp) (F++[fp.map (·.1)]) KD):=by first | exact (rfl) | rfl
@[simp] theorem vStepD_val (var:Option Nat) (r:List XO) (x:D):vStepD G n0 T L s F KD var r (.val x)=vOpsD G n0 r (setv T var (.d x)) (L++[.d x]) s (F++[[]]) KD:=by
  simp[vStepD,Eff.val,Store.setAll]
@[simp] theorem vStepD_valIf (var:Option Nat) (r:List XO) (p:Prop) (x:D):vStepD G n0 T L s F KD var r (.valIf p x)=(p∧vOpsD G n0 r (setv T var (.d x)) (L++[.d x]) s (F++[[]]) KD):=by
  simp[vStepD,Eff.valIf,Store.setAll]
end
section
variable {G:Gam} {lo n0:Nat}
@[congr] theorem vc_congr {c:XC} {Q:XE→List A→Store→Prop} {T T':List A} {s s':Store} (h1:T=T') (h2:s=s'):vc G lo c Q T s=vc G lo c Q T' s':=by rw[h1,h2]
@[congr] theorem Hint_congr {Q:XE→List A→Store→Prop} {T T':List A} {s s':Store} (h1:T=T') (h2:s=s'):Hint lo Q T s=Hint lo Q T' s':=by rw[h1,h2]
@[congr] theorem seqQ_congr {b:XC} {Q:XE→List A→Store→Prop} {e:XE} {T T':List A} {s s':Store} (h1:T=T') (h2:s=s'):seqQ G lo b Q e T s=seqQ G lo b Q e T' s':=by rw[h1,h2]
@[congr] theorem blkQ_congr {id:Nat} {Q:XE→List A→Store→Prop} {e:XE} {T T':List A} {s s':Store} (h1:T=T') (h2:s=s'):blkQ id Q e T s=blkQ id Q e T' s':=by rw[h1,h2]
@[congr] theorem loopQ_congr {keep:List Bool} {n m:Nat} {I:Nat→List A→Store→Prop} {Q:XE→List A→Store→Prop} {e:XE} {T T':List A} {s s':Store} (h1:T=T') (h2:s=s'):loopQ keep n I Q m e T s=loopQ keep n I Q m e T' s':=by rw[h1,h2]
@[congr] theorem loopR_congr {m:Nat} {I:Nat→List A→Store→Prop} {Q:XE→List A→Store→Prop} {e:XE} {T T':List A} {s s':Store} (h1:T=T') (h2:s=s'):loopR lo I Q m e T s=loopR lo I Q m e T' s':=by rw[h1,h2]
@[congr] theorem condK_congr {c c':A} {a b:Prop} (h:c=c'):condK c a b=condK c' a b:=by rw[h]
@[congr] theorem guardK_congr {c c':A} {w:Bool} {a b:A→Prop} (h:c=c'):guardK c w a b=guardK c' w a b:=by rw[h]
@[congr] theorem vOps_congr {xs:List XO} {T T' L L':List A} {s s':Store} {K:List A→Store→Prop} (h1:T=T') (h2:L=L') (h3:s=s'):vOps G n0 xs T L s K=vOps G n0 xs T' L' s' K:=by rw[h1,h2,h3]
@[congr] theorem vOpsD_congr {xs:List XO} {T T' L L':List A} {s s':Store} {F F':List (List Nat)} {K:List A→Store→List (List Nat)→Prop} (h1:T=T') (h2:L=L') (h3:s=s') (h4:F=F'):vOpsD G n0 xs T L s F K=vOpsD G n0 xs T' L' s' F' K:=by rw[h1,h2,h3,h4]
@[congr] theorem vStep_congr {T L:List A} {s:Store} {K:List A→Store→Prop} {v:Option Nat} {r:List XO} {e e':Eff} (h:e=e'):vStep G n0 T L s K v r e=vStep G n0 T L s K v r e':=by rw[h]
@[congr] theorem vStepD_congr {T L:List A} {s:Store} {F:List (List Nat)} {K:List A→Store→List (List Nat)→Prop} {v:Option Nat} {r:List XO} {e e':Eff} (h:e=e'):vStepD G n0 T L s F K v r e=vStepD G n0 T L s F K v r e':=by rw[h]
@[congr] theorem regK_congr {pairs:List (Nat × Nat)} {Q:XE→List A→Store→Prop} {T T':List A} {s s':Store} {F F':List (List Nat)} (h1:T=T') (h2:s=s') (h3:F=F'):regK pairs Q T s F=regK pairs Q T' s' F':=by rw[h1,h2,h3]
end
attribute [simp] eRc Eff.look X.eff V.get setv Store.setAll eBin sBin iBin eBeq eLen eConv eUn eIaddr eLoad eStore eFaddr eNilck eIndex eField eExtract ePick eMm eSbuild eSbuildo eBuild eBox eBalloc eBappend bsrc eMkcap eIsnil eMkslice eMkd eMkmap eAppend eSlice bnd A.isD A.allD A.toD A.toDs D.fits A.fits D.flat D.flats Fin RetOk resE resPre start startA allOf splice A.under A.unders Ob.under
@[simp] theorem dcells_bool (b:Bool):D.cells (D.bool b)=[(D.bool b)]:=rfl
@[simp] theorem done_bool (b:Bool):D.one (D.bool b)=true:=rfl
@[simp] theorem dcells_int (k:IntKind) (n:Int):D.cells (D.int k n)=[(D.int k n)]:=rfl
@[simp] theorem done_int (k:IntKind) (n:Int):D.one (D.int k n)=true:=rfl
@[simp] theorem dcells_str (s:List UInt8):D.cells (D.str s)=[(D.str s)]:=rfl
@[simp] theorem done_str (s:List UInt8):D.one (D.str s)=true:=rfl
@[simp] theorem dcells_nilp:D.cells D.nilp=[D.nilp]:=rfl
@[simp] theorem done_nilp:D.one D.nilp=true:=rfl
@[simp] theorem dcells_nilsl:D.cells D.nilsl=[D.nilsl]:=rfl
@[simp] theorem done_nilsl:D.one D.nilsl=true:=rfl
@[simp] theorem dcells_nilif:D.cells D.nilif=[D.nilif]:=rfl
@[simp] theorem done_nilif:D.one D.nilif=true:=rfl
@[simp] theorem dcells_nilfn:D.cells D.nilfn=[D.nilfn]:=rfl
@[simp] theorem done_nilfn:D.one D.nilfn=true:=rfl
@[simp] theorem dcells_nilmp:D.cells D.nilmp=[D.nilmp]:=rfl
@[simp] theorem done_nilmp:D.one D.nilmp=true:=rfl
@[simp] theorem dcells_sl (e:Nat) (xs:List D):D.cells (D.sl e xs)=[(D.sl e xs)]:=rfl
@[simp] theorem done_sl (e:Nat) (xs:List D):D.one (D.sl e xs)=true:=rfl
@[simp] theorem dcells_agg (cs:List D):D.cells (D.agg cs)=cs:=rfl
@[simp] theorem done_agg (cs:List D):D.one (D.agg cs)=false:=rfl
@[simp] theorem dcells_tup (cs:List D):D.cells (D.tup cs)=[(D.tup cs)]:=rfl
@[simp] theorem done_tup (cs:List D):D.one (D.tup cs)=false:=rfl
@[simp] theorem dcells_iface (t:TypeId) (x:D):D.cells (D.iface t x)=[(D.iface t x)]:=rfl
@[simp] theorem done_iface (t:TypeId) (x:D):D.one (D.iface t x)=true:=rfl
@[simp] theorem dcells_fn (f:Fn) (a:List D) (b:List D):D.cells (D.fn f a b)=[(D.fn f a b)]:=rfl
@[simp] theorem done_fn (f:Fn) (a:List D) (b:List D):D.one (D.fn f a b)=true:=rfl
@[simp] theorem acells_any:A.cells A.any=[A.any]:=rfl
@[simp] theorem aone_any:A.one A.any=false:=rfl
@[simp] theorem anoOwn_any:A.noOwn A.any=true:=rfl
@[simp] theorem bor_any (st:Store):bor st A.any=((A.any).isD=true,(A.any).toD):=rfl
@[simp] theorem borFp_any (st:Store):borFp st A.any=[]:=rfl
@[simp] theorem anoOwn_d (x:D):A.noOwn (A.d x)=true:=rfl
@[simp] theorem bor_d (st:Store) (x:D):bor st (A.d x)=(((A.d x)).isD=true,((A.d x)).toD):=rfl
@[simp] theorem borFp_d (st:Store) (x:D):borFp st (A.d x)=[]:=rfl
@[simp] theorem acells_ref (l:Nat) (u:Nat) (i:Nat) (j:Nat):A.cells (A.ref l u i j)=[(A.ref l u i j)]:=rfl
@[simp] theorem aone_ref (l:Nat) (u:Nat) (i:Nat) (j:Nat):A.one (A.ref l u i j)=true:=rfl
@[simp] theorem anoOwn_ref (l:Nat) (u:Nat) (i:Nat) (j:Nat):A.noOwn (A.ref l u i j)=true:=rfl
@[simp] theorem bor_ref (st:Store) (l:Nat) (u:Nat) (i:Nat) (j:Nat):bor st (A.ref l u i j)=(((A.ref l u i j)).isD=true,((A.ref l u i j)).toD):=rfl
@[simp] theorem borFp_ref (st:Store) (l:Nat) (u:Nat) (i:Nat) (j:Nat):borFp st (A.ref l u i j)=[]:=rfl
@[simp] theorem acells_own (l:Nat) (u:Nat) (i:Nat) (j:Nat):A.cells (A.own l u i j)=[(A.own l u i j)]:=rfl
@[simp] theorem aone_own (l:Nat) (u:Nat) (i:Nat) (j:Nat):A.one (A.own l u i j)=true:=rfl
@[simp] theorem anoOwn_own (l:Nat) (u:Nat) (i:Nat) (j:Nat):A.noOwn (A.own l u i j)=false:=rfl
@[simp] theorem acells_gr (l:Nat) (e:Nat) (xs:List D):A.cells (A.gr l e xs)=[(A.gr l e xs)]:=rfl
@[simp] theorem aone_gr (l:Nat) (e:Nat) (xs:List D):A.one (A.gr l e xs)=true:=rfl
@[simp] theorem anoOwn_gr (l:Nat) (e:Nat) (xs:List D):A.noOwn (A.gr l e xs)=true:=rfl
@[simp] theorem bor_gr (st:Store) (l:Nat) (e:Nat) (xs:List D):bor st (A.gr l e xs)=(((A.gr l e xs)).isD=true,((A.gr l e xs)).toD):=rfl
@[simp] theorem borFp_gr (st:Store) (l:Nat) (e:Nat) (xs:List D):borFp st (A.gr l e xs)=[]:=rfl
@[simp] theorem acells_iptr (cs:List D):A.cells (A.iptr cs)=[(A.iptr cs)]:=rfl
@[simp] theorem aone_iptr (cs:List D):A.one (A.iptr cs)=true:=rfl
@[simp] theorem anoOwn_iptr (cs:List D):A.noOwn (A.iptr cs)=true:=rfl
@[simp] theorem bor_iptr (st:Store) (cs:List D):bor st (A.iptr cs)=(((A.iptr cs)).isD=true,((A.iptr cs)).toD):=rfl
@[simp] theorem borFp_iptr (st:Store) (cs:List D):borFp st (A.iptr cs)=[]:=rfl
@[simp] theorem acells_mp (l:Nat):A.cells (A.mp l)=[(A.mp l)]:=rfl
@[simp] theorem aone_mp (l:Nat):A.one (A.mp l)=true:=rfl
@[simp] theorem anoOwn_mp (l:Nat):A.noOwn (A.mp l)=true:=rfl
@[simp] theorem bor_mp (st:Store) (l:Nat):bor st (A.mp l)=(((A.mp l)).isD=true,((A.mp l)).toD):=rfl
@[simp] theorem borFp_mp (st:Store) (l:Nat):borFp st (A.mp l)=[]:=rfl
@[simp] theorem acells_tref (l v:Nat) (t:TypeId):A.cells (A.tref l v t)=[(A.tref l v t)]:=rfl
@[simp] theorem aone_tref (l v:Nat) (t:TypeId):A.one (A.tref l v t)=true:=rfl
@[simp] theorem anoOwn_tref (l v:Nat) (t:TypeId):A.noOwn (A.tref l v t)=true:=rfl
@[simp] theorem bor_tref (st:Store) (l v:Nat) (t:TypeId):bor st (A.tref l v t)=(((A.tref l v t)).isD=true,((A.tref l v t)).toD):=rfl
@[simp] theorem borFp_tref (st:Store) (l v:Nat) (t:TypeId):borFp st (A.tref l v t)=[]:=rfl
@[simp] theorem acells_bgr (l:Nat) (t:TypeId) (bs:List UInt8):A.cells (A.bgr l t bs)=[(A.bgr l t bs)]:=rfl
@[simp] theorem aone_bgr (l:Nat) (t:TypeId) (bs:List UInt8):A.one (A.bgr l t bs)=true:=rfl
@[simp] theorem anoOwn_bgr (l:Nat) (t:TypeId) (bs:List UInt8):A.noOwn (A.bgr l t bs)=true:=rfl
@[simp] theorem bor_bgr (st:Store) (l:Nat) (t:TypeId) (bs:List UInt8):bor st (A.bgr l t bs)=(((A.bgr l t bs)).isD=true,((A.bgr l t bs)).toD):=rfl
@[simp] theorem borFp_bgr (st:Store) (l:Nat) (t:TypeId) (bs:List UInt8):borFp st (A.bgr l t bs)=[]:=rfl
@[simp] theorem acells_agg (cs:List A):A.cells (A.agg cs)=cs:=rfl
@[simp] theorem aone_agg (cs:List A):A.one (A.agg cs)=false:=rfl
@[simp] theorem anoOwn_agg (cs:List A):A.noOwn (A.agg cs)=true:=rfl
@[simp] theorem bor_agg (st:Store) (cs:List A):bor st (A.agg cs)=(((A.agg cs)).isD=true,((A.agg cs)).toD):=rfl
@[simp] theorem borFp_agg (st:Store) (cs:List A):borFp st (A.agg cs)=[]:=rfl
@[simp] theorem acells_tup (cs:List A):A.cells (A.tup cs)=[(A.tup cs)]:=rfl
@[simp] theorem aone_tup (cs:List A):A.one (A.tup cs)=false:=rfl
@[simp] theorem anoOwn_tup (cs:List A):A.noOwn (A.tup cs)=true:=rfl
@[simp] theorem bor_tup (st:Store) (cs:List A):bor st (A.tup cs)=(((A.tup cs)).isD=true,((A.tup cs)).toD):=rfl
@[simp] theorem borFp_tup (st:Store) (cs:List A):borFp st (A.tup cs)=[]:=rfl
@[simp] theorem acells_fn (f:Fn) (a:List A) (b:List A):A.cells (A.fn f a b)=[(A.fn f a b)]:=rfl
@[simp] theorem aone_fn (f:Fn) (a:List A) (b:List A):A.one (A.fn f a b)=true:=rfl
@[simp] theorem anoOwn_fn (f:Fn) (a:List A) (b:List A):A.noOwn (A.fn f a b)=true:=rfl
@[simp] theorem bor_fn (st:Store) (f:Fn) (a:List A) (b:List A):bor st (A.fn f a b)=(((A.fn f a b)).isD=true,((A.fn f a b)).toD):=rfl
@[simp] theorem borFp_fn (st:Store) (f:Fn) (a:List A) (b:List A):borFp st (A.fn f a b)=[]:=rfl
@[simp] theorem acells_iface (t:TypeId) (x:A):A.cells (A.iface t x)=[(A.iface t x)]:=rfl
@[simp] theorem aone_iface (t:TypeId) (x:A):A.one (A.iface t x)=true:=rfl
@[simp] theorem anoOwn_iface (t:TypeId) (x:A):A.noOwn (A.iface t x)=true:=rfl
@[simp] theorem bor_iface (st:Store) (t:TypeId) (x:A):bor st (A.iface t x)=(((A.iface t x)).isD=true,((A.iface t x)).toD):=rfl
@[simp] theorem borFp_iface (st:Store) (t:TypeId) (x:A):borFp st (A.iface t x)=[]:=rfl
@[simp] theorem acells_dbool (b:Bool):A.cells (.d (D.bool b))=[A.d (D.bool b)]:=rfl
@[simp] theorem aone_dbool (b:Bool):A.one (.d (D.bool b))=true:=rfl
@[simp] theorem acells_dint (k:IntKind) (n:Int):A.cells (.d (D.int k n))=[A.d (D.int k n)]:=rfl
@[simp] theorem aone_dint (k:IntKind) (n:Int):A.one (.d (D.int k n))=true:=rfl
@[simp] theorem acells_dstr (s:List UInt8):A.cells (.d (D.str s))=[A.d (D.str s)]:=rfl
@[simp] theorem aone_dstr (s:List UInt8):A.one (.d (D.str s))=true:=rfl
@[simp] theorem acells_dnilp:A.cells (.d D.nilp)=[A.d D.nilp]:=rfl
@[simp] theorem aone_dnilp:A.one (.d D.nilp)=true:=rfl
@[simp] theorem acells_dnilsl:A.cells (.d D.nilsl)=[A.d D.nilsl]:=rfl
@[simp] theorem aone_dnilsl:A.one (.d D.nilsl)=true:=rfl
@[simp] theorem acells_dnilif:A.cells (.d D.nilif)=[A.d D.nilif]:=rfl
@[simp] theorem aone_dnilif:A.one (.d D.nilif)=true:=rfl
@[simp] theorem acells_dnilfn:A.cells (.d D.nilfn)=[A.d D.nilfn]:=rfl
@[simp] theorem aone_dnilfn:A.one (.d D.nilfn)=true:=rfl
@[simp] theorem acells_dnilmp:A.cells (.d D.nilmp)=[A.d D.nilmp]:=rfl
@[simp] theorem aone_dnilmp:A.one (.d D.nilmp)=true:=rfl
@[simp] theorem acells_dsl (e:Nat) (xs:List D):A.cells (.d (D.sl e xs))=[A.d (D.sl e xs)]:=rfl
@[simp] theorem aone_dsl (e:Nat) (xs:List D):A.one (.d (D.sl e xs))=true:=rfl
@[simp] theorem acells_dagg (cs:List D):A.cells (.d (D.agg cs))=cs.map .d:=rfl
@[simp] theorem aone_dagg (cs:List D):A.one (.d (D.agg cs))=false:=rfl
@[simp] theorem acells_dtup (cs:List D):A.cells (.d (D.tup cs))=[A.d (D.tup cs)]:=rfl
@[simp] theorem aone_dtup (cs:List D):A.one (.d (D.tup cs))=false:=rfl
@[simp] theorem acells_diface (t:TypeId) (x:D):A.cells (.d (D.iface t x))=[A.d (D.iface t x)]:=rfl
@[simp] theorem aone_diface (t:TypeId) (x:D):A.one (.d (D.iface t x))=true:=rfl
@[simp] theorem acells_dfn (f:Fn) (a:List D) (b:List D):A.cells (.d (D.fn f a b))=[A.d (D.fn f a b)]:=rfl
@[simp] theorem aone_dfn (f:Fn) (a:List D) (b:List D):A.one (.d (D.fn f a b))=true:=rfl
@[simp] theorem src_sl (st:Store) (n e:Nat) (xs:List D):src st n (.d (.sl e xs))=(e=n,xs):=rfl
@[simp] theorem src_nil (st:Store) (n:Nat):src st n (.d .nilsl)=(True,[]):=rfl
@[simp] theorem src_gr (st:Store) (n l e:Nat) (xs:List D):src st n (.gr l e xs)=(e=n,xs):=rfl
@[simp] theorem to_int (n:Int):Rep.to n=D.int .i64 n:=rfl
@[simp] theorem to_bool (b:Bool):Rep.to b=D.bool b:=rfl
@[simp] theorem to_str (s:List UInt8):Rep.to s=D.str s:=rfl
@[simp] theorem to_list {α:Type} [Rep α] (l:List α):Rep.to l=D.sl (Rep.size α) (l.map Rep.to):=rfl
@[simp] theorem size_int:Rep.size Int=1:=rfl
@[simp] theorem size_bool:Rep.size Bool=1:=rfl
@[simp] theorem size_str:Rep.size (List UInt8)=1:=rfl
@[simp] theorem size_list {α:Type} [Rep α]:Rep.size (List α)=1:=rfl
@[simp] theorem inScope_nil (n:Nat) (T:List A):inScope n T []=True:=by simp[inScope]
attribute [simp] mask
theorem getD_map {α β:Type} {l:List α} {f:α→β} {k:Nat} {d:β} (h:k<l.length):(l.map f).getD k d=f l[k]:=by simp[List.getD,h]
theorem wrap_in {n:Int} (h1:-9223372036854775808≤n) (h2:n≤9223372036854775807):IntKind.i64.wrap n=n:=IntWalk.i64_in n ⟨h1,h2⟩
@[simp] theorem of_int (n:Int):Rep.of (D.int .i64 n)=some n:=rfl
@[simp] theorem of_bool (b:Bool):Rep.of (D.bool b)=some b:=rfl
@[simp] theorem of_str (s:List UInt8):Rep.of (D.str s)=some s:=rfl
@[simp] theorem of_list {α:Type} [Rep α] (e:Nat) (xs:List D):Rep.of (α:=List α) (D.sl e xs)=if e=Rep.size α then ofAll Rep.of xs else none:=rfl
@[simp] theorem of_listnil {α:Type} [Rep α]:Rep.of (α:=List α) D.nilsl=some []:=rfl
@[simp] theorem ofAll_to {α:Type} [Rep α] (l:List α):ofAll Rep.of (l.map Rep.to)=some l:=ofAll_map Rep.of_to l
@[simp] theorem ofAll_comp {α β:Type} [Rep α] (f:β→α) (l:List β):ofAll Rep.of (l.map (Rep.to ∘ f))=some (l.map f):=by rw[← List.map_map];exact ofAll_map Rep.of_to _
attribute [simp] eLookup eMapup ofAll eCall spec0 spec1 spec2 spec3 spec4
@[simp] theorem LeD_tup (as bs:List D):LeD (.tup as) (.tup bs)=LeDs as bs:=by simp only[LeD]
@[simp] theorem LeD_agg (as bs:List D):LeD (.agg as) (.agg bs)=LeDs as bs:=by simp only[LeD]
@[simp] theorem LeDs_nil:LeDs [] []=True:=by simp[LeDs]
@[simp] theorem LeDs_cons (a b:D) (as bs:List D):LeDs (a::as) (b::bs)=(LeD a b∧LeDs as bs):=by simp only[LeDs]
@[simp] theorem LeD_refl (a:D):LeD a a=True:=eq_true (LeD.refl a)
@[simp] theorem LeDs_refl (a:List D):LeDs a a=True:=eq_true (LeDs.refl a)
@[simp] theorem LeD_bool (a b:Bool):LeD (.bool a) (.bool b)=(a=b):=by simp[LeD,eq_comm]
@[simp] theorem LeD_int (k l:IntKind) (a b:Int):LeD (.int k a) (.int l b)=(k=l∧a=b):=by simp[LeD,eq_comm]
@[simp] theorem LeD_str (a b:List UInt8):LeD (.str a) (.str b)=(a=b):=by simp[LeD,eq_comm]
@[simp] theorem LeD_sl (e f:Nat) (a b:List D):LeD (.sl e a) (.sl f b)=(e=f∧a=b):=by simp[LeD,eq_comm]
@[simp] theorem LeD_nil (e:Nat) (a:List D):LeD .nilsl (.sl e a)=(a=[]):=by simp[LeD]
theorem add1 {i n:Nat} (h:i<n) (hn:n≤9223372036854775807):IntKind.i64.wrap ((i:Int)+1)=((i+1:Nat):Int):=by
  rw[wrap_in] <;> omega
theorem take_snoc {α:Type} {l:List α} {i:Nat} (h:i<l.length):l.take (i+1)=l.take i++[l[i]]:=by simp
attribute [simp] pairsOk disj
end Go.AE
namespace Go.AE
def Wk (n:Nat) (k:List Ob) (x y:A):Prop:=∀(w:World) (M:Mem) (s:Store) (v:Value),(∀i,i<k.length→s[n+i]?=k[i]?∧M.B (n+i)=none)→ARep w M s x v→ARep w M s y v
def freshOk (k:List Ob):Prop:=∀x,x∈k→x=.tip 0∨∃e,x=.cells 0 e []
@[simp] theorem freshOk_nil:freshOk []=True:=by simp[freshOk]
@[simp] theorem freshOk_tip (k:List Ob):freshOk (.tip 0::k)=freshOk k:=by simp[freshOk]
@[simp] theorem freshOk_cells (e:Nat) (k:List Ob):freshOk (.cells 0 e []::k)=freshOk k:=by simp[freshOk]
theorem Wk.refl (n:Nat) (k:List Ob) (x:A):Wk n k x x:=fun _ _ _ _ _ h=>h
theorem Wk.any (n:Nat) (k:List Ob) (x:A):Wk n k x .any:=fun _ _ _ v _ _=>.any v
theorem Wk.gr (n:Nat) (k:List Ob) (l e:Nat) (xs:List D):Wk n k (.gr l e xs) (.d (.sl e xs)):=fun _ _ _ v _ h=>by
  cases h with
  | gr _ _ _ _ h=>exact .d _ _ h.1
theorem Wk.nil (n:Nat) (k:List Ob) (e:Nat):Wk n k (.d .nilsl) (.d (.sl e [])):=fun _ _ _ v _ h=>by
  cases h with
  | d _ _ h=>cases h;exact .d _ _ (.sl0 _ _ _)
theorem Wk.fresh (n:Nat) (k:List Ob) (e i:Nat) (h1:k[i]?=some (.tip 0)):Wk n k (.d .nilsl) (.gr (n+i) e []):=fun w M s v hf h=>by
  cases h with
  | d _ _ h =>
    cases h
    obtain⟨h3,h4⟩:=hf i (List.getElem?_eq_some_iff.1 h1).1
    refine .gr _ _ _ _ ⟨.sl0 _ _ _,?_⟩
    rw[h3,h1]
    exact⟨Nat.le_refl _,fun _=>⟨none,0,rfl,.inl ⟨h4,rfl⟩⟩⟩
theorem Wk.freshO (n:Nat) (k:List Ob) (e i:Nat) (h1:k[i]?=some (.cells 0 e [])):Wk n k (.d .nilsl) (.own (n+i) 0 0 0):=fun w M s v hf h=>by
  cases h with
  | d _ _ h =>
    cases h
    obtain⟨h3,h4⟩:=hf i (List.getElem?_eq_some_iff.1 h1).1
    refine .own _ _ _ _ _ rfl ?_
    unfold ownOk
    rw[h3,h1]
    exact⟨Nat.le_refl _,fun _=>.inl ⟨h4,by simp,rfl,rfl⟩⟩
theorem Wk.agg (n:Nat) (k:List Ob) (cs ds:List A) (hl:cs.length=ds.length) (ho:ds.all A.one=true) (h:∀j,j<cs.length→Wk n k (cs.getD j .any) (ds.getD j .any)):Wk n k (.agg cs) (.agg ds):=fun w M s v hf h1=>by
  cases h1 with
  | agg _ vs h2 h3 h4=>exact .agg _ _ (by omega) ho (fun j hj=>h j (by omega) _ _ _ _ hf (h4 j (by omega)))
def WkL (n:Nat) (k:List Ob):List A→List A→Prop
  | [],[]=>True
  | x::xs,y::ys=>Wk n k x y∧WkL n k xs ys
  | _,_=>False
theorem WkL.get {n:Nat} {k:List Ob}:∀{xs ys:List A},WkL n k xs ys→xs.length=ys.length∧∀j,Wk n k (xs.getD j .any) (ys.getD j .any)
  | [],[],_=>⟨rfl,fun j=>Wk.refl _ _ _⟩
  | x::xs,y::ys,h=>by
    obtain⟨h1,h2⟩:=WkL.get h.2
    refine⟨by simp[h1],fun j=>?_⟩
    cases j with
    | zero=>exact h.1
    | succ j=>simpa using h2 j
  | [],_::_,h=>h.elim
  | _::_,[],h=>h.elim
def WkE (n:Nat) (k:List Ob) (e:Nat) (xs ys:List A):Prop:=xs.length=ys.length∧∀i,i<xs.length→((ys.getD i .any).fits e=true∧WkL n k (xs.getD i .any).cells (ys.getD i .any).cells)
theorem WkE.refl {n:Nat} {k:List Ob} {e:Nat} {xs:List A} (h:∀x,x∈xs→x.fits e=true):WkE n k e xs xs:=by
  refine⟨rfl,fun i hi=>⟨h _ (getD_mem _ _ hi),?_⟩⟩
  generalize (xs.getD i .any).cells=cs
  induction cs with
  | nil=>trivial
  | cons x r ih=>exact⟨Wk.refl _ _ _,ih⟩
def WkO (n:Nat) (k:List Ob) (a b:Ob):Prop:=a=b∨∃v e xs ys,a=.cells v e xs∧b=.cells v e ys∧WkE n k e xs ys
def WkS (n:Nat) (k:List Ob):Store→Store→Prop
  | [],[]=>True
  | x::xs,y::ys=>WkO n k x y∧WkS n k xs ys
  | _,_=>False
theorem WkS.get {n:Nat} {k:List Ob}:∀{xs ys:Store},WkS n k xs ys→xs.length=ys.length∧∀j,WkO n k (xs.getD j .dead) (ys.getD j .dead)
  | [],[],_=>⟨rfl,fun j=>.inl rfl⟩
  | x::xs,y::ys,h=>by
    obtain⟨h1,h2⟩:=WkS.get h.2
    refine⟨by simp[h1],fun j=>?_⟩
    cases j with
    | zero=>exact h.1
    | succ j=>simpa using h2 j
  | [],_::_,h=>h.elim
  | _::_,[],h=>h.elim
theorem WkO.look {n:Nat} {k:List Ob} {a b:Ob} (h:WkO n k a b):(a=b)∨∃v e xs ys,a=.cells v e xs∧b=.cells v e ys∧xs.length=ys.length:=by
  rcases h with h | ⟨v,e,xs,ys,h1,h2,h3,_⟩
  · exact .inl h
  · exact .inr ⟨v,e,xs,ys,h1,h2,h3⟩
theorem wk_arep {w:World} {M:Mem} {s s':Store} (hs:∀l,l<s.length→s'[l]?=s[l]?∨∃v e xs ys,s[l]?=some (.cells v e xs)∧s'[l]?=some (.cells v e ys)∧xs.length=ys.length) {x:A} {v:Value}
    (h:ARep w M s x v):ARep w M s' x v:=by
  have hlt:∀{l:Nat} {o:Ob},s[l]?=some o→l<s.length:=fun h=>(List.getElem?_eq_some_iff.1 h).1
  refine h.mono (fun x v h=>h) ?_ ?_ ?_ (fun cs v h=>h) ?_ ?_ (fun l t k v h=>h.imp id fun⟨b,n,cap,c,f,q1,q2,q3,q4⟩=>⟨b,n,cap,c,f,q1,q2,q3,by
      unfold tipOk at q4 ⊢
      split at q4
      · rename_i h1
        rcases hs l (hlt h1) with h2 | ⟨v',e,xs,ys,h2,h3,h4⟩
        · rw[h2,h1];trivial
        · rw[h1] at h2;simp at h2
      · rename_i h1
        rcases hs l (hlt h1) with h2 | ⟨v',e,xs,ys,h2,h3,h4⟩
        · rw[h2,h1];exact q4
        · rw[h1] at h2;simp at h2
      · exact q4.elim⟩)
  · intro l ver i j v h
    unfold refOk at h ⊢
    split at h
    · rename_i h1
      rcases hs l (hlt h1) with h2 | ⟨v',e,xs,ys,h2,h3,h4⟩
      · rw[h2,h1];trivial
      · rw[h1] at h2;simp at h2
    · rename_i h1
      rcases hs l (hlt h1) with h2 | ⟨v',e,xs,ys,h2,h3,h4⟩
      · rw[h2,h1];exact h
      · rw[h1] at h2;simp at h2;obtain⟨rfl,rfl,rfl⟩:=h2
        rw[h3];exact h
    · exact h.elim
  · intro l ver off n v h
    unfold ownOk at h ⊢
    split at h
    · rename_i h1
      rcases hs l (hlt h1) with h2 | ⟨v',e,xs,ys,h2,h3,h4⟩
      · rw[h2,h1];trivial
      · rw[h1] at h2;simp at h2
    · rename_i h1
      rcases hs l (hlt h1) with h2 | ⟨v',e,xs,ys,h2,h3,h4⟩
      · rw[h2,h1];exact h
      · rw[h1] at h2;simp at h2;obtain⟨rfl,rfl,rfl⟩:=h2
        rw[h3]
        simp only[← h4]
        exact h
    · exact h.elim
  · intro l e xs v h
    unfold grOk at h ⊢
    refine⟨h.1,?_⟩
    have h:=h.2
    split at h
    · rename_i h1
      rcases hs l (hlt h1) with h2 | ⟨v',e,xs,ys,h2,h3,h4⟩
      · rw[h2,h1];trivial
      · rw[h1] at h2;simp at h2
    · rename_i h1
      rcases hs l (hlt h1) with h2 | ⟨v',e,xs,ys,h2,h3,h4⟩
      · rw[h2,h1];exact h
      · rw[h1] at h2;simp at h2
    · exact h.elim
  · intro l v h
    unfold mpOk at h ⊢
    split at h
    · rename_i h1
      rcases hs l (hlt h1) with h2 | ⟨v',e,xs,ys,h2,h3,h4⟩
      · rw[h2,h1];trivial
      · rw[h1] at h2;simp at h2
    · rename_i h1
      rcases hs l (hlt h1) with h2 | ⟨v',e,xs,ys,h2,h3,h4⟩
      · rw[h2,h1];exact h
      · rw[h1] at h2;simp at h2
    · exact h.elim
  · intro l ver t v h
    unfold trefOk at h ⊢
    split at h
    · rename_i h1
      rcases hs l (hlt h1) with h2 | ⟨v',e,xs,ys,h2,h3,h4⟩
      · rw[h2,h1];trivial
      · rw[h1] at h2;simp at h2
    · rename_i h1
      rcases hs l (hlt h1) with h2 | ⟨v',e,xs,ys,h2,h3,h4⟩
      · rw[h2,h1];exact h
      · rw[h1] at h2;simp at h2;obtain⟨rfl,rfl,rfl⟩:=h2
        rw[h3];exact h
    · exact h.elim
theorem Re.weak {lo:Nat} {k:List Ob} {T T':List A} {s s':Store} (hfr:freshOk k) (hlo:lo≤s.length) (hT:WkL s.length k T T') (hS:WkS s.length k s s'):Re lo T s T' (s'++k):=by
  obtain⟨hTl,hTw⟩:=WkL.get hT
  obtain⟨hSl,hSw⟩:=WkS.get hS
  refine Re.of hTl.symm fun w0 M0 s0 w M hs0 g e=>?_
  have hB:∀l,s.length≤l→M.B l=none:=by
    intro l hl
    have:=g.obj l
    rw[show s.getD l .dead=.dead by simp[List.getD,hl]] at this
    exact this
  have hlow:∀l,l<s.length→(s'++k)[l]?=some (s'.getD l .dead):=by
    intro l hl
    rw[List.getElem?_append_left (by omega)]
    exact getElem?_of_lt (by omega)
  have hfresh:∀i,i<k.length→(s'++k)[s.length+i]?=k[i]?∧M.B (s.length+i)=none:=by
    intro i h2
    refine⟨?_,hB _ (by omega)⟩
    rw[List.getElem?_append_right (by omega),show s.length+i-s'.length=i by omega]
  have hst:∀l,l<s.length→(s'++k)[l]?=s[l]?∨∃v e xs ys,s[l]?=some (.cells v e xs)∧(s'++k)[l]?=some (.cells v e ys)∧xs.length=ys.length:=by
    intro l hl
    rw[hlow l hl,getElem?_of_lt hl]
    rcases (hSw l).look with h | ⟨v,e,xs,ys,h1,h2,h3⟩
    · exact .inl (by rw[h])
    · exact .inr ⟨v,e,xs,ys,by rw[h1],by rw[h2],h3⟩
  have key:∀x y v,Wk s.length k x y→ARep w M s x v→ARep w M (s'++k) y v:=fun x y v hw h=>hw _ _ _ _ hfresh (wk_arep hst h)
  have hob:∀l,obOk w M (s'++k) l ((s'++k).getD l .dead):=by
    intro l
    have ho:=g.obj l
    rcases Nat.lt_or_ge l s.length with hl | hl
    · rw[show (s'++k).getD l .dead=s'.getD l .dead by simp[List.getD,hlow l hl]]
      rcases hSw l with h | ⟨v,es,xs,ys,h1,h2,h3,h4⟩
      · rw[← h]
        generalize s.getD l .dead=o at ho
        cases o with
        | dead=>exact ho
        | res=>exact ho
        | tip n=>exact ho
        | map ms=>exact ho
        | cells v es xs =>
          rcases ho with ho | ⟨b,o,c,E,f,a1,a2,a3,a4,a5,a6⟩
          · exact .inl ho
          exact .inr ⟨b,o,c,E,f,a1,a2,a3,a4,a5,fun i j hi hj=>wk_arep hst (a6 i j hi hj)⟩
      · rw[h1] at ho
        rw[h2]
        rcases ho with ⟨rfl,ho⟩ | ⟨b,o,c,E,f,a1,a2,a3,a4,a5,a6⟩
        · exact .inl ⟨List.eq_nil_of_length_eq_zero (by simpa using h3.symm),ho⟩
        refine .inr ⟨b,o,c,E,f,a1,a2,a3,by rw[← h3];exact a4,fun x hx=>?_,fun i j hi hj=>?_⟩
        · obtain⟨i,hi,rfl⟩:=List.getElem_of_mem hx
          have:=(h4 i (by omega)).1
          rwa [getD_lt _ _ hi] at this
        · have:=(WkL.get (h4 i (by omega)).2).2 j
          exact key _ _ _ this (a6 i j (by omega) hj)
    · rcases Nat.lt_or_ge l (s.length+k.length) with hl2 | hl2
      · obtain⟨i,rfl⟩:∃i,l=s.length+i:=⟨l-s.length,by omega⟩
        have hik:i<k.length:=by omega
        have e1:(s'++k).getD (s.length+i) .dead=k[i]:=by simp only[List.getD,(hfresh i hik).1,List.getElem?_eq_getElem hik];rfl
        rw[e1]
        rcases hfr _ (List.getElem_mem hik) with h1 | ⟨e,h1⟩ <;> rw[h1]
        · intro b o hb
          rw[hB _ hl] at hb
          simp at hb
        · exact .inl ⟨rfl,hB _ hl⟩
      · rw[show (s'++k).getD l .dead=.dead by
          simp only[List.getD]
          rw[List.getElem?_eq_none (by simp;omega)]
          rfl]
        exact hB l hl
  refine⟨M,⟨g.imm,g.off,g.sep,hob,g.nle,g.nof⟩,{ e with len:=by have:=e.len;simp;omega,ob:=fun l hl=>?_ },fun j v h=>key _ _ _ (hTw j) h⟩
  have h1:=e.ob l hl
  have hll:l<s.length:=by have:=e.len;omega
  rw[show (s'++k).getD l .dead=s'.getD l .dead by simp[List.getD,hlow l hll]]
  rcases hSw l with h | ⟨v,es,xs,ys,h2,h3,h4,_⟩
  · rw[← h];exact h1
  · rw[h2] at h1
    rw[h3]
    generalize s0.getD l .dead=o at h1
    cases o <;> simp only[obStep] at h1 ⊢
    · exact⟨h1.1,fun h5=>⟨(h1.2 h5).1,(h1.2 h5).2.1,by have:=(h1.2 h5).2.2;omega⟩⟩
theorem WkS.refl (n:Nat) (k:List Ob):∀(s:Store),WkS n k s s
  | []=>trivial
  | x::xs=>⟨.inl rfl,WkS.refl n k xs⟩
theorem Re.pick {lo:Nat} {T:List A} {s:Store} (R:List Nat) (hr:PickOk R s) (hlo:lo≤R.length) (hR:∀k,k<lo→R.getD k 0=k) (hT:∀x,x∈T→(x.ren (idxIn R)).under R.length=true):Re lo T s (T.map (A.ren (idxIn R))) (pickS R s):=by
  refine Re.of (by simp) fun w0 M0 s0 w M hs0 g e=>⟨M.pick R,pick_good hr g,pick_ext e (by omega) (fun k hk=>.inl (hR k (by omega))),fun k v h=>?_⟩
  rcases Nat.lt_or_ge k T.length with hk | hk
  · have e1:(T.map (A.ren (idxIn R))).getD k .any=(T.getD k .any).ren (idxIn R):=by simp[List.getD,hk]
    rw[e1]
    exact pick_arep hr h (hT _ (getD_mem _ _ hk))
  · have e1:(T.map (A.ren (idxIn R))).getD k .any=.any:=by simp[List.getD,hk]
    rw[e1]
    exact .any _
theorem Re.norm {lo:Nat} {T T':List A} {s s' s'':Store} (keep:List Bool) (R:List Nat) (k:List Ob) (hfr:freshOk k) (hr:PickOk R s) (hlo:lo≤R.length) (hR:∀k,k<lo→R.getD k 0=k)
    (hT:((mask keep T).all fun x=>(x.ren (idxIn R)).under R.length)=true) (h1:WkL R.length k ((mask keep T).map (A.ren (idxIn R))) T') (h2:WkS R.length k (pickS R s) s') (h3:s''=s'++k):Re lo T s T' s'':=by
  subst h3
  have hlen:(pickS R s).length=R.length:=by simp[pickS]
  have hm:Re lo T s (mask keep T) s:=by
    refine Re.of (mask_length keep T) fun w0 M0 s0 w M hs0 g e=>⟨M,g,e,fun k v h=>?_⟩
    rcases mask_getD keep T k with h | h <;> rw[h]
    · assumption
    · exact .any _
  refine (hm.trans (Re.pick R hr hlo hR fun x hx=>?_)).trans (Re.weak hfr (by omega) (by rw[hlen];exact h1) (by rw[hlen];exact h2))
  rw[List.all_eq_true] at hT
  exact hT x hx
theorem WkL.refl (n:Nat) (k:List Ob):∀(xs:List A),WkL n k xs xs
  | []=>trivial
  | x::xs=>⟨Wk.refl _ _ _,WkL.refl n k xs⟩
theorem Re.wf {lo:Nat} {T T':List A} {s s':Store} (s1:Store) (keep:List Bool) (n:Nat) (hlo:lo≤n) (hlo2:lo≤s.length) (h1:WkS s.length [] s s1) (h2:inScope n (mask keep T) s1) (h3:mask keep T=T') (h4:s1.take n=s'):Re lo T s T' s':=by
  subst h3 h4
  have h:=(Re.weak (k:=[]) (by simp) hlo2 (WkL.refl _ _ T) h1)
  simp only[List.append_nil] at h
  exact h.trans (Re.forget keep hlo h2)
theorem Re.wn {lo:Nat} {T T':List A} {s s' s'':Store} (keep:List Bool) (k:List Ob) (hfr:freshOk k) (hlo:lo≤s.length) (h1:WkL s.length k (mask keep T) T') (h2:WkS s.length k s s') (h3:s''=s'++k):Re lo T s T' s'':=by
  subst h3
  have h:=Re.forget (T:=T) (s:=s) keep hlo (.inl (Nat.le_refl _))
  rw[List.take_length] at h
  exact h.trans (Re.weak hfr hlo h1 h2)
@[simp] theorem WkL_nil (n:Nat) (k:List Ob):WkL n k [] []=True:=rfl
@[simp] theorem WkL_cons (n:Nat) (k:List Ob) (x y:A) (xs ys:List A):WkL n k (x::xs) (y::ys)=(Wk n k x y∧WkL n k xs ys):=rfl
@[simp] theorem WkS_nil (n:Nat) (k:List Ob):WkS n k [] []=True:=rfl
@[simp] theorem WkS_cons (n:Nat) (k:List Ob) (x y:Ob) (xs ys:Store):WkS n k (x::xs) (y::ys)=(WkO n k x y∧WkS n k xs ys):=rfl
@[simp] theorem Wk_refl (n:Nat) (k:List Ob) (x:A):Wk n k x x=True:=eq_true (Wk.refl n k x)
@[simp] theorem Wk_any (n:Nat) (k:List Ob) (x:A):Wk n k x .any=True:=eq_true (Wk.any n k x)
@[simp] theorem Wk_gr (n:Nat) (k:List Ob) (l e:Nat) (xs:List D):Wk n k (.gr l e xs) (.d (.sl e xs))=True:=eq_true (Wk.gr n k l e xs)
@[simp] theorem Wk_nil (n:Nat) (k:List Ob) (e:Nat):Wk n k (.d .nilsl) (.d (.sl e []))=True:=eq_true (Wk.nil n k e)
@[simp] theorem WkO_refl (n:Nat) (k:List Ob) (x:Ob):WkO n k x x=True:=eq_true (.inl rfl)
theorem WkO.cells {n:Nat} {k:List Ob} {v e:Nat} {xs ys:List A} (h:WkE n k e xs ys):WkO n k (.cells v e xs) (.cells v e ys):=.inr ⟨v,e,xs,ys,rfl,rfl,h⟩
def WkEL (n:Nat) (k:List Ob) (e:Nat):List A→List A→Prop
  | [],[]=>True
  | x::xs,y::ys=>(y.fits e=true∧WkL n k x.cells y.cells)∧WkEL n k e xs ys
  | _,_=>False
@[simp] theorem WkEL_nil (n:Nat) (k:List Ob) (e:Nat):WkEL n k e [] []=True:=rfl
@[simp] theorem WkEL_cons (n:Nat) (k:List Ob) (e:Nat) (x y:A) (xs ys:List A):WkEL n k e (x::xs) (y::ys)=((y.fits e=true∧WkL n k x.cells y.cells)∧WkEL n k e xs ys):=rfl
theorem WkEL.toE {n:Nat} {k:List Ob} {e:Nat}:∀{xs ys:List A},WkEL n k e xs ys→WkE n k e xs ys
  | [],[],_=>⟨rfl,fun i hi=>by simp at hi⟩
  | x::xs,y::ys,h=>by
    obtain⟨h1,h2⟩:=WkEL.toE h.2
    refine⟨by simp[h1],fun i hi=>?_⟩
    cases i with
    | zero=>exact h.1
    | succ i=>simpa using h2 i (by simpa using hi)
  | [],_::_,h=>h.elim
  | _::_,[],h=>h.elim
theorem WkO.cellsL {n:Nat} {k:List Ob} {v e:Nat} {xs ys:List A} (h:WkEL n k e xs ys):WkO n k (.cells v e xs) (.cells v e ys):=.cells h.toE
theorem WkE.set {n:Nat} {k:List Ob} {e i:Nat} {l:List A} {y:A} (hl:∀x,x∈l→x.fits e=true) (hy:y.fits e=true) (h:WkL n k (l.getD i .any).cells y.cells):WkE n k e l (l.set i y):=by
  refine⟨by simp,fun j hj=>?_⟩
  by_cases hij:i=j
  · subst hij
    have:(l.set i y).getD i .any=y:=by simp[hj]
    rw[this]
    exact⟨hy,h⟩
  · have:(l.set i y).getD j .any=l.getD j .any:=by simp[List.getElem?_set,hij]
    rw[this]
    exact (WkE.refl hl).2 j hj
theorem WkE.setset {n:Nat} {k:List Ob} {e i:Nat} {l:List A} {x y:A} (hl:∀x,x∈l→x.fits e=true) (hy:y.fits e=true) (h:WkL n k x.cells y.cells):WkE n k e (l.set i x) (l.set i y):=by
  refine⟨by simp,fun j hj=>?_⟩
  by_cases hij:i=j
  · subst hij
    have hi:i<l.length:=by simpa using hj
    have e1:(l.set i y).getD i .any=y:=by simp[hi]
    have e2:(l.set i x).getD i .any=x:=by simp[hi]
    rw[e1,e2]
    exact⟨hy,h⟩
  · have e1:(l.set i y).getD j .any=l.getD j .any:=by simp[List.getElem?_set,hij]
    have e2:(l.set i x).getD j .any=l.getD j .any:=by simp[List.getElem?_set,hij]
    rw[e1,e2]
    exact (WkE.refl hl).2 j (by simpa using hj)
/-! an owned list is frozen: it may be read for good -/
def Mem.frz (M:Mem) (w:World) (l:Nat):Mem where
  I:=fun b j=>M.I b j∨∃o c E f,M.B l=some (b,o)∧w.heap[b]?=some (.cells c E f)∧o≤j∧j<c.size
  B:=fun x=>if x=l then none else M.B x
  N:=M.N
def Fz (l ver esz:Nat) (xs:List A) (x y:A):Prop:=∀(w:World) (M:Mem) (s:Store) (v:Value),Good w M s→s.getD l .dead=.cells ver esz xs→ARep w M s x v→ARep w (M.frz w l) (s.set l .dead) y v
theorem Fz.refl (l ver esz:Nat) (xs:List A) (x:A):Fz l ver esz xs x x:=fun w M s v g hs h=>by
  have hlt:=(getD_ne hs (by simp)).2
  refine h.mono (fun x v h=>h.mono fun b j hb=>⟨.inl hb,rfl⟩) ?_ ?_ ?_ ?_ ?_ ?_ (fun l' t k v h=>h.imp id fun⟨b,n,cap,c,f,q1,q2,q3,q4⟩=>⟨b,n,cap,c,f,q1,q2,q3,by
      by_cases hl:l'=l
      · subst hl
        unfold tipOk
        rw[List.getElem?_set_self hlt]
        trivial
      · unfold tipOk at q4 ⊢
        rw[List.getElem?_set_ne (Ne.symm hl)]
        simpa [Mem.frz,hl] using q4⟩)
  · intro l' ver i j v h
    by_cases hl:l'=l
    · subst hl
      unfold refOk
      rw[List.getElem?_set_self hlt]
      trivial
    · unfold refOk at h ⊢
      rw[List.getElem?_set_ne (Ne.symm hl)]
      simpa [Mem.frz,hl] using h
  · intro l' ver off n v h
    by_cases hl:l'=l
    · subst hl
      unfold ownOk
      rw[List.getElem?_set_self hlt]
      trivial
    · unfold ownOk at h ⊢
      rw[List.getElem?_set_ne (Ne.symm hl)]
      simpa [Mem.frz,hl] using h
  · intro l' e ys v h
    refine⟨h.1.mono fun b j hb=>⟨.inl hb,rfl⟩,?_⟩
    have h:=h.2
    by_cases hl:l'=l
    · subst hl
      rw[List.getElem?_set_self hlt]
      trivial
    · rw[List.getElem?_set_ne (Ne.symm hl)]
      simpa [Mem.frz,hl] using h
  · intro cs v h
    obtain⟨b,off,rfl,h⟩:=h
    exact⟨b,off,rfl,fun j hj=>⟨.inl (h j hj).1,(h j hj).2.imp fun u hu=>⟨hu.1,hu.2.mono fun b j hb=>⟨.inl hb,rfl⟩⟩⟩⟩
  · intro l' v h
    by_cases hl:l'=l
    · subst hl
      unfold mpOk
      rw[List.getElem?_set_self hlt]
      trivial
    · unfold mpOk at h ⊢
      rw[List.getElem?_set_ne (Ne.symm hl)]
      simpa [Mem.frz,hl] using h
  · intro l' ver t v h
    by_cases hl:l'=l
    · subst hl
      unfold trefOk
      rw[List.getElem?_set_self hlt]
      trivial
    · unfold trefOk at h ⊢
      rw[List.getElem?_set_ne (Ne.symm hl)]
      simpa [Mem.frz,hl] using h
theorem Fz.any (l ver esz:Nat) (xs:List A) (x:A):Fz l ver esz xs x .any:=fun _ _ _ v _ _ _=>.any v
theorem Fz.own (l ver esz off n:Nat) (xs:List A) (hd:((xs.drop off).take n).all A.isD=true):Fz l ver esz xs (.own l ver off n) (.d (.sl esz (((xs.drop off).take n).map A.toD))):=fun w M s v g hs h=>by
  refine .d _ _ ?_
  by_cases h0:n=0
  · subst h0
    simp only[List.take_zero,List.map_nil]
    rcases inv_own h hs with ⟨_,_,_,rfl⟩ | ⟨_,_,a,cap,_,_,_,_,rfl,_⟩ <;> exact .sl0 _ _ _
  · obtain⟨b,o,a,cap,c,E,f,hB,rfl,h2,h3,h4,h5,h6,h7,h8,h9⟩:=own_part g h hs hd (by omega)
    rw[h4 (by omega)]
    have hm:n * esz≤cap * esz:=Nat.mul_le_mul_right _ h3
    rw[Nat.add_mul] at h6
    refine .sl esz _ b (o+off * esz) n cap (fun i j=>c.getD (o+off * esz+i * esz+j) undef) (by simpa using h7.symm) h3 h8 (fun i j hi hj=>?_) (fun i j hi hj=>?_) (fun i j hi hj=>?_)
    · have:=flat_lt hi hj
      exact .inr ⟨o,c,E,f,hB,h5,by omega,by omega⟩
    · have:=flat_lt hi hj
      exact cell?_heap h5 (by omega)
    · exact (h9 i j hi hj).mono (fun b j hb=>⟨.inl hb,rfl⟩)
def FzL (l ver esz:Nat) (zs:List A):List A→List A→Prop
  | [],[]=>True
  | x::xs,y::ys=>Fz l ver esz zs x y∧FzL l ver esz zs xs ys
  | _,_=>False
@[simp] theorem FzL_nil (l ver esz:Nat) (zs:List A):FzL l ver esz zs [] []=True:=rfl
@[simp] theorem FzL_cons (l ver esz:Nat) (zs:List A) (x y:A) (xs ys:List A):FzL l ver esz zs (x::xs) (y::ys)=(Fz l ver esz zs x y∧FzL l ver esz zs xs ys):=rfl
@[simp] theorem Fz_refl (l ver esz:Nat) (zs:List A) (x:A):Fz l ver esz zs x x=True:=eq_true (Fz.refl _ _ _ _ _)
@[simp] theorem Fz_any (l ver esz:Nat) (zs:List A) (x:A):Fz l ver esz zs x .any=True:=eq_true (Fz.any _ _ _ _ _)
theorem FzL.get {l ver esz:Nat} {zs:List A}:∀{xs ys:List A},FzL l ver esz zs xs ys→xs.length=ys.length∧∀j,Fz l ver esz zs (xs.getD j .any) (ys.getD j .any)
  | [],[],_=>⟨rfl,fun j=>Fz.refl _ _ _ _ _⟩
  | x::xs,y::ys,h=>by
    obtain⟨h1,h2⟩:=FzL.get h.2
    refine⟨by simp[h1],fun j=>?_⟩
    cases j with
    | zero=>exact h.1
    | succ j=>simpa using h2 j
  | [],_::_,h=>h.elim
  | _::_,[],h=>h.elim
theorem FzL.refl (l ver esz:Nat) (zs:List A):∀xs,FzL l ver esz zs xs xs
  | []=>trivial
  | x::xs=>⟨Fz.refl _ _ _ _ _,FzL.refl l ver esz zs xs⟩
def FzO (l ver esz:Nat) (zs:List A) (a b:Ob):Prop:=a=b∨∃v e xs ys,a=.cells v e xs∧b=.cells v e ys∧xs.length=ys.length∧∀i,i<xs.length→((ys.getD i .any).fits e=true∧FzL l ver esz zs (xs.getD i .any).cells (ys.getD i .any).cells)
def FzS (l ver esz:Nat) (zs:List A) (s s':Store):Prop:=s.length=s'.length∧∀k,k<s.length→k≠l→FzO l ver esz zs (s.getD k .dead) (s'.getD k .dead)
theorem Re.freeze {lo:Nat} {T T':List A} {s s':Store} (l ver esz:Nat) (xs:List A) (hl:s.getD l .dead=.cells ver esz xs) (hT:FzL l ver esz xs T T') (hS:FzS l ver esz xs s s') (hd:s'.getD l .dead=.dead):Re lo T s T' s':=by
  obtain⟨hTl,hTf⟩:=FzL.get hT
  obtain⟨hSl,hSf⟩:=hS
  have hlt:=(getD_ne hl (by simp)).2
  refine Re.of hTl.symm fun w0 M0 s0 w M hs0 g e=>?_
  have hst:∀k,k<(s.set l .dead).length→s'[k]?=(s.set l .dead)[k]?∨∃v e xs ys,(s.set l .dead)[k]?=some (.cells v e xs)∧s'[k]?=some (.cells v e ys)∧xs.length=ys.length:=by
    intro k hk
    simp only[List.length_set] at hk
    rw[getElem?_of_lt (show k<s'.length by omega)]
    by_cases hkl:k=l
    · subst hkl
      rw[hd,List.getElem?_set_self hlt]
      exact .inl rfl
    · rw[List.getElem?_set_ne (Ne.symm hkl),getElem?_of_lt hk]
      rcases hSf k hk hkl with h | ⟨v,e,xs,ys,h1,h2,h3,_⟩
      · exact .inl (by rw[h])
      · exact .inr ⟨v,e,xs,ys,by rw[h1],by rw[h2],h3⟩
  have key:∀x y v,Fz l ver esz xs x y→ARep w M s x v→ARep w (M.frz w l) s' y v:=fun x y v hf h=>wk_arep hst (hf w M s v g hl h)
  have hnof:∀l' b o,(M.frz w l).B l'=some (b,o)→M.N≤b:=fun l' b o h1=>by
    simp only[Mem.frz] at h1
    split at h1
    · simp at h1
    · exact g.nof _ _ _ h1
  refine⟨M.frz w l,⟨?_,?_,?_,?_,g.nle,hnof⟩,{ e with imm:=fun b j h=>.inl (e.imm b j h),immNew:=?_,own:=?_,len:=by have:=e.len;omega,ob:=?_ },fun k v h=>key _ _ _ (hTf k) h⟩
  · rintro b j (h | ⟨o,c,E,f,h1,h2,h3,h4⟩)
    · exact g.imm b j h
    · simp[World.cell?,h2,h4]
  · intro b j l' o' h hB
    simp only[Mem.frz] at hB
    split at hB
    · simp at hB
    · rename_i hne
      rcases h with h | ⟨o,c,E,f,h1,_⟩
      · exact g.off b j l' o' h hB
      · exact absurd (g.sep _ _ _ _ _ hB h1) hne
  · intro l1 l2 b o o' h1 h2
    simp only[Mem.frz] at h1 h2
    split at h1
    · simp at h1
    · split at h2
      · simp at h2
      · exact g.sep _ _ _ _ _ h1 h2
  · intro k
    rcases Nat.lt_or_ge k s.length with hk | hk
    · by_cases hkl:k=l
      · subst hkl
        rw[hd]
        simp[obOk,Mem.frz]
      · have hB:(M.frz w l).B k=M.B k:=by simp[Mem.frz,hkl]
        have ho:=g.obj k
        rcases hSf k hk hkl with h | ⟨v,es,us,ys,h1,h2,h3,h4⟩
        · rw[← h]
          generalize s.getD k .dead=o at ho
          cases o with
          | dead=>simp only[obOk] at ho ⊢;rw[hB];exact ho
          | res=>simp only[obOk] at ho ⊢;rw[hB];exact ho
          | tip n=>intro b o hb;rw[hB] at hb;exact ho b o hb
          | map ms =>
            obtain⟨b,es,cl,a1,a2,a3,a4⟩:=ho
            exact⟨b,es,cl,by rw[hB];exact a1,a2,a3,fun k hk=>⟨(a4 k hk).1.mono fun b j hb=>⟨.inl hb,rfl⟩,(a4 k hk).2.mono fun b j hb=>⟨.inl hb,rfl⟩⟩⟩
          | cells v es us =>
            rcases ho with ⟨a1,a2⟩ | ⟨b,o,c,E,f,a1,a2,a3,a4,a5,a6⟩
            · exact .inl ⟨a1,by rw[hB];exact a2⟩
            · exact .inr ⟨b,o,c,E,f,by rw[hB];exact a1,a2,a3,a4,a5,fun i j hi hj=>key _ _ _ (Fz.refl _ _ _ _ _) (a6 i j hi hj)⟩
        · rw[h1] at ho
          rw[h2]
          rcases ho with ⟨rfl,a2⟩ | ⟨b,o,c,E,f,a1,a2,a3,a4,a5,a6⟩
          · exact .inl ⟨List.eq_nil_of_length_eq_zero (by simpa using h3.symm),by rw[hB];exact a2⟩
          · refine .inr ⟨b,o,c,E,f,by rw[hB];exact a1,a2,a3,by rw[← h3];exact a4,fun x hx=>?_,fun i j hi hj=>?_⟩
            · obtain⟨i,hi,rfl⟩:=List.getElem_of_mem hx
              have:=(h4 i (by omega)).1
              rwa [getD_lt _ _ hi] at this
            · exact key _ _ _ ((FzL.get (h4 i (by omega)).2).2 j) (a6 i j (by omega) hj)
    · rw[show s'.getD k .dead=.dead by simp[List.getD,List.getElem?_eq_none (show s'.length≤k by omega)]]
      have ho:=g.obj k
      rw[show s.getD k .dead=.dead by simp[List.getD,hk]] at ho
      show (M.frz w l).B k=none
      simp only[Mem.frz]
      split
      · rfl
      · exact ho
  · rintro b j (h | ⟨o,c,E,f,h1,_,h3,_⟩)
    · exact e.immNew b j h
    · rcases e.own l b o h1 with h | ⟨l',o',h,h'⟩
      · exact .inr (.inl h)
      · exact .inr (.inr ⟨l',o',h,by omega⟩)
  · intro k b o hb
    simp only[Mem.frz] at hb
    split at hb
    · simp at hb
    · exact e.own k b o hb
  · intro k hk
    have hks:k<s.length:=by have:=e.len;omega
    have h1:=e.ob k hk
    by_cases hkl:k=l
    · subst hkl
      rw[hd]
      cases s0.getD k .dead <;> simp[obStep]
    · have hB:(M.frz w l).B k=M.B k:=by simp[Mem.frz,hkl]
      rcases hSf k hks hkl with h | ⟨v,es,us,ys,h2,h3,h4,_⟩
      · rw[← h]
        exact obStep_congr hB.symm h1
      · rw[h2] at h1
        rw[h3]
        have h1:=obStep_congr hB.symm h1
        generalize s0.getD k .dead=o at h1
        cases o <;> simp only[obStep] at h1 ⊢
        exact⟨h1.1,fun h5=>⟨(h1.2 h5).1,(h1.2 h5).2.1,by have:=(h1.2 h5).2.2;omega⟩⟩
@[simp] theorem idxIn_nil (l:Nat):idxIn [] l=0:=rfl
@[simp] theorem idxIn_cons (a:Nat) (R:List Nat) (l:Nat):idxIn (a::R) l=if a=l then 0 else idxIn R l+1:=by
  simp only[idxIn,List.idxOf?,List.findIdx?_cons,beq_iff_eq]
  by_cases h:a=l
  · simp[h]
  · simp only[h,if_false,List.length_cons]
    cases List.findIdx? (fun x=>x == l) R <;> simp
attribute [simp] A.ren A.rens Ob.ren pickS
def ghostQ {σ:Type} (keep:List Bool) (n:Nat) (I:σ→Prop) (μ:σ→Nat) (Tf:σ→List A) (sf:σ→Store) (x:σ) (Q:XE→List A→Store→Prop):XE→List A→Store→Prop
  | .normal,T,s=>inScope n (mask keep T) s∧∃y,μ y<μ x∧mask keep T=Tf y∧s.take n=sf y∧I y
  | e,T,s=>Q e T s
section
variable {σ:Type} (G:Gam) (lo:Nat) (Q:XE→List A→Store→Prop) (T:List A) (s:Store) (keep:List Bool) (n:Nat) (I:σ→Prop) (μ:σ→Nat) (Tf:σ→List A) (sf:σ→Store) (x:σ)
@[simp] theorem ghostQ_ret:ghostQ keep n I μ Tf sf x Q .ret T s=Q .ret T s:=by first | exact (rfl) | rfl
@[simp] theorem ghostQ_exit (j:Nat):ghostQ keep n I μ Tf sf x Q (.exit j) T s=Q (.exit j) T s:=by first | exact (rfl) | rfl
@[simp] theorem ghostQ_normal:ghostQ keep n I μ Tf sf x Q .normal T s=(inScope n (mask keep T) s∧∃y,μ y<μ x∧mask keep T=Tf y∧s.take n=sf y∧I y):=by first | exact (rfl) | rfl
theorem vc_ghost {σ:Type} {G:Gam} {lo:Nat} {Q:XE→List A→Store→Prop} {T:List A} {s:Store} {a:XC} (keep:List Bool) (n:Nat) (I:σ→Prop) (μ:σ→Nat) (Tf:σ→List A) (sf:σ→Store) (x0:σ) (h0:lo≤n) (h1:inScope n (mask keep T) s)
    (h2:mask keep T=Tf x0∧s.take n=sf x0∧I x0) (h3:∀x,I x→vc G lo a (ghostQ keep n I μ Tf sf x Q) (Tf x) (sf x)):vc G lo (.loop a) Q T s:=by
  refine vc_loop _ _ _ _ _ keep n (fun m T s=>∃x,m=μ x∧T=Tf x∧s=sf x∧I x) a h0 h1 ⟨_,x0,rfl,h2⟩ ?_
  rintro m T s ⟨x,rfl,rfl,rfl,hI⟩
  refine vc_mono _ _ _ _ _ (fun e T s h=>?_) (h3 x hI)
  cases e with
  | normal =>
    obtain⟨h4,y,h5,h6⟩:=h
    exact⟨h4,_,h5,y,rfl,h6⟩
  | exit j=>exact h
  | ret=>exact h
def ghostR {σ:Type} (lo:Nat) (I:σ→Prop) (μ:σ→Nat) (Tf:σ→List A) (sf:σ→Store) (x:σ) (Q:XE→List A→Store→Prop):XE→List A→Store→Prop
  | .normal,T,s=>∃y,μ y<μ x∧Re lo T s (Tf y) (sf y)∧I y
  | e,T,s=>Q e T s
@[simp] theorem ghostR_ret:ghostR lo I μ Tf sf x Q .ret T s=Q .ret T s:=by first | exact (rfl) | rfl
@[simp] theorem ghostR_exit (j:Nat):ghostR lo I μ Tf sf x Q (.exit j) T s=Q (.exit j) T s:=by first | exact (rfl) | rfl
@[simp] theorem ghostR_normal:ghostR lo I μ Tf sf x Q .normal T s=(∃y,μ y<μ x∧Re lo T s (Tf y) (sf y)∧I y):=by first | exact (rfl) | rfl
theorem vc_ghostR {σ:Type} {G:Gam} {lo:Nat} {Q:XE→List A→Store→Prop} {T:List A} {s:Store} {a:XC} (I:σ→Prop) (μ:σ→Nat) (Tf:σ→List A) (sf:σ→Store) (x0:σ)
    (h2:Re lo T s (Tf x0) (sf x0)∧I x0) (h3:∀x,I x→vc G lo a (ghostR lo I μ Tf sf x Q) (Tf x) (sf x)):vc G lo (.loop a) Q T s:=by
  refine vc_loopR _ _ _ _ _ (fun m T s=>∃x,m=μ x∧T=Tf x∧s=sf x∧I x) a ⟨_,_,_,h2.1,x0,rfl,rfl,rfl,h2.2⟩ ?_
  rintro m T s ⟨x,rfl,rfl,rfl,hI⟩
  refine vc_mono _ _ _ _ _ (fun e T s h=>?_) (h3 x hI)
  cases e with
  | normal =>
    obtain⟨y,h5,h6,h7⟩:=h
    exact⟨_,_,_,h5,h6,y,rfl,rfl,rfl,h7⟩
  | exit j=>exact h
  | ret=>exact h
end
@[congr] theorem ghostQ_congr {σ:Type} {keep:List Bool} {n:Nat} {I:σ→Prop} {μ:σ→Nat} {Tf:σ→List A} {sf:σ→Store} {x:σ} {Q:XE→List A→Store→Prop} {e:XE} {T T':List A} {s s':Store} (h1:T=T') (h2:s=s'):ghostQ keep n I μ Tf sf x Q e T s=ghostQ keep n I μ Tf sf x Q e T' s':=by rw[h1,h2]
@[congr] theorem ghostR_congr {σ:Type} {lo:Nat} {I:σ→Prop} {μ:σ→Nat} {Tf:σ→List A} {sf:σ→Store} {x:σ} {Q:XE→List A→Store→Prop} {e:XE} {T T':List A} {s s':Store} (h1:T=T') (h2:s=s'):ghostR lo I μ Tf sf x Q e T s=ghostR lo I μ Tf sf x Q e T' s':=by rw[h1,h2]
structure Has (P:Program) (f:FuncId) (sp:List D→Prop × D):Prop where
  call:isCall P f=true
  ok:∀ds,(sp ds).1→FCalls P f ds (sp ds).2
theorem GamOk.consH {P:Program} {fs:List (FuncId × (List D→Prop × D))} {rs:List (FuncId × RSpec)} {f:FuncId} {sp:List D→Prop × D} (h:Has P f sp) (hG:GamOk P ⟨fs,rs⟩):GamOk P ⟨(f,sp)::fs,rs⟩:=.cons h.call h.ok hG
theorem CodeOf.has0 {P:Program} {f:FuncId} {nv:Nat} {rs:List Nat} {xc:XC} {G:Gam} (h:CodeOf P f 0 nv rs xc) (hG:GamOk P G) {pre:Prop} {r:D}
    (k:pre→vc G 0 xc (Fin rs r) (start [] nv) []):Has P f (spec0 pre r) :=
  ⟨h.call,.of0 fun hp=>h.fcalls hG rfl (k hp)⟩
theorem CodeOf.has1 {α:Type} [Rep α] {P:Program} {f:FuncId} {nv:Nat} {rs:List Nat} {xc:XC} {G:Gam} (h:CodeOf P f 1 nv rs xc) (hG:GamOk P G) {pre:α→Prop} {r:α→D}
    (k:∀x,pre x→vc G 0 xc (Fin rs (r x)) (start [Rep.to x] nv) []):Has P f (spec1 pre r) :=
  ⟨h.call,.of1 fun x hp=>h.fcalls hG rfl (k x hp)⟩
theorem CodeOf.has2 {α β:Type} [Rep α] [Rep β] {P:Program} {f:FuncId} {nv:Nat} {rs:List Nat} {xc:XC} {G:Gam} (h:CodeOf P f 2 nv rs xc) (hG:GamOk P G) {pre:α→β→Prop} {r:α→β→D}
    (k:∀x y,pre x y→vc G 0 xc (Fin rs (r x y)) (start [Rep.to x,Rep.to y] nv) []):Has P f (spec2 pre r) :=
  ⟨h.call,.of2 fun x y hp=>h.fcalls hG rfl (k x y hp)⟩
theorem CodeOf.has3 {α β γ:Type} [Rep α] [Rep β] [Rep γ] {P:Program} {f:FuncId} {nv:Nat} {rs:List Nat} {xc:XC} {G:Gam} (h:CodeOf P f 3 nv rs xc) (hG:GamOk P G) {pre:α→β→γ→Prop} {r:α→β→γ→D}
    (k:∀x y z,pre x y z→vc G 0 xc (Fin rs (r x y z)) (start [Rep.to x,Rep.to y,Rep.to z] nv) []):Has P f (spec3 pre r) :=
  ⟨h.call,.of3 fun x y z hp=>h.fcalls hG rfl (k x y z hp)⟩
theorem CodeOf.has4 {α β γ δ:Type} [Rep α] [Rep β] [Rep γ] [Rep δ] {P:Program} {f:FuncId} {nv:Nat} {rs:List Nat} {xc:XC} {G:Gam} (h:CodeOf P f 4 nv rs xc) (hG:GamOk P G) {pre:α→β→γ→δ→Prop} {r:α→β→γ→δ→D}
    (k:∀x y z u,pre x y z u→vc G 0 xc (Fin rs (r x y z u)) (start [Rep.to x,Rep.to y,Rep.to z,Rep.to u] nv) []):Has P f (spec4 pre r) :=
  ⟨h.call,.of4 fun x y z u hp=>h.fcalls hG rfl (k x y z u hp)⟩
def spec5 {α β γ δ ε:Type} [Rep α] [Rep β] [Rep γ] [Rep δ] [Rep ε] (pre:α→β→γ→δ→ε→Prop) (r:α→β→γ→δ→ε→D):List D→Prop × D
  | [a,b,c,d,e]=>match Rep.of (α:=α) a,Rep.of (α:=β) b,Rep.of (α:=γ) c,Rep.of (α:=δ) d,Rep.of (α:=ε) e with
    | some x,some y,some z,some u,some v=>(pre x y z u v,r x y z u v)
    | _,_,_,_,_=>(False,.nilp)
  | _=>(False,.nilp)
attribute [simp] spec5
theorem FCalls.of5 {α β γ δ ε:Type} [Rep α] [Rep β] [Rep γ] [Rep δ] [Rep ε] {P:Program} {f:FuncId} {pre:α→β→γ→δ→ε→Prop} {r:α→β→γ→δ→ε→D} (h:∀x y z u v,pre x y z u v→FCalls P f [Rep.to x,Rep.to y,Rep.to z,Rep.to u,Rep.to v] (r x y z u v)):∀ds,(spec5 pre r ds).1→FCalls P f ds (spec5 pre r ds).2:=by
  intro ds hp
  match ds,hp with
  | [a,b,c,d,e],hp =>
    simp only[spec5] at hp ⊢
    split at hp
    · rename_i x y z u v qx qy qz qu qv
      refine FCalls.le (as:=[a,b,c,d,e]) (bs:=[Rep.to x,Rep.to y,Rep.to z,Rep.to u,Rep.to v]) rfl (fun k hk w I v hv=>?_) (h x y z u v hp)
      match k,hk with
      | 0,_=>exact Rep.rep _ _ qx w I v hv
      | 1,_=>exact Rep.rep _ _ qy w I v hv
      | 2,_=>exact Rep.rep _ _ qz w I v hv
      | 3,_=>exact Rep.rep _ _ qu w I v hv
      | 4,_=>exact Rep.rep _ _ qv w I v hv
    · exact hp.elim
theorem CodeOf.has5 {α β γ δ ε:Type} [Rep α] [Rep β] [Rep γ] [Rep δ] [Rep ε] {P:Program} {f:FuncId} {nv:Nat} {rs:List Nat} {xc:XC} {G:Gam} (h:CodeOf P f 5 nv rs xc) (hG:GamOk P G) {pre:α→β→γ→δ→ε→Prop} {r:α→β→γ→δ→ε→D}
    (k:∀x y z u v,pre x y z u v→vc G 0 xc (Fin rs (r x y z u v)) (start [Rep.to x,Rep.to y,Rep.to z,Rep.to u,Rep.to v] nv) []):Has P f (spec5 pre r) :=
  ⟨h.call,.of5 fun x y z u v hp=>h.fcalls hG rfl (k x y z u v hp)⟩
def spec6 {α β γ δ ε ζ:Type} [Rep α] [Rep β] [Rep γ] [Rep δ] [Rep ε] [Rep ζ] (pre:α→β→γ→δ→ε→ζ→Prop) (r:α→β→γ→δ→ε→ζ→D):List D→Prop × D
  | [a,b,c,d,e,f]=>match Rep.of (α:=α) a,Rep.of (α:=β) b,Rep.of (α:=γ) c,Rep.of (α:=δ) d,Rep.of (α:=ε) e,Rep.of (α:=ζ) f with
    | some x,some y,some z,some u,some v,some w=>(pre x y z u v w,r x y z u v w)
    | _,_,_,_,_,_=>(False,.nilp)
  | _=>(False,.nilp)
attribute [simp] spec6
theorem FCalls.of6 {α β γ δ ε ζ:Type} [Rep α] [Rep β] [Rep γ] [Rep δ] [Rep ε] [Rep ζ] {P:Program} {f:FuncId} {pre:α→β→γ→δ→ε→ζ→Prop} {r:α→β→γ→δ→ε→ζ→D} (h:∀x y z u v w,pre x y z u v w→FCalls P f [Rep.to x,Rep.to y,Rep.to z,Rep.to u,Rep.to v,Rep.to w] (r x y z u v w)):∀ds,(spec6 pre r ds).1→FCalls P f ds (spec6 pre r ds).2:=by
  intro ds hp
  match ds,hp with
  | [a,b,c,d,e,f],hp =>
    simp only[spec6] at hp ⊢
    split at hp
    · rename_i x y z u v w qx qy qz qu qv qw
      refine FCalls.le (as:=[a,b,c,d,e,f]) (bs:=[Rep.to x,Rep.to y,Rep.to z,Rep.to u,Rep.to v,Rep.to w]) rfl (fun k hk w I v hv=>?_) (h x y z u v w hp)
      match k,hk with
      | 0,_=>exact Rep.rep _ _ qx w I v hv
      | 1,_=>exact Rep.rep _ _ qy w I v hv
      | 2,_=>exact Rep.rep _ _ qz w I v hv
      | 3,_=>exact Rep.rep _ _ qu w I v hv
      | 4,_=>exact Rep.rep _ _ qv w I v hv
      | 5,_=>exact Rep.rep _ _ qw w I v hv
    · exact hp.elim
theorem CodeOf.has6 {α β γ δ ε ζ:Type} [Rep α] [Rep β] [Rep γ] [Rep δ] [Rep ε] [Rep ζ] {P:Program} {f:FuncId} {nv:Nat} {rs:List Nat} {xc:XC} {G:Gam} (h:CodeOf P f 6 nv rs xc) (hG:GamOk P G) {pre:α→β→γ→δ→ε→ζ→Prop} {r:α→β→γ→δ→ε→ζ→D}
    (k:∀x y z u v w,pre x y z u v w→vc G 0 xc (Fin rs (r x y z u v w)) (start [Rep.to x,Rep.to y,Rep.to z,Rep.to u,Rep.to v,Rep.to w] nv) []):Has P f (spec6 pre r) :=
  ⟨h.call,.of6 fun x y z u v w hp=>h.fcalls hG rfl (k x y z u v w hp)⟩
def spec7 {α β γ δ ε ζ η:Type} [Rep α] [Rep β] [Rep γ] [Rep δ] [Rep ε] [Rep ζ] [Rep η] (pre:α→β→γ→δ→ε→ζ→η→Prop) (r:α→β→γ→δ→ε→ζ→η→D):List D→Prop × D
  | [a,b,c,d,e,f,g]=>match Rep.of (α:=α) a,Rep.of (α:=β) b,Rep.of (α:=γ) c,Rep.of (α:=δ) d,Rep.of (α:=ε) e,Rep.of (α:=ζ) f,Rep.of (α:=η) g with
    | some x,some y,some z,some u,some v,some w,some t=>(pre x y z u v w t,r x y z u v w t)
    | _,_,_,_,_,_,_=>(False,.nilp)
  | _=>(False,.nilp)
attribute [simp] spec7
theorem FCalls.of7 {α β γ δ ε ζ η:Type} [Rep α] [Rep β] [Rep γ] [Rep δ] [Rep ε] [Rep ζ] [Rep η] {P:Program} {f:FuncId} {pre:α→β→γ→δ→ε→ζ→η→Prop} {r:α→β→γ→δ→ε→ζ→η→D} (h:∀x y z u v w t,pre x y z u v w t→FCalls P f [Rep.to x,Rep.to y,Rep.to z,Rep.to u,Rep.to v,Rep.to w,Rep.to t] (r x y z u v w t)):∀ds,(spec7 pre r ds).1→FCalls P f ds (spec7 pre r ds).2:=by
  intro ds hp
  match ds,hp with
  | [a,b,c,d,e,f,g],hp =>
    simp only[spec7] at hp ⊢
    split at hp
    · rename_i x y z u v w t qx qy qz qu qv qw qt
      refine FCalls.le (as:=[a,b,c,d,e,f,g]) (bs:=[Rep.to x,Rep.to y,Rep.to z,Rep.to u,Rep.to v,Rep.to w,Rep.to t]) rfl (fun k hk w I v hv=>?_) (h x y z u v w t hp)
      match k,hk with
      | 0,_=>exact Rep.rep _ _ qx w I v hv
      | 1,_=>exact Rep.rep _ _ qy w I v hv
      | 2,_=>exact Rep.rep _ _ qz w I v hv
      | 3,_=>exact Rep.rep _ _ qu w I v hv
      | 4,_=>exact Rep.rep _ _ qv w I v hv
      | 5,_=>exact Rep.rep _ _ qw w I v hv
      | 6,_=>exact Rep.rep _ _ qt w I v hv
    · exact hp.elim
theorem CodeOf.has7 {α β γ δ ε ζ η:Type} [Rep α] [Rep β] [Rep γ] [Rep δ] [Rep ε] [Rep ζ] [Rep η] {P:Program} {f:FuncId} {nv:Nat} {rs:List Nat} {xc:XC} {G:Gam} (h:CodeOf P f 7 nv rs xc) (hG:GamOk P G) {pre:α→β→γ→δ→ε→ζ→η→Prop} {r:α→β→γ→δ→ε→ζ→η→D}
    (k:∀x y z u v w t,pre x y z u v w t→vc G 0 xc (Fin rs (r x y z u v w t)) (start [Rep.to x,Rep.to y,Rep.to z,Rep.to u,Rep.to v,Rep.to w,Rep.to t] nv) []):Has P f (spec7 pre r) :=
  ⟨h.call,.of7 fun x y z u v w t hp=>h.fcalls hG rfl (k x y z u v w t hp)⟩
end Go.AE
namespace Go.AE
open Go.ChangeShapes Go.WideShapes Go.RowKit
structure Bulky {H:Type} (ub:DataW H→Nat):Prop where
  one:∀d,1≤ub d
  str:∀s,s.length+1≤ub (.lit (.string s))
  slice:∀e s,(e.map ub).sum+1≤ub (.slice e s)
  agg:∀ps,(ps.map ub).sum+1≤ub (.agg ps)
def cellsIn (w:World):Nat→Nat→Prop:=fun b j=>(w.cell? ⟨b,j,none⟩).isSome=true
class Arg (α:Type) [Rep α] where
  tyB:Program→TypeId→Bool
  wf:α→Prop
  bulk:α→Nat
  pos:0<Rep.size α
  inh:Inhabited α
  read:∀{H:Type} {enc:TypeId × Value→H} {P:Program} {w:World} {t:TypeId} {fuel:Nat} {cs:List Value} {x:DataW H × List MemPlace} (ub:DataW H→Nat) (_:Bulky ub),tyB P t=true→DataW.trod enc P w 0 (fun _=>true) true fuel t cs=some x →
    ∃a:α,wf a∧bulk a≤ub x.1∧cs.length=Rep.size α∧∀j,j<cs.length→DRep w (cellsIn w) ((Rep.to a).cells.getD j default) (cs.getD j undef)
def intOk (n:Int):Prop:=-9223372036854775808≤n∧n≤9223372036854775807
instance:Arg Int where
  tyB P t:=match P.underlying t with | some (.int .i64)=>true | _=>false
  wf:=intOk
  bulk _:=1
  pos:=Nat.one_pos
  inh:=⟨0⟩
  read ub hub ht h:=by
    split at ht
    · rename_i hu
      obtain⟨n,h1,rfl,h2⟩:=DataW.trod_int hu h
      refine⟨n,by simpa [intOk,Lit.wf,IntKind.min,IntKind.max,IntKind.signed,IntKind.bits] using h2,hub.one _,by rw[h1];rfl,fun j hj=>?_⟩
      rw[h1] at hj ⊢
      obtain rfl:j=0:=by simp at hj;omega
      exact .int _ _
    · simp at ht
instance:Arg Bool where
  tyB P t:=match P.underlying t with | some .bool=>true | _=>false
  wf _:=True
  bulk _:=1
  pos:=Nat.one_pos
  inh:=⟨true⟩
  read ub hub ht h:=by
    split at ht
    · rename_i hu
      obtain⟨n,h1,rfl⟩:=DataW.trod_bool hu h
      refine⟨n,trivial,hub.one _,by rw[h1];rfl,fun j hj=>?_⟩
      rw[h1] at hj ⊢
      obtain rfl:j=0:=by simp at hj;omega
      exact .bool _
    · simp at ht
theorem str_rep (w:World) (I:Nat→Nat→Prop) (s:ByteArray):DRep w I (.str s.data.toList) (.string s):=by
  have:DRep w I (.str s.data.toList) (.string ⟨s.data.toList.toArray⟩):=.str _
  simpa only[Array.toArray_toList] using this
instance:Arg (List UInt8) where
  tyB P t:=match P.underlying t with | some .string=>true | _=>false
  wf s:=s.length≤maxLen
  bulk s:=s.length+1
  pos:=Nat.one_pos
  inh:=⟨[]⟩
  read ub hub ht h:=by
    split at ht
    · rename_i hu
      obtain⟨n,h1,rfl,h2⟩:=DataW.trod_string hu h
      have h3:n.data.toList.length≤maxLen:=by
        have:n.size≤maxLen:=h2
        rwa [ByteArray.size,← Array.length_toList] at this
      refine⟨n.data.toList,h3,hub.str _,by rw[h1];rfl,fun j hj=>?_⟩
      rw[h1] at hj ⊢
      obtain rfl:j=0:=by simp at hj;omega
      exact str_rep _ _ _
    · simp at ht
theorem sum_le {l:List Nat} {m:List Nat} (hl:l.length=m.length) (h:∀i (h1:i<l.length) (h2:i<m.length),l[i]≤m[i]):l.sum≤m.sum:=by
  induction l generalizing m with
  | nil=>simp
  | cons x l ih =>
    cases m with
    | nil=>simp at hl
    | cons y m =>
      have h1:=h 0 (by simp) (by simp)
      have h2:=ih (m:=m) (by simpa using hl) (fun i h1 h2=>by have:=h (i+1) (by simpa using h1) (by simpa using h2);simpa only[List.getElem_cons_succ] using this)
      simp at h1 ⊢
      omega
instance {α:Type} [Rep α] [Arg α]:Arg (List α) where
  tyB P t:=match P.underlying t with | some (.slice e)=>Arg.tyB α P e && P.cellsOf e == Rep.size α | _=>false
  wf l:=l.length≤maxLen∧∀x,x∈l→Arg.wf x
  bulk l:=(l.map Arg.bulk).sum+1
  pos:=Nat.one_pos
  inh:=⟨[]⟩
  read {H enc P w t fuel cs x} ub hub ht h:=by
    split at ht
    · rename_i e hu
      simp only[Bool.and_eq_true,beq_iff_eq] at ht
      obtain⟨ht,hc⟩:=ht
      rcases Go.Deep.open_slice hu h with ⟨rfl,rfl⟩ | ⟨a,len,cap,m,n,Dt,Pl,rfl,hb,hl,hm,hmm,rfl,hx⟩
      · refine⟨[],⟨Nat.zero_le _,by simp⟩,by simpa using hub.one _,rfl,fun j hj=>?_⟩
        obtain rfl:j=0:=by simp at hj;omega
        exact .sl0 _ _ _
      · have hlm:len≤m:=by rw[hmm];simp[hl]
        haveI:Inhabited α:=Arg.inh
        obtain⟨f,hf⟩:=Go.Deep.choose_lt (α:=α × List Value) (n:=len) (p:=fun i y=>Arg.wf y.1∧Arg.bulk y.1≤ub (Dt i)∧w.cells? 0 (a.add (i * P.cellsOf e)) (P.cellsOf e)=some y.2∧y.2.length=Rep.size α ∧
            ∀j,j<y.2.length→DRep w (cellsIn w) ((Rep.to y.1).cells.getD j default) (y.2.getD j undef)) (fun i hi=>by
          obtain⟨cs',h1,h2⟩:=hx i (by omega)
          obtain⟨b,b1,b2,b3,b4⟩:=Arg.read ub hub ht h2
          exact⟨(b,cs'),b1,b2,h1,b3,b4⟩)
        refine⟨(List.range len).map fun i=>(f i).1,?_,?_,rfl,fun j hj=>?_⟩
        · refine⟨by rw[List.length_map,List.length_range];exact Nat.le_trans hl hm,fun x hx=>?_⟩
          obtain⟨i,hi,rfl⟩:=List.mem_map.1 hx
          exact (hf i (by simpa using hi)).1
        · have h1:=hub.slice ((List.range len).map Dt) ((List.range (m-len)).map fun j=>Dt (len+j))
          have h2:(((List.range len).map fun i=>(f i).1).map Arg.bulk).sum≤(((List.range len).map Dt).map ub).sum:=by
            refine sum_le (by simp) (fun i h1 h2=>?_)
            simp at h1
            simpa using (hf i h1).2.1
          simp only
          omega
        · obtain rfl:j=0:=by simp at hj;omega
          rcases Nat.eq_zero_or_pos len with h0 | h0
          · subst h0
            exact .sl0 _ _ _
          · have hp:0<Rep.size α:=Arg.pos
            obtain⟨b,off,spot⟩:=a
            have cell:∀i j,i<len→j<Rep.size α→w.cell? ((Addr.mk b off spot).add (i * Rep.size α+j))=some ((f i).2.getD j undef):=by
              intro i j hi hj
              obtain⟨_,_,h1,h2,_⟩:=hf i hi
              obtain⟨_,h3,h4⟩:=World.cells?_some h1
              have:=h4 j (by omega)
              rw[Go.Deep.add_add,hc] at this
              rw[this]
              simp[List.getD,h2,hj]
            have hs:spot=none:=by
              have:=cell 0 0 h0 hp
              simpa [Addr.add] using World.cell?_spot this
            subst hs
            have cell':∀i j,i<len→j<Rep.size α→w.cell? ⟨b,off+i * Rep.size α+j,none⟩=some ((f i).2.getD j undef):=by
              intro i j hi hj
              have:=cell i j hi hj
              rwa [add_plain,← Nat.add_assoc] at this
            refine .sl _ _ b off len cap (fun i j=>(f i).2.getD j undef) (by simp) hl (fun x hx=>?_) (fun i j hi hj=>?_) cell' (fun i j hi hj=>?_)
            · obtain⟨y,_,rfl⟩:=List.mem_map.1 hx
              exact Rep.fits y
            · simp[cellsIn,cell' i j hi hj]
            · obtain⟨_,_,_,h2,h3⟩:=hf i hi
              have e1:(((List.range len).map fun i=>(f i).1).map Rep.to).getD i default=Rep.to (f i).1:=by simp[List.getD,hi]
              rw[e1]
              exact h3 j (by omega)
    · simp at ht
theorem len_wf {α:Type} [Rep α] [Arg α] {l:List α} (h:Arg.wf l):l.length≤9223372036854775807:=by
  have h1:l.length≤maxLen:=h.1
  simpa [maxLen] using h1
theorem str_wf {s:List UInt8} (h:Arg.wf s):s.length≤9223372036854775807:=by
  have h1:s.length≤maxLen:=h
  simpa [maxLen] using h1
theorem Arg.readV {α:Type} [Rep α] [Arg α] {H:Type} {enc:TypeId × Value→H} {P:Program} {w:World} {t:TypeId} {v:Value} {d:DataW H} {ps:List MemPlace} {r:Reach} {b0:Nat} (ub:DataW H→Nat) (hub:Bulky ub) (ht:Arg.tyB α P t=true)
    (hone:(match P.underlying t with | some (.struct _) | some (.array _ _)=>false | _=>true)=true) (hval:Value.okWide P w r b0 t v) (hto:∀a:α,(Rep.to a).cells=[Rep.to a])
    (h:DataW.Trod enc P w 0 (fun _=>true) true t v d ps):∃a:α,Arg.wf a∧Arg.bulk a≤ub d∧DRep w (cellsIn w) (Rep.to a) v:=by
  obtain⟨n,h⟩:=h
  obtain⟨a,h1,h2,h3,h4⟩:=Arg.read (α:=α) ub hub ht h
  refine⟨a,h1,h2,?_⟩
  have hs:Rep.size α=1:=by
    have:=Rep.fits a
    simp only[D.fits,hto a,Bool.and_eq_true,beq_iff_eq] at this
    simpa using this.1.symm
  have hv:v.cells=#[v]:=by
    unfold Value.okWide at hval
    cases v with
    | agg cs =>
      split at hval <;> rename_i hu <;> first | (rw[hu] at hone;simp at hone) | skip
      exfalso
      simp only[Cell.okWide,Cell.ok] at hval
      generalize P.underlying t=ud at hval hone
      cases ud with
      | none=>simp at hval
      | some dd=>cases dd <;> simp at hval hone
    | _=>rfl
  rw[hv] at h4
  have:=h4 0 (by simp)
  rw[hto a] at this
  simpa using this
theorem trodAll_stays {H:Type} {enc:TypeId × Value→H} {P:Program} (hl:laidOutB P=true) {W W':World} {sp':Nat→Bool}:∀{ts:List TypeId} {vs:List Value} {ds:List (DataW H)} {ps:List MemPlace},
    (∀t,t∈ts→P.readableRec t=true∧t<P.types.size)→DataW.TrodAll enc P W 0 (fun _=>true) true ts vs ds ps→(∀p∈ps,W.sameAt W' p)→(∀p∈ps,sp' p.block=true)→DataW.TrodAll enc P W' 0 sp' true ts vs ds ps
  | [],[],[],_,_,h,_,_=>h
  | t::ts,v::vs,d::ds,_,hT,⟨p,q,h1,h2,e⟩,hs,hb =>
    ⟨p,q,WideElems.Trod_stays hl (hT t (by simp)).1 (hT t (by simp)).2 h1 (fun x hx=>hs x (by rw[e];exact List.mem_append_left _ hx)) (fun x hx=>hb x (by rw[e];exact List.mem_append_left _ hx)),
      trodAll_stays hl (fun t ht=>hT t (by simp[ht])) h2 (fun x hx=>hs x (by rw[e];exact List.mem_append_right _ hx)) (fun x hx=>hb x (by rw[e];exact List.mem_append_right _ hx)),e⟩
theorem params_ok {P:Program} {ts:List TypeId} (h:(ts.all fun t=>P.readableRec t && decide (t<P.types.size))=true):∀t,t∈ts→P.readableRec t=true∧t<P.types.size:=by
  intro t ht
  rw[List.all_eq_true] at h
  simpa using h t ht
theorem lawCalls {H:Type} {enc:TypeId × Value→H} {P:Program} {f:FuncId} {fn:Func} {s:ChangeSpec} {W:World} {args:Array Value} {ds gs:List (DataW H)} {before:List MemPlace} {tb:TypeId} {xs:List D}
    (hl:laidOutB P=true) (hpar:∀t,t∈fn.params.toList→P.readableRec t=true∧t<P.types.size) (hvars:s.vars=[]) (hres:fn.resultTypes=#[tb]) (hb:P.underlying tb=some .bool)
    (hs:s.fn H (ds++gs)={ results:=[.lit (.bool true)],args:=ds }) (hW:DataW.Whole enc P fn.params.toList s.vars false W args.toList ds gs before)
    (hwok:Wok P W) (hc:FCalls P f xs (.bool true)) (hlen:args.size=xs.length) (hx:∀k,k<xs.length→DRep W (cellsIn W) (xs.getD k default) (args.getD k undef)) :
    Calls P f args W fun e W'=>∃v,e=.returned v∧s.post enc P fn false true false false W args v W':=by
  refine (hc W (cellsIn W) args hwok (fun b j h=>h) hlen hx).mono fun e W' ⟨v,he,hr,hbelow⟩=>?_
  subst he
  cases hr
  refine⟨_,rfl,?_⟩
  have hW2:=hW
  obtain⟨p,q,hA,hV,rfl,hfz,hnd⟩:=hW
  rw[hvars] at hV
  obtain⟨rfl,rfl⟩:=trodVars_none hV
  have hlt:∀x,x∈p→x.block<W.heap.size:=fun x hx=>by simpa using hW2.lt x (by simpa using hx)
  have hargs:∀sp:Nat→Bool,(∀x∈p,sp x.block=true)→DataW.TrodAll enc P W' 0 sp true fn.params.toList args.toList ds p:=fun sp h=>trodAll_stays hl hpar hA (fun x hx=>hbelow.same (hlt x hx)) h
  have hresT:∀(b:Nat) (sp:Nat→Bool) (hd:Bool),DataW.TrodAll enc P W' b sp hd fn.resultTypes.toList ((Value.bool true).resultList fn.resultTypes.size) [.lit (.bool true)] []:=by
    intro b sp hd
    rw[hres]
    exact trodAll_mk1 (shut_bool hb true)
  have hvs:∀sp:Nat→Bool,DataW.TrodVars enc P W' sp s.vars (s.fn H (ds++[])).vars []:=by
    intro sp
    rw[hs,hvars]
    rfl
  refine⟨ds,[],p++[],[],p,[],hW2,by rw[hs];exact hresT _ _ _,by rw[hs];exact hargs _ (fun x hx=>by simpa using hlt x hx),hvs _,World.keptBut_mono (fun x hx=>⟨by simpa using hx,by simpa using hx⟩) (hbelow.frame (·∈p)),fun _=>?_⟩
  refine⟨ok_one hres rfl (okWide_bool_mk hb true),[.lit (.bool true)]++ds,_,([]++p)++[],⟨[]++p,[],?_,hvs _,rfl,?_,?_⟩,?_⟩
  · exact trodAll_append (hargs _ (fun _ _=>rfl)) (hresT _ _ _)
  · intro b off hp
    have hp2:MemPlace.cell b off∈p:=by simpa using hp
    have hb2:b<W.heap.size:=hlt _ hp2
    rw[hbelow.frozen (p:=⟨b,off,none⟩) hb2]
    exact hfz b off (by simpa using hp)
  · intro ha
    simp at ha
  · intro x hx _
    simpa using hx
theorem Wok.of {P:Program} {W:World} (h:W.ShapedOpen P) (hl:(decide (P.globals.size<P.low))=true) (ht:powTabOk P W:=by exact fun g hg=>absurd (hg.symm.trans (show _=none by kernel_rfl)) (by simp)):Wok P W:=by
  refine⟨h,?_,ht⟩
  have h1:P.globals.size<P.low:=of_decide_eq_true hl
  obtain⟨o,_,h2,_⟩:=h.2 (P.low-1) (by omega) (by unfold Program.low at *;omega)
  have:=(Array.getElem?_eq_some_iff.1 h2).1
  omega
end Go.AE
namespace Go.AE
structure ChangeT where
  old:Int
  oldLen:Int
  new:Int
  newLen:Int
  deriving DecidableEq,Inhabited
instance:Rep ChangeT where
  size:=4
  to x:=.agg [.int .i64 x.old,.int .i64 x.oldLen,.int .i64 x.new,.int .i64 x.newLen]
  of
    | .agg [.int .i64 a,.int .i64 b,.int .i64 c,.int .i64 d]=>some ⟨a,b,c,d⟩
    | _=>none
  of_to x:=rfl
  rep d x h w I v r:=by
    split at h
    · simp at h;subst h;exact r
    · simp at h
  fits x:=rfl
@[simp] theorem to_Change (x:ChangeT):Rep.to x=D.agg [.int .i64 x.old,.int .i64 x.oldLen,.int .i64 x.new,.int .i64 x.newLen]:=rfl
@[simp] theorem size_Change:Rep.size ChangeT=4:=rfl
@[simp] theorem of_Change (a:Int) (b:Int) (c:Int) (d:Int):Rep.of (α:=ChangeT) (.agg [.int .i64 a,.int .i64 b,.int .i64 c,.int .i64 d])=some ⟨a,b,c,d⟩:=rfl
structure SpanT where
  fr:Int
  to:Int
  deriving DecidableEq,Inhabited
instance:Rep SpanT where
  size:=2
  to x:=.agg [.int .i64 x.fr,.int .i64 x.to]
  of
    | .agg [.int .i64 a,.int .i64 b]=>some ⟨a,b⟩
    | _=>none
  of_to x:=rfl
  rep d x h w I v r:=by
    split at h
    · simp at h;subst h;exact r
    · simp at h
  fits x:=rfl
@[simp] theorem to_Span (x:SpanT):Rep.to x=D.agg [.int .i64 x.fr,.int .i64 x.to]:=rfl
@[simp] theorem size_Span:Rep.size SpanT=2:=rfl
@[simp] theorem of_Span (a:Int) (b:Int):Rep.of (α:=SpanT) (.agg [.int .i64 a,.int .i64 b])=some ⟨a,b⟩:=rfl
structure MergedT where
  line:Int
  parents:Int
  deriving DecidableEq,Inhabited
instance:Rep MergedT where
  size:=2
  to x:=.agg [.int .i64 x.line,.int .u32 x.parents]
  of
    | .agg [.int .i64 a,.int .u32 b]=>some ⟨a,b⟩
    | _=>none
  of_to x:=rfl
  rep d x h w I v r:=by
    split at h
    · simp at h;subst h;exact r
    · simp at h
  fits x:=rfl
@[simp] theorem to_Merged (x:MergedT):Rep.to x=D.agg [.int .i64 x.line,.int .u32 x.parents]:=rfl
@[simp] theorem size_Merged:Rep.size MergedT=2:=rfl
@[simp] theorem of_Merged (a:Int) (b:Int):Rep.of (α:=MergedT) (.agg [.int .i64 a,.int .u32 b])=some ⟨a,b⟩:=rfl
structure RowT where
  lost:Bool
  marks:Int
  text:List UInt8
  deriving DecidableEq,Inhabited
instance:Rep RowT where
  size:=3
  to x:=.agg [.bool x.lost,.int .u32 x.marks,.str x.text]
  of
    | .agg [.bool a,.int .u32 b,.str c]=>some ⟨a,b,c⟩
    | _=>none
  of_to x:=rfl
  rep d x h w I v r:=by
    split at h
    · simp at h;subst h;exact r
    · simp at h
  fits x:=rfl
@[simp] theorem to_Row (x:RowT):Rep.to x=D.agg [.bool x.lost,.int .u32 x.marks,.str x.text]:=rfl
@[simp] theorem size_Row:Rep.size RowT=3:=rfl
@[simp] theorem of_Row (a:Bool) (b:Int) (c:List UInt8):Rep.of (α:=RowT) (.agg [.bool a,.int .u32 b,.str c])=some ⟨a,b,c⟩:=rfl
structure FileT where
  path:List UInt8
  blob:List UInt8
  deriving DecidableEq,Inhabited
instance:Rep FileT where
  size:=2
  to x:=.agg [.str x.path,.str x.blob]
  of
    | .agg [.str a,.str b]=>some ⟨a,b⟩
    | _=>none
  of_to x:=rfl
  rep d x h w I v r:=by
    split at h
    · simp at h;subst h;exact r
    · simp at h
  fits x:=rfl
@[simp] theorem to_File (x:FileT):Rep.to x=D.agg [.str x.path,.str x.blob]:=rfl
@[simp] theorem size_File:Rep.size FileT=2:=rfl
@[simp] theorem of_File (a:List UInt8) (b:List UInt8):Rep.of (α:=FileT) (.agg [.str a,.str b])=some ⟨a,b⟩:=rfl
structure OriginT where
  commit:Int
  line:Int
  deriving DecidableEq,Inhabited
instance:Rep OriginT where
  size:=2
  to x:=.agg [.int .i64 x.commit,.int .i64 x.line]
  of
    | .agg [.int .i64 a,.int .i64 b]=>some ⟨a,b⟩
    | _=>none
  of_to x:=rfl
  rep d x h w I v r:=by
    split at h
    · simp at h;subst h;exact r
    · simp at h
  fits x:=rfl
@[simp] theorem to_Origin (x:OriginT):Rep.to x=D.agg [.int .i64 x.commit,.int .i64 x.line]:=rfl
@[simp] theorem size_Origin:Rep.size OriginT=2:=rfl
@[simp] theorem of_Origin (a:Int) (b:Int):Rep.of (α:=OriginT) (.agg [.int .i64 a,.int .i64 b])=some ⟨a,b⟩:=rfl
@[simp] theorem ofAll_drop {α:Type} [Rep α] (k:Nat) (l:List α):ofAll Rep.of (List.drop k (l.map Rep.to))=some (l.drop k):=by rw[← List.map_drop];exact ofAll_map Rep.of_to _
@[simp] theorem ofAll_take {α:Type} [Rep α] (k:Nat) (l:List α):ofAll Rep.of (List.take k (l.map Rep.to))=some (l.take k):=by rw[← List.map_take];exact ofAll_map Rep.of_to _
@[simp] theorem ofAll_takedrop {α:Type} [Rep α] (j k:Nat) (l:List α):ofAll Rep.of (List.take j (List.drop k (l.map Rep.to)))=some ((l.drop k).take j):=by rw[← List.map_drop,← List.map_take];exact ofAll_map Rep.of_to _
@[simp] theorem ofAll_app {α:Type} [Rep α] (l m:List α):ofAll Rep.of (l.map Rep.to++m.map Rep.to)=some (l++m):=by rw[← List.map_append];exact ofAll_map Rep.of_to _
def Sb (x y:A):Prop:=y=.any∨x=y∨(∃l e xs,x=.gr l e xs∧y=.d (.sl e xs))∨(∃e,x=.d .nilsl∧y=.d (.sl e []))
theorem Sb.wk {n:Nat} {k:List Ob} {x y:A} (h:Sb x y):Wk n k x y:=by
  rcases h with rfl | rfl | ⟨l,e,xs,rfl,rfl⟩ | ⟨e,rfl,rfl⟩
  · exact Wk.any _ _ _
  · exact Wk.refl _ _ _
  · exact Wk.gr _ _ _ _ _
  · exact Wk.nil _ _ _
@[simp] theorem Sb_any (x:A):Sb x .any=True:=eq_true (.inl rfl)
@[simp] theorem Sb_refl (x:A):Sb x x=True:=eq_true (.inr (.inl rfl))
@[simp] theorem Sb_int (k l:IntKind) (a b:Int):Sb (.d (.int k a)) (.d (.int l b))=(k=l∧a=b):=by simp[Sb]
@[simp] theorem Sb_bool (a b:Bool):Sb (.d (.bool a)) (.d (.bool b))=(a=b):=by simp[Sb]
@[simp] theorem Sb_str (a b:List UInt8):Sb (.d (.str a)) (.d (.str b))=(a=b):=by simp[Sb]
@[simp] theorem Sb_sl (e f:Nat) (a b:List D):Sb (.d (.sl e a)) (.d (.sl f b))=(e=f∧a=b):=by simp[Sb]
@[simp] theorem Sb_nil (f:Nat) (b:List D):Sb (.d .nilsl) (.d (.sl f b))=(b=[]):=by simp[Sb]
@[simp] theorem Sb_agg (a b:List D):Sb (.d (.agg a)) (.d (.agg b))=(a=b):=by simp[Sb]
@[simp] theorem Sb_gr (l e:Nat) (xs:List D) (f:Nat) (ys:List D):Sb (.gr l e xs) (.d (.sl f ys))=(e=f∧xs=ys):=by
  simp only[Sb,eq_iff_iff]
  constructor
  · rintro (h | h | ⟨l',e',zs,h1,h2⟩ | ⟨e',h1,h2⟩)
    · cases h
    · cases h
    · cases h1;cases h2;exact⟨rfl,rfl⟩
    · cases h1
  · rintro⟨rfl,rfl⟩
    exact .inr (.inr (.inl ⟨l,_,_,rfl,rfl⟩))
@[simp] theorem Sb_grgr (l e:Nat) (xs:List D) (m f:Nat) (ys:List D):Sb (.gr l e xs) (.gr m f ys)=(l=m∧e=f∧xs=ys):=by simp[Sb]
@[simp] theorem Sb_own (l v o n m w p q:Nat):Sb (.own l v o n) (.own m w p q)=(l=m∧v=w∧o=p∧n=q):=by simp[Sb]
@[simp] theorem Sb_ref (l v o n m w p q:Nat):Sb (.ref l v o n) (.ref m w p q)=(l=m∧v=w∧o=p∧n=q):=by simp[Sb]
def SbL:List A→List A→Prop
  | [],[]=>True
  | x::xs,y::ys=>Sb x y∧SbL xs ys
  | _,_=>False
@[simp] theorem SbL_nil:SbL [] []=True:=rfl
@[simp] theorem SbL_cons (x y:A) (xs ys:List A):SbL (x::xs) (y::ys)=(Sb x y∧SbL xs ys):=rfl
theorem SbL.wk {n:Nat} {k:List Ob}:∀{xs ys:List A},SbL xs ys→WkL n k xs ys
  | [],[],_=>trivial
  | _::_,_::_,h=>⟨h.1.wk,SbL.wk h.2⟩
  | [],_::_,h=>h.elim
  | _::_,[],h=>h.elim
def SbO (x y:Ob):Prop:=x=y
@[simp] theorem SbO_refl (x:Ob):SbO x x=True:=eq_true rfl
@[simp] theorem SbO_tip (a b:Nat):SbO (.tip a) (.tip b)=(a=b):=by simp[SbO]
@[simp] theorem SbO_cells (v e:Nat) (xs:List A) (w f:Nat) (ys:List A):SbO (.cells v e xs) (.cells w f ys)=(v=w∧e=f∧xs=ys):=by simp[SbO]
@[simp] theorem SbO_map (a b:List (D × D)):SbO (.map a) (.map b)=(a=b):=by simp[SbO]
def SbS:Store→Store→Prop
  | _,[]=>True
  | x::xs,y::ys=>SbO x y∧SbS xs ys
  | [],_::_=>False
@[simp] theorem SbS_nil (s:Store):SbS s []=True:=by cases s <;> rfl
@[simp] theorem SbS_cons (x y:Ob) (xs ys:Store):SbS (x::xs) (y::ys)=(SbO x y∧SbS xs ys):=rfl
theorem SbS.take:∀{s t:Store},SbS s t→s.take t.length=t
  | s,[],_=>by simp
  | x::xs,y::ys,h=>by
    have h1:x=y:=h.1
    simp[h1,SbS.take h.2]
  | [],_::_,h=>h.elim
def Scp (T':List A) (s s':Store):Prop:=s.length=s'.length∨(T'.all (A.under s'.length)=true∧s'.all (Ob.under s'.length)=true)
structure Sub (lo:Nat) (T:List A) (s:Store) (T':List A) (s':Store):Prop where
  lo:lo≤s'.length
  T:SbL T T'
  st:SbS s s'
  sc:Scp T' s s'
theorem mask_all:∀(T:List A),mask (List.replicate T.length true) T=T
  | []=>rfl
  | x::T=>by simp[List.replicate_succ,mask,mask_all T]
theorem Sub.re {lo:Nat} {T T':List A} {s s':Store} (h:Sub lo T s T' s'):Re lo T s T' s':=by
  obtain⟨h0,h1,h2,h3⟩:=h
  have ht:=h2.take
  have hl:s'.length≤s.length:=by rw[← ht];simp;omega
  have a:=Re.weak (lo:=lo) (k:=[]) (T:=T) (T':=T') (s:=s) (s':=s) (by simp) (by omega) h1.wk (WkS.refl _ _ _)
  simp only[List.append_nil] at a
  have b:=Re.forget (lo:=lo) (T:=T') (s:=s) (List.replicate T'.length true) h0 (by
    rw[mask_all]
    rcases h3 with h3 | h3
    · exact .inl (by omega)
    · refine .inr ?_
      rw[ht]
      exact h3)
  rw[mask_all,ht] at b
  exact a.trans b
def Nxt {σ:Type} (lo:Nat) (I:σ→Prop) (μ:σ→Nat) (Tf:σ→List A) (sf:σ→Store) (m:Nat) (T:List A) (s:Store):Prop:=∃y,μ y<m∧Re lo T s (Tf y) (sf y)∧I y
@[congr] theorem Nxt_congr {σ:Type} {lo:Nat} {I:σ→Prop} {μ:σ→Nat} {Tf:σ→List A} {sf:σ→Store} {m:Nat} {T T':List A} {s s':Store} (h1:T=T') (h2:s=s'):Nxt lo I μ Tf sf m T s=Nxt lo I μ Tf sf m T' s':=by rw[h1,h2]
theorem Nxt.mk {σ:Type} {lo:Nat} {I:σ→Prop} {μ:σ→Nat} {Tf:σ→List A} {sf:σ→Store} {m:Nat} {T:List A} {s:Store} (y:σ) (h1:μ y<m) (h2:SbL T (Tf y)) (h3:SbS s (sf y)) (h5:I y) (h0:lo≤(sf y).length:=by first | omega | simp) (h4:Scp (Tf y) s (sf y):=by simp[Scp]) :
    Nxt lo I μ Tf sf m T s:=⟨y,h1,Sub.re ⟨h0,h2,h3,h4⟩,h5⟩
theorem Nxt.re {σ:Type} {lo:Nat} {I:σ→Prop} {μ:σ→Nat} {Tf:σ→List A} {sf:σ→Store} {m:Nat} {T:List A} {s:Store} (y:σ) (h1:μ y<m) (h2:Re lo T s (Tf y) (sf y)) (h5:I y):Nxt lo I μ Tf sf m T s:=⟨y,h1,h2,h5⟩
def lpQ {σ:Type} (lo:Nat) (I:σ→Prop) (μ:σ→Nat) (Tf:σ→List A) (sf:σ→Store) (m:Nat) (Q:XE→List A→Store→Prop):XE→List A→Store→Prop
  | .normal,T,s=>Nxt lo I μ Tf sf m T s
  | e,T,s=>Q e T s
section
variable {σ:Type} (lo:Nat) (Q:XE→List A→Store→Prop) (T:List A) (s:Store) (I:σ→Prop) (μ:σ→Nat) (Tf:σ→List A) (sf:σ→Store) (m:Nat)
@[simp ↓] theorem lpQ_ret:lpQ lo I μ Tf sf m Q .ret T s=Q .ret T s:=by first | exact (rfl) | rfl
@[simp ↓] theorem lpQ_exit (j:Nat):lpQ lo I μ Tf sf m Q (.exit j) T s=Q (.exit j) T s:=by first | exact (rfl) | rfl
@[simp ↓] theorem lpQ_normal:lpQ lo I μ Tf sf m Q .normal T s=Nxt lo I μ Tf sf m T s:=by first | exact (rfl) | rfl
end
@[congr] theorem lpQ_congr {σ:Type} {lo:Nat} {I:σ→Prop} {μ:σ→Nat} {Tf:σ→List A} {sf:σ→Store} {m:Nat} {Q:XE→List A→Store→Prop} {e:XE} {T T':List A} {s s':Store} (h1:T=T') (h2:s=s'):lpQ lo I μ Tf sf m Q e T s=lpQ lo I μ Tf sf m Q e T' s':=by rw[h1,h2]
theorem vc_lp {σ:Type} {G:Gam} {lo:Nat} {Q:XE→List A→Store→Prop} {T:List A} {s:Store} {a:XC} (I:σ→Prop) (μ:σ→Nat) (Tf:σ→List A) (sf:σ→Store) (x0:σ)
    (hT:SbL T (Tf x0)) (hs:SbS s (sf x0)) (hI:I x0) (h3:∀x,I x→vc G lo a (lpQ lo I μ Tf sf (μ x) Q) (Tf x) (sf x)) (h0:lo≤(sf x0).length:=by first | omega | simp) (hc:Scp (Tf x0) s (sf x0):=by simp[Scp]):vc G lo (.loop a) Q T s:=by
  refine vc_loopR _ _ _ _ _ (fun m T s=>∃x,m=μ x∧T=Tf x∧s=sf x∧I x) a ⟨_,_,_,Sub.re ⟨h0,hT,hs,hc⟩,x0,rfl,rfl,rfl,hI⟩ ?_
  rintro m T s ⟨x,rfl,rfl,rfl,hI⟩
  refine vc_mono _ _ _ _ _ (fun e T s h=>?_) (h3 x hI)
  cases e with
  | normal =>
    obtain⟨y,h5,h6,h7⟩:=h
    exact⟨_,_,_,h5,h6,y,rfl,rfl,rfl,h7⟩
  | exit j=>exact h
  | ret=>exact h
theorem vc_lpR {σ:Type} {G:Gam} {lo:Nat} {Q:XE→List A→Store→Prop} {T:List A} {s:Store} {a:XC} (I:σ→Prop) (μ:σ→Nat) (Tf:σ→List A) (sf:σ→Store) (x0:σ)
    (hr:Re lo T s (Tf x0) (sf x0)) (hI:I x0) (h3:∀x,I x→vc G lo a (lpQ lo I μ Tf sf (μ x) Q) (Tf x) (sf x)):vc G lo (.loop a) Q T s:=by
  refine vc_loopR _ _ _ _ _ (fun m T s=>∃x,m=μ x∧T=Tf x∧s=sf x∧I x) a ⟨_,_,_,hr,x0,rfl,rfl,rfl,hI⟩ ?_
  rintro m T s ⟨x,rfl,rfl,rfl,hI⟩
  refine vc_mono _ _ _ _ _ (fun e T s h=>?_) (h3 x hI)
  cases e with
  | normal =>
    obtain⟨y,h5,h6,h7⟩:=h
    exact⟨_,_,_,h5,h6,y,rfl,rfl,rfl,h7⟩
  | exit j=>exact h
  | ret=>exact h
end Go.AE
namespace Go.AE
mutual
def A.objs:A→List Nat
  | .ref l _ _ _=>[l]
  | .own l _ _ _=>[l]
  | .gr l _ _=>[l]
  | .mp l=>[l]
  | .tref l _ _=>[l]
  | .bgr l _ _=>[l]
  | .agg cs=>A.objsL cs
  | .tup cs=>A.objsL cs
  | .fn _ a b=>A.objsL a++A.objsL b
  | .iface _ x=>A.objs x
  | _=>[]
def A.objsL:List A→List Nat
  | []=>[]
  | x::r=>A.objs x++A.objsL r
end
def Ob.objs:Ob→List Nat
  | .cells _ _ xs=>A.objsL xs
  | _=>[]
def addN (R:List Nat):List Nat→List Nat
  | []=>R
  | x::r=>addN (if x∈R then R else R++[x]) r
def objsOf (s:Store):List Nat→List Nat
  | []=>[]
  | l::r=>(s.getD l .dead).objs++objsOf s r
def reachO (s:Store):Nat→List Nat→List Nat
  | 0,R=>R
  | d+1,R=>reachO s d (addN R (objsOf s R))
def renAuto (args:List A) (s:Store):List Nat:=reachO s 3 (addN [] (A.objsL args))
theorem addN_sub:∀(xs R:List Nat) (l:Nat),l∈R→l∈addN R xs
  | [],_,_,h=>h
  | x::r,R,l,h=>by
    simp only[addN]
    refine addN_sub r _ l ?_
    split
    · exact h
    · exact List.mem_append_left _ h
theorem reachO_sub (s:Store):∀(d:Nat) (R:List Nat) (l:Nat),l∈R→l∈reachO s d R
  | 0,_,_,h=>h
  | d+1,R,l,h=>reachO_sub s d _ l (addN_sub _ _ l h)
theorem objsOf_local {s s2:Store}:∀(R:List Nat),(∀l,l∈R→s2.getD l .dead=s.getD l .dead)→objsOf s2 R=objsOf s R
  | [],_=>rfl
  | l::r,h=>by
    simp only[objsOf]
    rw[h l (by simp),objsOf_local r fun k hk=>h k (by simp[hk])]
theorem reachO_local {s s2:Store}:∀(d:Nat) (R:List Nat),(∀l,l∈reachO s d R→s2.getD l .dead=s.getD l .dead)→reachO s2 d R=reachO s d R
  | 0,_,_=>rfl
  | d+1,R,h=>by
    simp only[reachO] at h ⊢
    rw[objsOf_local R fun l hl=>h l (reachO_sub s d _ l (addN_sub _ _ l hl))]
    exact reachO_local d _ h
structure RF (σ:Type) where
  new:Nat
  view:List A→Store→σ
  args:σ→List A
  st:σ→Store
  pre:σ→Prop
  res:σ→A
  st':σ→Store
def news (nw:Nat):Nat→List Nat
  | 0=>[]
  | k+1=>news nw k++[nw+k]
def RF.spec {σ:Type} (r:RF σ):RSpec :=
  ⟨fun args s nw=>renAuto args s++news nw r.new,fun args s0=>(args=r.args (r.view args s0)∧s0=r.st (r.view args s0)∧r.pre (r.view args s0),r.st' (r.view args s0),r.res (r.view args s0))⟩
theorem RF.ok {σ:Type} {r:RF σ} {P:Program} {f:FuncId} (hc:isCall P f=true) (k:∀x,r.pre x→RCalls P f (r.args x) (r.st x) (r.res x) (r.st' x)):RSpec.Ok P f r.spec:=by
  refine⟨hc,?_,?_⟩
  · intro args s s2 nw h
    simp only[RF.spec] at h ⊢
    rw[show renAuto args s2=renAuto args s from reachO_local _ _ fun l hl=>h l (List.mem_append_left _ hl)]
  · intro args s0 hp
    simp only[RF.spec] at hp ⊢
    obtain⟨h1,h2,h3⟩:=hp
    have:=k _ h3
    rw[← h1,← h2] at this
    exact this
@[simp] theorem RF_ren {σ:Type} (r:RF σ) (args:List A) (s:Store) (nw:Nat):r.spec.ren args s nw=renAuto args s++news nw r.new:=rfl
@[simp] theorem RF_spec {σ:Type} (r:RF σ) (args:List A) (s0:Store):r.spec.spec args s0=(args=r.args (r.view args s0)∧s0=r.st (r.view args s0)∧r.pre (r.view args s0),r.st' (r.view args s0),r.res (r.view args s0)):=rfl
def A.gi:A→Int
  | .d (.int _ n)=>n
  | _=>0
def A.gs:A→List UInt8
  | .d (.str s)=>s
  | _=>[]
def A.gb:A→Bool
  | .d (.bool b)=>b
  | _=>false
def A.gl (α:Type) [Rep α]:A→List α
  | .d (.sl _ xs)=>(ofAll Rep.of xs).getD []
  | .gr _ _ xs=>(ofAll Rep.of xs).getD []
  | _=>[]
def A.gv (α:Type) [Rep α] [Inhabited α]:A→α
  | .d x=>(Rep.of x).getD default
  | _=>default
def A.ver:A→Nat
  | .ref _ v _ _=>v
  | .own _ v _ _=>v
  | _=>0
def Ob.at (o:Ob) (i j:Nat):A:=match o with
  | .cells _ _ xs=>(xs.getD i .any).cells.getD j .any
  | _=>.any
def Ob.el (o:Ob) (i:Nat):A:=match o with
  | .cells _ _ xs=>xs.getD i .any
  | _=>.any
def Ob.ver:Ob→Nat
  | .cells v _ _=>v
  | _=>0
attribute [simp] A.gi A.gs A.gb A.gl A.gv A.ver Ob.at Ob.el Ob.ver A.objs A.objsL Ob.objs addN objsOf reachO renAuto news
mutual
theorem A.ren_id {q:Nat→Nat} {n:Nat} (hq:∀l,l<n→q l=l):(x:A)→x.under n=true→x.ren q=x
  | .any,_=>rfl
  | .d _,_=>rfl
  | .ref l _ _ _,h=>by simp only[A.under,decide_eq_true_eq] at h;simp only[A.ren,hq l h]
  | .own l _ _ _,h=>by simp only[A.under,decide_eq_true_eq] at h;simp only[A.ren,hq l h]
  | .gr l _ _,h=>by simp only[A.under,decide_eq_true_eq] at h;simp only[A.ren,hq l h]
  | .mp l,h=>by simp only[A.under,decide_eq_true_eq] at h;simp only[A.ren,hq l h]
  | .tref l _ _,h=>by simp only[A.under,decide_eq_true_eq] at h;simp only[A.ren,hq l h]
  | .bgr l _ _,h=>by simp only[A.under,decide_eq_true_eq] at h;simp only[A.ren,hq l h]
  | .iptr _,_=>rfl
  | .agg cs,h=>by simp only[A.under] at h;simp only[A.ren,A.rens_id hq cs h]
  | .tup cs,h=>by simp only[A.under] at h;simp only[A.ren,A.rens_id hq cs h]
  | .fn _ a b,h=>by simp only[A.under,Bool.and_eq_true] at h;simp only[A.ren,A.rens_id hq a h.1,A.rens_id hq b h.2]
  | .iface _ x,h=>by simp only[A.under] at h;simp only[A.ren,A.ren_id hq x h]
theorem A.rens_id {q:Nat→Nat} {n:Nat} (hq:∀l,l<n→q l=l):(xs:List A)→A.unders n xs=true→A.rens q xs=xs
  | [],_=>rfl
  | x::r,h=>by simp only[A.unders,Bool.and_eq_true] at h;simp only[A.rens,A.ren_id hq x h.1,A.rens_id hq r h.2]
end
theorem Ob.ren_id {q:Nat→Nat} {n:Nat} (hq:∀l,l<n→q l=l) (x:Ob) (h:x.under n=true):x.ren q=x:=by
  cases x with
  | cells v e xs =>
    simp only[Ob.under] at h
    rw[List.all_eq_true] at h
    simp only[Ob.ren,Ob.cells.injEq,true_and]
    exact (List.map_congr_left fun x hx=>A.ren_id hq x (h x hx)).trans (List.map_id' _)
  | _=>rfl
theorem idxIn_range {n l:Nat} (h:l<n):idxIn (List.range n) l=l:=by
  have hm:l∈List.range n:=by simpa using h
  obtain⟨h1,h2⟩:=idxIn_lt hm
  simp only[List.length_range] at h1
  simpa [List.getD,h1] using h2
theorem FinR.done {rs:List Nat} {s0:Store} {res:A} {s1:Store} {e:XE} {T:List A} {s:Store} (he:∀j,e≠.exit j) (h1:SbS s s1) (h2:s1.length=s0.length) (h3:res=resOf rs T s) (h4:s1.all (Ob.under s1.length)=true) (h5:res.under s1.length=true) (h6:resPre rs T s:=by simp[resPre]):FinR rs s0 res s1 e T s:=by
  have ht:=h1.take
  have hl:s1.length≤s.length:=by rw[← ht];simp;omega
  have hid:∀l,l<s1.length→idxIn (List.range s1.length) l=l:=fun l hl=>idxIn_range hl
  have hgd:∀l,l<s1.length→s.getD l .dead=s1.getD l .dead:=fun l hl'=>by
    have:(s.take s1.length).getD l .dead=s.getD l .dead:=by simp[List.getD,List.getElem?_take,hl']
    rw[← this,ht]
  have hp:pickS (List.range s1.length) s=s1:=by
    apply List.ext_getElem
    · simp[pickS]
    · intro l h6 h7
      simp only[pickS,List.getElem_map,List.getElem_range]
      rw[hgd l h7]
      have:s1.getD l .dead=s1[l]:=by simp[List.getD,h7]
      rw[this]
      rw[List.all_eq_true] at h4
      exact Ob.ren_id hid _ (h4 _ (List.getElem_mem _))
  have key:∃R:List Nat,R.length=s0.length∧PickOk R s∧(∀k,k<s0.length→R.getD k 0=k∨s0.getD k .dead=.res)∧s1=pickS R s∧res=(resOf rs T s).ren (idxIn R)∧res.under R.length=true:=by
    refine⟨List.range s1.length,by simp[h2],⟨List.nodup_range,fun l hl'=>by simp at hl';omega,by rw[hp,List.length_range];exact h4⟩,fun k hk=>.inl (by simp[List.getD,show k<s1.length by omega]),hp.symm,?_,by rw[List.length_range];exact h5⟩
    rw[← h3]
    exact (A.ren_id hid _ h5).symm
  cases e with
  | normal=>exact⟨h6,key⟩
  | ret=>exact⟨h6,key⟩
  | exit j=>exact absurd rfl (he j)
structure U32T where
  n:Int
  deriving DecidableEq,Inhabited
instance:Rep U32T where
  size:=1
  to x:=.int .u32 x.n
  of
    | .int .u32 a=>some ⟨a⟩
    | _=>none
  of_to x:=rfl
  rep d x h w I v r:=by
    split at h
    · simp at h;subst h;exact r
    · simp at h
  fits x:=rfl
@[simp] theorem to_U32 (x:U32T):Rep.to x=D.int .u32 x.n:=rfl
@[simp] theorem size_U32:Rep.size U32T=1:=rfl
@[simp] theorem of_U32 (a:Int):Rep.of (α:=U32T) (.int .u32 a)=some ⟨a⟩:=rfl
structure U8T where
  n:Int
  deriving DecidableEq,Inhabited
instance:Rep U8T where
  size:=1
  to x:=.int .u8 x.n
  of
    | .int .u8 a=>some ⟨a⟩
    | _=>none
  of_to x:=rfl
  rep d x h w I v r:=by
    split at h
    · simp at h;subst h;exact r
    · simp at h
  fits x:=rfl
@[simp] theorem to_U8 (x:U8T):Rep.to x=D.int .u8 x.n:=rfl
@[simp] theorem size_U8:Rep.size U8T=1:=rfl
@[simp] theorem of_U8 (a:Int):Rep.of (α:=U8T) (.int .u8 a)=some ⟨a⟩:=rfl
structure U64T where
  n:Int
  deriving DecidableEq,Inhabited
instance:Rep U64T where
  size:=1
  to x:=.int .u64 x.n
  of
    | .int .u64 a=>some ⟨a⟩
    | _=>none
  of_to x:=rfl
  rep d x h w I v r:=by
    split at h
    · simp at h;subst h;exact r
    · simp at h
  fits x:=rfl
@[simp] theorem to_U64 (x:U64T):Rep.to x=D.int .u64 x.n:=rfl
@[simp] theorem size_U64:Rep.size U64T=1:=rfl
@[simp] theorem of_U64 (a:Int):Rep.of (α:=U64T) (.int .u64 a)=some ⟨a⟩:=rfl
theorem take_to {α:Type} [Rep α] {l:List α} {k:Nat} (h:k<l.length):(l.map Rep.to).take (k+1)=(l.map Rep.to).take k++[Rep.to l[k]]:=by
  rw[take_snoc (by simpa using h),List.getElem_map]
open Go.ChangeShapes Go.WideShapes Go.RowKit Go.Deep
structure TableT where
  parents:Int
  rows:List RowT
  deriving DecidableEq,Inhabited
instance:Rep TableT where
  size:=2
  to x:=.agg [.int .i64 x.parents,Rep.to x.rows]
  of
    | .agg [.int .i64 a,b]=>(Rep.of (α:=List RowT) b).map fun r=>⟨a,r⟩
    | _=>none
  of_to x:=by simp only[Rep.of_to];rfl
  rep d x h w I v r:=by
    split at h
    · rename_i a b
      simp only[Option.map_eq_some_iff] at h
      obtain⟨rows,h1,rfl⟩:=h
      cases r with
      | agg cs vs hl ho hr =>
        refine .agg _ _ (by simpa using hl) rfl (fun k hk=>?_)
        have hk':k<2:=by simpa using hk
        match k,hk' with
        | 0,_=>exact hr 0 (by simp)
        | 1,_=>exact Rep.rep _ _ h1 _ _ _ (hr 1 (by simp))
    · simp at h
  fits x:=rfl
@[simp] theorem to_Table (x:TableT):Rep.to x=D.agg [.int .i64 x.parents,.sl 3 (x.rows.map Rep.to)]:=rfl
@[simp] theorem size_Table:Rep.size TableT=2:=rfl
@[simp] theorem of_Table (a:Int) (b:D):Rep.of (α:=TableT) (.agg [.int .i64 a,b])=(Rep.of (α:=List RowT) b).map fun r=>⟨a,r⟩:=rfl
structure CommitT where
  parents:List Int
  date:Int
  files:List FileT
  deriving DecidableEq,Inhabited
instance:Rep CommitT where
  size:=3
  to x:=.agg [Rep.to x.parents,.int .i64 x.date,Rep.to x.files]
  of
    | .agg [a,.int .i64 b,c]=>match Rep.of (α:=List Int) a,Rep.of (α:=List FileT) c with
      | some p,some f=>some ⟨p,b,f⟩
      | _,_=>none
    | _=>none
  of_to x:=by simp only[Rep.of_to]
  rep d x h w I v r:=by
    split at h
    · rename_i a b c
      split at h
      · rename_i p f h1 h2
        simp at h
        subst h
        cases r with
        | agg cs vs hl ho hr =>
          refine .agg _ _ (by simpa using hl) rfl (fun k hk=>?_)
          have hk':k<3:=by simpa using hk
          match k,hk' with
          | 0,_=>exact Rep.rep _ _ h1 _ _ _ (hr 0 (by simp))
          | 1,_=>exact hr 1 (by simp)
          | 2,_=>exact Rep.rep _ _ h2 _ _ _ (hr 2 (by simp))
      · simp at h
    · simp at h
  fits x:=rfl
@[simp] theorem to_Commit (x:CommitT):Rep.to x=D.agg [.sl 1 (x.parents.map Rep.to),.int .i64 x.date,.sl 2 (x.files.map Rep.to)]:=rfl
@[simp] theorem size_Commit:Rep.size CommitT=3:=rfl
@[simp] theorem of_Commit (a:D) (b:Int) (c:D):Rep.of (α:=CommitT) (.agg [a,.int .i64 b,c])=match Rep.of (α:=List Int) a,Rep.of (α:=List FileT) c with | some p,some f=>some ⟨p,b,f⟩ | _,_=>none:=rfl
instance:Arg U32T where
  tyB P t:=match P.underlying t with | some (.int .u32)=>true | _=>false
  wf x:=0≤x.n∧x.n≤4294967295
  bulk _:=1
  pos:=Nat.one_pos
  inh:=⟨⟨0⟩⟩
  read ub hub ht h:=by
    split at ht
    · rename_i hu
      obtain⟨n,h1,rfl,h2⟩:=DataW.trod_int hu h
      refine⟨⟨n⟩,by simpa [Lit.wf,IntKind.min,IntKind.max,IntKind.signed,IntKind.bits] using h2,hub.one _,by rw[h1];rfl,fun j hj=>?_⟩
      rw[h1] at hj ⊢
      obtain rfl:j=0:=by simp at hj;omega
      exact .int _ _
    · simp at ht
theorem fieldRead {α:Type} [Rep α] [Arg α] {H:Type} {enc:TypeId × Value→H} {P:Program} {w:World} {t:TypeId} {n i:Nat} {cs:List Value} {y:DataW H × List MemPlace} (ub:DataW H→Nat) (hub:Bulky ub) (hi:i<cs.length) (ht:Arg.tyB α P t=true)
    (h:DataW.trod enc P w 0 (fun _=>true) true n t ((cs.drop i).take 1)=some y):∃a:α,Arg.wf a∧Arg.bulk a≤ub y.1∧DRep w (cellsIn w) ((Rep.to a).cells.getD 0 default) (cs.getD i undef):=by
  obtain⟨a,h1,h2,h3,h4⟩:=Arg.read (α:=α) ub hub ht h
  have hc:(cs.drop i).take 1=[cs.getD i undef]:=by
    rw[List.drop_eq_getElem_cons hi]
    simp only[List.take_succ_cons,List.take_zero,List.getD,List.getElem?_eq_getElem hi,Option.getD_some]
  rw[hc] at h4
  exact⟨a,h1,h2,h4 0 (by simp)⟩
def struct2 (P:Program) (t:TypeId) (ta tb:TypeId→Bool):Bool:=match P.underlying t with
  | some (.struct fs)=>match fs.toList with
    | [f0,f1]=>ta f0.type && (tb f1.type && (P.cellsOf f0.type == 1 && (P.cellsOf f1.type == 1 && (f0.offset == 0 && (f1.offset == 1 && P.cellsOf t == 2)))))
    | _=>false
  | _=>false
theorem struct2_spec {P:Program} {t:TypeId} {ta tb:TypeId→Bool} (h:struct2 P t ta tb=true):∃f0 f1,P.underlying t=some (.struct #[f0,f1])∧ta f0.type=true∧tb f1.type=true∧P.cellsOf f0.type=1∧P.cellsOf f1.type=1∧f0.offset=0∧f1.offset=1∧P.cellsOf t=2:=by
  unfold struct2 at h
  split at h
  · rename_i fs hu
    split at h
    · rename_i f0 f1 hf
      simp only[Bool.and_eq_true,beq_iff_eq] at h
      have:fs=#[f0,f1]:=by rw[← Array.toArray_toList (xs:=fs),hf]
      subst this
      exact⟨f0,f1,hu,h⟩
    · simp at h
  · simp at h
def struct3 (P:Program) (t:TypeId) (ta tb tc:TypeId→Bool):Bool:=match P.underlying t with
  | some (.struct fs)=>match fs.toList with
    | [f0,f1,f2]=>ta f0.type && (tb f1.type && (tc f2.type && (P.cellsOf f0.type == 1 && (P.cellsOf f1.type == 1 && (P.cellsOf f2.type == 1 && (f0.offset == 0 && (f1.offset == 1 && (f2.offset == 2 && P.cellsOf t == 3))))))))
    | _=>false
  | _=>false
theorem struct3_spec {P:Program} {t:TypeId} {ta tb tc:TypeId→Bool} (h:struct3 P t ta tb tc=true):∃f0 f1 f2,P.underlying t=some (.struct #[f0,f1,f2])∧ta f0.type=true∧tb f1.type=true∧tc f2.type=true∧P.cellsOf f0.type=1∧P.cellsOf f1.type=1∧P.cellsOf f2.type=1∧f0.offset=0∧f1.offset=1∧f2.offset=2∧P.cellsOf t=3:=by
  unfold struct3 at h
  split at h
  · rename_i fs hu
    split at h
    · rename_i f0 f1 f2 hf
      simp only[Bool.and_eq_true,beq_iff_eq] at h
      have:fs=#[f0,f1,f2]:=by rw[← Array.toArray_toList (xs:=fs),hf]
      subst this
      exact⟨f0,f1,f2,hu,h⟩
    · simp at h
  · simp at h
instance:Arg MergedT where
  tyB P t:=struct2 P t (Arg.tyB (Int) P) (Arg.tyB (U32T) P)
  wf x:=Arg.wf (x.line)∧Arg.wf (U32T.mk x.parents)
  bulk x:=Arg.bulk (x.line)+1+1
  pos:=by decide
  inh:=inferInstance
  read ub hub ht h:=by
    obtain⟨f0,f1,hu,t0,t1,c0,c1,o0,o1,hc⟩:=struct2_spec ht
    obtain⟨y0,y1,n,rfl,hl,r0,r1⟩:=trod_struct2 hu h
    rw[o0,c0] at r0
    obtain⟨a0,w0,b0,d0⟩:=fieldRead (α:=Int) ub hub (i:=0) (by omega) t0 r0
    rw[o1,c1] at r1
    obtain⟨a1,w1,b1,d1⟩:=fieldRead (α:=U32T) ub hub (i:=1) (by omega) t1 r1
    refine⟨⟨a0,a1.n⟩,⟨w0,w1⟩,?_,by rw[hl,hc];rfl,fun j hj=>?_⟩
    · have:=hub.agg [y0.1,y1.1]
      simp only[List.map_cons,List.map_nil,List.sum_cons,List.sum_nil] at this ⊢
      have u0:=hub.one y0.1
      have u1:=hub.one y1.1
      omega
    · have hj':j<2:=by omega
      match j,hj' with
      | 0,_=>exact d0
      | 1,_=>exact d1
instance:Arg SpanT where
  tyB P t:=struct2 P t (Arg.tyB (Int) P) (Arg.tyB (Int) P)
  wf x:=Arg.wf (x.fr)∧Arg.wf (x.to)
  bulk x:=Arg.bulk (x.fr)+Arg.bulk (x.to)+1
  pos:=by decide
  inh:=inferInstance
  read ub hub ht h:=by
    obtain⟨f0,f1,hu,t0,t1,c0,c1,o0,o1,hc⟩:=struct2_spec ht
    obtain⟨y0,y1,n,rfl,hl,r0,r1⟩:=trod_struct2 hu h
    rw[o0,c0] at r0
    obtain⟨a0,w0,b0,d0⟩:=fieldRead (α:=Int) ub hub (i:=0) (by omega) t0 r0
    rw[o1,c1] at r1
    obtain⟨a1,w1,b1,d1⟩:=fieldRead (α:=Int) ub hub (i:=1) (by omega) t1 r1
    refine⟨⟨a0,a1⟩,⟨w0,w1⟩,?_,by rw[hl,hc];rfl,fun j hj=>?_⟩
    · have:=hub.agg [y0.1,y1.1]
      simp only[List.map_cons,List.map_nil,List.sum_cons,List.sum_nil] at this ⊢
      have u0:=hub.one y0.1
      have u1:=hub.one y1.1
      omega
    · have hj':j<2:=by omega
      match j,hj' with
      | 0,_=>exact d0
      | 1,_=>exact d1
instance:Arg RowT where
  tyB P t:=struct3 P t (Arg.tyB (Bool) P) (Arg.tyB (U32T) P) (Arg.tyB (List UInt8) P)
  wf x:=Arg.wf (x.lost)∧Arg.wf (U32T.mk x.marks)∧Arg.wf (x.text)
  bulk x:=Arg.bulk (x.lost)+1+Arg.bulk (x.text)+1
  pos:=by decide
  inh:=inferInstance
  read ub hub ht h:=by
    obtain⟨f0,f1,f2,hu,t0,t1,t2,c0,c1,c2,o0,o1,o2,hc⟩:=struct3_spec ht
    obtain⟨y0,y1,y2,n,rfl,hl,r0,r1,r2⟩:=trod_struct3 hu h
    rw[o0,c0] at r0
    obtain⟨a0,w0,b0,d0⟩:=fieldRead (α:=Bool) ub hub (i:=0) (by omega) t0 r0
    rw[o1,c1] at r1
    obtain⟨a1,w1,b1,d1⟩:=fieldRead (α:=U32T) ub hub (i:=1) (by omega) t1 r1
    rw[o2,c2] at r2
    obtain⟨a2,w2,b2,d2⟩:=fieldRead (α:=List UInt8) ub hub (i:=2) (by omega) t2 r2
    refine⟨⟨a0,a1.n,a2⟩,⟨w0,w1,w2⟩,?_,by rw[hl,hc];rfl,fun j hj=>?_⟩
    · have:=hub.agg [y0.1,y1.1,y2.1]
      simp only[List.map_cons,List.map_nil,List.sum_cons,List.sum_nil] at this ⊢
      have u0:=hub.one y0.1
      have u1:=hub.one y1.1
      omega
    · have hj':j<3:=by omega
      match j,hj' with
      | 0,_=>exact d0
      | 1,_=>exact d1
      | 2,_=>exact d2
instance:Arg FileT where
  tyB P t:=struct2 P t (Arg.tyB (List UInt8) P) (Arg.tyB (List UInt8) P)
  wf x:=Arg.wf (x.path)∧Arg.wf (x.blob)
  bulk x:=Arg.bulk (x.path)+Arg.bulk (x.blob)+1
  pos:=by decide
  inh:=inferInstance
  read ub hub ht h:=by
    obtain⟨f0,f1,hu,t0,t1,c0,c1,o0,o1,hc⟩:=struct2_spec ht
    obtain⟨y0,y1,n,rfl,hl,r0,r1⟩:=trod_struct2 hu h
    rw[o0,c0] at r0
    obtain⟨a0,w0,b0,d0⟩:=fieldRead (α:=List UInt8) ub hub (i:=0) (by omega) t0 r0
    rw[o1,c1] at r1
    obtain⟨a1,w1,b1,d1⟩:=fieldRead (α:=List UInt8) ub hub (i:=1) (by omega) t1 r1
    refine⟨⟨a0,a1⟩,⟨w0,w1⟩,?_,by rw[hl,hc];rfl,fun j hj=>?_⟩
    · have:=hub.agg [y0.1,y1.1]
      simp only[List.map_cons,List.map_nil,List.sum_cons,List.sum_nil] at this ⊢
      have u0:=hub.one y0.1
      have u1:=hub.one y1.1
      omega
    · have hj':j<2:=by omega
      match j,hj' with
      | 0,_=>exact d0
      | 1,_=>exact d1
instance:Arg TableT where
  tyB P t:=struct2 P t (Arg.tyB (Int) P) (Arg.tyB (List RowT) P)
  wf x:=Arg.wf (x.parents)∧Arg.wf (x.rows)
  bulk x:=Arg.bulk (x.parents)+Arg.bulk (x.rows)+1
  pos:=by decide
  inh:=inferInstance
  read ub hub ht h:=by
    obtain⟨f0,f1,hu,t0,t1,c0,c1,o0,o1,hc⟩:=struct2_spec ht
    obtain⟨y0,y1,n,rfl,hl,r0,r1⟩:=trod_struct2 hu h
    rw[o0,c0] at r0
    obtain⟨a0,w0,b0,d0⟩:=fieldRead (α:=Int) ub hub (i:=0) (by omega) t0 r0
    rw[o1,c1] at r1
    obtain⟨a1,w1,b1,d1⟩:=fieldRead (α:=List RowT) ub hub (i:=1) (by omega) t1 r1
    refine⟨⟨a0,a1⟩,⟨w0,w1⟩,?_,by rw[hl,hc];rfl,fun j hj=>?_⟩
    · have:=hub.agg [y0.1,y1.1]
      simp only[List.map_cons,List.map_nil,List.sum_cons,List.sum_nil] at this ⊢
      have u0:=hub.one y0.1
      have u1:=hub.one y1.1
      omega
    · have hj':j<2:=by omega
      match j,hj' with
      | 0,_=>exact d0
      | 1,_=>exact d1
instance:Arg CommitT where
  tyB P t:=struct3 P t (Arg.tyB (List Int) P) (Arg.tyB (Int) P) (Arg.tyB (List FileT) P)
  wf x:=Arg.wf (x.parents)∧Arg.wf (x.date)∧Arg.wf (x.files)
  bulk x:=Arg.bulk (x.parents)+Arg.bulk (x.date)+Arg.bulk (x.files)+1
  pos:=by decide
  inh:=inferInstance
  read ub hub ht h:=by
    obtain⟨f0,f1,f2,hu,t0,t1,t2,c0,c1,c2,o0,o1,o2,hc⟩:=struct3_spec ht
    obtain⟨y0,y1,y2,n,rfl,hl,r0,r1,r2⟩:=trod_struct3 hu h
    rw[o0,c0] at r0
    obtain⟨a0,w0,b0,d0⟩:=fieldRead (α:=List Int) ub hub (i:=0) (by omega) t0 r0
    rw[o1,c1] at r1
    obtain⟨a1,w1,b1,d1⟩:=fieldRead (α:=Int) ub hub (i:=1) (by omega) t1 r1
    rw[o2,c2] at r2
    obtain⟨a2,w2,b2,d2⟩:=fieldRead (α:=List FileT) ub hub (i:=2) (by omega) t2 r2
    refine⟨⟨a0,a1,a2⟩,⟨w0,w1,w2⟩,?_,by rw[hl,hc];rfl,fun j hj=>?_⟩
    · have:=hub.agg [y0.1,y1.1,y2.1]
      simp only[List.map_cons,List.map_nil,List.sum_cons,List.sum_nil] at this ⊢
      have u0:=hub.one y0.1
      have u1:=hub.one y1.1
      omega
    · have hj':j<3:=by omega
      match j,hj' with
      | 0,_=>exact d0
      | 1,_=>exact d1
      | 2,_=>exact d2
end Go.AE
namespace Go.AE
def wholeFp (n:Nat) (t:Store):List (Nat × Ob):=(List.range n).zip t
theorem setAll_from:∀(t s:Store) (k:Nat),k+t.length=s.length→s.setAll ((List.range' k t.length).zip t)=s.take k++t
  | [],s,k,h=>by
    simp only[List.length_nil,Nat.add_zero] at h
    simp[Store.setAll,h]
  | x::t,s,k,h=>by
    simp only[List.length_cons] at h
    rw[List.length_cons,List.range'_succ,List.zip_cons_cons,Store.setAll,setAll_from t (s.set k x) (k+1) (by simp;omega)]
    have hk:k<s.length:=by omega
    rw[List.take_succ_eq_append_getElem (by simpa using hk),List.take_set_of_le (Nat.le_refl k),List.getElem_set_self,List.append_assoc]
    rfl
@[simp] theorem setAll_whole (n:Nat) (s t:Store) (h1:s.length=n) (h2:t.length=n):s.setAll (wholeFp n t)=t:=by
  unfold wholeFp
  rw[← h2,List.range_eq_range',setAll_from t s 0 (by omega)]
  simp
def RF.specW {σ:Type} (r:RF σ):RSpec :=
  ⟨fun _ _ nw=>List.range nw,fun args s0=>(args=r.args (r.view args s0)∧s0=r.st (r.view args s0)∧r.pre (r.view args s0),r.st' (r.view args s0),r.res (r.view args s0))⟩
theorem RF.okW {σ:Type} {r:RF σ} {P:Program} {f:FuncId} (hc:isCall P f=true) (k:∀x,r.pre x→RCalls P f (r.args x) (r.st x) (r.res x) (r.st' x)):RSpec.Ok P f r.specW:=by
  refine⟨hc,fun args s s2 nw h=>rfl,?_⟩
  intro args s0 hp
  simp only[RF.specW] at hp ⊢
  obtain⟨h1,h2,h3⟩:=hp
  have:=k _ h3
  rw[← h1,← h2] at this
  exact this
theorem eR_whole {σ:Type} {r:RF σ} {G:Gam} {f:Nat} (hf:G.findR f=some r.specW) {s:Store} {nw:Nat} {args:List A} (hn:s.length=nw) (hu:s.all (Ob.under nw)=true) (ha:args.all (A.under nw)=true)
    (h1:args=r.args (r.view args s)) (h2:s=r.st (r.view args s)) (h3:r.pre (r.view args s)) (h4:(r.st' (r.view args s)).length=nw) (h5:(r.st' (r.view args s)).all (Ob.under nw)=true) (h6:(r.res (r.view args s)).under nw=true) :
    eRCall G s nw f args=⟨True,wholeFp nw (r.st' (r.view args s)),r.res (r.view args s)⟩:=by
  have hid:∀l,l<nw→idxIn (List.range nw) l=l:=fun l hl=>idxIn_range hl
  have hid2:∀l,l<nw→(List.range nw).getD l 0=l:=fun l hl=>by simp[List.getD,hl]
  have e1:args.map (A.ren (idxIn (List.range nw)))=args:=by
    rw[List.all_eq_true] at ha
    exact (List.map_congr_left fun x hx=>A.ren_id hid x (ha x hx)).trans (List.map_id' _)
  have e2:(List.range nw).map (fun l=>(s.getD l .dead).ren (idxIn (List.range nw)))=s:=by
    apply List.ext_getElem
    · simp[hn]
    · intro i h7 h8
      rw[List.getElem_map,List.getElem_range]
      have:s.getD i .dead=s[i]:=by simp[List.getD,h8]
      rw[this]
      rw[List.all_eq_true] at hu
      exact Ob.ren_id hid _ (hu _ (List.getElem_mem _))
  have e3:(r.st' (r.view args s)).map (Ob.ren fun k=>(List.range nw).getD k 0)=r.st' (r.view args s):=by
    rw[List.all_eq_true] at h5
    exact (List.map_congr_left fun x hx=>Ob.ren_id hid2 x (h5 x hx)).trans (List.map_id' _)
  have e4:(r.res (r.view args s)).ren (fun k=>(List.range nw).getD k 0)=r.res (r.view args s):=A.ren_id hid2 _ h6
  unfold eRCall
  rw[hf]
  simp only[RF.specW,e1,e2,e3,e4,List.length_range]
  unfold wholeFp
  congr 1
  refine eq_true ⟨List.nodup_range,fun l hl=>by simpa [hn] using hl,ha,hu,⟨h1,h2,h3⟩,h4,h5,h6⟩
def Ct (l ver n:Nat) (x y:A):Prop:=x=y∨y=.any∨(x=.own l ver 0 n∧y=.own l (ver+1) 0 n)
@[simp] theorem Ct_refl (l ver n:Nat) (x:A):Ct l ver n x x=True:=eq_true (.inl rfl)
@[simp] theorem Ct_any (l ver n:Nat) (x:A):Ct l ver n x .any=True:=eq_true (.inr (.inl rfl))
@[simp] theorem Ct_own (l ver n:Nat):Ct l ver n (.own l ver 0 n) (.own l (ver+1) 0 n)=True:=eq_true (.inr (.inr ⟨rfl,rfl⟩))
def CtL (l ver n:Nat):List A→List A→Prop
  | [],[]=>True
  | x::xs,y::ys=>Ct l ver n x y∧CtL l ver n xs ys
  | _,_=>False
@[simp] theorem CtL_nil (l ver n:Nat):CtL l ver n [] []=True:=rfl
@[simp] theorem CtL_cons (l ver n:Nat) (x y:A) (xs ys:List A):CtL l ver n (x::xs) (y::ys)=(Ct l ver n x y∧CtL l ver n xs ys):=rfl
theorem CtL.get {l ver n:Nat}:∀{xs ys:List A},CtL l ver n xs ys→xs.length=ys.length∧∀j,Ct l ver n (xs.getD j .any) (ys.getD j .any)
  | [],[],_=>⟨rfl,fun j=>.inl rfl⟩
  | x::xs,y::ys,h=>by
    obtain⟨h1,h2⟩:=CtL.get h.2
    refine⟨by simp[h1],fun j=>?_⟩
    cases j with
    | zero=>exact h.1
    | succ j=>simpa using h2 j
  | [],_::_,h=>h.elim
  | _::_,[],h=>h.elim
def CtO (l ver n:Nat) (a b:Ob):Prop:=a=b∨∃v e xs ys,a=.cells v e xs∧b=.cells v e ys∧xs.length=ys.length∧∀i,i<xs.length→((ys.getD i .any).fits e=true∧CtL l ver n (xs.getD i .any).cells (ys.getD i .any).cells)
def CtS (l ver n:Nat) (s s':Store):Prop:=s.length=s'.length∧∀k,k<s.length→k≠l→CtO l ver n (s.getD k .dead) (s'.getD k .dead)
section
variable {w:World} {M:Mem} {s:Store}
theorem Ext.cut {l ver esz n:Nat} {xs:List A} (hl:s.getD l .dead=.cells ver esz xs):Ext w M s w M (s.set l (.cells (ver+1) esz (xs.take n))) where
  os:=rfl
  tape:=rfl
  output:=rfl
  size:=Nat.le_refl _
  keep _ _ _:=rfl
  low _ _ _ _ _ _:=rfl
  blk l b o c E f _ h:=⟨c,f,h,rfl⟩
  imm _ _ h:=h
  immNew _ _ h:=.inl h
  own l b o h:=.inr ⟨l,o,h,Nat.le_refl _⟩
  N:=rfl
  len:=by simp
  ob l' _:=by
    by_cases h':l'=l
    · subst h'
      have hlt:=(getD_ne hl (by simp)).2
      rw[show (s.set l' (.cells (ver+1) esz (xs.take n))).getD l' .dead=.cells (ver+1) esz (xs.take n) by simp[hlt],hl]
      exact⟨by omega,fun h=>absurd h (by omega)⟩
    · rw[show (s.set l (.cells (ver+1) esz (xs.take n))).getD l' .dead=s.getD l' .dead by simp[List.getElem?_set,Ne.symm h']]
      cases s.getD l' .dead <;> simp[obStep]
theorem Good.cut (g:Good w M s) {l ver esz n:Nat} {xs:List A} (hl:s.getD l .dead=.cells ver esz xs):Good w M (s.set l (.cells (ver+1) esz (xs.take n))) where
  imm:=g.imm
  off:=g.off
  sep:=g.sep
  nle:=g.nle
  nof:=g.nof
  obj l':=by
    have e:Ext w M s w M (s.set l (.cells (ver+1) esz (xs.take n))):=Ext.cut hl
    by_cases h':l'=l
    · subst h'
      have hlt:=(getD_ne hl (by simp)).2
      rw[show (s.set l' (.cells (ver+1) esz (xs.take n))).getD l' .dead=.cells (ver+1) esz (xs.take n) by simp[hlt]]
      have:=g.obj l'
      rw[hl] at this
      rcases this with h | ⟨b,o,c,E,f,h1,h2,h3,h4,h5,h6⟩
      · exact .inl ⟨by rw[h.1];simp,h.2⟩
      · have hle:(xs.take n).length * esz≤xs.length * esz:=Nat.mul_le_mul_right _ (by simp;omega)
        refine .inr ⟨b,o,c,E,f,h1,h2,h3,by omega,fun x hx=>h5 x (List.mem_of_mem_take hx),fun i j hi hj=>?_⟩
        have hi2:i<n∧i<xs.length:=by simp at hi;omega
        have e1:(xs.take n).getD i .any=xs.getD i .any:=by simp[List.getD,List.getElem?_take,hi2.1]
        rw[e1]
        exact e.arep g (h6 i j hi2.2 hj)
    · rw[show (s.set l (.cells (ver+1) esz (xs.take n))).getD l' .dead=s.getD l' .dead by simp[List.getElem?_set,Ne.symm h']]
      exact (g.obj l').keep g e rfl (fun _ _ _=>rfl)
theorem Ct.sound (g:Good w M s) {l ver esz n:Nat} {xs:List A} (hl:s.getD l .dead=.cells ver esz xs) (hn:n≤xs.length) {x y:A} {v:Value} (h:Ct l ver n x y) (hx:ARep w M s x v):ARep w M (s.set l (.cells (ver+1) esz (xs.take n))) y v:=by
  have e:Ext w M s w M (s.set l (.cells (ver+1) esz (xs.take n))):=Ext.cut hl
  have hlt:=(getD_ne hl (by simp)).2
  rcases h with rfl | rfl | ⟨rfl,rfl⟩
  · exact e.arep g hx
  · exact .any v
  · have h1:=hx.oneCell rfl
    refine .own _ _ _ _ _ h1 ?_
    simp only[ownOk,List.getElem?_set_self hlt]
    rcases inv_own hx hl with ⟨hB,h2,hn0,rfl⟩ | ⟨b,o,a,cap,c,E,f,hB,rfl,h2,h3,h4,h5,h6⟩
    · exact⟨Nat.le_refl _,fun _=>.inl ⟨hB,by simp[hn0],hn0,rfl⟩⟩
    · exact⟨Nat.le_refl _,fun _=>.inr ⟨b,o,a,cap,c,E,f,hB,rfl,by simp;omega,h3,h4,h5,h6⟩⟩
end
theorem Re.cut {lo:Nat} {T T':List A} {s s':Store} (l ver esz n:Nat) (xs:List A) (hl:s.getD l .dead=.cells ver esz xs) (hn:n≤xs.length) (hT:CtL l ver n T T') (hS:CtS l ver n s s') (hd:s'.getD l .dead=.cells (ver+1) esz (xs.take n)):Re lo T s T' s':=by
  obtain⟨hTl,hTf⟩:=CtL.get hT
  obtain⟨hSl,hSf⟩:=hS
  have hlt:=(getD_ne hl (by simp)).2
  refine Re.of hTl.symm fun w0 M0 s0 w M hs0 g e=>?_
  have g1:Good w M (s.set l (.cells (ver+1) esz (xs.take n))):=Good.cut g hl
  have hst:∀k,k<(s.set l (.cells (ver+1) esz (xs.take n))).length→s'[k]?=(s.set l (.cells (ver+1) esz (xs.take n)))[k]?∨∃v e us ys,(s.set l (.cells (ver+1) esz (xs.take n)))[k]?=some (.cells v e us)∧s'[k]?=some (.cells v e ys)∧us.length=ys.length:=by
    intro k hk
    simp only[List.length_set] at hk
    rw[getElem?_of_lt (show k<s'.length by omega)]
    by_cases hkl:k=l
    · subst hkl
      rw[hd,List.getElem?_set_self hlt]
      exact .inl rfl
    · rw[List.getElem?_set_ne (Ne.symm hkl),getElem?_of_lt hk]
      rcases hSf k hk hkl with h | ⟨v,e,xs,ys,h1,h2,h3,_⟩
      · exact .inl (by rw[h])
      · exact .inr ⟨v,e,xs,ys,by rw[h1],by rw[h2],h3⟩
  have key:∀x y v,Ct l ver n x y→ARep w M s x v→ARep w M s' y v:=fun x y v hf h=>wk_arep hst (hf.sound g hl hn h)
  refine⟨M,⟨g.imm,g.off,g.sep,?_,g.nle,g.nof⟩,{ e with len:=by have:=e.len;omega,ob:=?_ },fun k v h=>key _ _ _ (hTf k) h⟩
  · intro k
    rcases Nat.lt_or_ge k s.length with hk | hk
    · by_cases hkl:k=l
      · subst hkl
        have:=g1.obj k
        rw[show (s.set k (.cells (ver+1) esz (xs.take n))).getD k .dead=.cells (ver+1) esz (xs.take n) by simp[hlt]] at this
        rw[hd]
        rcases this with ⟨a1,a2⟩ | ⟨b,o,c,E,f,a1,a2,a3,a4,a5,a6⟩
        · exact .inl ⟨a1,a2⟩
        · exact .inr ⟨b,o,c,E,f,a1,a2,a3,a4,a5,fun i j hi hj=>wk_arep hst (a6 i j hi hj)⟩
      · have ho:=g.obj k
        rcases hSf k hk hkl with h | ⟨v,es,us,ys,h1,h2,h3,h4⟩
        · rw[← h]
          generalize s.getD k .dead=o at ho
          cases o with
          | dead=>exact ho
          | res=>exact ho
          | tip n=>exact ho
          | map ms=>exact ho
          | cells v es us =>
            rcases ho with ⟨a1,a2⟩ | ⟨b,o,c,E,f,a1,a2,a3,a4,a5,a6⟩
            · exact .inl ⟨a1,a2⟩
            · exact .inr ⟨b,o,c,E,f,a1,a2,a3,a4,a5,fun i j hi hj=>key _ _ _ (.inl rfl) (a6 i j hi hj)⟩
        · rw[h1] at ho
          rw[h2]
          rcases ho with ⟨rfl,a2⟩ | ⟨b,o,c,E,f,a1,a2,a3,a4,a5,a6⟩
          · exact .inl ⟨List.eq_nil_of_length_eq_zero (by simpa using h3.symm),a2⟩
          · refine .inr ⟨b,o,c,E,f,a1,a2,a3,by rw[← h3];exact a4,fun x hx=>?_,fun i j hi hj=>?_⟩
            · obtain⟨i,hi,rfl⟩:=List.getElem_of_mem hx
              have:=(h4 i (by omega)).1
              rwa [getD_lt _ _ hi] at this
            · exact key _ _ _ ((CtL.get (h4 i (by omega)).2).2 j) (a6 i j (by omega) hj)
    · rw[show s'.getD k .dead=.dead by simp[List.getD,List.getElem?_eq_none (show s'.length≤k by omega)]]
      have ho:=g.obj k
      rw[show s.getD k .dead=.dead by simp[List.getD,hk]] at ho
      exact ho
  · intro k hk
    have hks:k<s.length:=by have:=e.len;omega
    have h1:=e.ob k hk
    by_cases hkl:k=l
    · subst hkl
      rw[hd]
      rw[hl] at h1
      generalize s0.getD k .dead=o at h1
      cases o <;> simp only[obStep] at h1 ⊢
      exact⟨by omega,fun h5=>absurd h5 (by omega)⟩
    · rcases hSf k hks hkl with h | ⟨v,es,us,ys,h2,h3,h4,_⟩
      · rw[← h]
        exact h1
      · rw[h2] at h1
        rw[h3]
        generalize s0.getD k .dead=o at h1
        cases o <;> simp only[obStep] at h1 ⊢
        exact⟨h1.1,fun h5=>⟨(h1.2 h5).1,(h1.2 h5).2.1,by have:=(h1.2 h5).2.2;omega⟩⟩
end Go.AE
