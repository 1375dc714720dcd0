/-
  Law 23: the limits,the cycles.
-/
import Derived.Test.YtjibgbmilpdanaaDoorCona2
import Derived.Test.YtjibgbmilpdanaaDoorCode1
import Derived.Test.YtjibgbmilpdanaaDoorCona1
import Derived.Lib.Repeat

set_option linter.unusedSimpArgs false
set_option linter.unusedVariables false
set_option linter.unnecessarySimpa false
set_option maxRecDepth 20000
set_option maxHeartbeats 4000000
namespace Go.AE
theorem treeE_nil:treeE []=0:=by decide +kernel
theorem filesE_nil {g:List CommitT} (h:∀c,c∈g→c.files=[]):filesE g=0:=filesE_none fun k hk=>by rw[h _ (List.getElem_mem hk),treeE_nil]
/-! ### the limits -/
def upL2 (p:Nat):List Int:=(List.range p).map fun (i:Nat)=>(i:Int)
theorem upL2_succ (p:Nat):upL2 (p+1)=upL2 p++[(p:Int)]:=by simp[upL2,List.range_succ]
theorem upL2_len (p:Nat):(upL2 p).length=p:=by simp[upL2]
def emptyD:D:=.agg [.nilsl,.int .i64 0,.nilsl]
def limC (n p:Nat):List A:=(List.replicate n (A.d emptyD)).set (n-1) (.agg [.gr 1 1 ((upL2 p).map Rep.to),.d (.int .i64 0),.d .nilsl])
def limG (n p:Nat):List CommitT:=(List.replicate n ⟨[],0,[]⟩).set (n-1) ⟨upL2 p,0,[]⟩
theorem limC_len (n p:Nat):(limC n p).length=n:=by simp[limC]
theorem limC_get {n p:Nat} (h:1≤n):(limC n p)[n-1]?=some (.agg [.gr 1 1 ((upL2 p).map Rep.to),.d (.int .i64 0),.d .nilsl]):=by
  unfold limC
  rw[List.getElem?_set_self (by simp;omega)]
theorem limC_set (n p:Nat) (x:A):(limC n p).set (n-1) x=(List.replicate n (A.d emptyD)).set (n-1) x:=by
  unfold limC
  rw[List.set_set]
theorem limG_len (n p:Nat):(limG n p).length=n:=by simp[limG]
theorem limG_get {n p:Nat} {i:Nat} (h:i<n):(limG n p)[i]'(by rw[limG_len];exact h)=if i=n-1 then ⟨upL2 p,0,[]⟩ else ⟨[],0,[]⟩:=by
  unfold limG
  rw[List.getElem_set]
  by_cases e:n-1=i
  · rw[if_pos e,if_pos e.symm]
  · rw[if_neg e,if_neg (fun h=>e h.symm)]
    simp
theorem ofAll_ext {α:Type} {f:D→Option α}:∀(l:List D) (m:List α),l.length=m.length→(∀i (h1:i<l.length) (h2:i<m.length),f l[i]=some m[i])→ofAll f l=some m
  | [],[],_,_=>rfl
  | x::l,y::m,h,hf=>by
    have h0:=hf 0 (by simp) (by simp)
    simp only[List.getElem_cons_zero] at h0
    have ih:=ofAll_ext l m (by simpa using h) fun i h1 h2=>by
      have:=hf (i+1) (by simpa using h1) (by simpa using h2)
      simpa using this
    simp only[ofAll]
    rw[h0,ih]
  | [],_::_,h,_=>by cases h
  | _::_,[],h,_=>by cases h
theorem limC_isD (n p:Nat):(limC n p).all A.isD=true:=by
  rw[List.all_eq_true]
  intro x hx
  rcases List.mem_or_eq_of_mem_set hx with h | h
  · rw[(List.mem_replicate.1 h).2];rfl
  · subst h;rfl
theorem limC_under (n p:Nat):∀x,x∈limC n p→A.under 2 x=true:=by
  intro x hx
  rcases List.mem_or_eq_of_mem_set hx with h | h
  · rw[(List.mem_replicate.1 h).2];rfl
  · subst h;rfl
theorem limC_of {n p:Nat} (h:1≤n):ofAll (Rep.of (α:=CommitT)) ((limC n p).map A.toD)=some (limG n p):=by
  refine ofAll_ext _ _ (by simp[limC,limG]) fun i h1 h2=>?_
  have hi:i<n:=by rw[limG_len] at h2;exact h2
  rw[limG_get hi,List.getElem_map]
  unfold limC
  rw[List.getElem_set]
  by_cases e:n-1=i
  · rw[if_pos e,if_pos e.symm]
    simp[A.toD,A.toDs,ofAll_to]
  · rw[if_neg e,if_neg (fun h=>e h.symm)]
    simp[emptyD]
theorem upL2_mem {p:Nat} {x:Int} (h:x∈upL2 p):0≤x∧x<p:=by
  unfold upL2 at h
  obtain⟨i,hi,rfl⟩:=List.mem_map.1 h
  have:=List.mem_range.1 hi
  omega
theorem limG_C {n p:Nat} (h1:34≤n) (h2:n≤301) (hp:p≤33):dagC (limG n p)=if n≤300∧p≤32 then 0 else 1:=by
  have hl:=limG_len n p
  have hget:=fun i (h:i<n)=>limG_get (n:=n) (p:=p) h
  have hlast:=hget (n-1) (by omega)
  rw[if_pos rfl] at hlast
  have hmem:∀c,c∈limG n p→c.date=0∧(c.parents=[]∨c=⟨upL2 p,0,[]⟩):=fun c hc=>by
    obtain⟨i,hi,rfl⟩:=List.mem_iff_getElem.1 hc
    rw[hget i (by omega)]
    split <;> simp
  have hlm:(⟨upL2 p,0,[]⟩:CommitT)∈limG n p:=by rw[← hlast];exact List.getElem_mem _
  by_cases c1:n≤300∧p≤32
  · have hlim:limB (limG n p)=true:=by
      unfold limB
      rw[hl,Bool.and_eq_true]
      refine⟨by simpa using c1.1,?_⟩
      rw[Bool.not_eq_true',List.any_eq_false]
      intro c hc
      rcases (hmem c hc).2 with h | h
      · simp[conP,h]
      · subst h;simp[conP,upL2_len];omega
    have hrel:relG (limG n p)=true:=by
      unfold relG
      rw[List.all_eq_true]
      intro c hc
      rcases (hmem c hc).2 with h | h
      · rw[h];simp[relB]
      · subst h
        unfold relB
        rw[Bool.and_eq_true,List.all_eq_true,decide_eq_true_eq]
        refine⟨fun x hx=>?_,?_⟩
        · have:=upL2_mem hx
          simp
          omega
        · exact List.pairwise_map.2 (List.Pairwise.imp (fun h e=>h (by omega)) (List.nodup_range (n:=p)))
    have hup:(upV (parG (limG n p))).length=(limG n p).length:=by
      rw[up_full (relG_ok hrel),parG_len]
      intro c hc x hx
      rw[parG_len,hl] at hc
      rw[parG_get (by rw[hl];exact hc),hget c hc] at hx
      split at hx
      · have:=upL2_mem hx
        omega
      · cases hx
    have hrg:(limG n p).any rangeB=false:=by
      rw[List.any_eq_false]
      intro c hc
      simp[rangeB,(hmem c hc).1]
    have hfe:filesE (limG n p)=0:=filesE_nil fun c hc=>by
      obtain⟨i,hi,rfl⟩:=List.mem_iff_getElem.1 hc
      rw[hget i (by omega)]
      split <;> rfl
    unfold dagC
    rw[if_pos hlim,if_pos hrel,if_neg (by omega),hrg,if_pos c1,hfe]
    rfl
  · have hlim:limB (limG n p)=false:=by
      unfold limB
      rw[hl]
      by_cases c2:n≤300
      · have:(limG n p).any (conP true)=true:=by
          rw[List.any_eq_true]
          exact⟨_,hlm,by simp[conP,upL2_len];omega⟩
        rw[this]
        simp
      · simp[c2]
    unfold dagC
    rw[hlim,if_neg c1]
    rfl
theorem dagLim_tail {G:Gam} {g1 g2:Nat} (h1:G.find g1=some S_dag_Check) (h2:G.find g2=some S_law23_awake) (a0 a1 a8 a9:A) (N M:Nat) (want:Int) (hw:want=if N≤300∧M≤32 then 0 else 1) (hN1:34≤N) (hN2:N≤301) (hM:M≤33) :
    ∀xc,(∃a b c d,x_law23_DagLimits g1 g2=.seq a (.seq b (.seq c (.seq d xc))))→vc G 0 xc (Fin [2] (.bool true)) [a0,a1,.d (.bool false),.d (.int .i64 N),.d (.int .i64 M),.d (.int .i64 want),.any,.any,a8,a9,.any] []:=by
  rintro xc ⟨a,b,c,d,hx⟩
  simp only[x_law23_DagLimits,XC.seq.injEq] at hx
  obtain⟨_,_,_,_,rfl⟩:=hx
  have wN:IntKind.i64.wrap ((N:Int)-1)=((N-1:Nat):Int):=by rw[wrap_in (by omega) (by omega)];omega
  simp[-List.reduceReplicate]
  refine⟨⟨by unfold room;omega,by omega⟩,?_⟩
  refine vc_lpR (σ:=Nat) (fun p=>p≤M) (fun p=>M-p)
    (fun p=>[.any,.any,.any,.d (.int .i64 N),.d (.int .i64 M),.d (.int .i64 want),.own 0 0 0 N,.d (.int .i64 p),.any,.any,.any])
    (fun p=>[.cells 0 3 (limC N p),.tip p]) 0 ?_ (by simp) ?_
  · refine Re.weak (k:=[.tip 0]) (s':=[.cells 0 3 (limC N 0)]) (by simp) (by simp) (by simp) ⟨.cells ?_,trivial⟩
    unfold limC
    refine WkE.set (fun x hx=>?_) rfl ?_
    · rw[(List.mem_replicate.1 hx).2]
      rfl
    · have:(List.replicate N (A.d (.agg [.nilsl,.int .i64 0,.nilsl]))).getD (N-1) .any=A.d (.agg [.nilsl,.int .i64 0,.nilsl]):=by
        rw[List.getD,List.getElem?_replicate,if_pos (by omega)]
        rfl
      rw[this]
      exact⟨Wk.fresh 1 [.tip 0] 1 0 rfl,Wk.refl _ _ _,Wk.refl _ _ _,trivial⟩
  intro p hp
  have hlen:=limC_len N p
  have hul:=upL2_len p
  by_cases hpM:p<M
  · have w1:IntKind.i64.wrap ((p:Int)+1)=(p:Int)+1:=wrap_in (by omega) (by omega)
    have hg:=limC_get (n:=N) (p:=p) (by omega)
    have hg2:∀h:N-1<(limC N p).length,(limC N p)[N-1]'h=.agg [.gr 1 1 ((upL2 p).map Rep.to),.d (.int .i64 0),.d .nilsl]:=fun h=>by obtain⟨_,h9⟩:=List.getElem?_eq_some_iff.1 hg;exact h9
    have hst:(limC N p).set (N-1) (.agg [.gr 1 1 ((upL2 p).map Rep.to++[.int .i64 p]),.d (.int .i64 0),.d .nilsl])=limC N (p+1):=by
      rw[limC_set]
      unfold limC
      rw[upL2_succ]
      simp
    obtain⟨K,hK⟩:∃K,N-1=K:=⟨_,rfl⟩
    rw[hK] at hg hg2 hst wN
    simp[-List.reduceReplicate,hpM,wN,hlen,hg,hg2,hul,hst,w1,show K<N by omega]
    exact⟨by unfold room;omega,Nxt.mk (p+1) (by omega) (by simp) (by simp) (by omega) (by simp) (.inr ⟨by simp,by simpa using limC_under N (p+1)⟩)⟩
  · have h9:p=M:=by omega
    subst h9
    have hof:=limC_of (n:=N) (p:=p) (by omega)
    have hd:=limC_isD N p
    have htk:List.take N (limC N p)=limC N p:=List.take_of_length_le (by omega)
    have hC:=limG_C hN1 hN2 hM
    have hgl:=limG_len N p
    have hfl:∀c,c∈limG N p→c.parents.length≤1000∧c.files=[]:=fun c hc=>by
      obtain⟨i,hi,rfl⟩:=List.mem_iff_getElem.1 hc
      rw[limG_get (by omega)]
      split
      · simp[upL2_len];omega
      · simp
    have hbor:bor [.cells 0 3 (limC N p),.tip p] (.own 0 0 0 N)=(True,.sl 3 ((limC N p).map A.toD)):=by
      have e1:((limC N p).drop 0).take N=limC N p:=by rw[List.drop_zero];exact htk
      show ((0=0∧(((limC N p).drop 0).take N).all A.isD=true),D.sl 3 ((((limC N p).drop 0).take N).map A.toD))=_
      rw[e1,hd]
      simp
    have hbf:borFp [.cells 0 3 (limC N p),.tip p] (.own 0 0 0 N)=[(0,.cells 0 3 (limC N p))]:=rfl
    simp[-List.reduceReplicate,h1,h2,hbor,hbf,hof,hC,hgl,hw,graphOk_small (by omega) hfl]
@[simp] def S_law23_DagLimits:List D→Prop × D:=spec2 (α:=Bool) (β:=Bool) (fun _ _=>True) (fun _ _=>.bool true)
theorem ct_law23_DagLimits {P:Program} {f g1 g2:Nat} {G:Gam} (h:CodeOf P f 2 11 [2] (x_law23_DagLimits g1 g2)) (hG:GamOk P G) (h1:G.find g1=some S_dag_Check) (h2:G.find g2=some S_law23_awake):Has P f S_law23_DagLimits:=h.has2 hG fun more wide _=>by
  have w1:IntKind.i64.wrap 33=33:=wrap_in (by omega) (by omega)
  have w2:IntKind.i64.wrap 301=301:=wrap_in (by omega) (by omega)
  have k:=fun a0 a1 a8 a9 N M want=>dagLim_tail h1 h2 a0 a1 a8 a9 N M want
  cases more with
  | false =>
    refine vc_mid [.d (.bool false),.d (.bool wide),.d (.bool false),.any,.any,.any,.any,.any,.any,.any,.any] [] (by simp) (vc_mid [.d (.bool false),.d (.bool wide),.d (.bool false),.d (.int .i64 300),.d (.int .i64 32),.any,.any,.any,.any,.any,.any] [] (by simp) (vc_mid [.d (.bool false),.d (.bool wide),.d (.bool false),.d (.int .i64 300),.d (.int .i64 32),.d (.int .i64 0),.any,.any,.any,.any,.any] [] (by simp) (vc_mid [.d (.bool false),.d (.bool wide),.d (.bool false),.d (.int .i64 300),.d (.int .i64 32),.d (.int .i64 0),.any,.any,.d (.bool false),.any,.any] [] (by simp[w1,w2]) (k (.d (.bool false)) (.d (.bool wide)) (.d (.bool false)) .any 300 32 0 (by simp) (by omega) (by omega) (by omega) _ ⟨_,_,_,_,rfl⟩))))
  | true =>
    cases wide with
    | true =>
      refine vc_mid [.d (.bool true),.d (.bool true),.d (.bool false),.any,.any,.any,.any,.any,.any,.any,.any] [] (by simp) (vc_mid [.d (.bool true),.d (.bool true),.d (.bool false),.d (.int .i64 300),.d (.int .i64 32),.any,.any,.any,.any,.any,.any] [] (by simp) (vc_mid [.d (.bool true),.d (.bool true),.d (.bool false),.d (.int .i64 300),.d (.int .i64 32),.d (.int .i64 0),.any,.any,.any,.any,.any] [] (by simp) (vc_mid [.d (.bool true),.d (.bool true),.d (.bool false),.d (.int .i64 300),.d (.int .i64 33),.d (.int .i64 1),.any,.any,.d (.bool true),.d (.bool true),.any] [] (by simp[w1,w2]) (k (.d (.bool true)) (.d (.bool true)) (.d (.bool true)) (.d (.bool true)) 300 33 1 (by simp) (by omega) (by omega) (by omega) _ ⟨_,_,_,_,rfl⟩))))
    | false =>
      refine vc_mid [.d (.bool true),.d (.bool false),.d (.bool false),.any,.any,.any,.any,.any,.any,.any,.any] [] (by simp) (vc_mid [.d (.bool true),.d (.bool false),.d (.bool false),.d (.int .i64 300),.d (.int .i64 32),.any,.any,.any,.any,.any,.any] [] (by simp) (vc_mid [.d (.bool true),.d (.bool false),.d (.bool false),.d (.int .i64 300),.d (.int .i64 32),.d (.int .i64 0),.any,.any,.any,.any,.any] [] (by simp) (vc_mid [.d (.bool true),.d (.bool false),.d (.bool false),.d (.int .i64 301),.d (.int .i64 32),.d (.int .i64 1),.any,.any,.d (.bool true),.d (.bool false),.any] [] (by simp[w1,w2]) (k (.d (.bool true)) (.d (.bool false)) (.d (.bool true)) (.d (.bool false)) 301 32 1 (by simp) (by omega) (by omega) (by omega) _ ⟨_,_,_,_,rfl⟩))))
theorem law23_DagLimits_pre (a b:Bool) (w0:Arg.wf a) (w1:Arg.wf b):True:=trivial
end Go.AE
