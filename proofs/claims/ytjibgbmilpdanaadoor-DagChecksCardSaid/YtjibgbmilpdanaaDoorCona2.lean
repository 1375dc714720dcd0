/-
  Law 23: the lists.
-/
import Derived.Test.YtjibgbmilpdanaaDoorCona1
import Derived.Test.YtjibgbmilpdanaaDoorCode1
import Derived.LoopIn
import Derived.LoopNIn
import Derived.OwnWalkIn
import Derived.RangeFuncBound
import Derived.RangeFuncCalls
import Derived.RangeFuncLeaves
import Derived.RangeFuncNested
import Derived.Shelf.Abstract
import Derived.Shelf.RegionOpen
import Derived.TacticsInMore
import Derived.WalkKit

set_option linter.unusedSimpArgs false
set_option linter.unusedVariables false
set_option linter.unnecessarySimpa false
set_option maxRecDepth 20000
set_option maxHeartbeats 8000000
namespace Go.AE
theorem aw23a:dagC [⟨[1],0,[]⟩,⟨[0],0,[]⟩]=231:=by decide +kernel
theorem aw23b:dagC [⟨[0],0,[]⟩]=231:=by decide +kernel
theorem aw23c:dagC [⟨[],0,[]⟩,⟨[0],0,[]⟩]=0:=by decide +kernel
theorem aw23d:kidsV [⟨[],0,[]⟩,⟨[0],0,[]⟩] 0 2=[1]:=by decide +kernel
theorem graphOk_small {g:List CommitT} (h:g.length≤1000) (h2:∀c,c∈g→c.parents.length≤1000∧c.files=[]):GraphOk g :=
  ⟨h,fun c hc=>⟨by have:=(h2 c hc).1;omega,by rw[(h2 c hc).2];exact⟨by simp,by simp⟩⟩⟩
@[simp] def S_law23_awake:List D→Prop × D:=spec0 True (.bool true)
theorem ct_law23_awake {P:Program} {f g1 g2 g3:Nat} {G:Gam} (h:CodeOf P f 0 5 [0] (x_law23_awake g1 g2 g3)) (hG:GamOk P G) (h1:G.find g1=some S_dag_Children) (h2:G.find g2=some S_dag_Check) (h3:G.find g3=some S_gen_Ints):Has P f S_law23_awake:=h.has0 hG fun _=>by
  have e1:ofAll (Rep.of (α:=CommitT)) [.agg [.sl 1 [.int .i64 1],.int .i64 0,.nilsl],.agg [.sl 1 [.int .i64 0],.int .i64 0,.nilsl]]=some [⟨[1],0,[]⟩,⟨[0],0,[]⟩]:=rfl
  have e2:ofAll (Rep.of (α:=CommitT)) [.agg [.sl 1 [.int .i64 0],.int .i64 0,.nilsl]]=some [⟨[0],0,[]⟩]:=rfl
  have e3:ofAll (Rep.of (α:=CommitT)) [.agg [.nilsl,.int .i64 0,.nilsl],.agg [.sl 1 [.int .i64 0],.int .i64 0,.nilsl]]=some [⟨[],0,[]⟩,⟨[0],0,[]⟩]:=rfl
  have e4:ofAll (Rep.of (α:=Int)) [.int .i64 1]=some [1]:=rfl
  have o1:GraphOk [⟨[1],0,[]⟩,⟨[0],0,[]⟩]:=graphOk_small (by simp) (by simp)
  have o2:GraphOk [⟨[0],0,[]⟩]:=graphOk_small (by simp) (by simp)
  have o3:GraphOk [⟨[],0,[]⟩,⟨[0],0,[]⟩]:=graphOk_small (by simp) (by simp)
  have k1:kidsD [⟨[],0,[]⟩,⟨[0],0,[]⟩] 0=.tup [.sl 1 [.int .i64 1],.int .i64 0]:=by
    unfold kidsD
    rw[if_pos aw23c,if_pos (by simp)]
    show D.tup [Rep.to (kidsV [⟨[],0,[]⟩,⟨[0],0,[]⟩] 0 2),_]=_
    rw[aw23d]
    rfl
  simp[x_law23_awake,h1,h2,h3,e1,e2,e3,e4,k1,aw23a,aw23b,aw23c,o1,o2,o3]
/-! ### loose graphs -/
def looseP (raw:List Int) (n:Int) (c k:Nat):List Int:=(List.range k).map fun (p:Nat)=>modV (atV raw (40+5 * c+p)) n
theorem looseP_succ (raw:List Int) (n:Int) (c k:Nat):looseP raw n c (k+1)=looseP raw n c k++[modV (atV raw (40+5 * c+k)) n]:=by simp[looseP,List.range_succ]
def looseC (raw:List Int) (n:Int) (c:Nat):CommitT:=⟨looseP raw n c (modV (atV raw (20+c)) 3).toNat,modV (atV raw c) 4,[]⟩
def looseG (raw:List Int) (n:Int) (k:Nat):List CommitT:=(List.range k).map (looseC raw n)
def looseV (raw:List Int) (n:Int):List CommitT:=looseG raw (modV n 8) (modV n 8).toNat
def looseD (raw:List Int) (n:Int) (c:Nat):D:=.agg [.sl 1 ((looseP raw n c (modV (atV raw (20+c)) 3).toNat).map Rep.to),.int .i64 (modV (atV raw c) 4),.nilsl]
def looseE (raw:List Int) (n:Int) (k:Nat):List D:=(List.range k).map (looseD raw n)
theorem looseE_succ (raw:List Int) (n:Int) (k:Nat):looseE raw n (k+1)=looseE raw n k++[looseD raw n k]:=by simp[looseE,List.range_succ]
theorem loose_of (raw:List Int) (n:Int):∀k,ofAll (Rep.of (α:=CommitT)) (looseE raw n k)=some (looseG raw n k):=by
  have h:∀l:List Nat,ofAll (Rep.of (α:=CommitT)) (l.map (looseD raw n))=some (l.map (looseC raw n)):=by
    intro l
    induction l with
    | nil=>rfl
    | cons c l ih =>
      simp only[List.map_cons,ofAll]
      rw[ih]
      have:Rep.of (α:=CommitT) (looseD raw n c)=some (looseC raw n c):=by
        unfold looseD looseC
        rw[of_Commit]
        rw[show Rep.of (α:=List Int) (D.sl 1 ((looseP raw n c (modV (atV raw (20+c)) 3).toNat).map Rep.to))=some (looseP raw n c (modV (atV raw (20+c)) 3).toNat) from Rep.of_to _]
        rfl
      rw[this]
  intro k
  exact h _
theorem loose_ok (raw:List Int) (n:Int):GraphOk (looseV raw n):=by
  have hm:=modV_lt n (n:=8) (by omega)
  refine graphOk_small (by simp[looseV,looseG];omega) fun c hc=>?_
  unfold looseV looseG at hc
  rw[List.mem_map] at hc
  obtain⟨k,_,rfl⟩:=hc
  have:=modV_lt (atV raw (20+k)) (n:=3) (by omega)
  exact⟨by simp[looseC,looseP];omega,rfl⟩
@[simp] def S_law23_loose:List D→Prop × D:=spec2 (α:=List Int) (β:=Int) (fun raw _=>raw.length≤9223372036854775807) (fun raw n=>.sl 3 (looseE raw (modV n 8) (modV n 8).toNat))
theorem ct_law23_loose {P:Program} {f g1 g2:Nat} {G:Gam} (h:CodeOf P f 2 9 [2] (x_law23_loose g1 g2)) (hG:GamOk P G) (h1:G.find g1=some S_gen_Mod) (h2:G.find g2=some S_gen_At):Has P f S_law23_loose:=h.has2 hG fun raw n hp=>by
  have q2:raw.length≤9223372036854775807:=by omega
  obtain⟨m1,m2⟩:=modV_lt n (n:=8) (by omega)
  simp[x_law23_loose,h1]
  obtain⟨m,hm⟩:=Int.eq_ofNat_of_zero_le m1
  rw[hm] at m2 ⊢
  simp only[Int.toNat_natCast]
  refine vc_lp (σ:=Nat) (fun c=>c≤m) (fun c=>m-c)
    (fun c=>[.d (Rep.to raw),.d (.int .i64 m),.any,.gr 0 3 (looseE raw m c),.d (.int .i64 c),.any,.any,.any,.any])
    (fun c=>[.tip c]) 0 (by simp[looseE]) (by simp) (by simp) ?_
  intro c hc
  have hgl:(looseE raw m c).length=c:=by simp[looseE]
  by_cases hcm:c<m
  · have w1:IntKind.i64.wrap ((c:Int)+1)=(c:Int)+1:=wrap_in (by omega) (by omega)
    have w2:IntKind.i64.wrap (20+(c:Int))=20+c:=wrap_in (by omega) (by omega)
    have w3:IntKind.i64.wrap (5 * (c:Int))=5 * c:=wrap_in (by omega) (by omega)
    have w4:IntKind.i64.wrap (40+5 * (c:Int))=40+5 * c:=wrap_in (by omega) (by omega)
    have r1:0≤(c:Int)∧(c:Int)<9223372036854775807:=by omega
    have r2:0≤20+(c:Int)∧20+(c:Int)<9223372036854775807:=by omega
    have r3:1≤(m:Int)∧(m:Int)≤9223372036854775807:=by omega
    have hgs:=looseE_succ raw m c
    unfold looseD at hgs
    obtain⟨k1,k2⟩:=modV_lt (atV raw (20+c)) (n:=3) (by omega)
    simp[hcm,show (c:Int)<m by omega,h1,h2,q2,r1]
    generalize modV (atV raw c) 4=dt at *
    generalize hkk:modV (atV raw (20+c)) 3=kk at *
    obtain⟨k,rfl⟩:=Int.eq_ofNat_of_zero_le k1
    simp only[Int.toNat_natCast] at hgs
    refine vc_lpR (σ:=Nat) (fun p=>p≤k) (fun p=>k-p)
      (fun p=>[.d (Rep.to raw),.d (.int .i64 m),.any,.gr 0 3 (looseE raw m c),.d (.int .i64 c),.ref 1 0 0 0,.d (.int .i64 p),.any,.any])
      (fun p=>[.tip c,.cells 0 3 [.agg [.gr 2 1 ((looseP raw m c p).map Rep.to),.d (.int .i64 dt),.d .nilsl]],.tip p]) 0 ?_ (by simp) ?_
    · refine Re.weak (k:=[.tip 0]) (s':=[.tip c,.cells 0 3 [.agg [.gr 2 1 [],.d (.int .i64 dt),.d .nilsl]]]) (by simp) (by simp) (by simp) ⟨.inl rfl,.cellsL ⟨⟨rfl,?_⟩,trivial⟩,trivial⟩
      exact⟨Wk.fresh 2 [.tip 0] 1 0 rfl,Wk.refl _ _ _,Wk.refl _ _ _,trivial⟩
    intro p hp
    have hpl:(looseP raw m c p).length=p:=by simp[looseP]
    by_cases hpk:p<k
    · have v1:IntKind.i64.wrap ((p:Int)+1)=(p:Int)+1:=wrap_in (by omega) (by omega)
      have v2:IntKind.i64.wrap (40+5 * (c:Int)+p)=40+5 * c+p:=wrap_in (by omega) (by omega)
      have v3:0≤40+5 * (c:Int)+p∧40+5 * (c:Int)+p<9223372036854775807:=by omega
      have hs:=looseP_succ raw m c p
      simp[hpk,show (p:Int)<k by omega,h1,h2,q2,w2,w3,w4,v2,v3,r2,r3,hkk,hpl,v1]
      exact⟨by unfold room;omega,Nxt.mk (p+1) (by omega) (by simp) (by simp[hs]) (by omega)⟩
    · have h9:p=k:=by omega
      subst h9
      simp[h1,h2,q2,w2,r2,hkk,hgl,w1]
      exact⟨by unfold room;omega,Nxt.mk (c+1) (by omega) (by simp[hgs]) (by simp) (by omega)⟩
  · have h9:c=m:=by omega
    subst h9
    simp
/-! ### lists and errors -/
def LE (d:D):Prop:=∃(l:D) (ls:List Int) (e:Int),d=.tup [l,.int .i64 e]∧Rep.of (α:=List Int) l=some ls∧ls.length≤9223372036854775807
theorem LE.ok {l:List Int} {e:Int} (h:l.length≤9223372036854775807):LE (.tup [Rep.to l,.int .i64 e]):=⟨_,l,e,rfl,Rep.of_to l,h⟩
theorem LE.nil {e:Int}:LE (.tup [.nilsl,.int .i64 e]):=⟨_,[],e,rfl,rfl,by simp⟩
theorem LE.kids {g:List CommitT} (h:g.length≤1000) (c:Int):LE (kidsD g c):=by
  unfold kidsD
  split
  · split
    · exact LE.ok (by have:=whereV_len (kidB g c) g.length;unfold kidsV;omega)
    · exact LE.nil
  · exact LE.nil
theorem LE.roots {g:List CommitT} (h:g.length≤1000):LE (rootsD g):=by
  unfold rootsD
  split
  · exact LE.ok (by have:=whereV_len (rootB g) g.length;unfold rootsV;omega)
  · exact LE.nil
theorem LE.heads {g:List CommitT} (h:g.length≤1000):LE (headsD g):=by
  unfold headsD
  split
  · exact LE.ok (by have:=whereV_len (headB g) g.length;unfold headsV;omega)
  · exact LE.nil
theorem graphV_ok (raw:List Int) {n lines:Int} (hn:0≤n) (hn2:n≤10) (hl:0≤lines) (h:(lines.toNat+1) * 2 ^ n.toNat≤2048):dagC (graphV raw n lines)=0∧GraphOk (graphV raw n lines):=by
  obtain⟨m,hm,hb⟩:=graphV_B raw hn hl h
  exact graphB_ok (by omega) (by omega) hb
@[simp] def S_law23_DagLists:List D→Prop × D:=spec3 (α:=List Int) (β:=Int) (γ:=Int) (fun raw _ _=>raw.length≤9223372036854775807) (fun _ _ _=>.bool true)
theorem ct_law23_DagLists {P:Program} {f g1 g2 g3 g4 g5 g6 g7 g8 g9 g10 g11:Nat} {G:Gam} (h:CodeOf P f 3 26 [3] (x_law23_DagLists g1 g2 g3 g4 g5 g6 g7 g8 g9 g10 g11)) (hG:GamOk P G) (h1:G.find g1=some S_gen_Graph) (h2:G.find g2=some S_law23_loose) (h3:G.find g3=some S_dag_Children) (h4:G.find g4=some S_ref23_Children) (h5:G.find g5=some S_gen_Mod) (h6:G.find g6=some S_dag_Roots) (h7:G.find g7=some S_ref23_Roots) (h8:G.find g8=some S_dag_Heads) (h9:G.find g9=some S_ref23_Heads) (h10:G.find g10=some S_gen_Ints) (h11:G.find g11=some S_law23_awake):Has P f S_law23_DagLists:=h.has3 hG fun raw n c hp=>by
  have key:∀g:List CommitT,GraphOk g→∃k,k=modV c ((g.length:Int)+1)∧IntKind.i64.wrap ((g.length:Int)+1)=(g.length:Int)+1∧(1≤(g.length:Int)+1∧(g.length:Int)+1≤9223372036854775807):=fun g hg=>⟨_,rfl,wrap_in (by omega) (by have:=hg.1;omega),by have:=hg.1;omega⟩
  simp[x_law23_DagLists]
  refine vc_lp (σ:=Nat) (fun i=>i≤2) (fun i=>2-i)
    (fun i=>[.d (Rep.to raw),.d (.int .i64 n),.d (.int .i64 c),.any,.d (.int .i64 i),.any,.any,.any,.any,.any,.any,.any,.any,.any,.any,.any,.any,.any,.any,.any,.any,.any,.any,.any,.any,.any]) (fun _=>[]) 0 (by simp) (by simp) (by simp) ?_
  intro i hi
  by_cases hi2:i<2
  · have w1:IntKind.i64.wrap ((i:Int)+1)=(i:Int)+1:=wrap_in (by omega) (by omega)
    have o1:=(graphV_ok raw (n:=8) (lines:=1) (by omega) (by omega) (by omega) (by decide)).2
    have o2:=loose_ok raw n
    by_cases e:i=0
    · subst e
      generalize hg:graphV raw 8 1=g at *
      obtain⟨k,hk,w2,w3⟩:=key g o1
      obtain⟨l1,s1,e1,k1,f1,b1⟩:=LE.kids o1.1 c
      obtain⟨l2,s2,e2,k2,f2,b2⟩:=LE.kids o1.1 k
      obtain⟨l3,s3,e3,k3,f3,b3⟩:=LE.roots o1.1
      obtain⟨l4,s4,e4,k4,f4,b4⟩:=LE.heads o1.1
      simp[h1,h2,h3,h4,h5,h6,h7,h8,h9,h10,hp,hg,o1,w2,w3,← hk,k1,k2,k3,k4,f1,f2,f3,f4,b1,b2,b3,b4]
      exact Nxt.mk 1 (by omega) (by simp;rfl) (by simp) (by omega)
    · have e:i=1:=by omega
      subst e
      have hof:=loose_of raw (modV n 8) (modV n 8).toNat
      rw[show looseG raw (modV n 8) (modV n 8).toNat=looseV raw n from rfl] at hof
      generalize hg:looseV raw n=g at *
      have hxl:(looseE raw (modV n 8) (modV n 8).toNat).length=g.length:=by rw[← hg];simp[looseE,looseV,looseG]
      generalize hxx:looseE raw (modV n 8) (modV n 8).toNat=xx at *
      obtain⟨k,hk,w2,w3⟩:=key g o2
      obtain⟨l1,s1,e1,k1,f1,b1⟩:=LE.kids o2.1 c
      obtain⟨l2,s2,e2,k2,f2,b2⟩:=LE.kids o2.1 k
      obtain⟨l3,s3,e3,k3,f3,b3⟩:=LE.roots o2.1
      obtain⟨l4,s4,e4,k4,f4,b4⟩:=LE.heads o2.1
      simp[h1,h2,h3,h4,h5,h6,h7,h8,h9,h10,hp,hxx,hof,hxl,o2,w2,w3,← hk,k1,k2,k3,k4,f1,f2,f3,f4,b1,b2,b3,b4]
      exact Nxt.mk 2 (by omega) (by simp;rfl) (by simp) (by omega)
  · have e:i=2:=by omega
    subst e
    simp[h11]
theorem law23_DagLists_pre (raw:List Int) (n:Int) (c:Int) (w0:Arg.wf raw) (w1:Arg.wf n) (w2:Arg.wf c):raw.length≤9223372036854775807:=by
  have:=len_wf w0
  omega
open Go Go.Proofs Go.RowKit
def SeqW {α:Type} (n:Nat) (P:Program) (gfn:Nat) (caps:Array Value) (encs:α→Array Value) (n₀ own:Nat) (xs:List α) (w0:World):Prop :=
  ∀(l:Nat) (J Jx:List α→World→Prop) (W:World),Below n₀ w0 W→(∀pre A v,J pre A→J pre (A.setCell ⟨own,0,none⟩ v)) →
    (∀pre x A,J pre A→pre.length<xs.length→YieldAt Fence.wide (n-1) P l (encs x) A fun e B =>
      (e=.returned (.bool true)∧J (pre++[x]) B∧Below n₀ A B)∨(e=.returned (.bool false)∧Jx (pre++[x]) B)) →
    J [] W→CallsIn Fence.wide n P gfn (#[.func (.yield l) #[] #[]]++caps) W fun e B=>(∃v,e=.returned v)∧(J xs B∨∃pre,pre <+: xs∧Jx pre B)
def roundW {α:Type} (n₀:Nat) (I Ix:List α→World→Prop) (xs:List α) (A:World):Exit→Act→World→Prop
  | .normal,_,B=>KeepsOthers A B∧Below n₀ A B∧I xs B
  | .ret,_,B=>KeepsOthers A B∧Ix xs B
  | _,_,_=>False
variable {n:Nat} {P:Program}
theorem rangeW {α:Type} {g:Operand} {ps:Array Tmp} {assign body:Code} {Q:Exit→Act→World→Prop} {a:Act} {w:World}
    (h1:1≤n) {gfn:Nat} {caps:Array Value} (hg:a.eval g=.func (.func gfn) #[] caps) (eg:∀args w,(callFunc gfn args).run P w=.ok (.enter gfn args) w)
    {encs:α→Array Value} {own:Nat} (hown:own<w.heap.size) {xs:List α} (hseq:SeqW (n-1) P gfn caps encs w.heap.size own xs w) (hps:∀x,(encs x).size=ps.size)
    (I Ix:List α→World→Prop)
    (hI1:∀pre A o,w.heap.size≤A.heap.size→I pre A→I pre (A.alloc o)) (hI2:∀pre A l o,w.heap.size≤l→I pre A→I pre (A.putObj l o)) (hI3:∀pre A v,I pre A→I pre (A.setCell ⟨own,0,none⟩ v))
    (hX2:∀pre A l o,w.heap.size≤l→Ix pre A→Ix pre (A.putObj l o))
    (h0:I [] w) (a₁:α→Act)
    (hassign:∀(l:Nat) (x:α) (A:World) (K:Act→World→Prop),K (a₁ x) A →
      assign.wpIn (Fence.wide.inRound l) (n-1-1) P (Exit.then K (fun _ _ _=>False)) { tmps:=(ps.zip (encs x)).foldl (fun t (p,v)=>t.setIfInBounds p v) a.tmps,defers:=[] } A)
    (hbody:∀(l:Nat) (pre:List α) (x:α) (A:World),I pre A→pre.length<xs.length→body.wpIn (Fence.wide.inRound l) (n-1-1) P (roundW w.heap.size I Ix (pre++[x]) A) (a₁ x) A)
    (hdone:∀(D:Nat) (B:World),w.heap.size≤D→I xs B→B.heap[D]?=some (.deferred (some []))→Q .normal { a with defers:={ target:=.collected D,args:=#[] }::a.defers } B)
    (hstop:∀(D:Nat) (pre:List α) (B:World),w.heap.size≤D→pre <+: xs→Ix pre B→B.heap[D]?=some (.deferred (some []))→Code.ret.wpIn Fence.wide n P Q { a with defers:={ target:=.collected D,args:=#[] }::a.defers } B) :
    (Code.rangeFunc g ps assign body).wpIn Fence.wide n P Q a w:=by
  refine wpIn_rangeFunc ?_
  intro fn hfn
  show ∃_,_
  rw[show Fence.wide.round=none from rfl]
  obtain⟨lp,hlp⟩:∃lp:LoopState→Option Code→Loop,lp=fun st pe=>{ state:=st,pending:=pe,fn,tmps:=a.tmps,params:=ps,assign,body,defers:=w.heap.size }:=⟨_,rfl⟩
  obtain⟨V,hV⟩:∃V,(w.alloc (.deferred (some []))).alloc (.loop (lp .ready none))=V:=⟨_,rfl⟩
  have rL:V.heap[w.heap.size+1]?=some (.loop (lp .ready none)):=by
    have:=World.alloc_heap_new (w.alloc (.deferred (some []))) (.loop (lp .ready none))
    rw[World.size_alloc,hV] at this
    exact this
  have rD:V.heap[w.heap.size]?=some (.deferred (some [])):=by
    rw[← hV]
    exact (Below.heap_alloc _ _ _ (by simp)).trans (World.alloc_heap_new w _)
  have rI:I [] V:=by
    rw[← hV]
    exact hI1 _ _ _ (by simp) (hI1 _ _ _ (Nat.le_refl _) h0)
  have rB:Below w.heap.size w V:=by
    rw[← hV]
    exact ((Below.refl _ w).alloc (Nat.le_refl _) _).alloc (by simp) _
  refine⟨w.heap.size+1,[{ target:=.collected w.heap.size,args:=#[] }],V,{ target:=.fn (.func gfn) caps,args:=#[.func (.yield (w.heap.size+1)) #[] #[]] },V,gfn,
    #[.func (.yield (w.heap.size+1)) #[] #[]]++caps,V,?_,?_,?_,?_,fun _=>h1,?_⟩
  · rw[← hV,hlp]
    exact run_enterLoop_outer _ _ _ _ _
  · simp only[resolve,hg]
    simp[go_sem]
  · intro f' hf'
    trivial
  · simp[invoke,go_sem,eg]
  have key:=hseq (w.heap.size+1)
    (fun pre A=>I pre A∧A.heap[w.heap.size+1]?=some (.loop (lp .ready none))∧A.heap[w.heap.size]?=some (.deferred (some [])))
    (fun pre A=>Ix pre A∧A.heap[w.heap.size+1]?=some (.loop (lp .done (some .ret)))∧A.heap[w.heap.size]?=some (.deferred (some [])))
    V rB ?_ ?_ ⟨rI,rL,rD⟩
  · refine key.mono ?_
    rintro e B ⟨⟨v,rfl⟩,(⟨hi,hl,hk⟩ | ⟨pre,hpre,hi,hl,hk⟩)⟩
    · have hr:=run_endLoop (P:=P) hl (by rw[hlp];simp)
      rw[hlp] at hr
      exact⟨none,_,hr,hdone _ _ (Nat.le_refl _) (hI2 _ _ _ _ (by omega) hi) ((World.putObj_heap_other (by omega)).trans hk)⟩
    · have hr:=run_endLoop (P:=P) hl (by rw[hlp];simp)
      rw[hlp] at hr
      exact⟨some .ret,_,hr,hstop _ pre _ (Nat.le_refl _) hpre (hX2 _ _ _ _ (by omega) hi) ((World.putObj_heap_other (by omega)).trans hk)⟩
  · rintro pre A v ⟨hi,hl,hk⟩
    refine⟨hI3 _ _ _ hi,?_,?_⟩
    · rw[Below.heap_setCell _ _ _ _ (by show w.heap.size+1≠own;omega)];exact hl
    · rw[Below.heap_setCell _ _ _ _ (by show w.heap.size≠own;omega)];exact hk
  · rintro pre x A ⟨hi,hl,hk⟩ hlen
    have hlt:w.heap.size+1<A.heap.size:=(Array.getElem?_eq_some_iff.1 hl).1
    have hy:=run_yield (P:=P) (args:=encs x) hl (by rw[hlp];exact hps x)
    rw[hlp] at hy
    refine⟨fn,_,assign,body,hy,roundIn_of_wpIn hfn (hassign _ x A _ ⟨_,run_beginRound hl (by rw[hlp]),?_⟩)⟩
    have hl2:(A.putObj (w.heap.size+1) (.loop { lp .ready none with state:=.busy })).heap[w.heap.size+1]?=some (.loop { lp .ready none with state:=.busy }):=World.putObj_heap_same hlt
    have hk2:(A.putObj (w.heap.size+1) (.loop { lp .ready none with state:=.busy })).heap[w.heap.size]?=some (.deferred (some [])):=(World.putObj_heap_other (by omega)).trans hk
    have hb2:Below w.heap.size A (A.putObj (w.heap.size+1) (.loop { lp .ready none with state:=.busy })):=belowK_b (Nat.le_refl _) _ _ _ _ (by omega) hl rfl rfl
    refine wpIn_mono (hbody _ pre x _ (hI2 _ _ _ _ (by omega) hi) hlen) ?_
    have fin:∀(jump:Option Code) (B:World),KeepsOthers (A.putObj (w.heap.size+1) (.loop { lp .ready none with state:=.busy })) B →
        (Instr.endRound (w.heap.size+1) jump).run P B=.ok (.bool jump.isNone) (B.putObj (w.heap.size+1) (.loop (lp (if jump.isNone then .ready else .done) jump))) ∧
        B.heap[w.heap.size+1]?=some (.loop { lp .ready none with state:=.busy }) ∧
        (B.putObj (w.heap.size+1) (.loop (lp (if jump.isNone then .ready else .done) jump))).heap[w.heap.size+1]?=some (.loop (lp (if jump.isNone then .ready else .done) jump)) ∧
        (B.putObj (w.heap.size+1) (.loop (lp (if jump.isNone then .ready else .done) jump))).heap[w.heap.size]?=some (.deferred (some [])):=fun jump B hk3=>by
      have hl3:=hk3.same _ _ hl2 rfl
      have:=run_endRound (P:=P) jump hl3
      rw[hlp] at this ⊢
      exact⟨this,by rw[hlp] at hl3;exact hl3,World.putObj_heap_same (Array.getElem?_eq_some_iff.1 hl3).1,(World.putObj_heap_other (by omega)).trans (hk3.same _ _ hk2 rfl)⟩
    rintro e a3 B hp
    cases e with
    | normal =>
      obtain⟨hk3,hb3,hi3⟩:=hp
      obtain⟨hr,hl3,hl4,hk4⟩:=fin none B hk3
      exact⟨_,_,hr,.inl ⟨rfl,⟨hI2 _ _ _ _ (by omega) hi3,hl4,hk4⟩,(hb2.trans hb3).trans (belowK_b (Nat.le_refl _) _ _ _ _ (by omega) hl3 rfl rfl)⟩⟩
    | ret =>
      obtain⟨hk3,hi3⟩:=hp
      obtain⟨hr,hl3,hl4,hk4⟩:=fin (some .ret) B hk3
      exact⟨_,_,hr,.inr ⟨rfl,hX2 _ _ _ _ (by omega) hi3,hl4,hk4⟩⟩
    | exit id=>exact hp.elim
    | goto t=>exact hp.elim
    | panic ch=>exact hp.elim
    | outgrown=>exact hp.elim
end Go.AE
