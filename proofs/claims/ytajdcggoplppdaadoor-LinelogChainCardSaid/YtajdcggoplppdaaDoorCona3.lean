/-
  Partners of a range of lines,plainly;sources and visits as data;files found.
-/
import Derived.Test.YtajdcggoplppdaaDoorCona2
import Derived.Test.YtajdcggoplppdaaDoorCode1
import Derived.Test.YtajdcggoplppdaaDoorCona1
import Derived.Lib.Repeat
import Derived.LoopIn
import Derived.LoopNIn
import Derived.OwnWalkIn
import Derived.RangeFuncBound
import Derived.RangeFuncCalls
import Derived.RangeFuncLeaves
import Derived.RangeFuncNested
import Derived.Shelf.Abstract
import Derived.Shelf.RegionOpen
import Derived.TacticsInMore
import Derived.WalkKit

set_option linter.unusedSimpArgs false
set_option linter.unusedVariables false
set_option linter.unnecessarySimpa false
set_option maxRecDepth 20000
set_option maxHeartbeats 8000000
namespace Go.AE
/-! ### sources and visits as data -/
deriving instance DecidableEq,Inhabited for SrcT
instance:Rep SrcT where
  size:=2
  to x:=.agg [.int .i64 x.parent,Rep.to x.lines]
  of
    | .agg [.int .i64 a,b]=>(Rep.of (α:=List Int) b).map fun r=>⟨a,r⟩
    | _=>none
  of_to x:=by simp only[Rep.of_to];rfl
  rep d x h w I v r:=by
    split at h
    · rename_i a b
      simp only[Option.map_eq_some_iff] at h
      obtain⟨rows,h1,rfl⟩:=h
      cases r with
      | agg cs vs hl ho hr =>
        refine .agg _ _ (by simpa using hl) rfl (fun k hk=>?_)
        have hk':k<2:=by simpa using hk
        match k,hk' with
        | 0,_=>exact hr 0 (by simp)
        | 1,_=>exact Rep.rep _ _ h1 _ _ _ (hr 1 (by simp))
    · simp at h
  fits x:=rfl
@[simp] theorem to_Src (x:SrcT):Rep.to x=D.agg [.int .i64 x.parent,.sl 1 (x.lines.map Rep.to)]:=rfl
@[simp] theorem size_Src:Rep.size SrcT=2:=rfl
@[simp] theorem of_Src (a:Int) (b:D):Rep.of (α:=SrcT) (.agg [.int .i64 a,b])=(Rep.of (α:=List Int) b).map fun r=>⟨a,r⟩:=rfl
instance:Rep VisitT where
  size:=3
  to x:=.agg [.int .i64 x.commit,.int .i64 x.lines.fr,.int .i64 x.lines.to]
  of
    | .agg [.int .i64 a,.int .i64 b,.int .i64 c]=>some ⟨a,⟨b,c⟩⟩
    | _=>none
  of_to x:=rfl
  rep d x h w I v r:=by
    split at h
    · simp at h;subst h;exact r
    · simp at h
  fits x:=rfl
@[simp] theorem to_Visit (x:VisitT):Rep.to x=D.agg [.int .i64 x.commit,.int .i64 x.lines.fr,.int .i64 x.lines.to]:=rfl
@[simp] theorem size_Visit:Rep.size VisitT=3:=rfl
@[simp] theorem of_Visit (a b c:Int):Rep.of (α:=VisitT) (.agg [.int .i64 a,.int .i64 b,.int .i64 c])=some ⟨a,⟨b,c⟩⟩:=rfl
/-! ### files found -/
theorem find_hit:∀{l:List FileT} {p:Str} {i:Nat} (h:i<l.length),(∀k (hk:k<l.length),k<i→l[k].path≠p)→l[i].path=p→inB l p=true∧blobF l p=l[i].blob
  | f::l,p,0,h,_,e=>by
    simp only[List.getElem_cons_zero] at e ⊢
    exact⟨by simp[inB,e],by rw[blobF,if_pos e]⟩
  | f::l,p,i+1,h,hn,e=>by
    simp only[List.getElem_cons_succ] at e ⊢
    have h0:f.path≠p:=hn 0 (by simp) (by omega)
    obtain⟨h1,h2⟩:=find_hit (l:=l) (i:=i) (by simpa using h) (fun k hk hki=>by
      have:=hn (k+1) (by simp;omega) (by omega)
      simpa using this) e
    exact⟨by simp[inB,h1],by rw[blobF,if_neg h0];exact h2⟩
theorem find_miss:∀{l:List FileT} {p:Str},(∀k (hk:k<l.length),l[k].path≠p)→inB l p=false∧blobF l p=[]
  | [],_,_=>⟨rfl,rfl⟩
  | f::l,p,hn=>by
    have h0:f.path≠p:=hn 0 (by simp)
    obtain⟨h1,h2⟩:=find_miss (l:=l) (p:=p) (fun k hk=>by
      have:=hn (k+1) (by simp;omega)
      simpa using this)
    exact⟨by simp[inB,h1,h0],by rw[blobF,if_neg h0];exact h2⟩
/-! ### the pairs of a script -/
theorem okV_bound:∀(l:List ChangeT) (i j m n:Int) (fst:Bool),okV l i j fst m n=true→i≤m∧j≤n∧(∀c,c∈l→c.old≤m∧c.new≤n)
  | [],i,j,m,n,fst,h=>by
    simp only[okV,Bool.and_eq_true,decide_eq_true_eq] at h
    exact⟨by omega,by omega,fun c hc=>by cases hc⟩
  | c::l,i,j,m,n,fst,h=>by
    simp only[okV,Bool.and_eq_true] at h
    obtain⟨h1,h1',h3⟩:=okV_bound l _ _ _ _ _ h.2
    have h2:=stepV_true h.1
    refine⟨by omega,by omega,fun d hd=>?_⟩
    rcases List.mem_cons.1 hd with rfl | hd
    · omega
    · exact h3 d hd
theorem run_asc {p:List SpanT} {m n:Int}:∀(k:Nat) (i j:Int),i+k≤m→j+k≤n→ascB p (i+k) (j+k) m n=true→ascB (runN k i j++p) i j m n=true
  | 0,i,j,_,_,h=>by simpa [runN] using h
  | k+1,i,j,h1,h2,h=>by
    have ih:=run_asc (p:=p) (m:=m) (n:=n) k (i+1) (j+1) (by omega) (by omega) (by
      rw[show i+1+(k:Int)=i+((k+1:Nat):Int) by omega,show j+1+(k:Int)=j+((k+1:Nat):Int) by omega];exact h)
    simp only[runN,List.cons_append,ascB,Bool.and_eq_true,decide_eq_true_eq]
    exact⟨⟨⟨⟨by omega,by omega⟩,by omega⟩,by omega⟩,ih⟩
theorem asc_weak:∀{p:List SpanT} {i j i' j' m n:Int},i'≤i→j'≤j→ascB p i j m n=true→ascB p i' j' m n=true
  | [],_,_,_,_,_,_,_,_,_=>rfl
  | s::p,i,j,i',j',m,n,h1,h2,h=>by
    simp only[ascB,Bool.and_eq_true,decide_eq_true_eq] at h ⊢
    exact⟨⟨⟨⟨by omega,h.1.1.1.2⟩,by omega⟩,h.1.2⟩,h.2⟩
theorem matV_asc:∀(l:List ChangeT) (i j m n:Int) (fst:Bool),okV l i j fst m n=true→ascB (matV l i j m) i j m n=true
  | [],i,j,m,n,fst,h=>by
    simp only[okV,Bool.and_eq_true,decide_eq_true_eq] at h
    have:=run_asc (p:=[]) (m:=m) (n:=n) (m-i).toNat i j (by omega) (by omega) rfl
    simpa [matV] using this
  | c::l,i,j,m,n,fst,h=>by
    have hb:=(okV_bound _ _ _ _ _ _ h).2.2 c (by simp)
    simp only[okV,Bool.and_eq_true] at h
    have h2:=stepV_true h.1
    have ih:=matV_asc l _ _ _ _ _ h.2
    rw[matV]
    refine run_asc _ _ _ (by omega) (by omega) (asc_weak (by omega) (by omega) ih)
theorem check_asc {l:List ChangeT} {m n:Int} (h:checkV l m n=true):(0≤m∧m≤4096)∧(0≤n∧n≤4096)∧ascB (matV l 0 0 m) 0 0 m n=true∧(matV l 0 0 m).length≤4096:=by
  simp only[checkV,Bool.and_eq_true] at h
  have h1:=inV_true h.1.1
  have h2:=inV_true h.1.2
  have h3:=matV_len _ _ _ _ _ _ h.2
  exact⟨h1,h2,matV_asc _ _ _ _ _ _ h.2,by omega⟩
/-! ### partners of a span -/
def trkK (p:List SpanT) (s:SpanT) (k:Nat):List Int:=(List.range (s.to-s.fr).toNat).map fun (j:Nat)=>partL (p.take k) (s.fr+j)
def trkV (p:List SpanT) (s:SpanT):List Int:=(List.range (s.to-s.fr).toNat).map fun (j:Nat)=>partL p (s.fr+j)
theorem trkK_len (p:List SpanT) (s:SpanT) (k:Nat):(trkK p s k).length=(s.to-s.fr).toNat:=by simp[trkK]
theorem trkV_len (p:List SpanT) (s:SpanT):(trkV p s).length=(s.to-s.fr).toNat:=by simp[trkV]
theorem trkK_all (p:List SpanT) (s:SpanT):trkK p s p.length=trkV p s:=by unfold trkK trkV;rw[List.take_length]
theorem trkK_zero (p:List SpanT) (s:SpanT):trkK p s 0=List.replicate (s.to-s.fr).toNat (-1):=by
  unfold trkK
  apply List.ext_getElem
  · simp
  · intro i h1 h2
    simp[partL]
theorem trkV_get {p:List SpanT} {s:SpanT} {k:Nat} (h:k<(trkV p s).length):(trkV p s)[k]=partL p (s.fr+k):=by simp[trkV]
theorem trkK_succ {p:List SpanT} {s:SpanT} {k:Nat} (hp:p.Pairwise fun x y=>x.to<y.to) (h:k<p.length):trkK p s (k+1)=if s.fr≤p[k].to∧p[k].to<s.to then (trkK p s k).set (p[k].to-s.fr).toNat p[k].fr else trkK p s k:=by
  have ht:p.take (k+1)=p.take k++[p[k]]:=List.take_succ_eq_append_getElem h
  have hno:∀x,x∈p.take k→x.to≠p[k].to:=fun x hx=>by
    obtain⟨q,hq,rfl⟩:=List.mem_take_iff_getElem.1 hx
    rw[List.pairwise_iff_getElem] at hp
    have:=hp q k (by omega) h (by omega)
    omega
  split
  · rename_i hr
    apply List.ext_getElem
    · simp[trkK]
    · intro i h1 h2
      have hi:i<(s.to-s.fr).toNat:=by simpa [trkK] using h1
      rw[List.getElem_set]
      simp only[trkK,List.getElem_map,List.getElem_range,ht,partL_snoc]
      by_cases e:(p[k].to-s.fr).toNat=i
      · rw[if_pos e,if_pos]
        exact⟨fun x hx=>by have:=hno x hx;omega,by omega⟩
      · rw[if_neg e,if_neg]
        rintro⟨_,e2⟩
        omega
  · rename_i hr
    apply List.ext_getElem
    · simp[trkK]
    · intro i h1 h2
      have hi:i<(s.to-s.fr).toNat:=by simpa [trkK] using h1
      simp only[trkK,List.getElem_map,List.getElem_range,ht,partL_snoc]
      rw[if_neg]
      rintro⟨_,e2⟩
      omega
def touchK (p:List SpanT) (fr:Int) (k:Nat):Bool:=(List.range k).any fun (k:Nat)=>decide (partL p (fr+k)<0) || (decide (0<k) && decide (partL p (fr+k)≠partL p (fr+k-1)+1))
theorem touchK_zero (p:List SpanT) (fr:Int):touchK p fr 0=false:=rfl
theorem touchK_succ (p:List SpanT) (fr:Int) (k:Nat):touchK p fr (k+1)=(touchK p fr k || (decide (partL p (fr+k)<0) || (decide (0<k) && decide (partL p (fr+k)≠partL p (fr+k-1)+1)))):=by
  unfold touchK
  rw[List.range_succ,List.any_append]
  simp
theorem touchK_hit {p:List SpanT} {fr:Int} {k m:Nat} (hk:k<m) (h:partL p (fr+k)<0∨(0<k∧partL p (fr+k)≠partL p (fr+k-1)+1)):touchK p fr m=true:=by
  unfold touchK
  rw[List.any_eq_true]
  refine⟨k,by simpa using hk,?_⟩
  simpa using h
theorem filesE_all {g:List CommitT} (h:filesE g=0):∀c,c∈g→treeE c.files=0:=by
  unfold filesE at h
  split at h
  · rename_i c hc
    have:=List.find?_some hc
    simp at this
    exact (this h).elim
  · rename_i hn
    rw[List.find?_eq_none] at hn
    intro c hc
    simpa using hn c hc
theorem tree_blobs {l:List FileT} (h:treeE l=0):l.length≤200∧∀f,f∈l→checkT f.blob=0:=by
  unfold treeE at h
  split at h
  · cases h
  · rename_i h1
    split at h
    · cases h
    · split at h
      · split at h
        · cases h
        · rename_i h3
          refine⟨by omega,fun f hf=>?_⟩
          rw[Bool.not_eq_true,List.any_eq_false] at h3
          have:=h3 f hf
          simpa using this
      · cases h
structure GV (g:List CommitT):Prop where
  c:dagC g=0
  ok:GraphOk g
  rel:relG g=true
  files:∀c,c∈g→c.files.length≤200∧∀f,f∈c.files→checkT f.blob=0
  par:∀c,c∈g→c.parents.length≤32
  len:g.length≤300
theorem GV.of {g:List CommitT} (h:dagC g=0) (ho:GraphOk g):GV g:=by
  have hl:=dagC_lim h
  refine⟨h,ho,hl.2.1,fun c hc=>tree_blobs (filesE_all hl.2.2.2.2 c hc),fun c hc=>lim_par hl.1 c hc,?_⟩
  have:=hl.1
  unfold limB at this
  simp only[Bool.and_eq_true,decide_eq_true_eq] at this
  exact this.1
theorem GV.fix {g:List CommitT} (h:GV g):∃hh,Fix (parG g) hh:=⟨_,hUp_fix (relG_ok h.rel) (by rw[parG_len];exact (dagC_lim h.c).2.2.1)⟩
theorem check_nil:checkT []=0:=by decide
theorem check_len {s:Str} (h:checkT s=0):s.length≤1048576:=by
  unfold checkT at h
  split at h
  · rename_i h2;exact h2.1
  · cases h
theorem check_blobF {l:List FileT} {p:Str} (h:∀f,f∈l→checkT f.blob=0):checkT (blobF l p)=0:=by
  by_cases e:inB l p=true
  · obtain⟨f,h1,_,h2⟩:=blobF_mem e
    rw[← h2]
    exact h f h1
  · rw[blobF_none (by simpa using e)]
    exact check_nil
theorem GV.blob {g:List CommitT} (h:GV g) {c:Nat} (hc:c<g.length) (path:Str):checkT (blobG g path c)=0:=by
  unfold blobG
  rw[show g.getD c default=g[c] by simp[List.getD,hc]]
  exact check_blobF (h.files _ (List.getElem_mem hc)).2
theorem GV.prng {g:List CommitT} (h:GV g) {c:Nat} (hc:c<g.length):∀p,p∈g[c].parents→0≤p∧p<(g.length:Int):=rel_rng h.rel hc
/-! ### the script of two blobs -/
def scr (a b:Str):List ChangeT:=scriptV ((ids2 a b).getD 0 []) ((ids2 a b).getD 1 [])
theorem ids2_l0 (a b:Str):((ids2 a b).getD 0 []).length=(linesV a).length:=by rw[ids2_0];simp
theorem ids2_l1 (a b:Str):((ids2 a b).getD 1 []).length=(linesV b).length:=by rw[ids2_1];simp
theorem scr_ok {a b:Str} (ha:checkT a=0) (hb:checkT b=0):checkV (scr a b) (linesV a).length (linesV b).length=true∧matV (scr a b) 0 0 (linesV a).length=pairsS a b:=by
  have h1:=checkT_lines ha
  have h2:=checkT_lines hb
  have h:=script_ok (a:=(ids2 a b).getD 0 []) (b:=(ids2 a b).getD 1 []) (by rw[ids2_l0];exact h1) (by rw[ids2_l1];exact h2)
  rw[ids2_l0,ids2_l1] at h
  exact⟨h.1,h.2.1⟩
theorem scr_blobs {a b:Str} (ha:checkT a=0) (hb:checkT b=0):blobsD a b=.tup [Rep.to (scr a b),.int .i64 0]:=by
  unfold blobsD
  rw[if_pos ha,if_pos hb]
  rfl
theorem okV_len:∀(l:List ChangeT) (i j m n:Int) (fst:Bool),0≤i→0≤j→okV l i j fst m n=true→(l.length:Int)≤(m-i)+(n-j)
  | [],i,j,m,n,fst,_,_,h=>by
    simp only[okV,Bool.and_eq_true,decide_eq_true_eq] at h
    simp
    omega
  | c::l,i,j,m,n,fst,h0,h1,h=>by
    simp only[okV,Bool.and_eq_true] at h
    have h2:=stepV_true h.1
    have ih:=okV_len l _ _ _ _ _ (by omega) (by omega) h.2
    simp
    omega
theorem check_clen {l:List ChangeT} {m n:Int} (h:checkV l m n=true):l.length≤8192:=by
  simp only[checkV,Bool.and_eq_true] at h
  have h1:=inV_true h.1.1
  have h2:=inV_true h.1.2
  have:=okV_len _ _ _ _ _ _ (by omega) (by omega) h.2
  omega
@[simp] def S_tree_Find:List D→Prop × D:=spec2 (α:=List FileT) (β:=Str) (fun l _=>l.length≤9223372036854775807) (fun l p=>.tup [.str (blobF l p),.bool (inB l p)])
theorem ct_tree_Find {P:Program} {f:Nat} {G:Gam} (h:CodeOf P f 2 10 [2,3] x_tree_Find) (hG:GamOk P G):Has P f S_tree_Find:=h.has2 hG fun l p hp=>by
  simp[x_tree_Find]
  refine vc_lp (σ:=Nat) (fun i=>i≤l.length∧∀k (h:k<l.length),k<i→l[k].path≠p) (fun i=>l.length-i)
    (fun i=>[.d (Rep.to l),.d (.str p),.any,.any,.any,.d (Rep.to l),.d (.int .i64 l.length),.d (.int .i64 i),.any,.any]) (fun _=>[]) 0 (by simp) (by simp) ⟨by simp,by simp⟩ ?_
  rintro i ⟨hi,hn⟩
  by_cases hil:i<l.length
  · have w1:IntKind.i64.wrap ((i:Int)+1)=(i:Int)+1:=wrap_in (by omega) (by omega)
    by_cases e:l[i].path=p
    · obtain⟨h1,h2⟩:=find_hit hil hn e
      simp[hil,getD_map,e,h1,h2]
    · have hnx:∀k (h:k<l.length),k<i+1→l[k].path≠p:=fun k h hk=>by
        by_cases e2:k=i
        · subst e2;exact e
        · exact hn k h (by omega)
      simp[hil,getD_map,e,w1]
      exact Nxt.mk (i+1) (by omega) (by simp) (by simp) ⟨by omega,hnx⟩
  · have h9:i=l.length:=by omega
    subst h9
    obtain⟨h1,h2⟩:=find_miss (l:=l) (p:=p) fun k hk=>hn k hk hk
    simp[h1,h2]
@[simp] def S_ref21_Find:List D→Prop × D:=spec2 (α:=List FileT) (β:=Str) (fun l _=>l.length≤9223372036854775807) (fun l p=>.tup [.str (blobF l p),.bool (inB l p)])
theorem ct_ref21_Find {P:Program} {f:Nat} {G:Gam} (h:CodeOf P f 2 7 [2,3] x_ref21_Find) (hG:GamOk P G):Has P f S_ref21_Find:=h.has2 hG fun l p hp=>by
  simp[x_ref21_Find]
  refine vc_lp (σ:=Nat) (fun i=>i≤l.length∧∀k (h:k<l.length),k<i→l[k].path≠p) (fun i=>l.length-i)
    (fun i=>[.d (Rep.to l),.d (.str p),.any,.any,.d (.int .i64 i),.any,.any]) (fun _=>[]) 0 (by simp) (by simp) ⟨by simp,by simp⟩ ?_
  rintro i ⟨hi,hn⟩
  by_cases hil:i<l.length
  · have w1:IntKind.i64.wrap ((i:Int)+1)=(i:Int)+1:=wrap_in (by omega) (by omega)
    by_cases e:l[i].path=p
    · obtain⟨h1,h2⟩:=find_hit hil hn e
      simp[hil,getD_map,e,h1,h2]
    · have hnx:∀k (h:k<l.length),k<i+1→l[k].path≠p:=fun k h hk=>by
        by_cases e2:k=i
        · subst e2;exact e
        · exact hn k h (by omega)
      simp[hil,getD_map,e,w1]
      exact Nxt.mk (i+1) (by omega) (by simp) (by simp) ⟨by omega,hnx⟩
  · have h9:i=l.length:=by omega
    subst h9
    obtain⟨h1,h2⟩:=find_miss (l:=l) (p:=p) fun k hk=>hn k hk hk
    simp[h1,h2]
@[simp] def S_gen_Origins:List D→Prop × D:=spec2 (α:=List OriginT) (β:=List OriginT) (fun a _=>a.length≤9223372036854775807) (fun a b=>Rep.to (decide (a=b)))
theorem ct_gen_Origins {P:Program} {f:Nat} {G:Gam} (h:CodeOf P f 2 7 [2] x_gen_Origins) (hG:GamOk P G):Has P f S_gen_Origins:=h.has2 hG fun a b hp=>by
  by_cases hl:a.length=b.length
  · simp[x_gen_Origins,hl]
    refine vc_lp (σ:=Nat) (fun i=>i≤a.length∧∀k (h:k<a.length),k<i→a[k]=b[k]) (fun i=>a.length-i)
      (fun i=>[.d (Rep.to a),.d (Rep.to b),.any,.d (.int .i64 i),.any,.any,.any]) (fun _=>[]) 0 (by simp) (by simp) ⟨by simp,by simp⟩ ?_
    rintro i ⟨hi,hn⟩
    by_cases hil:i<a.length
    · have hib:i<b.length:=by omega
      have w1:IntKind.i64.wrap ((i:Int)+1)=(i:Int)+1:=wrap_in (by omega) (by omega)
      by_cases e:a[i]=b[i]
      · have hnx:∀k (h:k<a.length),k<i+1→a[k]=b[k]:=fun k h hk=>by
          by_cases e2:k=i
          · subst e2;exact e
          · exact hn k h (by omega)
        simp[hil,hib,hl,getD_map,e,w1,eSeq,cellsEq,cellEq]
        exact Nxt.mk (i+1) (by omega) (by simp) (by simp) ⟨by omega,fun k h hk=>hnx k (by omega) hk⟩
      · have hne:a≠b:=fun h=>e (by subst h;rfl)
        by_cases e1:a[i].commit=b[i].commit
        · have e2:¬a[i].line=b[i].line:=fun h=>e (by
            have h1:∀x y:OriginT,x.commit=y.commit→x.line=y.line→x=y:=fun x y p q=>by cases x;cases y;simp_all
            exact h1 _ _ e1 h)
          simp[hil,hib,hl,getD_map,e1,e2,hne,eSeq,cellsEq,cellEq]
        · simp[hil,hib,hl,getD_map,e1,hne,eSeq,cellsEq,cellEq]
    · have h9:i=a.length:=by omega
      subst h9
      have he:a=b:=List.ext_getElem hl fun k h1 h2=>hn k h1 h1
      simp[he]
  · have hne:a≠b:=fun h=>hl (by rw[h])
    simp[x_gen_Origins,hne,show ¬(a.length:Int)=b.length by omega]
@[simp] def S_gen_Visits:List D→Prop × D:=spec2 (α:=List VisitT) (β:=List VisitT) (fun a _=>a.length≤9223372036854775807) (fun a b=>Rep.to (decide (a=b)))
theorem visit_ext {x y:VisitT} (h1:x.commit=y.commit) (h2:x.lines.fr=y.lines.fr) (h3:x.lines.to=y.lines.to):x=y:=by
  obtain⟨a,b,c⟩:=x
  obtain⟨d,e,f⟩:=y
  simp_all
theorem ct_gen_Visits {P:Program} {f:Nat} {G:Gam} (h:CodeOf P f 2 7 [2] x_gen_Visits) (hG:GamOk P G):Has P f S_gen_Visits:=h.has2 hG fun a b hp=>by
  by_cases hl:a.length=b.length
  · simp[x_gen_Visits,hl]
    refine vc_lp (σ:=Nat) (fun i=>i≤a.length∧∀k (h:k<a.length),k<i→a[k]=b[k]) (fun i=>a.length-i)
      (fun i=>[.d (Rep.to a),.d (Rep.to b),.any,.d (.int .i64 i),.any,.any,.any]) (fun _=>[]) 0 (by simp) (by simp) ⟨by simp,by simp⟩ ?_
    rintro i ⟨hi,hn⟩
    by_cases hil:i<a.length
    · have hib:i<b.length:=by omega
      have w1:IntKind.i64.wrap ((i:Int)+1)=(i:Int)+1:=wrap_in (by omega) (by omega)
      by_cases e:a[i]=b[i]
      · have hnx:∀k (h:k<a.length),k<i+1→a[k]=b[k]:=fun k h hk=>by
          by_cases e2:k=i
          · subst e2;exact e
          · exact hn k h (by omega)
        simp[hil,hib,hl,getD_map,e,w1,eSeq,cellsEq,cellEq]
        exact Nxt.mk (i+1) (by omega) (by simp) (by simp) ⟨by omega,fun k h hk=>hnx k (by omega) hk⟩
      · have hne:a≠b:=fun h=>e (by subst h;rfl)
        by_cases e1:a[i].commit=b[i].commit
        · by_cases e2:a[i].lines.fr=b[i].lines.fr
          · have e3:¬a[i].lines.to=b[i].lines.to:=fun h=>e (visit_ext e1 e2 h)
            simp[hil,hib,hl,getD_map,e1,e2,e3,hne,eSeq,cellsEq,cellEq]
          · simp[hil,hib,hl,getD_map,e1,e2,hne,eSeq,cellsEq,cellEq]
        · simp[hil,hib,hl,getD_map,e1,hne,eSeq,cellsEq,cellEq]
    · have h9:i=a.length:=by omega
      subst h9
      have he:a=b:=List.ext_getElem hl fun k h1 h2=>hn k h1 h1
      simp[he]
  · have hne:a≠b:=fun h=>hl (by rw[h])
    simp[x_gen_Visits,hne,show ¬(a.length:Int)=b.length by omega]
theorem part_hit:∀{p:List SpanT} {j:Int} {i:Nat} (h:i<p.length),(∀k (hk:k<p.length),k<i→p[k].to≠j)→p[i].to=j→partL p j=p[i].fr
  | s::p,j,0,h,_,e=>by
    simp only[List.getElem_cons_zero] at e ⊢
    rw[partL,if_pos e]
  | s::p,j,i+1,h,hn,e=>by
    simp only[List.getElem_cons_succ] at e ⊢
    have h0:s.to≠j:=hn 0 (by simp) (by omega)
    rw[partL,if_neg h0]
    exact part_hit (by simpa using h) (fun k hk hki=>by
      have:=hn (k+1) (by simp;omega) (by omega)
      simpa using this) e
@[simp] def S_ref29_Partner:List D→Prop × D:=spec3 (α:=List ChangeT) (β:=Int) (γ:=Int) (fun l m _=>l.length≤100000∧∃n,checkV l m n=true) (fun l m j=>.int .i64 (partL (matV l 0 0 m) j))
theorem ct_ref29_Partner {P:Program} {f g1:Nat} {G:Gam} (h:CodeOf P f 3 8 [3] (x_ref29_Partner g1)) (hG:GamOk P G) (h1:G.find g1=some S_ref08_Matched):Has P f S_ref29_Partner:=h.has3 hG fun l m j hp=>by
  obtain⟨p1,p2⟩:=hp
  have hl:(matV l 0 0 m).length≤4096:=by obtain⟨n,hn⟩:=p2;exact (check_asc hn).2.2.2
  simp[x_ref29_Partner,h1,p1,p2]
  generalize matV l 0 0 m=p at *
  refine vc_lp (σ:=Nat) (fun i=>i≤p.length∧∀k (h:k<p.length),k<i→p[k].to≠j) (fun i=>p.length-i)
    (fun i=>[.d (Rep.to l),.d (.int .i64 m),.d (.int .i64 j),.any,.d (Rep.to p),.d (.int .i64 i),.any,.any]) (fun _=>[]) 0 (by simp) (by simp) ⟨by simp,by simp⟩ ?_
  rintro i ⟨hi,hn⟩
  by_cases hil:i<p.length
  · have w1:IntKind.i64.wrap ((i:Int)+1)=(i:Int)+1:=wrap_in (by omega) (by omega)
    by_cases e:p[i].to=j
    · have hv:=part_hit hil hn e
      simp[hil,getD_map,e,hv]
    · have hnx:∀k (h:k<p.length),k<i+1→p[k].to≠j:=fun k h hk=>by
        by_cases e2:k=i
        · subst e2;exact e
        · exact hn k h (by omega)
      simp[hil,getD_map,e,w1]
      exact Nxt.mk (i+1) (by omega) (by simp) (by simp) ⟨by omega,hnx⟩
  · have h9:i=p.length:=by omega
    subst h9
    have hv:partL p j=-1:=partL_no fun s hs=>by
      obtain⟨k,hk,rfl⟩:=List.mem_iff_getElem.1 hs
      exact hn k hk hk
    simp[hv]
structure TrkOk (l:List ChangeT) (m n:Int) (s:SpanT):Prop where
  ok:checkV l m n=true
  s0:0≤s.fr
  s1:s.fr<s.to
  s2:s.to≤n
theorem TrkOk.len {l:List ChangeT} {m n:Int} {s:SpanT} (h:TrkOk l m n s):l.length≤100000∧m≤4096∧n≤4096∧0≤m:=by
  have:=check_clen h.ok
  have:=check_asc h.ok
  omega
theorem partL_rng {l:List ChangeT} {m n:Int} (h:checkV l m n=true) (j:Int):-1≤partL (matV l 0 0 m) j∧partL (matV l 0 0 m) j<4096:=by
  have ha:=check_asc h
  have hm:=asc_mem _ _ _ _ _ ha.2.2.1
  generalize matV l 0 0 m=p at *
  clear ha
  have h4:m≤4096:=by
    simp only[checkV,Bool.and_eq_true] at h
    have:=inV_true h.1.1
    omega
  clear h
  induction p with
  | nil=>simp[partL]
  | cons x p ih =>
    unfold partL
    split
    · have:=hm x (by simp);omega
    · exact ih fun s hs=>hm s (List.mem_cons_of_mem _ hs)
def backD (o:Option SpanT):D:=.tup [Rep.to (o.getD ⟨0,0⟩),.bool o.isSome,.int .i64 0]
@[simp] def S_track_Hull:List D→Prop × D:=spec2 (α:=SpanT) (β:=SpanT) (fun _ _=>True) (fun a b=>Rep.to (hullS a b))
theorem ct_track_Hull {P:Program} {f:Nat} {G:Gam} (h:CodeOf P f 2 8 [22004] x_track_Hull) (hG:GamOk P G):Has P f S_track_Hull:=h.has2 hG fun a b _=>by
  obtain⟨a1,a2⟩:=a
  obtain⟨b1,b2⟩:=b
  by_cases c1:a2≤a1
  · by_cases c2:b2≤b1
    · simp[x_track_Hull,c1,c2,hullS]
    · simp[x_track_Hull,c1,c2,hullS]
  · by_cases c2:b2≤b1
    · simp[x_track_Hull,c1,c2,hullS]
    · simp[x_track_Hull,c1,c2,hullS]
/-! ### the pairs of a script -/
def paApp (ps:List SpanT) (n:Nat) (i j:Int):List SpanT:=ps++runN n i j
structure PaX where
  e:Int
  old:Int
  now:Int
  ps:List SpanT
@[simp] def paS (x:PaX):Store:=[.cells 0 1 [.d (.int .i64 x.old)],.cells 0 1 [.gr 3 2 (x.ps.map Rep.to)],.cells 0 1 [.d (.int .i64 x.now)],.tip x.ps.length]
@[simp] def F_script_pairs_1:RF PaX where
  new:=0
  view a s:=⟨(a.getD 0 .any).gi,((s.getD 0 .dead).at 0 0).gi,((s.getD 2 .dead).at 0 0).gi,((s.getD 1 .dead).at 0 0).gl SpanT⟩
  args x:=[.d (.int .i64 x.e),.ref 0 0 0 0,.ref 1 0 0 0,.ref 2 0 0 0]
  st x:=paS x
  pre x:=0≤x.old∧x.old≤x.e∧x.e≤100000∧0≤x.now∧x.now≤100000∧x.ps.length≤100000
  res _:=.tup []
  st' x:=paS ⟨x.e,x.e,x.now+(x.e-x.old),paApp x.ps (x.e-x.old).toNat x.old x.now⟩
abbrev R_script_pairs_1:RSpec:=F_script_pairs_1.spec
theorem ct_script_pairs_1 {P:Program} {f:Nat} {G:Gam} (hc:CodeOf P f 4 5 [] x_script_pairs_1) (hG:GamOk P G):RSpec.Ok P f R_script_pairs_1:=by
  refine RF.ok hc.call fun x hx=>hc.rcalls hG rfl ?_
  obtain⟨e,old,now,ps⟩:=x
  obtain⟨p1,p2,p3,p4,p5,p6⟩:=hx
  simp only at p1 p2 p3 p4 p5 p6
  obtain⟨N,hN⟩:∃N:Nat,N=(e-old).toNat:=⟨_,rfl⟩
  have he:e=old+N:=by omega
  obtain⟨Q,hQ⟩:∃Q:Nat→List SpanT,∀i,Q i=ps++runN i old now:=⟨_,fun _=>rfl⟩
  have hq0:Q 0=ps:=by rw[hQ];simp[runN]
  have hql:∀i,(Q i).length=ps.length+i:=fun i=>by rw[hQ];simp[runN_len]
  have hqs:∀i,Q (i+1)=Q i++[⟨old+i,now+i⟩]:=fun i=>by rw[hQ,hQ,runN_snoc,List.append_assoc]
  have hqN:paApp ps (e-old).toNat old now=Q N:=by rw[hQ,hN];rfl
  simp only[F_script_pairs_1,hqN]
  clear hQ hqN
  simp[x_script_pairs_1,startA]
  refine vc_lp (σ:=Nat) (fun i=>i≤N) (fun i=>N-i)
    (fun i=>[.d (.int .i64 e),.ref 0 0 0 0,.ref 1 0 0 0,.ref 2 0 0 0,.any])
    (fun i=>[.cells 0 1 [.d (.int .i64 (old+i))],.cells 0 1 [.gr 3 2 ((Q i).map Rep.to)],.cells 0 1 [.d (.int .i64 (now+i))],.tip (Q i).length]) 0 (by simp) (by simp[hq0]) (by simp) ?_
  intro i hi
  have hq1:=hql i
  have hq2:=hqs i
  by_cases hil:i<N
  · have w1:IntKind.i64.wrap (old+(i:Int)+1)=old+(i:Int)+1:=wrap_in (by omega) (by omega)
    have w2:IntKind.i64.wrap (now+(i:Int)+1)=now+(i:Int)+1:=wrap_in (by omega) (by omega)
    have c1:old+(i:Int)<e:=by omega
    simp[c1,w1,w2]
    exact⟨by unfold room;omega,Nxt.mk (i+1) (by omega) (by simp) (by simp[hq2,Int.add_assoc]) (by omega)⟩
  · have h9:i=N:=by omega
    have c9:¬old+(i:Int)<e:=by omega
    have e1:old+(i:Int)=e:=by omega
    have e2:now+(i:Int)=now+(e-old):=by omega
    rw[← h9]
    simp[c9]
    exact FinR.done (by simp) (by simp[e1,e2]) rfl (by simp[resOf]) (by simp) (by simp)
structure PsX where
  k:Nat
  i:Int
  j:Int
  ps:List SpanT
@[simp] def S_script_pairs:List D→Prop × D:=spec2 (α:=List ChangeT) (β:=Int) (fun l m=>∃n,checkV l m n=true) (fun l m=>Rep.to (matV l 0 0 m))
theorem ct_script_pairs {P:Program} {f g1:Nat} {G:Gam} (h:CodeOf P f 2 12 [2] (x_script_pairs g1)) (hG:GamOk P G) (h1:G.findR g1=some R_script_pairs_1):Has P f S_script_pairs:=h.has2 hG fun l m hp=>by
  obtain⟨n,hc⟩:=hp
  have hasc:=check_asc hc
  have hcl:=check_clen hc
  have hok:okV l 0 0 true m n=true:=by simp only[checkV,Bool.and_eq_true] at hc;exact hc.2
  simp[x_script_pairs]
  refine vc_lpR (σ:=PsX) (fun x=>x.k≤l.length∧0≤x.i∧x.i≤4096∧0≤x.j∧x.j≤4096∧okV (l.drop x.k) x.i x.j (decide (x.k=0)) m n=true∧x.ps++matV (l.drop x.k) x.i x.j m=matV l 0 0 m) (fun x=>l.length-x.k)
    (fun x=>[.d (Rep.to l),.d (.int .i64 m),.any,.ref 0 0 0 0,.ref 1 0 0 0,.ref 2 0 0 0,.fn (.func g1) [] [.ref 1 0 0 0,.ref 0 0 0 0,.ref 2 0 0 0],.any,.d (Rep.to l),.d (.int .i64 l.length),.d (.int .i64 x.k),.any])
    (fun x=>[.cells 0 1 [.gr 3 2 (x.ps.map Rep.to)],.cells 0 1 [.d (.int .i64 x.i)],.cells 0 1 [.d (.int .i64 x.j)],.tip x.ps.length])
    ⟨0,0,0,[]⟩ ?_ ⟨by simp,by simp,by simp,by simp,by simp,by simpa using hok,by simp⟩ ?_
  · refine Re.weak (k:=[.tip 0]) (s':=[.cells 0 1 [.gr 3 2 []],.cells 0 1 [.d (.int .i64 0)],.cells 0 1 [.d (.int .i64 0)]]) (by simp) (by simp) (by simp) ⟨.cellsL ⟨⟨rfl,⟨Wk.fresh 3 [.tip 0] 2 0 rfl,trivial⟩⟩,trivial⟩,.inl rfl,.inl rfl,trivial⟩
  rintro⟨k,i,j,ps⟩ ⟨q1,q2,q3,q4,q5,q6,q7⟩
  simp only at q1 q2 q3 q4 q5 q6 q7
  have hpl:ps.length≤4096:=by
    have:=congrArg List.length q7
    rw[List.length_append] at this
    omega
  by_cases hil:k<l.length
  · rw[List.drop_eq_getElem_cons hil] at q6 q7
    simp only[okV,Bool.and_eq_true] at q6
    have hst:=stepV_true q6.1
    have hok2:=q6.2
    rw[matV,← List.append_assoc] at q7
    have w1:IntKind.i64.wrap ((k:Int)+1)=(k:Int)+1:=wrap_in (by omega) (by omega)
    generalize hg:l[k]=c at *
    have w2:IntKind.i64.wrap (c.old+c.oldLen)=c.old+c.oldLen:=wrap_in (by omega) (by omega)
    have w3:IntKind.i64.wrap (j+(c.old-i)+c.newLen)=j+(c.old-i)+c.newLen:=wrap_in (by omega) (by omega)
    have e3:j+(c.old-i)+c.newLen=c.new+c.newLen:=by omega
    have hb:=okV_bound _ _ _ _ _ _ hok2
    have w4:IntKind.i64.wrap (c.new+c.newLen)=c.new+c.newLen:=wrap_in (by omega) (by omega)
    have hps:paApp ps (c.old-i).toNat i j=ps++runN (c.old-i).toNat i j:=rfl
    rw[← hps] at q7
    clear hps
    generalize hps:paApp ps (c.old-i).toNat i j=ps2 at *
    simp[hil,getD_map,hg,eCallv,eRCall,h1,q2,q4,hst.2.2.2.2.2.2.1,show c.old≤100000 by omega,show j≤100000 by omega,show ps.length≤100000 by omega,w1,w2,w3,w4,hps,e3]
    exact Nxt.mk (⟨k+1,c.old+c.oldLen,c.new+c.newLen,ps2⟩:PsX) (by simp;omega) (by simp) (by simp) ⟨by simp;omega,by simp;omega,by simp;omega,by simp;omega,by simp;omega,by simpa using hok2,by simpa using q7⟩
  · have h9:k=l.length:=by omega
    subst h9
    rw[List.drop_length] at q6 q7
    simp only[okV,Bool.and_eq_true,decide_eq_true_eq] at q6
    rw[matV,show ps++runN (m-i).toNat i j=paApp ps (m-i).toNat i j from rfl] at q7
    simp[eCallv,eRCall,h1,q2,q4,q6.2,show m≤100000 by omega,show j≤100000 by omega,show ps.length≤100000 by omega,q7]
@[simp] def S_script_Check:List D→Prop × D:=spec3 (α:=List ChangeT) (β:=Int) (γ:=Int) (fun l m n=>checkV l m n=true) (fun _ _ _=>.int .i64 0)
theorem ct_script_Check {P:Program} {f g1:Nat} {G:Gam} (h:CodeOf P f 3 17 [3] (x_script_Check g1)) (hG:GamOk P G) (h1:G.find g1=some S_script_length):Has P f S_script_Check:=h.has3 hG fun l m n hp=>by
  have hcl:=check_clen hp
  have hok:=hp
  simp only[checkV,Bool.and_eq_true] at hok
  obtain⟨⟨b1,b2⟩,hok⟩:=hok
  have b1:=inV_true b1
  have b2:=inV_true b2
  simp[x_script_Check,h1,b1,b2]
  refine vc_lp (σ:=PsX) (fun x=>x.k≤l.length∧0≤x.i∧x.i≤8192∧0≤x.j∧x.j≤8192∧okV (l.drop x.k) x.i x.j (decide (x.k=0)) m n=true) (fun x=>l.length-x.k)
    (fun x=>[.d (Rep.to l),.d (.int .i64 m),.d (.int .i64 n),.any,.d (.int .i64 x.i),.d (.int .i64 x.j),.any,.any,.any,.any,.d (Rep.to l),.d (.int .i64 l.length),.d (.int .i64 x.k),.any,.any,.any,.any]) (fun _=>[])
    ⟨0,0,0,[]⟩ (by simp) (by simp) ⟨by simp,by simp,by simp,by simp,by simp,by simpa using hok⟩ ?_
  rintro⟨k,i,j,ps⟩ ⟨q1,q2,q3,q4,q5,q6⟩
  simp only at q1 q2 q3 q4 q5 q6
  by_cases hil:k<l.length
  · rw[List.drop_eq_getElem_cons hil] at q6
    simp only[okV,Bool.and_eq_true] at q6
    obtain⟨s1,s2,s3,s4,s5,s6,s7,s8⟩:=stepV_true q6.1
    have hok2:=q6.2
    have w1:IntKind.i64.wrap ((k:Int)+1)=(k:Int)+1:=wrap_in (by omega) (by omega)
    generalize hg:l[k]=c at *
    have w2:IntKind.i64.wrap (c.old+c.oldLen)=c.old+c.oldLen:=wrap_in (by omega) (by omega)
    have w3:IntKind.i64.wrap (c.new+c.newLen)=c.new+c.newLen:=wrap_in (by omega) (by omega)
    have w4:IntKind.i64.wrap (c.oldLen+c.newLen)=c.oldLen+c.newLen:=wrap_in (by omega) (by omega)
    have w5:IntKind.i64.wrap (c.old-i)=c.old-i:=wrap_in (by omega) (by omega)
    have w6:IntKind.i64.wrap (c.new-j)=c.new-j:=wrap_in (by omega) (by omega)
    have hmin:¬c.old-i<min (k:Int) 1:=by
      by_cases e:k=0
      · subst e;omega
      · have:=s8 (by simp[e]);omega
    have hmin2:¬c.new-j<min (k:Int) 1:=by omega
    simp[hil,getD_map,hg,h1,s1,s2,s3,s4,s5,s6,w1,w2,w3,w4,w5,w6,hmin,hmin2]
    exact Nxt.mk (⟨k+1,c.old+c.oldLen,c.new+c.newLen,ps⟩:PsX) (by simp;omega) (by simp) (by simp) ⟨by simp;omega,by simp;omega,by simp;omega,by simp;omega,by simp;omega,by simpa using hok2⟩
  · have h9:k=l.length:=by omega
    subst h9
    rw[List.drop_length] at q6
    simp only[okV,Bool.and_eq_true,decide_eq_true_eq] at q6
    have w5:IntKind.i64.wrap (m-i)=m-i:=wrap_in (by omega) (by omega)
    have w6:IntKind.i64.wrap (n-j)=n-j:=wrap_in (by omega) (by omega)
    simp[w5,w6,q6.1,show ¬m<i by omega]
@[simp] def S_script_Pairs:List D→Prop × D:=spec3 (α:=List ChangeT) (β:=Int) (γ:=Int) (fun l m n=>checkV l m n=true) (fun l m _=>.tup [Rep.to (matV l 0 0 m),.int .i64 0])
theorem ct_script_Pairs {P:Program} {f g1 g2:Nat} {G:Gam} (h:CodeOf P f 3 7 [3,4] (x_script_Pairs g1 g2)) (hG:GamOk P G) (h1:G.find g1=some S_script_Check) (h2:G.find g2=some S_script_pairs):Has P f S_script_Pairs:=h.has3 hG fun l m n hp=>by
  have p2:∃n,checkV l m n=true:=⟨n,hp⟩
  simp[x_script_Pairs,h1,h2,hp,p2]
/-! ### the partners of a range -/
theorem fillT_set {N i:Nat} (hil:i<N):(cntC (List.replicate i (-1)++List.replicate (N-i) 0)).set i (.d (.int .i64 (-1)))=cntC (List.replicate (i+1) (-1)++List.replicate (N-(i+1)) 0):=by
  rw[cntC_set]
  congr 1
  refine getD_ext (by simp;omega) fun k hk=>?_
  simp at hk
  by_cases e:i=k
  · subst e
    simp[List.getD,List.getElem?_append,hil,show i<i+(N-i) by omega]
  · simp only[List.getD,List.getElem?_set_ne e]
    by_cases e2:k<i
    · simp[List.getElem?_append,e2,show k<i+1 by omega]
    · simp[List.getElem?_append,e2,show ¬k<i+1 by omega,List.getElem?_replicate,show k-i<N-i by omega,show k-(i+1)<N-(i+1) by omega]
theorem fillT_len {N i:Nat} (hi:i≤N):(cntC (List.replicate i (-1)++List.replicate (N-i) 0)).length=N:=by rw[cntC_len];simp;omega
@[simp] def S_track_partners:List D→Prop × D:=spec4 (α:=List ChangeT) (β:=Int) (γ:=Int) (δ:=SpanT) (fun l m n s=>TrkOk l m n s) (fun l m _ s=>.tup [Rep.to (trkV (matV l 0 0 m) s),.int .i64 0])
theorem ct_track_partners {P:Program} {f g1:Nat} {G:Gam} (h:CodeOf P f 4 22 [5,6] (x_track_partners g1)) (hG:GamOk P G) (h1:G.find g1=some S_script_Pairs):Has P f S_track_partners:=h.has4 hG fun l m n s hp=>by
  have hl:=hp.len
  have h3:=hp.ok
  have h4:=hp.s0
  have h5:=hp.s1
  have h6:=hp.s2
  have hasc:=check_asc h3
  have hpw:=asc_pair _ _ _ _ _ hasc.2.2.1
  have hrg:=asc_mem _ _ _ _ _ hasc.2.2.1
  have hpl:=hasc.2.2.2
  obtain⟨N,hN⟩:∃N:Nat,N=(s.to-s.fr).toNat:=⟨_,rfl⟩
  have hNN:s.to-s.fr=(N:Int):=by omega
  have hk0:=trkK_zero (matV l 0 0 m) s
  have hka:=trkK_all (matV l 0 0 m) s
  have hkl:=trkK_len (matV l 0 0 m) s
  have hks:=fun k (h:k<(matV l 0 0 m).length)=>trkK_succ (s:=s) hpw h
  rw[← hN] at hk0 hkl
  obtain⟨fr,to⟩:=s
  simp only at h4 h5 h6 hN hNN hks
  have w0:IntKind.i64.wrap (to-fr)=(N:Int):=by rw[wrap_in (by omega) (by omega)];exact hNN
  simp[x_track_partners,h1,h3,show ¬fr<0 by omega,show ¬to≤fr by omega,show ¬n<to by omega,w0]
  generalize matV l 0 0 m=p at *
  refine⟨by unfold room;omega,?_⟩
  refine vc_lp (σ:=Nat) (fun i=>i≤N) (fun i=>N-i)
    (fun i=>[.d (Rep.to l),.d (.int .i64 m),.d (.int .i64 n),.any,.ref 0 0 0 0,.any,.any,.d (Rep.to p),.any,.own 1 0 0 N,.any,.any,.any,.any,.d (.int .i64 N),.d (.int .i64 i),.any,.any,.any,.any,.any,.any])
    (fun i=>[.cells 0 2 [.d (.agg [.int .i64 fr,.int .i64 to])],.cells 0 1 (cntC (List.replicate i (-1)++List.replicate (N-i) 0))]) 0 (by simp) (by simp[cntC]) (by simp) ?_
  intro i hi
  by_cases hil:i<N
  · have w1:IntKind.i64.wrap ((i:Int)+1)=(i:Int)+1:=wrap_in (by omega) (by omega)
    have hset:=fillT_set hil
    have hbl:=fillT_len hi
    generalize cntC (List.replicate i (-1)++List.replicate (N-i) 0)=bc at *
    simp[hil,hbl,hset,w1]
    exact Nxt.mk (i+1) (by omega) (by simp) (by simp) (by omega)
  · have h9:i=N:=by omega
    rw[h9]
    clear hi hil h9 i
    simp only[Nat.sub_self,List.replicate_zero,List.append_nil]
    rw[← hk0]
    simp
    refine vc_lp (σ:=Nat) (fun k=>k≤p.length) (fun k=>p.length-k)
      (fun k=>[.d (Rep.to l),.d (.int .i64 m),.d (.int .i64 n),.any,.ref 0 0 0 0,.any,.any,.any,.any,.own 1 0 0 N,.any,.any,.any,.any,.any,.any,.any,.d (Rep.to p),.d (.int .i64 p.length),.d (.int .i64 k),.any,.any])
      (fun k=>[.cells 0 2 [.d (.agg [.int .i64 fr,.int .i64 to])],.cells 0 1 (cntC (trkK p ⟨fr,to⟩ k))]) 0 (by simp) (by simp) (by simp) ?_
    intro k hk
    have hkl':=hkl k
    have hbl:=cntC_len (trkK p ⟨fr,to⟩ k)
    rw[hkl'] at hbl
    by_cases hkp:k<p.length
    · have w1:IntKind.i64.wrap ((k:Int)+1)=(k:Int)+1:=wrap_in (by omega) (by omega)
      have hs:=hks k hkp
      have hr:=hrg _ (List.getElem_mem hkp)
      have hset:=cntC_set (trkK p ⟨fr,to⟩ k) (p[k].to-fr).toNat p[k].fr
      generalize hg:p[k]=x at *
      by_cases c1:fr≤x.to
      · by_cases c2:x.to<to
        · rw[if_pos ⟨c1,c2⟩] at hs
          have w2:IntKind.i64.wrap (x.to-fr)=x.to-fr:=wrap_in (by omega) (by omega)
          rw[← hs] at hset
          generalize hbc:cntC (trkK p ⟨fr,to⟩ k)=bc at *
          simp[hkp,getD_map,hg,c1,c2,w1,w2,hbl,hset,show x.to-fr<(N:Int) by omega]
          exact Nxt.mk (k+1) (by omega) (by simp) (by simp) (by omega)
        · rw[if_neg (fun h=>c2 h.2)] at hs
          simp[hkp,getD_map,hg,c1,c2,w1]
          exact Nxt.mk (k+1) (by omega) (by simp) (by simp[hs]) (by omega)
      · rw[if_neg (fun h=>c1 h.1)] at hs
        simp[hkp,getD_map,hg,c1,w1]
        exact Nxt.mk (k+1) (by omega) (by simp) (by simp[hs]) (by omega)
    · have h9:k=p.length:=by omega
      subst h9
      rw[hka] at hkl'
      have hb:=bor_ints [.cells 0 2 [.d (.agg [.int .i64 fr,.int .i64 to])],.cells 0 1 (cntC (trkV p ⟨fr,to⟩))] 1 0 (trkV p ⟨fr,to⟩) rfl
      rw[hkl'] at hb
      simp[hka,hb]
@[simp] def S_track_Back:List D→Prop × D:=spec4 (α:=List ChangeT) (β:=Int) (γ:=Int) (δ:=SpanT) (fun l m n s=>TrkOk l m n s) (fun l m _ s=>backD (backP (matV l 0 0 m) s))
theorem ct_track_Back {P:Program} {f g1 g2:Nat} {G:Gam} (h:CodeOf P f 4 19 [22005,6,7] (x_track_Back g1 g2)) (hG:GamOk P G) (h1:G.find g1=some S_track_partners) (h2:G.find g2=some S_track_Hull):Has P f S_track_Back:=h.has4 hG fun l m n s hp=>by
  have h3:=hp.ok
  have h4:=hp.s0
  have h5:=hp.s1
  have h6:=hp.s2
  have hl:=hp.len
  have hasc:=check_asc h3
  have hap:=asc_P _ _ _ _ _ (by omega) hasc.2.2.1
  have hr:=partL_rng h3
  have hvl:=trkV_len (matV l 0 0 m) s
  have hvg:=fun k (h:k<(trkV (matV l 0 0 m) s).length)=>trkV_get h
  have hb:backP (matV l 0 0 m) s=backN (matV l 0 0 m) s.fr (s.to-s.fr).toNat:=rfl
  rw[hb]
  simp[x_track_Back,h1,hp]
  generalize hp':matV l 0 0 m=p at *
  generalize hv:trkV p s=v at *
  rw[← hvl]
  refine vc_lp (σ:=Nat) (fun i=>i≤v.length) (fun i=>v.length-i)
    (fun i=>[.d (Rep.to l),.d (.int .i64 m),.d (.int .i64 n),.any,.ref 0 0 0 0,.ref 1 0 0 0,.any,.any,.any,.any,.ref 2 0 0 0,.d (.bool (backN p s.fr i).isSome),.any,.any,.d (Rep.to v),.d (.int .i64 v.length),.d (.int .i64 i),.any,.any])
    (fun i=>[.cells 0 2 [.d (.agg [.int .i64 s.fr,.int .i64 s.to])],.cells 0 2 [.d (.agg [.int .i64 0,.int .i64 0])],.cells 0 2 [.d (.agg [.int .i64 ((backN p s.fr i).getD ⟨0,0⟩).fr,.int .i64 ((backN p s.fr i).getD ⟨0,0⟩).to])]]) 0 (by simp[backN]) (by simp[backN]) (by simp) ?_
  intro i hi
  by_cases hil:i<v.length
  · have hri:=hr (s.fr+i)
    have hvi:=hvg i hil
    have w1:IntKind.i64.wrap ((i:Int)+1)=(i:Int)+1:=wrap_in (by omega) (by omega)
    have w2:IntKind.i64.wrap (partL p (s.fr+i)+1)=partL p (s.fr+i)+1:=wrap_in (by omega) (by omega)
    by_cases e:partL p (s.fr+i)<0
    · have hs:backN p s.fr (i+1)=backN p s.fr i:=by rw[backN,if_pos e]
      simp[hil,getD_map,hvi,e,show ¬0≤partL p (s.fr+i) by omega,w1]
      exact Nxt.mk (i+1) (by omega) (by simp[hs]) (by simp[hs]) (by omega)
    · have hs:=backN_hull hap s.fr i e
      simp[hil,getD_map,hvi,e,show 0≤partL p (s.fr+i) by omega,w1,w2,h2]
      exact Nxt.mk (i+1) (by omega) (by simp[hs]) (by simp[hs]) (by omega)
  · have h9:i=v.length:=by omega
    subst h9
    simp[backD]
@[simp] def S_track_Touches:List D→Prop × D:=spec4 (α:=List ChangeT) (β:=Int) (γ:=Int) (δ:=SpanT) (fun l m n s=>TrkOk l m n s) (fun l m _ s=>.tup [.bool (touchP (matV l 0 0 m) s),.int .i64 0])
theorem ct_track_Touches {P:Program} {f g1:Nat} {G:Gam} (h:CodeOf P f 4 17 [5,6] (x_track_Touches g1)) (hG:GamOk P G) (h1:G.find g1=some S_track_partners):Has P f S_track_Touches:=h.has4 hG fun l m n s hp=>by
  have h3:=hp.ok
  have h4:=hp.s0
  have h5:=hp.s1
  have h6:=hp.s2
  have hl:=hp.len
  have hr:=partL_rng h3
  have hvl:=trkV_len (matV l 0 0 m) s
  have hvg:=fun k (h:k<(trkV (matV l 0 0 m) s).length)=>trkV_get h
  have hb:touchP (matV l 0 0 m) s=touchK (matV l 0 0 m) s.fr (s.to-s.fr).toNat:=rfl
  rw[hb]
  simp[x_track_Touches,h1,hp]
  generalize hp':matV l 0 0 m=p at *
  generalize hv:trkV p s=v at *
  rw[← hvl]
  refine vc_lp (σ:=Nat) (fun i=>i≤v.length∧touchK p s.fr i=false) (fun i=>v.length-i)
    (fun i=>[.d (Rep.to l),.d (.int .i64 m),.d (.int .i64 n),.any,.ref 0 0 0 0,.any,.any,.d (Rep.to v),.any,.any,.any,.any,.d (Rep.to v),.d (.int .i64 v.length),.d (.int .i64 i),.any,.any])
    (fun i=>[.cells 0 2 [.d (.agg [.int .i64 s.fr,.int .i64 s.to])]]) 0 (by simp) (by simp) ⟨by simp,touchK_zero _ _⟩ ?_
  rintro i ⟨hi,ht⟩
  by_cases hil:i<v.length
  · have hri:=hr (s.fr+i)
    have hri2:=hr (s.fr+i-1)
    have hvi:=hvg i hil
    have hits:=@touchK_hit p s.fr i v.length hil
    have hsucc:=touchK_succ p s.fr i
    have w1:IntKind.i64.wrap ((i:Int)+1)=(i:Int)+1:=wrap_in (by omega) (by omega)
    by_cases e:partL p (s.fr+i)<0
    · simp[hil,getD_map,hvi,e,hits (.inl e)]
    · by_cases e0:0<i
      · have hvj:=hvg (i-1) (by omega)
        rw[show s.fr+((i-1:Nat):Int)=s.fr+i-1 by omega] at hvj
        have w2:IntKind.i64.wrap (partL p (s.fr+i-1)+1)=partL p (s.fr+i-1)+1:=wrap_in (by omega) (by omega)
        have w3:IntKind.i64.wrap ((i:Int)-1)=((i-1:Nat):Int):=by rw[wrap_in (by omega) (by omega)];omega
        by_cases e2:partL p (s.fr+i)=partL p (s.fr+i-1)+1
        · have hv2:touchK p s.fr (i+1)=false:=by rw[hsucc,ht];simp[e,e2];omega
          have e':¬partL p (s.fr+i-1)+1<0:=by omega
          simp[hil,getD_map,hvi,hvj,e',e0,e2,w1,w2,w3,show i-1<v.length by omega]
          exact Nxt.mk (i+1) (by omega) (by simp) (by simp) ⟨by omega,hv2⟩
        · simp[hil,getD_map,hvi,hvj,e,e0,e2,w2,w3,show i-1<v.length by omega,hits (.inr ⟨e0,e2⟩)]
      · have hz:i=0:=by omega
        subst hz
        have hv2:touchK p s.fr (0+1)=false:=by rw[hsucc,ht];simp;simpa using e
        have hvi':v[0]=partL p s.fr:=by simpa using hvi
        have e':¬partL p s.fr<0:=by simpa using e
        have w1':IntKind.i64.wrap 1=1:=wrap_in (by omega) (by omega)
        clear hvi hvg
        simp[hil,getD_map,hvi',e',w1']
        exact Nxt.mk 1 (by omega) (by simp) (by simp) ⟨by omega,hv2⟩
  · have h9:i=v.length:=by omega
    subst h9
    simp[ht]
theorem ids_pair (a b:Str):∃i0 i1,idsV [linesV a,linesV b]=[i0,i1]∧i0.length=(linesV a).length∧i1.length=(linesV b).length∧scriptV i0 i1=scr a b :=
  ⟨(ids2 a b).getD 0 [],(ids2 a b).getD 1 [],rfl,ids2_l0 a b,ids2_l1 a b,rfl⟩
theorem small_pair {a b:Str} (ha:checkT a=0) (hb:checkT b=0):smallL [linesV a,linesV b]:=by
  have:=checkT_lines ha
  have:=checkT_lines hb
  refine⟨by simp,?_⟩
  simp
  omega
@[simp] def S_annotate_partners:List D→Prop × D:=spec2 (α:=Str) (β:=Str) (fun a b=>checkT a=0∧checkT b=0) (fun a b=>Rep.to (partsV a b))
theorem ct_annotate_partners {P:Program} {f g1 g2 g3 g4:Nat} {G:Gam} (h:CodeOf P f 2 18 [2] (x_annotate_partners g1 g2 g3 g4)) (hG:GamOk P G) (h1:G.find g1=some S_text_Split) (h2:G.find g2=some S_intern_Ids) (h3:G.find g3=some S_shortest_Script) (h4:G.find g4=some S_script_Pairs):Has P f S_annotate_partners:=h.has2 hG fun a b hp=>by
  obtain⟨ca,cb⟩:=hp
  have la:=check_len ca
  have lb:=check_len cb
  have na:=checkT_lines ca
  have nb:=checkT_lines cb
  have hsm:=small_pair ca cb
  obtain⟨i0,i1,hid,n0,n1,hsc⟩:=ids_pair a b
  obtain⟨hck,hmat⟩:=scr_ok ca cb
  have hnl:¬longV i0 i1:=by unfold longV;omega
  have hasc:=pairs_asc a b
  have hrg:=asc_mem _ _ _ _ _ hasc
  have hplen:(pairsS a b).length≤4096:=by have:=check_asc hck;rw[hmat] at this;exact this.2.2.2
  have hk0:partsK a b 0=List.replicate (linesV b).length (-1):=by
    unfold partsK
    apply List.ext_getElem
    · simp
    · intro i h1 h2
      simp[partL]
  have hka:=partsK_all a b
  have hkl:=partsK_len a b
  have hks:=fun k (h:k<(pairsS a b).length)=>partsK_succ h
  simp[x_annotate_partners,h1,splitD_ok ca,splitD_ok cb,show a.length≤4194304 by omega,show b.length≤4194304 by omega,h2,hsm,hid,h3,n0,n1,show (linesV a).length≤1048576 by omega,show (linesV b).length≤1048576 by omega,hnl,hsc,h4,hck,hmat]
  generalize hN:(linesV b).length=N at *
  generalize pairsS a b=p at *
  generalize linesV a=x at *
  generalize linesV b=y at *
  refine⟨by unfold room;omega,?_⟩
  refine vc_lp (σ:=Nat) (fun i=>i≤N) (fun i=>N-i)
    (fun i=>[.d (.str a),.d (.str b),.any,.any,.any,.any,.any,.d (Rep.to p),.own 0 0 0 N,.any,.any,.d (.int .i64 N),.d (.int .i64 i),.any,.any,.any,.any,.any])
    (fun i=>[.cells 0 1 (cntC (List.replicate i (-1)++List.replicate (N-i) 0))]) 0 (by simp) (by simp[cntC]) (by simp) ?_
  intro i hi
  by_cases hil:i<N
  · have w1:IntKind.i64.wrap ((i:Int)+1)=(i:Int)+1:=wrap_in (by omega) (by omega)
    have hset:=fillT_set hil
    have hbl:=fillT_len hi
    generalize cntC (List.replicate i (-1)++List.replicate (N-i) 0)=bc at *
    simp[hil,hbl,hset,w1]
    exact Nxt.mk (i+1) (by omega) (by simp) (by simp) (by omega)
  · have h9:i=N:=by omega
    rw[h9]
    clear hi hil h9 i
    simp only[Nat.sub_self,List.replicate_zero,List.append_nil]
    rw[← hk0]
    simp
    refine vc_lp (σ:=Nat) (fun k=>k≤p.length) (fun k=>p.length-k)
      (fun k=>[.d (.str a),.d (.str b),.any,.any,.any,.any,.any,.any,.own 0 0 0 N,.any,.any,.any,.any,.any,.d (Rep.to p),.d (.int .i64 p.length),.d (.int .i64 k),.any])
      (fun k=>[.cells 0 1 (cntC (partsK a b k))]) 0 (by simp) (by simp) (by simp) ?_
    intro k hk
    have hkl':=hkl k
    have hbl:=cntC_len (partsK a b k)
    rw[hkl'] at hbl
    by_cases hkp:k<p.length
    · have w1:IntKind.i64.wrap ((k:Int)+1)=(k:Int)+1:=wrap_in (by omega) (by omega)
      have hs:=hks k hkp
      have hr:=hrg _ (List.getElem_mem hkp)
      have hset:=cntC_set (partsK a b k) p[k].to.toNat p[k].fr
      rw[← hs] at hset
      generalize hg:p[k]=q at *
      generalize hbc:cntC (partsK a b k)=bc at *
      simp[hkp,getD_map,hg,w1,hbl,hset,hr]
      exact Nxt.mk (k+1) (by omega) (by simp) (by simp) (by omega)
    · have h9:k=p.length:=by omega
      subst h9
      rw[hka] at hkl'
      have hb:=bor_ints [.cells 0 1 (cntC (partsV a b))] 0 0 (partsV a b) rfl
      rw[hkl'] at hb
      simp[hka,hb]
/-! ### the sources of a commit -/
def srcTab (g:List CommitT) (path:Str) (ks:List Nat):List (D × D):=ks.map fun (c:Nat)=>((D.int .i64 (c:Int)),Rep.to (srcV g path c))
def addK (ks:List Nat) (c:Nat):List Nat:=if c∈ks then ks else ks++[c]
def Ob.mkeys:Ob→List Nat
  | .map es=>es.map fun e=>match e.1 with | .int _ n=>n.toNat | _=>0
  | _=>[]
@[simp] theorem mkeys_src (g:List CommitT) (path:Str) (ks:List Nat):Ob.mkeys (.map (srcTab g path ks))=ks:=by
  simp only[Ob.mkeys,srcTab,List.map_map]
  rw[List.map_congr_left (g:=id)]
  · simp
  · intro c _;simp
theorem mlook_src (g:List CommitT) (path:Str) (c:Nat):∀ks:List Nat,mlook (.int .i64 c) (srcTab g path ks)=if c∈ks then some (Rep.to (srcV g path c)) else none
  | []=>rfl
  | k::ks=>by
    have ih:=mlook_src g path c ks
    unfold srcTab at ih ⊢
    rw[List.map_cons,mlook]
    by_cases e:c=k
    · subst e;simp[keyEq]
    · have:¬(c:Int)=(k:Int):=by omega
      simp only[keyEq,decide_eq_true_eq,this,if_false,ih,List.mem_cons,e,false_or]
theorem mset_src {g:List CommitT} {path:Str} {c:Nat} (v:D):∀ks:List Nat,c ∉ ks→mset (.int .i64 c) v (srcTab g path ks)=srcTab g path ks++[(.int .i64 c,v)]
  | [],_=>rfl
  | k::ks,h=>by
    simp only[List.mem_cons,not_or] at h
    have ih:=mset_src (g:=g) (path:=path) v ks h.2
    have:¬(c:Int)=(k:Int):=by omega
    unfold srcTab at ih ⊢
    rw[List.map_cons,mset,if_neg (by simp[keyEq,this]),ih]
    rfl
theorem srcTab_app (g:List CommitT) (path:Str) (ks:List Nat) (c:Nat):srcTab g path ks++[(.int .i64 c,Rep.to (srcV g path c))]=srcTab g path (ks++[c]):=by simp[srcTab]
theorem keys_src (g:List CommitT) (path:Str) (c:Nat) (ks:List Nat):keysOk 0 (.int .i64 c) (srcTab g path ks):=by
  refine⟨rfl,?_⟩
  intro e he
  unfold srcTab at he
  rw[List.mem_map] at he
  obtain⟨k,_,rfl⟩:=he
  exact⟨rfl,rfl⟩
structure SoX where
  g:List CommitT
  path:Str
  ks:List Nat
  c:Nat
@[simp] def soS (g:List CommitT) (path:Str) (ks:List Nat):Store:=[.cells 0 3 [.agg [.d (Rep.to g),.d (.str path),.mp 1]],.map (srcTab g path ks)]
@[simp] def F_annotate_finder_sources:RF SoX where
  new:=0
  view a s:=⟨((s.getD 0 .dead).at 0 0).gl CommitT,((s.getD 0 .dead).at 0 1).gs,(s.getD 1 .dead).mkeys,(a.getD 1 .any).gi.toNat⟩
  args x:=[.ref 0 0 0 0,.d (.int .i64 x.c)]
  st x:=soS x.g x.path x.ks
  pre x:=GV x.g∧x.c<x.g.length
  res x:=.d (Rep.to (srcV x.g x.path x.c))
  st' x:=soS x.g x.path (addK x.ks x.c)
abbrev R_annotate_finder_sources:RSpec:=F_annotate_finder_sources.spec
theorem srcL_len (g:List CommitT) (path now:Str):∀ps,(srcL g path now ps).length≤ps.length
  | []=>Nat.le_refl _
  | p::ps=>by
    have:=srcL_len g path now ps
    rw[srcL]
    split
    · simp;omega
    · simp;omega
theorem ct_annotate_finder_sources {P:Program} {f g1 g2:Nat} {G:Gam} (hc:CodeOf P f 2 16 [2] (x_annotate_finder_sources g1 g2)) (hG:GamOk P G) (h1:G.find g1=some S_tree_Find) (h2:G.find g2=some S_annotate_partners):RSpec.Ok P f R_annotate_finder_sources:=by
  refine RF.ok hc.call fun x hx=>hc.rcalls hG rfl ?_
  obtain⟨g,path,ks,c⟩:=x
  obtain⟨hg,hcl⟩:=hx
  simp only at hg hcl
  have hkey:=keys_src g path c ks
  have hlook:=mlook_src g path c ks
  by_cases hk:c∈ks
  · rw[if_pos hk] at hlook
    simp only[F_annotate_finder_sources,soS,addK,if_pos hk]
    generalize srcTab g path ks=tab at *
    simp[x_annotate_finder_sources,startA,hkey,hlook]
    exact FinR.done (by simp) (by simp) rfl (by simp[resOf,resE]) (by simp) (by simp)
  · rw[if_neg hk] at hlook
    have hset:=fun v=>mset_src (g:=g) (path:=path) (c:=c) v ks hk
    have happ:=srcTab_app g path ks c
    simp only[F_annotate_finder_sources,soS,addK,if_neg hk]
    have hgl:=hg.ok.1
    have hfl:=(hg.files _ (List.getElem_mem hcl)).1
    have hpl:=hg.par _ (List.getElem_mem hcl)
    have hrg:=hg.prng hcl
    have hnow:blobF g[c].files path=blobG g path c:=by unfold blobG;simp[List.getD,hcl]
    have hbc:=hg.blob hcl path
    have hsv:srcV g path c=srcL g path (blobG g path c) g[c].parents:=by unfold srcV;simp[List.getD,hcl]
    rw[hsv] at happ
    rw[hsv,← happ]
    clear happ hsv
    generalize srcTab g path ks=tab at *
    generalize hnw:blobG g path c=now at *
    generalize hps:g[c].parents=ps at *
    simp[x_annotate_finder_sources,startA,hkey,hlook,hcl,getD_map,h1,show g[c].files.length≤9223372036854775807 by omega,hps,hnow]
    refine vc_lp (σ:=Nat) (fun i=>i≤ps.length) (fun i=>ps.length-i)
      (fun i=>[.ref 0 0 0 0,.d (.int .i64 c),.any,.any,.any,.d (.str now),.gr 2 2 ((srcL g path now (ps.take i)).map Rep.to),.any,.any,.any,.any,.d (Rep.to ps),.d (.int .i64 ps.length),.d (.int .i64 i),.any,.any])
      (fun i=>[.cells 0 3 [.agg [.d (Rep.to g),.d (.str path),.mp 1]],.map tab,.tip (srcL g path now (ps.take i)).length]) 0 (by simp[srcL]) (by simp[srcL]) (by simp) ?_
    intro i hi
    by_cases hil:i<ps.length
    · have w1:IntKind.i64.wrap ((i:Int)+1)=(i:Int)+1:=wrap_in (by omega) (by omega)
      obtain⟨r1,r2⟩:=hrg _ (List.getElem_mem hil)
      obtain⟨q,hq⟩:=Int.eq_ofNat_of_zero_le r1
      have hql:q<g.length:=by omega
      have hqf:=(hg.files _ (List.getElem_mem hql)).1
      have hqb:=hg.blob hql path
      have e1:blobF g[q].files path=blobG g path q:=by unfold blobG;simp[List.getD,hql]
      have e2:inB g[q].files path=hasF g path q:=by unfold hasF;simp[List.getD,hql]
      have hs:srcL g path now (ps.take (i+1))=srcL g path now (ps.take i)++(if hasF g path q=true then [⟨(q:Int),partsV (blobG g path q) now⟩] else []):=by
        rw[List.take_succ_eq_append_getElem hil,srcL_app,srcL,hq,srcL]
        rfl
      have hsl:=srcL_len g path now (ps.take i)
      have:(ps.take i).length≤32:=by simp;omega
      generalize srcL g path now (ps.take i)=out at *
      cases hf:hasF g path q with
      | true =>
        rw[if_pos hf] at hs
        simp[hil,getD_map,hq,hql,h1,h2,show g[q].files.length≤9223372036854775807 by omega,e1,e2,hf,hqb,hbc,w1]
        exact⟨by unfold room;omega,Nxt.mk (i+1) (by omega) (by simp[hs]) (by simp[hs]) (by omega)⟩
      | false =>
        rw[if_neg (by rw[hf];simp)] at hs
        simp[hil,getD_map,hq,hql,h1,show g[q].files.length≤9223372036854775807 by omega,e1,e2,hf,w1]
        exact Nxt.mk (i+1) (by omega) (by simp[hs]) (by simp[hs]) (by omega)
    · have h9:i=ps.length:=by omega
      subst h9
      rw[List.take_length]
      generalize srcL g path now ps=out at *
      simp
      refine Hint.of (T':=[.ref 0 0 0 0,.d (.int .i64 c),.any,.any,.any,.any,.d (Rep.to out),.any,.any,.any,.any,.any,.any,.any,.any,.any]) (s':=[.cells 0 3 [.agg [.d (Rep.to g),.d (.str path),.mp 1]],.map tab]) (Sub.re ⟨by simp,by simp,by simp,.inr ⟨by simp,by simp⟩⟩) ?_
      simp[hkey,hset]
      exact FinR.done (by simp) (by simp) rfl (by simp[resOf,resE]) (by simp) (by simp)
/-! ### where a line comes from -/
structure StX where
  g:List CommitT
  path:Str
  ks:List Nat
  at_:OriginT
def origO (o:Option OriginT):OriginT:=o.getD ⟨0,0⟩
def origA (o:Option OriginT):A:=.agg [.d (.int .i64 (origO o).commit),.d (.int .i64 (origO o).line)]
@[simp] def F_annotate_finder_step:RF StX where
  new:=0
  view a s:=⟨((s.getD 0 .dead).at 0 0).gl CommitT,((s.getD 0 .dead).at 0 1).gs,(s.getD 1 .dead).mkeys,⟨((a.getD 1 .any).cells.getD 0 .any).gi,((a.getD 1 .any).cells.getD 1 .any).gi⟩⟩
  args x:=[.ref 0 0 0 0,.agg [.d (.int .i64 x.at_.commit),.d (.int .i64 x.at_.line)]]
  st x:=soS x.g x.path x.ks
  pre x:=GV x.g∧GoodO x.g x.path x.at_
  res x:=.tup [origA (fromV x.g x.path x.at_.commit.toNat x.at_.line),.d (.bool (fromV x.g x.path x.at_.commit.toNat x.at_.line).isSome)]
  st' x:=soS x.g x.path (addK x.ks x.at_.commit.toNat)
abbrev R_annotate_finder_step:RSpec:=F_annotate_finder_step.spec
theorem src_mem {g:List CommitT} {path now:Str}:∀{ps:List Int} {s:SrcT},s∈srcL g path now ps→∃a,s.lines=partsV a now
  | [],s,h=>by cases h
  | p::ps,s,h=>by
    rw[srcL] at h
    split at h
    · rcases List.mem_cons.1 h with rfl | h
      · exact⟨_,rfl⟩
      · exact src_mem h
    · exact src_mem h
theorem ct_annotate_finder_step {P:Program} {f g1:Nat} {G:Gam} (hc:CodeOf P f 2 12 [22003,4] (x_annotate_finder_step g1)) (hG:GamOk P G) (h1:G.findR g1=some R_annotate_finder_sources):RSpec.Ok P f R_annotate_finder_step:=by
  refine RF.ok hc.call fun x hx=>hc.rcalls hG rfl ?_
  obtain⟨g,path,ks,⟨ci,li⟩⟩:=x
  obtain⟨hg,ho⟩:=hx
  simp only at hg ho
  have hoc:=ho.c
  have hol:=ho.l
  obtain⟨c,hcc⟩:=Int.eq_ofNat_of_zero_le hoc.1
  obtain⟨j,hjj⟩:=Int.eq_ofNat_of_zero_le hol.1
  simp only at hcc hjj hoc hol
  subst hcc
  subst hjj
  simp only[Int.toNat_natCast] at hol
  have hcl:c<g.length:=by omega
  have hsv:srcV g path c=srcL g path (blobG g path c) g[c].parents:=by unfold srcV;simp[List.getD,hcl]
  have hfv:fromV g path c j=fromL g path (blobG g path c) g[c].parents j:=by unfold fromV;simp[List.getD,hcl]
  have hjn:j<(linesV (blobG g path c)).length:=by omega
  have hsf:=step_from (g:=g) (path:=path) hjn g[c].parents
  rw[← hfv,← hsv] at hsf
  have hsl:(srcV g path c).length≤32:=by
    rw[hsv]
    have:=srcL_len g path (blobG g path c) g[c].parents
    have:=hg.par _ (List.getElem_mem hcl)
    omega
  have hln:∀s,s∈srcV g path c→j<s.lines.length:=fun s hs=>by
    rw[hsv] at hs
    obtain⟨a,ha⟩:=src_mem hs
    rw[ha]
    simp[partsV]
    omega
  simp only[F_annotate_finder_step,Int.toNat_natCast]
  rw[← hsf]
  clear hsf hfv
  simp[x_annotate_finder_step,startA,eRCall,h1,hg,hcl]
  generalize hss:srcV g path c=src at *
  generalize htab:srcTab g path (addK ks c)=tab at *
  clear hsv hss
  refine vc_lp (σ:=Nat) (fun i=>i≤src.length∧stepS (src.drop i) j=stepS src j) (fun i=>src.length-i)
    (fun i=>[.ref 0 0 0 0,.any,.ref 2 0 0 0,.ref 3 0 0 0,.any,.any,.any,.d (Rep.to src),.d (.int .i64 src.length),.d (.int .i64 i),.any,.any])
    (fun i=>[.cells 0 3 [.agg [.d (Rep.to g),.d (.str path),.mp 1]],.map tab,.cells 0 2 [.agg [.d (.int .i64 c),.d (.int .i64 j)]],.cells 0 2 [.d (.agg [.int .i64 0,.int .i64 0])]]) 0 (by simp) (by simp) (by simp) ?_
  rintro i ⟨hi,hst⟩
  by_cases hil:i<src.length
  · have w1:IntKind.i64.wrap ((i:Int)+1)=(i:Int)+1:=wrap_in (by omega) (by omega)
    rw[List.drop_eq_getElem_cons hil,stepS] at hst
    have hl:=hln _ (List.getElem_mem hil)
    generalize hgi:src[i]=s at *
    have e0:s.lines.getD j (-1)=s.lines[j]:=by simp[List.getD,hl]
    rw[e0] at hst
    by_cases e:0≤s.lines[j]
    · rw[if_pos e] at hst
      rw[← hst]
      simp[hil,getD_map,hgi,hl,e]
      exact FinR.done (by simp) (by simp) rfl (by simp[resOf,resE,origO,origA]) (by simp) (by simp[origA])
    · rw[if_neg e] at hst
      simp[hil,getD_map,hgi,hl,e,w1]
      exact Nxt.mk (i+1) (by omega) (by simp) (by simp) ⟨by omega,hst⟩
  · have h9:i=src.length:=by omega
    subst h9
    rw[List.drop_length,stepS] at hst
    rw[← hst]
    simp
    exact FinR.done (by simp) (by simp) rfl (by simp[resOf,resE,origO,origA]) (by simp) (by simp[origA])
def begE (g:List CommitT) (c:Int) (path:Str):Int:=if dagC g=0 then (if 0≤c∧c<(g.length:Int)∧hasF g path c.toNat=true then 0 else 5) else dagC g
def fileN (g:List CommitT) (c:Int) (path:Str):Nat:=(linesV (blobG g path c.toNat)).length
theorem begE_ok {g:List CommitT} {c:Int} {path:Str} (h:begE g c path=0):dagC g=0∧0≤c∧c<(g.length:Int)∧hasF g path c.toNat=true:=by
  unfold begE at h
  split at h
  · rename_i h1
    split at h
    · rename_i h2;exact⟨h1,h2⟩
    · cases h
  · rename_i h1;exact (h1 h).elim
structure BgX where
  g:List CommitT
  c:Int
  path:Str
@[simp] def F_annotate_begin:RF BgX where
  new:=2
  view a _:=⟨(a.getD 0 .any).gl CommitT,(a.getD 1 .any).gi,(a.getD 2 .any).gs⟩
  args x:=[.d (Rep.to x.g),.d (.int .i64 x.c),.d (.str x.path)]
  st _:=[.res,.res]
  pre x:=GraphOk x.g
  res x:=if begE x.g x.c x.path=0 then .tup [.ref 0 0 0 0,.d (.int .i64 (fileN x.g x.c x.path)),.d (.int .i64 0)] else .tup [.d .nilp,.d (.int .i64 0),.d (.int .i64 (begE x.g x.c x.path))]
  st' x:=if begE x.g x.c x.path=0 then soS x.g x.path [] else [.res,.res]
abbrev R_annotate_begin:RSpec:=F_annotate_begin.spec
theorem ct_annotate_begin {P:Program} {f g1 g2 g3 g4:Nat} {G:Gam} (hc:CodeOf P f 3 13 [3,4,5] (x_annotate_begin g1 g2 g3 g4)) (hG:GamOk P G) (h1:G.find g1=some S_dag_Check) (h2:G.find g2=some S_dag_Is) (h3:G.find g3=some S_tree_Find) (h4:G.find g4=some S_text_Split):RSpec.Ok P f R_annotate_begin:=by
  refine RF.ok hc.call fun x hx=>hc.rcalls hG rfl ?_
  obtain⟨g,c,path⟩:=x
  have hok:GraphOk g:=hx
  simp only[F_annotate_begin]
  by_cases c0:dagC g=0
  · have hg:=GV.of c0 hok
    by_cases c1:0≤c∧c<(g.length:Int)
    · obtain⟨n,rfl⟩:=Int.eq_ofNat_of_zero_le c1.1
      have hcl:n<g.length:=by omega
      have hfl:=(hg.files _ (List.getElem_mem hcl)).1
      have e1:blobF g[n].files path=blobG g path n:=by unfold blobG;simp[List.getD,hcl]
      have e2:inB g[n].files path=hasF g path n:=by unfold hasF;simp[List.getD,hcl]
      have hb:=hg.blob hcl path
      have hbl:=check_len hb
      cases hf:hasF g path n with
      | true =>
        have he:begE g (n:Int) path=0:=by unfold begE;rw[if_pos c0,if_pos ⟨c1.1,c1.2,by simpa using hf⟩]
        simp only[he,if_true]
        simp[x_annotate_begin,startA,h1,h2,h3,h4,hok,c0,hcl,getD_map,show g[n].files.length≤9223372036854775807 by omega,e1,e2,hf,show (blobG g path n).length≤4194304 by omega,splitD_ok hb,fileN]
        exact⟨by simp[resPre,resE],[3,2],rfl,⟨by decide,by simp,by simp[pickS,Ob.ren,A.ren,A.rens]⟩,fun k hk=>(by match k,hk with | 0,_=>exact .inr rfl | 1,_=>exact .inr rfl),by simp[pickS,Ob.ren,A.ren,A.rens,idxIn,srcTab] <;> rfl,by simp[resOf,resE,A.ren,A.rens,idxIn] <;> rfl,by simp⟩
      | false =>
        have he:begE g (n:Int) path=5:=by unfold begE;rw[if_pos c0,if_neg];rintro⟨_,_,h⟩;rw[Int.toNat_natCast,hf] at h;cases h
        simp only[he]
        simp[x_annotate_begin,startA,h1,h2,h3,h4,hok,c0,hcl,getD_map,show g[n].files.length≤9223372036854775807 by omega,e1,e2,hf]
        exact FinR.done (by simp) (by simp) rfl (by simp[resOf,resE]) (by simp) (by simp)
    · have he:begE g c path=5:=by unfold begE;rw[if_pos c0,if_neg];rintro⟨a,b,_⟩;exact c1 ⟨a,b⟩
      simp only[he]
      by_cases k1:0≤c
      · have k2:¬c<(g.length:Int):=fun h=>c1 ⟨k1,h⟩
        simp[x_annotate_begin,startA,h1,h2,hok,c0,k1,k2]
        exact FinR.done (by simp) (by simp) rfl (by simp[resOf,resE]) (by simp) (by simp)
      · simp[x_annotate_begin,startA,h1,h2,hok,c0,k1]
        exact FinR.done (by simp) (by simp) rfl (by simp[resOf,resE]) (by simp) (by simp)
  · have he:begE g c path=dagC g:=by unfold begE;rw[if_neg c0]
    simp only[he]
    simp[x_annotate_begin,startA,h1,hok,c0]
    exact FinR.done (by simp) (by simp) rfl (by simp[resOf,resE]) (by simp) (by simp)
def stepD (g:List CommitT) (c:Int) (path:Str) (line:Int):D :=
  if begE g c path=0 then (if 0≤line∧line<(fileN g c path:Int) then .tup [Rep.to (origO (fromV g path c.toNat line)),.bool (fromV g path c.toNat line).isSome,.int .i64 0] else .tup [Rep.to (origO none),.bool false,.int .i64 3]) else .tup [Rep.to (origO none),.bool false,.int .i64 (begE g c path)]
theorem goodO_of {g:List CommitT} {c:Int} {path:Str} (h:begE g c path=0) {line:Int} (hl:0≤line∧line<(fileN g c path:Int)):GoodO g path ⟨c,line⟩:=by
  obtain⟨_,h1,h2,h3⟩:=begE_ok h
  exact⟨⟨h1,h2⟩,h3,hl⟩
@[simp] def S_annotate_Step:List D→Prop × D:=spec4 (α:=List CommitT) (β:=Int) (γ:=Str) (δ:=Int) (fun g _ _ _=>GraphOk g) (fun g c path line=>stepD g c path line)
theorem ct_annotate_Step {P:Program} {f g1 g2:Nat} {G:Gam} (h:CodeOf P f 4 14 [22004,5,6] (x_annotate_Step g1 g2)) (hG:GamOk P G) (h1:G.findR g1=some R_annotate_begin) (h2:G.findR g2=some R_annotate_finder_step):Has P f S_annotate_Step:=h.has4 hG fun g c path line hok=>by
  by_cases he:begE g c path=0
  · have hg:=GV.of (begE_ok he).1 hok
    by_cases c1:line<0
    · have hv:stepD g c path line=.tup [Rep.to (origO none),.bool false,.int .i64 3]:=by unfold stepD;rw[if_pos he,if_neg (by omega)]
      rw[hv]
      simp[x_annotate_Step,eRCall,h1,hok,he,c1,origO]
    · by_cases c2:(fileN g c path:Int)≤line
      · have hv:stepD g c path line=.tup [Rep.to (origO none),.bool false,.int .i64 3]:=by unfold stepD;rw[if_pos he,if_neg (by omega)]
        rw[hv]
        simp[x_annotate_Step,eRCall,h1,hok,he,c1,c2,origO]
      · have hgo:=goodO_of he (line:=line) (by omega)
        have hv:stepD g c path line=.tup [Rep.to (origO (fromV g path c.toNat line)),.bool (fromV g path c.toNat line).isSome,.int .i64 0]:=by unfold stepD;rw[if_pos he,if_pos (by omega)]
        rw[hv]
        simp[x_annotate_Step,eRCall,h1,h2,hok,he,c1,c2,hg,hgo,origA]
  · have hv:stepD g c path line=.tup [Rep.to (origO none),.bool false,.int .i64 (begE g c path)]:=by unfold stepD;rw[if_neg he]
    rw[hv]
    simp[x_annotate_Step,eRCall,h1,hok,he,origO]
def blS (g:List CommitT) (path:Str) (c:Int) (n:Nat):List OriginT:=(List.range n).map fun (j:Nat)=>blV g path ⟨c,(j:Int)⟩
theorem blS_len (g:List CommitT) (path:Str) (c:Int) (n:Nat):(blS g path c n).length=n:=by simp[blS]
theorem blS_succ (g:List CommitT) (path:Str) (c:Int) (n:Nat):blS g path c (n+1)=blS g path c n++[blV g path ⟨c,(n:Int)⟩]:=by simp[blS,List.range_succ]
def blameL (g:List CommitT) (c:Int) (path:Str):List OriginT:=if begE g c path=0 then blS g path c (fileN g c path) else []
structure BlX where
  i:Nat
  ks:List Nat
structure BaX where
  a:OriginT
  ks:List Nat
@[simp] def S_annotate_Blame:List D→Prop × D:=spec3 (α:=List CommitT) (β:=Int) (γ:=Str) (fun g _ _=>GraphOk g) (fun g c path=>.tup [Rep.to (blameL g c path),.int .i64 (begE g c path)])
theorem ct_annotate_Blame {P:Program} {f g1 g2:Nat} {G:Gam} (h:CodeOf P f 3 18 [3,4] (x_annotate_Blame g1 g2)) (hG:GamOk P G) (h1:G.findR g1=some R_annotate_begin) (h2:G.findR g2=some R_annotate_finder_step):Has P f S_annotate_Blame:=h.has3 hG fun g c path hok=>by
  by_cases he:begE g c path=0
  · obtain⟨c0,hc0,hc1,hc2⟩:=begE_ok he
    have hg:=GV.of c0 hok
    obtain⟨hh,hfix⟩:=hg.fix
    obtain⟨ht,hht⟩:∃ht:Nat→Int,∀i,ht i=hh.getD i 0:=⟨_,fun _=>rfl⟩
    have hv:blameL g c path=blS g path c (fileN g c path):=by unfold blameL;rw[if_pos he]
    have hgo:=fun line hl=>goodO_of he (line:=line) hl
    have hn:fileN g c path≤4096:=checkT_lines (hg.blob (c:=c.toNat) (by omega) path)
    rw[hv,he]
    simp[x_annotate_Blame,eRCall,h1,hok,he]
    generalize fileN g c path=n at *
    refine vc_lp (σ:=BlX) (fun x=>x.i≤n) (fun x=>n-x.i)
      (fun x=>[.d (Rep.to g),.d (.int .i64 c),.d (.str path),.any,.any,.ref 0 0 0 0,.any,.any,.gr 2 2 ((blS g path c x.i).map Rep.to),.any,.any,.any,.any,.any,.d (.int .i64 n),.d (.int .i64 x.i),.any,.any])
      (fun x=>[.cells 0 3 [.agg [.d (Rep.to g),.d (.str path),.mp 1]],.map (srcTab g path x.ks),.tip (blS g path c x.i).length]) ⟨0,[]⟩ (by simp[blS]) (by simp[blS]) (by simp) ?_
    rintro⟨i,ks⟩ hi
    simp only at hi
    have hbl:=blS_len g path c i
    have hbs:=blS_succ g path c i
    by_cases hil:i<n
    · have w1:IntKind.i64.wrap ((i:Int)+1)=(i:Int)+1:=wrap_in (by omega) (by omega)
      have hg0:=hgo (i:Int) (by omega)
      generalize hbb:blS g path c i=out at *
      simp[hil]
      refine vc_lp (σ:=BaX) (fun x=>GoodO g path x.a∧blV g path x.a=blV g path ⟨c,(i:Int)⟩) (fun x=>(ht x.a.commit.toNat).toNat)
        (fun x=>[.d (Rep.to g),.d (.int .i64 c),.d (.str path),.any,.any,.ref 0 0 0 0,.any,.any,.gr 2 2 (out.map Rep.to),.any,.ref 3 0 0 0,.any,.any,.any,.d (.int .i64 n),.d (.int .i64 i),.any,.any])
        (fun x=>[.cells 0 3 [.agg [.d (Rep.to g),.d (.str path),.mp 1]],.map (srcTab g path x.ks),.tip out.length,.cells 0 2 [.agg [.d (.int .i64 x.a.commit),.d (.int .i64 x.a.line)]]]) ⟨⟨c,i⟩,ks⟩ (by simp) (by simp) ⟨hg0,rfl⟩ ?_
      rintro⟨⟨ac,al⟩,ks⟩ ⟨ha,hb⟩
      simp only at ha hb
      have heq:=blV_eq hg.rel hfix ha
      simp only at heq
      cases hfr:fromV g path ac.toNat al with
      | some x =>
        rw[hfr] at heq
        obtain⟨g1',g2',_⟩:=from_good hg.rel ha hfr
        have hge:=hfix.ge ac.toNat (by rw[parG_len];have:=ha.c;simp only at this;omega) _ g2'
        have hnn:=hfix.nn x.commit.toNat
        rw[← hht] at hnn
        rw[← hht,← hht] at hge
        simp[eRCall,h2,hg,ha,hfr,origA,origO]
        exact Nxt.mk (⟨x,addK ks ac.toNat⟩:BaX) (by simp only;omega) (by simp) (by simp) ⟨g1',by rw[← hb,heq]⟩
      | none =>
        rw[hfr] at heq
        simp only at heq
        rw[heq] at hb
        simp[eRCall,h2,hg,ha,hfr,origA,origO,w1]
        exact⟨by unfold room;omega,Nxt.mk (⟨i+1,addK ks ac.toNat⟩:BlX) (by simp only;omega) (by simp[hbs,← hb]) (by simp[hbs]) (by simp only;omega)⟩
    · have h9:i=n:=by omega
      subst h9
      simp
  · have hv:blameL g c path=[]:=by unfold blameL;rw[if_neg he]
    rw[hv]
    simp[x_annotate_Blame,eRCall,h1,hok,he]
end Go.AE
namespace Go.AE
def exG:List CommitT:=[⟨[],0,[⟨[120],[97,10,98,10]⟩]⟩,⟨[0],0,[⟨[120],[97,10,99,10]⟩]⟩]
theorem aw31a:begE exG 1 [120]=0:=by decide +kernel
theorem aw31b:blameL exG 1 [120]=[⟨0,0⟩,⟨1,1⟩]:=by decide +kernel
theorem exG_ok:GraphOk exG:=by
  refine⟨by decide,fun c hc=>?_⟩
  unfold exG at hc
  simp at hc
  rcases hc with rfl | rfl
  · exact⟨by simp,by simp,fun f hf=>by simp at hf;subst hf;exact⟨by simp,by simp⟩⟩
  · exact⟨by simp,by simp,fun f hf=>by simp at hf;subst hf;exact⟨by simp,by simp⟩⟩
@[simp] def S_law31_awake:List D→Prop × D:=spec0 True (.bool true)
theorem ct_law31_awake {P:Program} {f g1 g2:Nat} {G:Gam} (h:CodeOf P f 0 4 [0] (x_law31_awake g1 g2)) (hG:GamOk P G) (h1:G.find g1=some S_annotate_Blame) (h2:G.find g2=some S_gen_Origins):Has P f S_law31_awake:=h.has0 hG fun _=>by
  have e1:ofAll (Rep.of (α:=CommitT)) [.agg [.nilsl,.int .i64 0,.sl 2 [.agg [.str [120],.str [97,10,98,10]]]],.agg [.sl 1 [.int .i64 0],.int .i64 0,.sl 2 [.agg [.str [120],.str [97,10,99,10]]]]]=some exG:=rfl
  have e2:ofAll (Rep.of (α:=OriginT)) [.agg [.int .i64 0,.int .i64 0],.agg [.int .i64 1,.int .i64 1]]=some [⟨0,0⟩,⟨1,1⟩]:=rfl
  have a1:=aw31a
  have a2:=aw31b
  have a3:=exG_ok
  simp only[exG] at a1 a2 a3
  simp[x_law31_awake,h1,h2,e2,a1,a2,a3]
def pickA (raw:List Int) (start:Int):Int × Str :=
  if (graphV raw 7 5).length=0 then (0,[97]) else
    if ((graphV raw 7 5).getD (modV start (graphV raw 7 5).length).toNat default).files.length=0 then (modV start (graphV raw 7 5).length,[97]) else
      (modV start (graphV raw 7 5).length,(((graphV raw 7 5).getD (modV start (graphV raw 7 5).length).toNat default).files.getD (modV (atV raw 5) ((graphV raw 7 5).getD (modV start (graphV raw 7 5).length).toNat default).files.length).toNat default).path)
@[simp] def S_law31_pick:List D→Prop × D:=spec2 (α:=List Int) (β:=Int) (fun raw _=>raw.length≤9223372036854775807) (fun raw start=>.tup [Rep.to (graphV raw 7 5),.int .i64 (pickA raw start).1,.str (pickA raw start).2])
theorem ct_law31_pick {P:Program} {f g1 g2 g3:Nat} {G:Gam} (h:CodeOf P f 2 8 [2,3,4] (x_law31_pick g1 g2 g3)) (hG:GamOk P G) (h1:G.find g1=some S_gen_Graph) (h2:G.find g2=some S_gen_Mod) (h3:G.find g3=some S_gen_At):Has P f S_law31_pick:=h.has2 hG fun raw start hp=>by
  have o:=(graphV_ok raw (n:=7) (lines:=5) (by omega) (by omega) (by omega) (by decide)).2
  have hol:=o.1
  by_cases c0:(graphV raw 7 5).length=0
  · have hv:pickA raw start=(0,[97]):=by unfold pickA;rw[if_pos c0]
    rw[hv]
    simp[x_law31_pick,h1,hp,c0]
  · have hc:=modV_lt start (n:=(graphV raw 7 5).length) (by omega)
    obtain⟨c,hcc⟩:=Int.eq_ofNat_of_zero_le hc.1
    have hcl:c<(graphV raw 7 5).length:=by omega
    have hof:=(o.2 _ (List.getElem_mem hcl)).2.1
    have hge:(graphV raw 7 5).getD c default=(graphV raw 7 5)[c]:=by simp[List.getD,hcl]
    have r3:1≤((graphV raw 7 5).length:Int)∧((graphV raw 7 5).length:Int)≤9223372036854775807:=by omega
    by_cases c1:(graphV raw 7 5)[c].files.length=0
    · have hv:pickA raw start=((c:Int),[97]):=by
        unfold pickA
        rw[if_neg c0,hcc,Int.toNat_natCast,hge,if_pos c1]
      rw[hv]
      generalize hgg:graphV raw 7 5=g at *
      simp[x_law31_pick,h1,h2,hp,hgg,c0,hcc,hcl,c1,getD_map,r3]
    · have hk:=modV_lt (atV raw 5) (n:=(graphV raw 7 5)[c].files.length) (by omega)
      obtain⟨k,hkk⟩:=Int.eq_ofNat_of_zero_le hk.1
      have hkl:k<(graphV raw 7 5)[c].files.length:=by omega
      have hv:pickA raw start=((c:Int),(graphV raw 7 5)[c].files[k].path):=by
        unfold pickA
        rw[if_neg c0,hcc,Int.toNat_natCast,hge,if_neg c1,hkk,Int.toNat_natCast]
        simp[List.getD,hkl]
      rw[hv]
      generalize hgg:graphV raw 7 5=g at *
      have r4:1≤(g[c].files.length:Int)∧(g[c].files.length:Int)≤9223372036854775807:=by omega
      simp[x_law31_pick,h1,h2,h3,hp,hgg,c0,hcc,hcl,c1,getD_map,r3,r4,hkk,hkl,show raw.length≤9223372036854775807 by omega]
end Go.AE
namespace Go.AE
open Go Go.Proofs Go.RowKit
def SeqW {α:Type} (n:Nat) (P:Program) (gfn:Nat) (caps:Array Value) (encs:α→Array Value) (n₀ own:Nat) (xs:List α) (w0:World):Prop :=
  ∀(l:Nat) (J Jx:List α→World→Prop) (W:World),Below n₀ w0 W→(∀pre A v,J pre A→J pre (A.setCell ⟨own,0,none⟩ v)) →
    (∀pre x A,J pre A→pre.length<xs.length→YieldAt Fence.wide (n-1) P l (encs x) A fun e B =>
      (e=.returned (.bool true)∧J (pre++[x]) B∧Below n₀ A B)∨(e=.returned (.bool false)∧Jx (pre++[x]) B)) →
    J [] W→CallsIn Fence.wide n P gfn (#[.func (.yield l) #[] #[]]++caps) W fun e B=>(∃v,e=.returned v)∧(J xs B∨∃pre,pre <+: xs∧Jx pre B)
def roundW {α:Type} (n₀:Nat) (I Ix:List α→World→Prop) (xs:List α) (A:World):Exit→Act→World→Prop
  | .normal,_,B=>KeepsOthers A B∧Below n₀ A B∧I xs B
  | .ret,_,B=>KeepsOthers A B∧Ix xs B
  | _,_,_=>False
variable {n:Nat} {P:Program}
theorem rangeW {α:Type} {g:Operand} {ps:Array Tmp} {assign body:Code} {Q:Exit→Act→World→Prop} {a:Act} {w:World}
    (h1:1≤n) {gfn:Nat} {caps:Array Value} (hg:a.eval g=.func (.func gfn) #[] caps) (eg:∀args w,(callFunc gfn args).run P w=.ok (.enter gfn args) w)
    {encs:α→Array Value} {own:Nat} (hown:own<w.heap.size) {xs:List α} (hseq:SeqW (n-1) P gfn caps encs w.heap.size own xs w) (hps:∀x,(encs x).size=ps.size)
    (I Ix:List α→World→Prop)
    (hI1:∀pre A o,w.heap.size≤A.heap.size→I pre A→I pre (A.alloc o)) (hI2:∀pre A l o,w.heap.size≤l→I pre A→I pre (A.putObj l o)) (hI3:∀pre A v,I pre A→I pre (A.setCell ⟨own,0,none⟩ v))
    (hX2:∀pre A l o,w.heap.size≤l→Ix pre A→Ix pre (A.putObj l o))
    (h0:I [] w) (a₁:α→Act)
    (hassign:∀(l:Nat) (x:α) (A:World) (K:Act→World→Prop),K (a₁ x) A →
      assign.wpIn (Fence.wide.inRound l) (n-1-1) P (Exit.then K (fun _ _ _=>False)) { tmps:=(ps.zip (encs x)).foldl (fun t (p,v)=>t.setIfInBounds p v) a.tmps,defers:=[] } A)
    (hbody:∀(l:Nat) (pre:List α) (x:α) (A:World),I pre A→pre.length<xs.length→body.wpIn (Fence.wide.inRound l) (n-1-1) P (roundW w.heap.size I Ix (pre++[x]) A) (a₁ x) A)
    (hdone:∀(D:Nat) (B:World),w.heap.size≤D→I xs B→B.heap[D]?=some (.deferred (some []))→Q .normal { a with defers:={ target:=.collected D,args:=#[] }::a.defers } B)
    (hstop:∀(D:Nat) (pre:List α) (B:World),w.heap.size≤D→pre <+: xs→Ix pre B→B.heap[D]?=some (.deferred (some []))→Code.ret.wpIn Fence.wide n P Q { a with defers:={ target:=.collected D,args:=#[] }::a.defers } B) :
    (Code.rangeFunc g ps assign body).wpIn Fence.wide n P Q a w:=by
  refine wpIn_rangeFunc ?_
  intro fn hfn
  show ∃_,_
  rw[show Fence.wide.round=none from rfl]
  obtain⟨lp,hlp⟩:∃lp:LoopState→Option Code→Loop,lp=fun st pe=>{ state:=st,pending:=pe,fn,tmps:=a.tmps,params:=ps,assign,body,defers:=w.heap.size }:=⟨_,rfl⟩
  obtain⟨V,hV⟩:∃V,(w.alloc (.deferred (some []))).alloc (.loop (lp .ready none))=V:=⟨_,rfl⟩
  have rL:V.heap[w.heap.size+1]?=some (.loop (lp .ready none)):=by
    have:=World.alloc_heap_new (w.alloc (.deferred (some []))) (.loop (lp .ready none))
    rw[World.size_alloc,hV] at this
    exact this
  have rD:V.heap[w.heap.size]?=some (.deferred (some [])):=by
    rw[← hV]
    exact (Below.heap_alloc _ _ _ (by simp)).trans (World.alloc_heap_new w _)
  have rI:I [] V:=by
    rw[← hV]
    exact hI1 _ _ _ (by simp) (hI1 _ _ _ (Nat.le_refl _) h0)
  have rB:Below w.heap.size w V:=by
    rw[← hV]
    exact ((Below.refl _ w).alloc (Nat.le_refl _) _).alloc (by simp) _
  refine⟨w.heap.size+1,[{ target:=.collected w.heap.size,args:=#[] }],V,{ target:=.fn (.func gfn) caps,args:=#[.func (.yield (w.heap.size+1)) #[] #[]] },V,gfn,
    #[.func (.yield (w.heap.size+1)) #[] #[]]++caps,V,?_,?_,?_,?_,fun _=>h1,?_⟩
  · rw[← hV,hlp]
    exact run_enterLoop_outer _ _ _ _ _
  · simp only[resolve,hg]
    simp[go_sem]
  · intro f' hf'
    trivial
  · simp[invoke,go_sem,eg]
  have key:=hseq (w.heap.size+1)
    (fun pre A=>I pre A∧A.heap[w.heap.size+1]?=some (.loop (lp .ready none))∧A.heap[w.heap.size]?=some (.deferred (some [])))
    (fun pre A=>Ix pre A∧A.heap[w.heap.size+1]?=some (.loop (lp .done (some .ret)))∧A.heap[w.heap.size]?=some (.deferred (some [])))
    V rB ?_ ?_ ⟨rI,rL,rD⟩
  · refine key.mono ?_
    rintro e B ⟨⟨v,rfl⟩,(⟨hi,hl,hk⟩ | ⟨pre,hpre,hi,hl,hk⟩)⟩
    · have hr:=run_endLoop (P:=P) hl (by rw[hlp];simp)
      rw[hlp] at hr
      exact⟨none,_,hr,hdone _ _ (Nat.le_refl _) (hI2 _ _ _ _ (by omega) hi) ((World.putObj_heap_other (by omega)).trans hk)⟩
    · have hr:=run_endLoop (P:=P) hl (by rw[hlp];simp)
      rw[hlp] at hr
      exact⟨some .ret,_,hr,hstop _ pre _ (Nat.le_refl _) hpre (hX2 _ _ _ _ (by omega) hi) ((World.putObj_heap_other (by omega)).trans hk)⟩
  · rintro pre A v ⟨hi,hl,hk⟩
    refine⟨hI3 _ _ _ hi,?_,?_⟩
    · rw[Below.heap_setCell _ _ _ _ (by show w.heap.size+1≠own;omega)];exact hl
    · rw[Below.heap_setCell _ _ _ _ (by show w.heap.size≠own;omega)];exact hk
  · rintro pre x A ⟨hi,hl,hk⟩ hlen
    have hlt:w.heap.size+1<A.heap.size:=(Array.getElem?_eq_some_iff.1 hl).1
    have hy:=run_yield (P:=P) (args:=encs x) hl (by rw[hlp];exact hps x)
    rw[hlp] at hy
    refine⟨fn,_,assign,body,hy,roundIn_of_wpIn hfn (hassign _ x A _ ⟨_,run_beginRound hl (by rw[hlp]),?_⟩)⟩
    have hl2:(A.putObj (w.heap.size+1) (.loop { lp .ready none with state:=.busy })).heap[w.heap.size+1]?=some (.loop { lp .ready none with state:=.busy }):=World.putObj_heap_same hlt
    have hk2:(A.putObj (w.heap.size+1) (.loop { lp .ready none with state:=.busy })).heap[w.heap.size]?=some (.deferred (some [])):=(World.putObj_heap_other (by omega)).trans hk
    have hb2:Below w.heap.size A (A.putObj (w.heap.size+1) (.loop { lp .ready none with state:=.busy })):=belowK_b (Nat.le_refl _) _ _ _ _ (by omega) hl rfl rfl
    refine wpIn_mono (hbody _ pre x _ (hI2 _ _ _ _ (by omega) hi) hlen) ?_
    have fin:∀(jump:Option Code) (B:World),KeepsOthers (A.putObj (w.heap.size+1) (.loop { lp .ready none with state:=.busy })) B →
        (Instr.endRound (w.heap.size+1) jump).run P B=.ok (.bool jump.isNone) (B.putObj (w.heap.size+1) (.loop (lp (if jump.isNone then .ready else .done) jump))) ∧
        B.heap[w.heap.size+1]?=some (.loop { lp .ready none with state:=.busy }) ∧
        (B.putObj (w.heap.size+1) (.loop (lp (if jump.isNone then .ready else .done) jump))).heap[w.heap.size+1]?=some (.loop (lp (if jump.isNone then .ready else .done) jump)) ∧
        (B.putObj (w.heap.size+1) (.loop (lp (if jump.isNone then .ready else .done) jump))).heap[w.heap.size]?=some (.deferred (some [])):=fun jump B hk3=>by
      have hl3:=hk3.same _ _ hl2 rfl
      have:=run_endRound (P:=P) jump hl3
      rw[hlp] at this ⊢
      exact⟨this,by rw[hlp] at hl3;exact hl3,World.putObj_heap_same (Array.getElem?_eq_some_iff.1 hl3).1,(World.putObj_heap_other (by omega)).trans (hk3.same _ _ hk2 rfl)⟩
    rintro e a3 B hp
    cases e with
    | normal =>
      obtain⟨hk3,hb3,hi3⟩:=hp
      obtain⟨hr,hl3,hl4,hk4⟩:=fin none B hk3
      exact⟨_,_,hr,.inl ⟨rfl,⟨hI2 _ _ _ _ (by omega) hi3,hl4,hk4⟩,(hb2.trans hb3).trans (belowK_b (Nat.le_refl _) _ _ _ _ (by omega) hl3 rfl rfl)⟩⟩
    | ret =>
      obtain⟨hk3,hi3⟩:=hp
      obtain⟨hr,hl3,hl4,hk4⟩:=fin (some .ret) B hk3
      exact⟨_,_,hr,.inr ⟨rfl,hX2 _ _ _ _ (by omega) hi3,hl4,hk4⟩⟩
    | exit id=>exact hp.elim
    | goto t=>exact hp.elim
    | panic ch=>exact hp.elim
    | outgrown=>exact hp.elim
end Go.AE
