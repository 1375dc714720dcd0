/-
  What is written of a full combined diff is read back: the first lines,plainly.
-/
import Derived.Test.YtafcebkjmeinnaaGreatDoorCona2
import Derived.Test.YtafcebkjmeinnaaGreatDoorCona1
import Derived.Test.YtafcebkjmeinnaaGreatDoorCode1

set_option linter.unusedSimpArgs false
set_option linter.unusedVariables false
set_option linter.unnecessarySimpa false
set_option maxRecDepth 20000
set_option maxHeartbeats 4000000
namespace Go.AE
/-! ### the first line of a hunk -/
theorem frange_facts:∀c:Nat,c≤25→rangeV (frangeV 0 c) 0=some (0,(c:Int),(frangeV 0 c).length)∧(frangeV 0 c).all (fun b=>b != 32 && b != 10)=true:=by
  have h:∀c:_root_.Fin 26,rangeV (frangeV 0 ((c:Nat):Int)) 0=some (0,((c:Nat):Int),(frangeV 0 ((c:Nat):Int)).length)∧(frangeV 0 ((c:Nat):Int)).all (fun b=>b != 32 && b != 10)=true:=by decide +kernel
  intro c hc
  exact h ⟨c,by omega⟩
def wdsV (f:Nat→Nat) (n:Nat):List Str:=(List.range n).map (fun p=>45::frangeV 0 (f p:Nat))++[43::frangeV 0 (f n:Nat)]
theorem wds_ne (f:Nat→Nat) (n:Nat):wdsV f n≠[]:=by simp[wdsV]
theorem wds_free {f:Nat→Nat} {n:Nat} (hf:∀p,p≤n→f p≤25):∀w,w∈wdsV f n→(32:UInt8) ∉ w∧(10:UInt8) ∉ w:=by
  have key:∀p,p≤n→(32:UInt8) ∉ frangeV 0 (f p:Nat)∧(10:UInt8) ∉ frangeV 0 (f p:Nat):=fun p hp=>by
    have h:=(frange_facts (f p) (hf p hp)).2
    rw[List.all_eq_true] at h
    refine⟨fun hc=>?_,fun hc=>?_⟩
    · have:=h _ hc
      simp at this
    · have:=h _ hc
      simp at this
  intro w hw
  unfold wdsV at hw
  rw[List.mem_append,List.mem_map] at hw
  rcases hw with ⟨p,hp,rfl⟩ | hw
  · have:=key p (by have:=List.mem_range.1 hp;omega)
    simp only[List.mem_cons,not_or]
    exact⟨⟨by decide,this.1⟩,⟨by decide,this.2⟩⟩
  · rw[List.mem_singleton] at hw
    subst hw
    have:=key n (Nat.le_refl _)
    simp only[List.mem_cons,not_or]
    exact⟨⟨by decide,this.1⟩,⟨by decide,this.2⟩⟩
theorem wordR_ok {sg:UInt8} {c:Nat} (hc:c≤25):wordR [sg] (sg::frangeV 0 c)=some 0:=by
  unfold wordR
  have h:Lib.hasPrefix (sg::frangeV 0 (c:Int)) [sg]=true:=by
    unfold Lib.hasPrefix
    simp[List.isPrefixOf]
  rw[if_pos h,List.drop_one,List.tail_cons,(frange_facts c hc).1]
  simp
theorem rep_app (k:Nat):List.replicate k (0:Int)++[0]=List.replicate (k+1) 0:=List.replicate_succ'.symm
theorem wordsR_ok {f:Nat→Nat} {n:Nat} (hf:∀p,p≤n→f p≤25):∀d k,k+d=n→wordsR n (List.replicate k 0) ((wdsV f n).drop k)=some (List.replicate (n+1) 0)
  | 0,k,hk=>by
    obtain rfl:k=n:=by omega
    have hd:(wdsV f k).drop k=[43::frangeV 0 (f k:Nat)]:=by
      unfold wdsV
      rw[List.drop_append_of_le_length (by simp),List.drop_of_length_le (by simp)]
      rfl
    rw[hd,wordsR,List.length_replicate,if_pos rfl,wordR_ok (hf k (Nat.le_refl _))]
    simp only[wordsR,rep_app]
  | d+1,k,hk=>by
    have hlen:(wdsV f n).length=n+1:=by simp[wdsV]
    have hg:(wdsV f n)[k]'(by omega)=45::frangeV 0 (f k:Nat):=by
      unfold wdsV
      rw[List.getElem_append_left (by simp;omega)]
      simp
    rw[List.drop_eq_getElem_cons (by omega),hg,wordsR,List.length_replicate,if_neg (by omega),wordR_ok (hf k (by omega))]
    simp only[rep_app]
    exact wordsR_ok hf d (k+1) (by omega)
theorem ranges_flat (f:Nat→Nat) (ns:List Int) (n:Nat):∀p,p≤n→(∀q,q<p→ns.getD q 0=(f q:Nat))→rangesW (List.replicate (n+1) 0) ns p=((List.range p).map fun q=>45::frangeV 0 (f q:Nat)).flatMap fun w=>32::w
  | 0,_,_=>rfl
  | p+1,hp,h=>by
    have ih:=ranges_flat f ns n p (by omega) fun q hq=>h q (by omega)
    have hz:(List.replicate (n+1) (0:Int)).getD p 0=0:=by simp[List.getD,List.getElem?_replicate,show p<n+1 by omega]
    rw[rangesW,ih,List.range_succ,List.map_append,List.flatMap_append,hz,h p (by omega)]
    simp
def headL (f:Nat→Nat) (n:Nat):Str:=atsW n++(32::(joinC 32 (wdsV f n)++(32::atsW n)))
theorem headC_line {rows:List RowT} {n:Nat}:headC ⟨List.replicate (n+1) 0,rows⟩ n=headL (cfV rows n) n++[10]:=by
  have hr:=ranges_flat (cfV rows n) (ctsV rows n) n n (Nat.le_refl _) fun q hq=>ctsV_get rows (by omega)
  have hz:(List.replicate (n+1) (0:Int)).getD n 0=0:=by simp[List.getD,List.getElem?_replicate]
  have hb:=join_begin 32 _ (wds_ne (cfV rows n) n)
  unfold headC headL
  simp only
  rw[hr,hz,ctsV_get rows (Nat.le_refl _)]
  have hw:(wdsV (cfV rows n) n).flatMap (fun w=>32::w)=((List.range n).map fun q=>45::frangeV 0 (cfV rows n q:Nat)).flatMap (fun w=>32::w)++(32::43::frangeV 0 (cfV rows n n:Nat)):=by
    unfold wdsV
    rw[List.flatMap_append]
    simp
  rw[hb] at hw
  have:atsW n++(32::(joinC 32 (wdsV (cfV rows n) n)++32::atsW n))++[10]=atsW n++((32::joinC 32 (wdsV (cfV rows n) n))++(32::(atsW n++[10]))):=by simp
  rw[this,hw]
  simp
theorem headR_ok {f:Nat→Nat} {n:Nat} (hf:∀p,p≤n→f p≤25):headR n (headL f n)=some (List.replicate (n+1) 0):=by
  have hal:(atsW n).length=n+1:=by simp[atsW]
  have e1:headL f n=(atsW n++[32])++(joinC 32 (wdsV f n)++(32::atsW n)):=by unfold headL;simp
  have hp:Lib.hasPrefix (headL f n) (atsW n++[32])=true:=by
    rw[e1]
    unfold Lib.hasPrefix
    rw[List.isPrefixOf_iff_prefix]
    exact List.prefix_append _ _
  have hd:(headL f n).drop (n+2)=joinC 32 (wdsV f n)++(32::atsW n):=by
    rw[e1,List.drop_append_of_le_length (by simp[hal]),List.drop_of_length_le (by simp[hal])]
    rfl
  have hs:Lib.hasSuffix (joinC 32 (wdsV f n)++(32::atsW n)) (32::atsW n)=true:=by
    unfold Lib.hasSuffix
    rw[List.isSuffixOf_iff_suffix]
    exact List.suffix_append _ _
  have ht:(joinC 32 (wdsV f n)++(32::atsW n)).take ((joinC 32 (wdsV f n)++(32::atsW n)).length-(n+2))=joinC 32 (wdsV f n):=by
    rw[List.length_append,List.length_cons,hal,show (joinC 32 (wdsV f n)).length+(n+1+1)-(n+2)=(joinC 32 (wdsV f n)).length by omega]
    simp
  unfold headR
  rw[if_pos hp,hd,if_pos hs,ht,splS_join (wds_ne f n) fun w hw=>(wds_free hf w hw).1]
  exact wordsR_ok hf n 0 (by omega)
theorem joinC_free {c x:UInt8} (hc:x≠c):∀ws:List Str,(∀w,w∈ws→x ∉ w)→x ∉ joinC c ws
  | [],_=>by simp[joinC]
  | [w],h=>h w (by simp)
  | w::v::r,h=>by
    have ih:=joinC_free hc (v::r) fun y hy=>h y (by simp at hy ⊢;exact .inr hy)
    rw[joinC,List.mem_append,List.mem_cons]
    rintro (h1 | h1 | h1)
    · exact h w (by simp) h1
    · exact hc h1
    · exact ih h1
theorem headL_free {f:Nat→Nat} {n:Nat} (hf:∀p,p≤n→f p≤25):(10:UInt8) ∉ headL f n:=by
  have ha:(10:UInt8) ∉ atsW n:=by
    intro h
    have:=List.eq_of_mem_replicate h
    exact absurd this (by decide)
  unfold headL
  simp only[List.mem_append,List.mem_cons,not_or]
  exact⟨ha,by decide,joinC_free (by decide) _ fun w hw=>(wds_free hf w hw).2,by decide,ha⟩
theorem line_head {f:Nat→Nat} {n:Nat} (hf:∀p,p≤n→f p≤25) (path:Str) (dense:Bool):lineR ⟨path,dense,n,[],none⟩ (headL f n)=some ⟨path,dense,n,[],some ⟨List.replicate (n+1) 0,[]⟩⟩:=by
  have hp:Lib.hasPrefix (headL f n) [64]=true:=by
    unfold headL atsW Lib.hasPrefix
    rw[List.replicate_succ]
    simp[List.isPrefixOf]
  unfold lineR
  simp only
  rw[if_pos hp,Int.toNat_natCast,headR_ok hf]
  simp
/-! ### the title -/
def titA:Str:=cbP++[120]
def titB (n:Nat):Str:=parP++fmtV n
theorem tit_facts:∀n:Nat,1≤n→n≤32→titV titA (titB n)=(⟨[120],false,(n:Int),[],none⟩,true)∧(10:UInt8) ∉ titB n:=by
  have h:∀n:_root_.Fin 33,1≤(n:Nat)→titV titA (titB n)=(⟨[120],false,((n:Nat):Int),[],none⟩,true)∧(10:UInt8) ∉ titB n:=by decide +kernel
  intro n h1 h2
  exact h ⟨n,by omega⟩ h1
theorem title_lines (n:Nat) (hs:List CHunkT):titleW ⟨[120],false,n,hs⟩=[titA,titB n].flatMap fun w=>w++[10]:=by
  have hq:quoteV [120]=[120]:=by decide
  unfold titleW titA titB cbP parP
  simp[hq]
/-! ### all of it -/
theorem read_back {t:TableT} {n L B:Nat} (h:TabS t n L B) (hs:(writC (cutC [120] t (fullSp t) false)).length≤16777216):readC (writC (cutC [120] t (fullSp t) false))=(cutC [120] t (fullSp t) false,0):=by
  have hck:chkC (cutC [120] t (fullSp t) false)=0:=(h.cut (path:=[120]) (by decide) (by simp) (full_ord t) false).1.chk
  have hn1:=h.n1
  have hn2:=h.n2
  obtain⟨par,rows⟩:=t
  have hpar:par=n:=h.par
  subst hpar
  obtain⟨q1,q2⟩:=tit_facts n hn1 hn2
  have q3:(10:UInt8) ∉ titA:=by decide
  have hf:∀p,p≤n→cfV rows n p≤25:=fun p hp=>Nat.le_trans (h.cols p hp) h.l1
  have hrows:∀r,r∈rows→rowOk r∧markB n r=true∧lineB r.text=true:=fun r hr =>
    ⟨h.ok.2.1 r hr,List.all_eq_true.1 h.marks r hr,h.ends.1 r hr⟩
  generalize hC:cutC [120] ⟨n,rows⟩ (fullSp ⟨n,rows⟩) false=C at *
  have key:∃ws:List Str,ws.length ≥ 2∧writC C=ws.flatMap (fun w=>w++[10])∧(∀w,w∈ws→(10:UInt8) ∉ w)∧parseR ws=some C:=by
    by_cases c:rows=[]
    · subst c
      have hCe:C=⟨[120],false,n,[]⟩:=by rw[← hC];rfl
      refine⟨[titA,titB n],by simp,?_,?_,?_⟩
      · rw[hCe]
        unfold writC
        rw[title_lines]
        simp
      · intro w hw
        simp only[List.mem_cons,List.not_mem_nil,or_false] at hw
        rcases hw with rfl | rfl
        · exact q3
        · exact q2
      · unfold parseR
        rw[if_neg (by simp)]
        simp only[List.getD_cons_zero,List.getD_cons_succ,q1,if_true,List.drop_succ_cons,List.drop_zero,foldR]
        rw[hCe]
        rfl
    · have hlen:=List.length_pos_iff.2 c
      have hfs:fullSp ⟨n,rows⟩=[⟨0,rows.length⟩]:=by unfold fullSp;rw[if_neg c]
      have hCe:C=⟨[120],false,n,[⟨List.replicate (n+1) 0,rows⟩]⟩:=by
        rw[← hC,hfs]
        have hz:ctsV [] n=List.replicate (n+1) 0:=by
          rw[ctsV_eq]
          have:((fun p=>((cfV [] n p:Nat):Int)):Nat→Int)=fun _=>0:=by funext p;simp[cfV]
          rw[this,List.map_const',List.length_range]
        simp[cutC,cutH,cutRows,hz]
      refine⟨titA::titB n::headL (cfV rows n) n::rows.flatMap (rowL n),by simp,?_,?_,?_⟩
      · rw[hCe]
        unfold writC
        rw[title_lines]
        simp only[List.flatMap_cons,List.flatMap_nil,List.append_nil,Int.toNat_natCast,hunkC,headC_line]
        have:rows.flatMap (fun r=>rowW r n)=(rows.flatMap (rowL n)).flatMap fun w=>w++[10]:=by
          rw[List.flatMap_assoc]
          congr 1
          funext r
          exact rowW_lines n r
        rw[this]
        simp
      · intro w hw
        simp only[List.mem_cons,List.mem_flatMap] at hw
        rcases hw with rfl | rfl | rfl | ⟨r,hr,hw⟩
        · exact q3
        · exact q2
        · exact headL_free hf
        · exact rowL_free (hrows r hr).2.2 w hw
      · unfold parseR
        rw[if_neg (by simp)]
        simp only[List.getD_cons_zero,List.getD_cons_succ,q1,if_true,List.drop_succ_cons,List.drop_zero,foldR]
        rw[line_head hf]
        simp only
        rw[fold_rows hn1 hn2 _ _ _ _ rows [] hrows]
        simp only[List.nil_append]
        rw[hCe]
        rfl
  obtain⟨ws,k1,k2,k3,k4⟩:=key
  have hlin:=linesS_join (ws:=ws) (by intro e;subst e;simp at k1) k3
  rw[← k2] at hlin
  unfold readC
  rw[if_neg (by omega),if_neg (by rw[hlin];simp),hlin]
  simp only[k4]
  rw[if_pos ⟨hck,trivial⟩]
theorem table_full {t:TableT} {n L B:Nat} (h:TabS t n L B):tableR (cutC [120] t (fullSp t) false)=(t,0):=by
  have hck:chkC (cutC [120] t (fullSp t) false)=0:=(h.cut (path:=[120]) (by decide) (by simp) (full_ord t) false).1.chk
  unfold tableR
  rw[if_neg (by rw[hck];simp)]
  obtain⟨par,rows⟩:=t
  by_cases c:rows=[]
  · subst c
    rfl
  · have hfs:fullSp ⟨par,rows⟩=[⟨0,rows.length⟩]:=by unfold fullSp;rw[if_neg c]
    have hz:ctsV [] par.toNat=List.replicate (par.toNat+1) 0:=by
      rw[ctsV_eq]
      have:((fun p=>((cfV [] par.toNat p:Nat):Int)):Nat→Int)=fun _=>0:=by funext p;simp[cfV]
      rw[this,List.map_const',List.length_range]
    have hm:maxV (List.replicate (par.toNat+1) 0)≤0:=maxV_le (by simp) fun x hx=>by have:=List.eq_of_mem_replicate hx;omega
    simp only[cutC,hfs,List.map_cons,List.map_nil,cutH,cutRows,Int.toNat_zero,List.take_zero,hz]
    rw[if_neg (by simp;omega)]
    simp
theorem column_full {r:Str} {ps:List Str} {B L:Nat} (h:SmlC r ps B L):columnD (makeV r ps) (-1)=.tup [.str r,.int .i64 0]∧∀k (hk:k<ps.length),columnD (makeV r ps) k=.tup [.str ps[k],.int .i64 0]:=by
  have hv:=make_valid h.small
  have hp:(makeV r ps).parents=ps.length:=rfl
  have ck:∀s:Str,s.length≤100→checkT s=0:=fun s h=>check_of (by omega) (by have:s.count 10≤s.length:=List.count_le_length;omega)
  have hb:=h.small.b1
  refine⟨?_,fun k hk=>?_⟩
  · unfold columnD
    rw[if_neg (by rw[hv];simp),if_neg (by rw[hp];omega),make_res]
    exact joinD_lines (ck r (by have:=h.small.hr;omega))
  · unfold columnD
    rw[if_neg (by rw[hv];simp),if_neg (by rw[hp];omega),make_col h.small hk]
    exact joinD_lines (ck _ (by have:=h.small.hp _ (List.getElem_mem hk);omega))
structure RtX where
  a:Str
  b:Str
def psT (x:RsT):Ob:=.cells 0 4 [.agg [.d (.str x.path),.d (.bool x.dense),.d (.int .i64 x.par),.d .nilsl]]
@[simp] def F_recombine_title:RF RtX where
  new:=0
  view a _:=⟨(a.getD 1 .any).gs,(a.getD 2 .any).gs⟩
  args x:=[.ref 0 0 0 0,.d (.str x.a),.d (.str x.b)]
  st _:=[psT ⟨[],false,0,[],none⟩]
  pre x:=x.a.length≤1048576∧x.b.length≤1048576
  res x:=.d (.bool (titV x.a x.b).2)
  st' x:=[psT (titV x.a x.b).1]
abbrev R_recombine_parser_title:RSpec:=F_recombine_title.spec
theorem cutPre_len (s p:Str):(cutPre s p).length≤s.length:=by
  unfold cutPre
  split <;> simp
theorem ct_recombine_parser_title {P:Program} {f g1 g2 g3:Nat} {G:Gam} (hc:CodeOf P f 3 17 [3] (x_recombine_parser_title g1 g2 g3)) (hG:GamOk P G) (h1:G.find g1=some S_strings_CutPrefix) (h2:G.find g2=some S_scan_Unquote) (h3:G.find g3=some S_scan_Number):RSpec.Ok P f R_recombine_parser_title:=by
  refine RF.ok hc.call fun x hx=>hc.rcalls hG rfl ?_
  obtain⟨a,b⟩:=x
  obtain⟨ha,hb⟩:=hx
  simp only at ha hb
  have ec:[100,105,102,102,32,45,45,99,99,32]=ccP:=rfl
  have eb:[100,105,102,102,32,45,45,99,111,109,98,105,110,101,100,32]=cbP:=rfl
  have ep:[112,97,114,101,110,116,115,32]=parP:=rfl
  have hq:=cutPre_len b parP
  generalize hQ:cutPre b parP=q at hq
  have hne:∀(dense:Bool) (r:Str),titR dense r b=(⟨((unqV r 0).getD ([],0)).1,dense,((numV q 0).getD (0,0)).1,[],none⟩,
    Lib.hasPrefix b parP && (unqV r 0).isSome && decide (((unqV r 0).getD ([],0)).2=r.length) && (numV q 0).isSome && decide (((numV q 0).getD (0,0)).2=q.length) && decide (1≤((numV q 0).getD (0,0)).1) && decide (((numV q 0).getD (0,0)).1≤32)):=fun dense r=>by
    unfold titR
    rw[hQ]
  by_cases c1:Lib.hasPrefix a ccP=true
  · have et:titV a b=titR true (a.drop 10) b:=by unfold titV;rw[if_pos c1]
    have er:cutPre a ccP=a.drop 10:=by unfold cutPre;rw[if_pos c1];rfl
    have hr:(a.drop 10).length≤1048576:=by simp;omega
    rw[hne] at et
    generalize a.drop 10=r at *
    simp only[F_recombine_title,et]
    have hl1:a.length≤9223372036854775807:=by omega
    have hl2:b.length≤9223372036854775807:=by omega
    have hl3:q.length≤1048576:=by omega
    cases hb1:Lib.hasPrefix b parP <;> cases hu:unqV r 0 <;> cases hn:numV q 0
    · simp[x_recombine_parser_title,startA,psT,ec,eb,ep,h1,hl1,hl2,c1,er,hQ,h2,hr,hb1,hu,optW,h3,hl3,hn,optN]
      exact FinR.done (by simp) (by simp) rfl (by simp[resOf,resE]) (by simp) (by simp)
    · simp[x_recombine_parser_title,startA,psT,ec,eb,ep,h1,hl1,hl2,c1,er,hQ,h2,hr,hb1,hu,optW,h3,hl3,hn,optN]
      exact FinR.done (by simp) (by simp) rfl (by simp[resOf,resE]) (by simp) (by simp)
    · rename_i x
      by_cases e1:x.2=r.length
      · simp[x_recombine_parser_title,startA,psT,ec,eb,ep,h1,hl1,hl2,c1,er,hQ,h2,hr,hb1,hu,optW,h3,hl3,hn,optN,e1]
        exact FinR.done (by simp) (by simp) rfl (by simp[resOf,resE]) (by simp) (by simp)
      · simp[x_recombine_parser_title,startA,psT,ec,eb,ep,h1,hl1,hl2,c1,er,hQ,h2,hr,hb1,hu,optW,h3,hl3,hn,optN,e1]
        exact FinR.done (by simp) (by simp) rfl (by simp[resOf,resE]) (by simp) (by simp)
    · rename_i x y
      simp[x_recombine_parser_title,startA,psT,ec,eb,ep,h1,hl1,hl2,c1,er,hQ,h2,hr,hb1,hu,optW,h3,hl3,hn,optN]
      exact FinR.done (by simp) (by simp) rfl (by simp[resOf,resE]) (by simp) (by simp)
    · simp[x_recombine_parser_title,startA,psT,ec,eb,ep,h1,hl1,hl2,c1,er,hQ,h2,hr,hb1,hu,optW,h3,hl3,hn,optN]
      exact FinR.done (by simp) (by simp) rfl (by simp[resOf,resE]) (by simp) (by simp)
    · simp[x_recombine_parser_title,startA,psT,ec,eb,ep,h1,hl1,hl2,c1,er,hQ,h2,hr,hb1,hu,optW,h3,hl3,hn,optN]
      exact FinR.done (by simp) (by simp) rfl (by simp[resOf,resE]) (by simp) (by simp)
    · rename_i x
      by_cases e1:x.2=r.length
      · simp[x_recombine_parser_title,startA,psT,ec,eb,ep,h1,hl1,hl2,c1,er,hQ,h2,hr,hb1,hu,optW,h3,hl3,hn,optN,e1]
        exact FinR.done (by simp) (by simp) rfl (by simp[resOf,resE]) (by simp) (by simp)
      · simp[x_recombine_parser_title,startA,psT,ec,eb,ep,h1,hl1,hl2,c1,er,hQ,h2,hr,hb1,hu,optW,h3,hl3,hn,optN,e1]
        exact FinR.done (by simp) (by simp) rfl (by simp[resOf,resE]) (by simp) (by simp)
    · rename_i x y
      by_cases e1:x.2=r.length
      · by_cases e2:y.2=q.length
        · by_cases e3:1≤y.1
          · by_cases e4:y.1≤32
            · simp[x_recombine_parser_title,startA,psT,ec,eb,ep,h1,hl1,hl2,c1,er,hQ,h2,hr,hb1,hu,optW,h3,hl3,hn,optN,e1,e2,e3,e4]
              exact FinR.done (by simp) (by simp) rfl (by simp[resOf,resE]) (by simp) (by simp)
            · simp[x_recombine_parser_title,startA,psT,ec,eb,ep,h1,hl1,hl2,c1,er,hQ,h2,hr,hb1,hu,optW,h3,hl3,hn,optN,e1,e2,e3,e4]
              exact FinR.done (by simp) (by simp) rfl (by simp[resOf,resE]) (by simp) (by simp)
          · simp[x_recombine_parser_title,startA,psT,ec,eb,ep,h1,hl1,hl2,c1,er,hQ,h2,hr,hb1,hu,optW,h3,hl3,hn,optN,e1,e2,e3]
            exact FinR.done (by simp) (by simp) rfl (by simp[resOf,resE]) (by simp) (by simp)
        · simp[x_recombine_parser_title,startA,psT,ec,eb,ep,h1,hl1,hl2,c1,er,hQ,h2,hr,hb1,hu,optW,h3,hl3,hn,optN,e1,e2,show ¬(y.2:Int)=(q.length:Int) by omega]
          exact FinR.done (by simp) (by simp) rfl (by simp[resOf,resE]) (by simp) (by simp)
      · simp[x_recombine_parser_title,startA,psT,ec,eb,ep,h1,hl1,hl2,c1,er,hQ,h2,hr,hb1,hu,optW,h3,hl3,hn,optN,e1,show ¬(x.2:Int)=(r.length:Int) by omega]
        exact FinR.done (by simp) (by simp) rfl (by simp[resOf,resE]) (by simp) (by simp)
  by_cases c2:Lib.hasPrefix a cbP=true
  · have et:titV a b=titR false (a.drop 16) b:=by unfold titV;rw[if_neg c1,if_pos c2]
    have er:cutPre a cbP=a.drop 16:=by unfold cutPre;rw[if_pos c2];rfl
    have hr:(a.drop 16).length≤1048576:=by simp;omega
    rw[hne] at et
    generalize a.drop 16=r at *
    simp only[F_recombine_title,et]
    have hl1:a.length≤9223372036854775807:=by omega
    have hl2:b.length≤9223372036854775807:=by omega
    have hl3:q.length≤1048576:=by omega
    cases hb1:Lib.hasPrefix b parP <;> cases hu:unqV r 0 <;> cases hn:numV q 0
    · simp[x_recombine_parser_title,startA,psT,ec,eb,ep,h1,hl1,hl2,c1,c2,er,hQ,h2,hr,hb1,hu,optW,h3,hl3,hn,optN]
      exact FinR.done (by simp) (by simp) rfl (by simp[resOf,resE]) (by simp) (by simp)
    · simp[x_recombine_parser_title,startA,psT,ec,eb,ep,h1,hl1,hl2,c1,c2,er,hQ,h2,hr,hb1,hu,optW,h3,hl3,hn,optN]
      exact FinR.done (by simp) (by simp) rfl (by simp[resOf,resE]) (by simp) (by simp)
    · rename_i x
      by_cases e1:x.2=r.length
      · simp[x_recombine_parser_title,startA,psT,ec,eb,ep,h1,hl1,hl2,c1,c2,er,hQ,h2,hr,hb1,hu,optW,h3,hl3,hn,optN,e1]
        exact FinR.done (by simp) (by simp) rfl (by simp[resOf,resE]) (by simp) (by simp)
      · simp[x_recombine_parser_title,startA,psT,ec,eb,ep,h1,hl1,hl2,c1,c2,er,hQ,h2,hr,hb1,hu,optW,h3,hl3,hn,optN,e1]
        exact FinR.done (by simp) (by simp) rfl (by simp[resOf,resE]) (by simp) (by simp)
    · rename_i x y
      simp[x_recombine_parser_title,startA,psT,ec,eb,ep,h1,hl1,hl2,c1,c2,er,hQ,h2,hr,hb1,hu,optW,h3,hl3,hn,optN]
      exact FinR.done (by simp) (by simp) rfl (by simp[resOf,resE]) (by simp) (by simp)
    · simp[x_recombine_parser_title,startA,psT,ec,eb,ep,h1,hl1,hl2,c1,c2,er,hQ,h2,hr,hb1,hu,optW,h3,hl3,hn,optN]
      exact FinR.done (by simp) (by simp) rfl (by simp[resOf,resE]) (by simp) (by simp)
    · simp[x_recombine_parser_title,startA,psT,ec,eb,ep,h1,hl1,hl2,c1,c2,er,hQ,h2,hr,hb1,hu,optW,h3,hl3,hn,optN]
      exact FinR.done (by simp) (by simp) rfl (by simp[resOf,resE]) (by simp) (by simp)
    · rename_i x
      by_cases e1:x.2=r.length
      · simp[x_recombine_parser_title,startA,psT,ec,eb,ep,h1,hl1,hl2,c1,c2,er,hQ,h2,hr,hb1,hu,optW,h3,hl3,hn,optN,e1]
        exact FinR.done (by simp) (by simp) rfl (by simp[resOf,resE]) (by simp) (by simp)
      · simp[x_recombine_parser_title,startA,psT,ec,eb,ep,h1,hl1,hl2,c1,c2,er,hQ,h2,hr,hb1,hu,optW,h3,hl3,hn,optN,e1]
        exact FinR.done (by simp) (by simp) rfl (by simp[resOf,resE]) (by simp) (by simp)
    · rename_i x y
      by_cases e1:x.2=r.length
      · by_cases e2:y.2=q.length
        · by_cases e3:1≤y.1
          · by_cases e4:y.1≤32
            · simp[x_recombine_parser_title,startA,psT,ec,eb,ep,h1,hl1,hl2,c1,c2,er,hQ,h2,hr,hb1,hu,optW,h3,hl3,hn,optN,e1,e2,e3,e4]
              exact FinR.done (by simp) (by simp) rfl (by simp[resOf,resE]) (by simp) (by simp)
            · simp[x_recombine_parser_title,startA,psT,ec,eb,ep,h1,hl1,hl2,c1,c2,er,hQ,h2,hr,hb1,hu,optW,h3,hl3,hn,optN,e1,e2,e3,e4]
              exact FinR.done (by simp) (by simp) rfl (by simp[resOf,resE]) (by simp) (by simp)
          · simp[x_recombine_parser_title,startA,psT,ec,eb,ep,h1,hl1,hl2,c1,c2,er,hQ,h2,hr,hb1,hu,optW,h3,hl3,hn,optN,e1,e2,e3]
            exact FinR.done (by simp) (by simp) rfl (by simp[resOf,resE]) (by simp) (by simp)
        · simp[x_recombine_parser_title,startA,psT,ec,eb,ep,h1,hl1,hl2,c1,c2,er,hQ,h2,hr,hb1,hu,optW,h3,hl3,hn,optN,e1,e2,show ¬(y.2:Int)=(q.length:Int) by omega]
          exact FinR.done (by simp) (by simp) rfl (by simp[resOf,resE]) (by simp) (by simp)
      · simp[x_recombine_parser_title,startA,psT,ec,eb,ep,h1,hl1,hl2,c1,c2,er,hQ,h2,hr,hb1,hu,optW,h3,hl3,hn,optN,e1,show ¬(x.2:Int)=(r.length:Int) by omega]
        exact FinR.done (by simp) (by simp) rfl (by simp[resOf,resE]) (by simp) (by simp)
  have et:titV a b=(⟨[],false,0,[],none⟩,false):=by unfold titV;rw[if_neg c1,if_neg c2]
  simp only[F_recombine_title,et]
  have hl1:a.length≤9223372036854775807:=by omega
  simp[x_recombine_parser_title,startA,psT,ec,eb,h1,hl1,c1,c2]
  exact FinR.done (by simp) (by simp) rfl (by simp[resOf,resE]) (by simp) (by simp)
/-! ### the parser -/
def hkR (h:CHunkT):A:=.d (Rep.to h)
def rwD (r:RowT):A:=.d (Rep.to r)
def obDoneR:Ob→List CHunkT
  | .cells _ _ xs=>xs.dropLast.map fun x=>(Rep.of x.toD).getD default
  | _=>[]
def obRows:Ob→List RowT
  | .cells _ _ xs=>xs.map fun x=>(Rep.of x.toD).getD default
  | _=>[]
def obCurR (o l:Ob):Option CHunkT:=match o with
  | .cells _ _ xs=>xs.getLast?.map fun y=>⟨(Rep.of (α:=List Int) (y.cells.getD 0 .any).toD).getD [],obRows l⟩
  | _=>none
def hkCR (i:Nat) (done:List CHunkT) (a:List Int) (m:Nat):List A:=done.map hkR++[.agg [.d (.sl 1 (a.map Rep.to)),.own i m 0 m]]
def rwC (l:List RowT):List A:=l.map rwD
@[simp] theorem obDoneR_nil (v e:Nat):obDoneR (.cells v e [])=[]:=rfl
@[simp] theorem obDoneR_hk (v e i:Nat) (done:List CHunkT) (a:List Int) (m:Nat):obDoneR (.cells v e (hkCR i done a m))=done:=by
  simp only[obDoneR,hkCR,List.dropLast_concat,List.map_map]
  refine (List.map_congr_left fun x _=>?_).trans (List.map_id _)
  simp only[hkR,A.toD,Rep.of_to,Function.comp_apply,Option.getD_some,id]
@[simp] theorem obRows_rw (v e:Nat) (l:List RowT):obRows (.cells v e (rwC l))=l:=by
  simp only[obRows,rwC,List.map_map]
  refine (List.map_congr_left fun x _=>?_).trans (List.map_id _)
  simp only[rwD,A.toD,Rep.of_to,Function.comp_apply,Option.getD_some,id]
@[simp] theorem obCurR_nil (v e:Nat) (l:Ob):obCurR (.cells v e []) l=none:=rfl
@[simp] theorem obCurR_hk (v e i:Nat) (done:List CHunkT) (a:List Int) (m:Nat) (l:Ob):obCurR (.cells v e (hkCR i done a m)) l=some ⟨a,obRows l⟩:=by
  have h:Rep.of (α:=List Int) (.sl 1 (a.map Rep.to))=some a:=Rep.of_to (α:=List Int) a
  simp only[obCurR,hkCR,List.getLast?_append,List.getLast?_singleton,Option.some_or,Option.map_some,A.cells,List.getD_cons_zero,A.toD,h,Option.getD_some]
@[simp] theorem objsL_hkR (i:Nat) (done:List CHunkT) (a:List Int) (m:Nat):A.objsL (hkCR i done a m)=[i]:=by
  unfold hkCR
  rw[objsL_app]
  have:A.objsL (done.map hkR)=[]:=objsL_d Rep.to done
  rw[this]
  rfl
@[simp] theorem objsL_rw (l:List RowT):A.objsL (rwC l)=[]:=objsL_d Rep.to l
@[simp] theorem ren_hkR (q:Nat→Nat) (i:Nat) (done:List CHunkT) (a:List Int) (m:Nat):(hkCR i done a m).map (A.ren q)=hkCR (q i) done a m:=by
  unfold hkCR
  rw[List.map_append,List.map_map]
  rfl
@[simp] theorem ren_rw (q:Nat→Nat) (l:List RowT):(rwC l).map (A.ren q)=rwC l:=by
  unfold rwC
  rw[List.map_map]
  rfl
theorem hkCR_under (i:Nat) (done:List CHunkT) (a:List Int) (m k:Nat):(hkCR i done a m).all (A.under k)=decide (i<k):=by
  have:(done.map hkR).all (A.under k)=true:=by
    rw[List.all_eq_true]
    intro x hx
    obtain⟨y,_,rfl⟩:=List.mem_map.1 hx
    rfl
  unfold hkCR
  rw[List.all_append,this]
  simp
theorem rwC_under (l:List RowT) (k:Nat):(rwC l).all (A.under k)=true:=by
  rw[List.all_eq_true]
  intro x hx
  obtain⟨y,_,rfl⟩:=List.mem_map.1 hx
  rfl
@[simp] theorem hkR_under (i:Nat) (done:List CHunkT) (a:List Int) (m k:Nat):(∀x,x∈hkCR i done a m→A.under k x=true)=(i<k):=by
  have:=hkCR_under i done a m k
  rw[Bool.eq_iff_iff,List.all_eq_true,decide_eq_true_eq] at this
  exact propext this
@[simp] theorem rw_under (l:List RowT) (k:Nat):(∀x,x∈rwC l→A.under k x=true)=True:=by
  have:=rwC_under l k
  rw[List.all_eq_true] at this
  exact eq_true this
def rsV (st:Store):RsT:=⟨((st.getD 0 .dead).at 0 0).gs,((st.getD 0 .dead).at 0 1).gb,((st.getD 0 .dead).at 0 2).gi,obDoneR (st.getD 1 .dead),obCurR (st.getD 1 .dead) (st.getD 2 .dead)⟩
def psR (i:Nat) (x:RsT) (k:Nat):Ob:=.cells 0 4 [.agg [.d (.str x.path),.d (.bool x.dense),.d (.int .i64 x.par),.own i k 0 k]]
def rsB (b:Nat) (x:RsT):Store:=match x.cur with
  | none=>[psR (b+1) x 0,.cells 0 2 []]
  | some h=>[psR (b+1) x (x.done.length+1),.cells (x.done.length+1) 2 (hkCR (b+2) x.done h.at_ h.rows.length),.cells h.rows.length 3 (rwC h.rows)]
abbrev rsS (x:RsT):Store:=rsB 0 x
theorem rsV_rsS {x:RsT} (h:x.cur=none→x.done=[]):rsV (rsS x)=x:=by
  obtain⟨path,dense,par,done,cur⟩:=x
  cases cur with
  | none =>
    have:done=[]:=h rfl
    subst this
    simp[rsV,rsB,psR,A.cells]
  | some c=>simp[rsV,rsB,psR,A.cells]
theorem hkCR_len (i:Nat) (done:List CHunkT) (a:List Int) (m:Nat):(hkCR i done a m).length=done.length+1:=by simp[hkCR]
theorem rwC_len (l:List RowT):(rwC l).length=l.length:=by simp[rwC]
theorem rsS_under (x:RsT):(rsS x).all (Ob.under (rsS x).length)=true:=by
  obtain⟨path,dense,par,done,cur⟩:=x
  cases cur with
  | none=>simp[rsB,psR]
  | some c=>simp[rsB,psR]
structure RlX where
  x:RsT
  line:Str
def newR (a:List Int):A:=.d (.agg [.sl 1 (a.map Rep.to),.nilsl])
def rsH (x:RsT) (a:List Int):Store:=match x.cur with
  | none=>[psR 1 x 1,.cells 1 2 [newR a]]
  | some h=>[psR 1 x (x.done.length+1+1),.cells (x.done.length+1+1) 2 (hkCR 2 x.done h.at_ h.rows.length++[newR a]),.cells h.rows.length 3 (rwC h.rows)]
theorem rsH_under (x:RsT) (a:List Int):(rsH x a).all (Ob.under (rsH x a).length)=true:=by
  obtain⟨path,dense,par,done,cur⟩:=x
  cases cur with
  | none=>simp[rsH,psR,newR]
  | some c =>
    have h1:=hkCR_under 2 done c.at_ c.rows.length 3
    have h2:=rwC_under c.rows 3
    simp only[rsH,psR,List.length_cons,List.length_nil,List.all_cons,List.all_nil,Ob.under,Bool.and_true,Nat.zero_add,List.all_append,h1,h2]
    simp[newR]
def hedB (n:Nat) (line:Str):Bool:=match headR n line with
  | none=>false
  | some a=>decide (a.length=n+1)
@[simp] def F_recombine_header:RF RlX where
  new:=0
  view a st:=⟨rsV st,(a.getD 1 .any).gs⟩
  args x:=[.ref 0 0 0 0,.d (.str x.line)]
  st x:=rsS x.x
  pre x:=(x.x.cur=none→x.x.done=[])∧x.x.done.length≤1000000000∧x.line.length≤1048576∧1≤x.x.par∧x.x.par≤32
  res x:=.d (.bool (hedB x.x.par.toNat x.line))
  st' x:=match headR x.x.par.toNat x.line with
    | none=>rsS x.x
    | some a=>rsH x.x a
abbrev R_recombine_parser_header:RSpec:=F_recombine_header.spec
structure RhX where
  i:Nat
  acc:List Int
theorem split_mem_len {s w:Str} (h:w∈splS s):w.length≤s.length:=by
  unfold splS at h
  rw[splitK_C 32 _ _ rfl] at h
  have h1:=(splitC_len 32 s []).1
  obtain⟨i,hi,rfl⟩:=List.getElem_of_mem h
  have h2:=mem_flat_le hi
  have h3:(splitC 32 [] s).flatten.length=flen (splitC 32 [] s):=rfl
  simp at h1
  omega
theorem split_len (s:Str):(splS s).length≤s.length+1:=by
  unfold splS
  rw[splitK_C 32 _ _ rfl]
  exact (splitC_len 32 s []).2
theorem ct_recombine_parser_header {P:Program} {f g1 g2 g3 g4 g5:Nat} {G:Gam} (hc:CodeOf P f 2 23 [2] (x_recombine_parser_header g1 g2 g3 g4 g5)) (hG:GamOk P G) (h1:G.find g1=some S_strings_Repeat) (h2:G.find g2=some S_strings_CutPrefix) (h3:G.find g3=some S_strings_CutSuffix) (h4:G.find g4=some S_strings_Split) (h5:G.find g5=some S_scan_Range):RSpec.Ok P f R_recombine_parser_header:=by
  refine RF.ok hc.call fun x hx=>hc.rcalls hG rfl ?_
  obtain⟨x,line⟩:=x
  obtain⟨h0,hd,hl,hp1,hp2⟩:=hx
  simp only at h0 hd hl hp1 hp2
  have und:=rsS_under x
  have und2:=rsH_under x
  obtain⟨n,hn⟩:=Int.eq_ofNat_of_zero_le (show 0≤x.par by omega)
  have w0:IntKind.i64.wrap ((n:Int)+1)=(n:Int)+1:=wrap_in (by omega) (by omega)
  have e0:((n:Int)+1).toNat=n+1:=by omega
  have hr:Lib.repeatL [64] (n+1)=atsW n:=repeat_at (n+1)
  have hal:(atsW n).length=n+1:=by simp[atsW]
  have hll:line.length≤9223372036854775807:=by omega
  have hnn:x.par.toNat=n:=by omega
  obtain⟨path,dense,par,done,cur⟩:=x
  simp only at hn hnn hd h0 hp1 hp2
  subst hn
  have eh:headR n line=if Lib.hasPrefix line (atsW n++[32])=true then
    (if Lib.hasSuffix (line.drop (n+2)) (32::atsW n)=true then wordsR n [] (splS ((line.drop (n+2)).take ((line.drop (n+2)).length-(n+2)))) else none) else none:=rfl
  cases cur with
  | none =>
    have hdn:done=[]:=h0 rfl
    subst hdn
    have und2:=und2
    simp only[rsH,psR,newR] at und2
    by_cases c1:Lib.hasPrefix line (atsW n++[32])=true
    · have ec:cutPre line (atsW n++[32])=line.drop (n+2):=by unfold cutPre;rw[if_pos c1];simp[hal]
      rw[if_pos c1] at eh
      generalize hr1:line.drop (n+2)=r1 at *
      have hrl:r1.length≤1048576:=by rw[← hr1];simp;omega
      by_cases c2:Lib.hasSuffix r1 (32::atsW n)=true
      · have es:cutSuf r1 (32::atsW n)=r1.take (r1.length-(n+2)):=by unfold cutSuf;rw[if_pos c2];simp[hal]
        rw[if_pos c2] at eh
        generalize hr2:r1.take (r1.length-(n+2))=r2 at *
        have hrl2:r2.length≤1048576:=by rw[← hr2];simp;omega
        have hsp:Lib.splitK [32] 0 (Lib.count r2 [32]) r2=splS r2:=rfl
        have hw1:=split_len r2
        have hw2:=fun w=>split_mem_len (s:=r2) (w:=w)
        generalize splS r2=ws at *
        simp only[F_recombine_header,hedB]
        simp only[hnn]
        generalize hV:headR n line=V at *
        simp[x_recombine_parser_header,startA,rsB,psR,w0,e0,h1,hr,hal,h2,hll,c1,ec,h3,show r1.length≤9223372036854775807 by omega,c2,es,h4,show r2.length<4294967281 by omega,hsp]
        refine⟨⟨by omega,by omega,by omega⟩,by omega,by omega,?_⟩
        refine vc_lpR (σ:=RhX) (fun z=>z.i≤ws.length∧z.acc.length=z.i∧wordsR n z.acc (ws.drop z.i)=V) (fun z=>ws.length-z.i)
          (fun z=>[.ref 0 0 0 0,.any,.any,.any,.any,.any,.ref 2 0 0 0,.any,.any,.any,.any,.any,.any,.any,.any,.any,.any,.d (.sl 1 (ws.map Rep.to)),.d (.int .i64 ws.length),.d (.int .i64 z.i),.any,.any,.any])
          (fun z=>[psR 1 ⟨path,dense,n,[],none⟩ 0,.cells 0 2 [],.cells 0 2 [.agg [.gr 3 1 (z.acc.map Rep.to),.d .nilsl]],.tip z.acc.length]) ⟨0,[]⟩ ?_ ⟨by simp,by simp,by simpa using eh.symm⟩ ?_
        · refine Re.wn (s':=[psR 1 ⟨path,dense,n,[],none⟩ 0,.cells 0 2 [],.cells 0 2 [.agg [.gr 3 1 [],.d .nilsl]]]) [true,false,false,false,false,false,true,false,false,false,false,false,false,false,false,false,false,true,true,true] [.tip 0] (by simp) (by simp) ?_ ?_ (by simp)
          · simp
          · exact⟨.inl rfl,.inl rfl,.cellsL ⟨⟨rfl,⟨Wk.fresh 3 [.tip 0] 1 0 rfl,Wk.refl _ _ _,trivial⟩⟩,trivial⟩,trivial⟩
        rintro⟨i,acc⟩ ⟨i1,i2,i3⟩
        simp only at i1 i2 i3
        by_cases hi:i<ws.length
        · have w1:IntKind.i64.wrap ((i:Int)+1)=(i:Int)+1:=wrap_in (by omega) (by omega)
          have hwl:=hw2 ws[i] (List.getElem_mem hi)
          have hg:ws[i]?=some ws[i]:=List.getElem?_eq_getElem hi
          rw[List.drop_eq_getElem_cons hi,wordsR,i2] at i3
          generalize hge:ws[i]=w at *
          by_cases hs:(i:Int)=n
          · rw[if_pos hs] at i3
            obtain rfl:i=n:=by omega
            by_cases q1:Lib.hasPrefix w [43]=true
            · have ew:cutPre w [43]=w.drop 1:=by unfold cutPre;rw[if_pos q1];rfl
              have ewr:wordR [43] w=match rangeV (w.drop 1) 0 with
                | none=>none
                | some x=>if x.2.2=(w.drop 1).length then some x.1 else none:=by unfold wordR;rw[if_pos q1] <;> rfl
              rw[ewr] at i3
              have hwd:(w.drop 1).length≤1048576:=by simp;omega
              generalize w.drop 1=u at *
              cases hrg:rangeV u 0 with
              | none =>
                rw[hrg] at i3
                have i3:none=V:=i3
                subst i3
                simp[psR,hi,hg,hge,h2,show w.length≤9223372036854775807 by omega,h5,optR,w1,hs,q1,ew,hwd,hrg]
                exact FinR.done (by simp) (by simp) rfl (by simp[resOf,resE]) (by simp) (by simp)
              | some x =>
                rw[hrg] at i3
                by_cases q2:x.2.2=u.length
                · simp only[if_pos q2] at i3
                  simp[psR,hi,hg,hge,h2,show w.length≤9223372036854775807 by omega,h5,optR,w1,hs,q1,ew,hwd,hrg,q2,i2]
                  exact⟨by unfold room;omega,Nxt.mk ⟨i+1,acc++[x.1]⟩ (by simp only;omega) (by simp) (by simp[psR,i2]) ⟨by simp only;omega,by simp[i2],i3⟩⟩
                · simp only[if_neg q2] at i3
                  subst i3
                  simp[psR,hi,hg,hge,h2,show w.length≤9223372036854775807 by omega,h5,optR,w1,hs,q1,ew,hwd,hrg,q2,show ¬(x.2.2:Int)=(u.length:Int) by omega]
                  exact FinR.done (by simp) (by simp) rfl (by simp[resOf,resE]) (by simp) (by simp)
            · have ew:cutPre w [43]=w:=by unfold cutPre;rw[if_neg q1]
              have ewr:wordR [43] w=none:=by unfold wordR;rw[if_neg q1]
              rw[ewr] at i3
              have i3:none=V:=i3
              subst i3
              cases hrg:rangeV w 0 with
              | none =>
                simp[psR,hi,hg,hge,h2,show w.length≤9223372036854775807 by omega,h5,optR,w1,hs,q1,ew,hrg,show w.length≤1048576 by omega]
                exact FinR.done (by simp) (by simp) rfl (by simp[resOf,resE]) (by simp) (by simp)
              | some x =>
                simp[psR,hi,hg,hge,h2,show w.length≤9223372036854775807 by omega,h5,optR,w1,hs,q1,ew,hrg,show w.length≤1048576 by omega]
                exact FinR.done (by simp) (by simp) rfl (by simp[resOf,resE]) (by simp) (by simp)
          · rw[if_neg hs] at i3
            have hs2:¬i=n:=by omega
            by_cases q1:Lib.hasPrefix w [45]=true
            · have ew:cutPre w [45]=w.drop 1:=by unfold cutPre;rw[if_pos q1];rfl
              have ewr:wordR [45] w=match rangeV (w.drop 1) 0 with
                | none=>none
                | some x=>if x.2.2=(w.drop 1).length then some x.1 else none:=by unfold wordR;rw[if_pos q1] <;> rfl
              rw[ewr] at i3
              have hwd:(w.drop 1).length≤1048576:=by simp;omega
              generalize w.drop 1=u at *
              cases hrg:rangeV u 0 with
              | none =>
                rw[hrg] at i3
                have i3:none=V:=i3
                subst i3
                simp[psR,hi,hg,hge,h2,show w.length≤9223372036854775807 by omega,h5,optR,w1,hs,hs2,q1,ew,hwd,hrg]
                exact FinR.done (by simp) (by simp) rfl (by simp[resOf,resE]) (by simp) (by simp)
              | some x =>
                rw[hrg] at i3
                by_cases q2:x.2.2=u.length
                · simp only[if_pos q2] at i3
                  simp[psR,hi,hg,hge,h2,show w.length≤9223372036854775807 by omega,h5,optR,w1,hs,hs2,q1,ew,hwd,hrg,q2,i2]
                  exact⟨by unfold room;omega,Nxt.mk ⟨i+1,acc++[x.1]⟩ (by simp only;omega) (by simp) (by simp[psR,i2]) ⟨by simp only;omega,by simp[i2],i3⟩⟩
                · simp only[if_neg q2] at i3
                  subst i3
                  simp[psR,hi,hg,hge,h2,show w.length≤9223372036854775807 by omega,h5,optR,w1,hs,hs2,q1,ew,hwd,hrg,q2,show ¬(x.2.2:Int)=(u.length:Int) by omega]
                  exact FinR.done (by simp) (by simp) rfl (by simp[resOf,resE]) (by simp) (by simp)
            · have ew:cutPre w [45]=w:=by unfold cutPre;rw[if_neg q1]
              have ewr:wordR [45] w=none:=by unfold wordR;rw[if_neg q1]
              rw[ewr] at i3
              have i3:none=V:=i3
              subst i3
              cases hrg:rangeV w 0 with
              | none =>
                simp[psR,hi,hg,hge,h2,show w.length≤9223372036854775807 by omega,h5,optR,w1,hs,hs2,q1,ew,hrg,show w.length≤1048576 by omega]
                exact FinR.done (by simp) (by simp) rfl (by simp[resOf,resE]) (by simp) (by simp)
              | some x =>
                simp[psR,hi,hg,hge,h2,show w.length≤9223372036854775807 by omega,h5,optR,w1,hs,hs2,q1,ew,hrg,show w.length≤1048576 by omega]
                exact FinR.done (by simp) (by simp) rfl (by simp[resOf,resE]) (by simp) (by simp)
        · rw[List.drop_of_length_le (by omega),wordsR] at i3
          subst i3
          simp[hi,psR]
          refine Hint.of (T':=[.ref 0 0 0 0,.any,.any,.any,.any,.any,.ref 2 0 0 0,.any,.any,.any,.any,.any,.any,.any,.any,.any,.any,.any,.any,.any,.any,.any,.any]) (s':=[psR 1 ⟨path,dense,n,[],none⟩ 0,.cells 0 2 [],.cells 0 2 [.d (.agg [.sl 1 (acc.map Rep.to),.nilsl])],.tip acc.length])
            (Re.wn (s':=[psR 1 ⟨path,dense,n,[],none⟩ 0,.cells 0 2 [],.cells 0 2 [.d (.agg [.sl 1 (acc.map Rep.to),.nilsl])],.tip acc.length]) [true,false,false,false,false,false,true] [] (by simp) (by simp) (by simp) ⟨.inl rfl,.inl rfl,.cellsL ⟨⟨rfl,⟨Wk.gr _ _ _ _ _,Wk.refl _ _ _,trivial⟩⟩,trivial⟩,.inl rfl,trivial⟩ (by simp)) ?_
          have hdec:decide ((acc.length:Int)=(n:Int)+1)=decide (acc.length=n+1):=by
            rw[decide_eq_decide]
            omega
          have und3:=und2 acc
          simp[psR,w0,hdec,rsH,newR]
          refine⟨by unfold room;omega,FinR.done (by simp) (by simp) rfl (by simp[resOf,resE]) und3 (by simp)⟩
      · rw[if_neg c2] at eh
        simp only[F_recombine_header,hedB,hnn,eh]
        simp[x_recombine_parser_header,startA,rsB,psR,w0,e0,h1,hr,hal,h2,hll,c1,ec,h3,show r1.length≤9223372036854775807 by omega,c2]
        refine⟨⟨by omega,by omega,by omega⟩,by omega,by omega,?_⟩
        exact FinR.done (by simp) (by simp) rfl (by simp[resOf,resE]) (by simp) (by simp)
    · rw[if_neg c1] at eh
      simp only[F_recombine_header,hedB,hnn,eh]
      simp[x_recombine_parser_header,startA,rsB,psR,w0,e0,h1,hr,hal,h2,hll,c1]
      refine⟨⟨by omega,by omega,by omega⟩,by omega,?_⟩
      exact FinR.done (by simp) (by simp) rfl (by simp[resOf,resE]) (by simp) (by simp)
  | some hk =>
    have hkl:=hkCR_len 2 done hk.at_ hk.rows.length
    have und2:=und2
    simp only[rsH,psR,newR] at und2
    by_cases c1:Lib.hasPrefix line (atsW n++[32])=true
    · have ec:cutPre line (atsW n++[32])=line.drop (n+2):=by unfold cutPre;rw[if_pos c1];simp[hal]
      rw[if_pos c1] at eh
      generalize hr1:line.drop (n+2)=r1 at *
      have hrl:r1.length≤1048576:=by rw[← hr1];simp;omega
      by_cases c2:Lib.hasSuffix r1 (32::atsW n)=true
      · have es:cutSuf r1 (32::atsW n)=r1.take (r1.length-(n+2)):=by unfold cutSuf;rw[if_pos c2];simp[hal]
        rw[if_pos c2] at eh
        generalize hr2:r1.take (r1.length-(n+2))=r2 at *
        have hrl2:r2.length≤1048576:=by rw[← hr2];simp;omega
        have hsp:Lib.splitK [32] 0 (Lib.count r2 [32]) r2=splS r2:=rfl
        have hw1:=split_len r2
        have hw2:=fun w=>split_mem_len (s:=r2) (w:=w)
        generalize splS r2=ws at *
        simp only[F_recombine_header,hedB]
        simp only[hnn]
        generalize hV:headR n line=V at *
        simp[x_recombine_parser_header,startA,rsB,psR,w0,e0,h1,hr,hal,h2,hll,c1,ec,h3,show r1.length≤9223372036854775807 by omega,c2,es,h4,show r2.length<4294967281 by omega,hsp,hkl]
        refine⟨⟨by omega,by omega,by omega⟩,by omega,by omega,?_⟩
        refine vc_lpR (σ:=RhX) (fun z=>z.i≤ws.length∧z.acc.length=z.i∧wordsR n z.acc (ws.drop z.i)=V) (fun z=>ws.length-z.i)
          (fun z=>[.ref 0 0 0 0,.any,.any,.any,.any,.any,.ref 3 0 0 0,.any,.any,.any,.any,.any,.any,.any,.any,.any,.any,.d (.sl 1 (ws.map Rep.to)),.d (.int .i64 ws.length),.d (.int .i64 z.i),.any,.any,.any])
          (fun z=>[psR 1 ⟨path,dense,n,done,some hk⟩ (done.length+1),.cells (done.length+1) 2 (hkCR 2 done hk.at_ hk.rows.length),.cells hk.rows.length 3 (rwC hk.rows),.cells 0 2 [.agg [.gr 4 1 (z.acc.map Rep.to),.d .nilsl]],.tip z.acc.length]) ⟨0,[]⟩ ?_ ⟨by simp,by simp,by simpa using eh.symm⟩ ?_
        · refine Re.wn (s':=[psR 1 ⟨path,dense,n,done,some hk⟩ (done.length+1),.cells (done.length+1) 2 (hkCR 2 done hk.at_ hk.rows.length),.cells hk.rows.length 3 (rwC hk.rows),.cells 0 2 [.agg [.gr 4 1 [],.d .nilsl]]]) [true,false,false,false,false,false,true,false,false,false,false,false,false,false,false,false,false,true,true,true] [.tip 0] (by simp) (by simp) ?_ ?_ (by simp)
          · simp
          · exact⟨.inl rfl,.inl rfl,.inl rfl,.cellsL ⟨⟨rfl,⟨Wk.fresh 4 [.tip 0] 1 0 rfl,Wk.refl _ _ _,trivial⟩⟩,trivial⟩,trivial⟩
        rintro⟨i,acc⟩ ⟨i1,i2,i3⟩
        simp only at i1 i2 i3
        by_cases hi:i<ws.length
        · have w1:IntKind.i64.wrap ((i:Int)+1)=(i:Int)+1:=wrap_in (by omega) (by omega)
          have hwl:=hw2 ws[i] (List.getElem_mem hi)
          have hg:ws[i]?=some ws[i]:=List.getElem?_eq_getElem hi
          rw[List.drop_eq_getElem_cons hi,wordsR,i2] at i3
          generalize hge:ws[i]=w at *
          by_cases hs:(i:Int)=n
          · rw[if_pos hs] at i3
            obtain rfl:i=n:=by omega
            by_cases q1:Lib.hasPrefix w [43]=true
            · have ew:cutPre w [43]=w.drop 1:=by unfold cutPre;rw[if_pos q1];rfl
              have ewr:wordR [43] w=match rangeV (w.drop 1) 0 with
                | none=>none
                | some x=>if x.2.2=(w.drop 1).length then some x.1 else none:=by unfold wordR;rw[if_pos q1] <;> rfl
              rw[ewr] at i3
              have hwd:(w.drop 1).length≤1048576:=by simp;omega
              generalize w.drop 1=u at *
              cases hrg:rangeV u 0 with
              | none =>
                rw[hrg] at i3
                have i3:none=V:=i3
                subst i3
                simp[psR,hi,hg,hge,h2,show w.length≤9223372036854775807 by omega,h5,optR,w1,hs,q1,ew,hwd,hrg]
                exact FinR.done (by simp) (by simp) rfl (by simp[resOf,resE]) (by simp) (by simp)
              | some x =>
                rw[hrg] at i3
                by_cases q2:x.2.2=u.length
                · simp only[if_pos q2] at i3
                  simp[psR,hi,hg,hge,h2,show w.length≤9223372036854775807 by omega,h5,optR,w1,hs,q1,ew,hwd,hrg,q2,i2]
                  exact⟨by unfold room;omega,Nxt.mk ⟨i+1,acc++[x.1]⟩ (by simp only;omega) (by simp) (by simp[psR,i2]) ⟨by simp only;omega,by simp[i2],i3⟩⟩
                · simp only[if_neg q2] at i3
                  subst i3
                  simp[psR,hi,hg,hge,h2,show w.length≤9223372036854775807 by omega,h5,optR,w1,hs,q1,ew,hwd,hrg,q2,show ¬(x.2.2:Int)=(u.length:Int) by omega]
                  exact FinR.done (by simp) (by simp) rfl (by simp[resOf,resE]) (by simp) (by simp)
            · have ew:cutPre w [43]=w:=by unfold cutPre;rw[if_neg q1]
              have ewr:wordR [43] w=none:=by unfold wordR;rw[if_neg q1]
              rw[ewr] at i3
              have i3:none=V:=i3
              subst i3
              cases hrg:rangeV w 0 with
              | none =>
                simp[psR,hi,hg,hge,h2,show w.length≤9223372036854775807 by omega,h5,optR,w1,hs,q1,ew,hrg,show w.length≤1048576 by omega]
                exact FinR.done (by simp) (by simp) rfl (by simp[resOf,resE]) (by simp) (by simp)
              | some x =>
                simp[psR,hi,hg,hge,h2,show w.length≤9223372036854775807 by omega,h5,optR,w1,hs,q1,ew,hrg,show w.length≤1048576 by omega]
                exact FinR.done (by simp) (by simp) rfl (by simp[resOf,resE]) (by simp) (by simp)
          · rw[if_neg hs] at i3
            have hs2:¬i=n:=by omega
            by_cases q1:Lib.hasPrefix w [45]=true
            · have ew:cutPre w [45]=w.drop 1:=by unfold cutPre;rw[if_pos q1];rfl
              have ewr:wordR [45] w=match rangeV (w.drop 1) 0 with
                | none=>none
                | some x=>if x.2.2=(w.drop 1).length then some x.1 else none:=by unfold wordR;rw[if_pos q1] <;> rfl
              rw[ewr] at i3
              have hwd:(w.drop 1).length≤1048576:=by simp;omega
              generalize w.drop 1=u at *
              cases hrg:rangeV u 0 with
              | none =>
                rw[hrg] at i3
                have i3:none=V:=i3
                subst i3
                simp[psR,hi,hg,hge,h2,show w.length≤9223372036854775807 by omega,h5,optR,w1,hs,hs2,q1,ew,hwd,hrg]
                exact FinR.done (by simp) (by simp) rfl (by simp[resOf,resE]) (by simp) (by simp)
              | some x =>
                rw[hrg] at i3
                by_cases q2:x.2.2=u.length
                · simp only[if_pos q2] at i3
                  simp[psR,hi,hg,hge,h2,show w.length≤9223372036854775807 by omega,h5,optR,w1,hs,hs2,q1,ew,hwd,hrg,q2,i2]
                  exact⟨by unfold room;omega,Nxt.mk ⟨i+1,acc++[x.1]⟩ (by simp only;omega) (by simp) (by simp[psR,i2]) ⟨by simp only;omega,by simp[i2],i3⟩⟩
                · simp only[if_neg q2] at i3
                  subst i3
                  simp[psR,hi,hg,hge,h2,show w.length≤9223372036854775807 by omega,h5,optR,w1,hs,hs2,q1,ew,hwd,hrg,q2,show ¬(x.2.2:Int)=(u.length:Int) by omega]
                  exact FinR.done (by simp) (by simp) rfl (by simp[resOf,resE]) (by simp) (by simp)
            · have ew:cutPre w [45]=w:=by unfold cutPre;rw[if_neg q1]
              have ewr:wordR [45] w=none:=by unfold wordR;rw[if_neg q1]
              rw[ewr] at i3
              have i3:none=V:=i3
              subst i3
              cases hrg:rangeV w 0 with
              | none =>
                simp[psR,hi,hg,hge,h2,show w.length≤9223372036854775807 by omega,h5,optR,w1,hs,hs2,q1,ew,hrg,show w.length≤1048576 by omega]
                exact FinR.done (by simp) (by simp) rfl (by simp[resOf,resE]) (by simp) (by simp)
              | some x =>
                simp[psR,hi,hg,hge,h2,show w.length≤9223372036854775807 by omega,h5,optR,w1,hs,hs2,q1,ew,hrg,show w.length≤1048576 by omega]
                exact FinR.done (by simp) (by simp) rfl (by simp[resOf,resE]) (by simp) (by simp)
        · rw[List.drop_of_length_le (by omega),wordsR] at i3
          subst i3
          simp[hi,hkl,psR]
          refine Hint.of (T':=[.ref 0 0 0 0,.any,.any,.any,.any,.any,.ref 3 0 0 0,.any,.any,.any,.any,.any,.any,.any,.any,.any,.any,.any,.any,.any,.any,.any,.any]) (s':=[psR 1 ⟨path,dense,n,done,some hk⟩ (done.length+1),.cells (done.length+1) 2 (hkCR 2 done hk.at_ hk.rows.length),.cells hk.rows.length 3 (rwC hk.rows),.cells 0 2 [.d (.agg [.sl 1 (acc.map Rep.to),.nilsl])],.tip acc.length])
            (Re.wn (s':=[psR 1 ⟨path,dense,n,done,some hk⟩ (done.length+1),.cells (done.length+1) 2 (hkCR 2 done hk.at_ hk.rows.length),.cells hk.rows.length 3 (rwC hk.rows),.cells 0 2 [.d (.agg [.sl 1 (acc.map Rep.to),.nilsl])],.tip acc.length]) [true,false,false,false,false,false,true] [] (by simp) (by simp) (by simp) ⟨.inl rfl,.inl rfl,.inl rfl,.cellsL ⟨⟨rfl,⟨Wk.gr _ _ _ _ _,Wk.refl _ _ _,trivial⟩⟩,trivial⟩,.inl rfl,trivial⟩ (by simp)) ?_
          have hdec:decide ((acc.length:Int)=(n:Int)+1)=decide (acc.length=n+1):=by
            rw[decide_eq_decide]
            omega
          have und3:=und2 acc
          simp[psR,hkl,w0,hdec,rsH,newR]
          refine⟨by unfold room;omega,FinR.done (by simp) (by simp) rfl (by simp[resOf,resE]) und3 (by simp)⟩
      · rw[if_neg c2] at eh
        simp only[F_recombine_header,hedB,hnn,eh]
        simp[x_recombine_parser_header,startA,rsB,psR,w0,e0,h1,hr,hal,h2,hll,c1,ec,h3,show r1.length≤9223372036854775807 by omega,c2]
        refine⟨⟨by omega,by omega,by omega⟩,by omega,by omega,?_⟩
        exact FinR.done (by simp) (by simp) rfl (by simp[resOf,resE]) (by simp) (by simp)
    · rw[if_neg c1] at eh
      simp only[F_recombine_header,hedB,hnn,eh]
      simp[x_recombine_parser_header,startA,rsB,psR,w0,e0,h1,hr,hal,h2,hll,c1]
      refine⟨⟨by omega,by omega,by omega⟩,by omega,?_⟩
      exact FinR.done (by simp) (by simp) rfl (by simp[resOf,resE]) (by simp) (by simp)
@[simp] theorem hkCR_at (i:Nat) (done:List CHunkT) (a:List Int) (m:Nat):(hkCR i done a m)[done.length]?=some (.agg [.d (.sl 1 (a.map Rep.to)),.own i m 0 m]):=by
  simp[hkCR]
theorem hkCR_set (i:Nat) (done:List CHunkT) (a b:List Int) (m k:Nat):(hkCR i done a m).set done.length (.agg [.d (.sl 1 (b.map Rep.to)),.own i k 0 k])=hkCR i done b k:=by
  simp[hkCR]
theorem rwC_app (l:List RowT) (r:RowT):rwC l++[.d (.agg [.bool r.lost,.int .u32 r.marks,.str r.text])]=rwC (l++[r]):=by simp[rwC,rwD]
theorem rwC_at {l:List RowT} {i:Nat} (h:i<l.length):(rwC l)[i]?=some (.d (.agg [.bool l[i].lost,.int .u32 l[i].marks,.str l[i].text])):=by
  simp[rwC,rwD,h]
theorem rwset_under (l:List RowT) (k:Nat) (a:Bool) (b:Int) (c:Str) (n:Nat):((rwC l).set k (.agg [.d (.bool a),.d (.int .u32 b),.d (.str c)])).all (A.under n)=true:=by
  rw[List.all_eq_true]
  intro x hx
  rcases List.mem_or_eq_of_mem_set hx with hx | rfl
  · have:=rwC_under l n
    rw[List.all_eq_true] at this
    exact this x hx
  · rfl
def rsE (x:RsT) (h:CHunkT):Store :=
  [psR 1 x (x.done.length+1),.cells (x.done.length+1) 2 (hkCR 2 x.done h.at_ h.rows.length),.cells h.rows.length 3 ((rwC h.rows).set (h.rows.length-1) (.agg [.d (.bool (h.rows.getD (h.rows.length-1) default).lost),.d (.int .u32 (h.rows.getD (h.rows.length-1) default).marks),.d (.str (Lib.trimSuffix (h.rows.getD (h.rows.length-1) default).text [10]))]))]
def lineS (x:RsT) (line:Str):Store :=
  if Lib.hasPrefix line [64]=true then (match headR x.par.toNat line with
    | none=>rsS x
    | some a=>rsH x a)
  else match x.cur with
    | none=>rsS x
    | some h=>if line=unendL then (if h.rows=[] then rsS x else rsE x h) else rsS ⟨x.path,x.dense,x.par,x.done,some ⟨h.at_,h.rows++[(rowRd (line++[10]) x.par).1]⟩⟩
@[simp] def F_recombine_line:RF RlX where
  new:=0
  view a st:=⟨rsV st,(a.getD 1 .any).gs⟩
  args x:=[.ref 0 0 0 0,.d (.str x.line)]
  st x:=rsS x.x
  pre x:=((x.x.cur=none→x.x.done=[])∧x.x.done.length≤1000000000∧(∀h,x.x.cur=some h→h.rows.length≤1000000000∧RowsOk h.rows))∧x.line.length≤1048576∧1≤x.x.par∧x.x.par≤32
  res x:=.d (.bool (lineR x.x x.line).isSome)
  st' x:=lineS x.x x.line
abbrev R_recombine_parser_line:RSpec:=F_recombine_line.spec
theorem hedB_line {x:RsT} {line:Str} (h1:1≤x.par) (hp:Lib.hasPrefix line [64]=true):(lineR x line).isSome=hedB x.par.toNat line:=by
  unfold lineR hedB
  rw[if_pos hp]
  cases headR x.par.toNat line with
  | none=>rfl
  | some a =>
    simp only
    by_cases c:(a.length:Int)=x.par+1
    · rw[if_pos c]
      have:a.length=x.par.toNat+1:=by omega
      simp[this]
    · rw[if_neg c]
      have:¬a.length=x.par.toNat+1:=by omega
      simp[this]
theorem ct_recombine_parser_line {P:Program} {f g1 g2 g3 g4:Nat} {G:Gam} (hc:CodeOf P f 2 11 [2] (x_recombine_parser_line g1 g2 g3 g4)) (hG:GamOk P G) (h1:G.find g1=some S_strings_HasPrefix) (h2:G.find g2=some S_strings_TrimSuffix) (h3:G.find g3=some S_recombine_Row) (h4:G.findR g4=some R_recombine_parser_header):RSpec.Ok P f R_recombine_parser_line:=by
  refine RF.ok hc.call fun x hx=>hc.rcalls hG rfl ?_
  obtain⟨⟨path,dense,par,done,cur⟩,line⟩:=x
  obtain⟨⟨h0,hd,hls⟩,hl,hp1,hp2⟩:=hx
  simp only at h0 hd hls hl hp1 hp2
  have hll:line.length≤9223372036854775807:=by omega
  have hv:=rsV_rsS (x:=⟨path,dense,par,done,cur⟩) h0
  have und:=rsS_under ⟨path,dense,par,done,cur⟩
  have und2:=rsH_under ⟨path,dense,par,done,cur⟩
  have hB:=hedB_line (x:=⟨path,dense,par,done,cur⟩) (line:=line) hp1
  cases cur with
  | none =>
    have hdn:done=[]:=h0 rfl
    subst hdn
    simp only[rsB,psR] at und hv
    by_cases c1:Lib.hasPrefix line [64]=true
    · have hB:=hB c1
      have hS:lineS ⟨path,dense,par,[],none⟩ line=(match headR par.toNat line with
        | none=>rsS ⟨path,dense,par,[],none⟩
        | some a=>rsH ⟨path,dense,par,[],none⟩ a):=by unfold lineS;rw[if_pos c1] <;> rfl
      simp only[F_recombine_line,hB,hS]
      cases hh:headR par.toNat line with
      | none =>
        have hb:hedB par.toNat line=false:=by unfold hedB;rw[hh]
        simp[x_recombine_parser_line,startA,rsB,psR,h1,hll,c1,eRCall,h4,hv,hl,hp1,hp2,hh,hb]
        exact FinR.done (by simp) (by simp) rfl (by simp[resOf,resE]) und (by simp)
      | some a =>
        have und3:=und2 a
        simp only[rsH,psR,newR] at und3
        simp[x_recombine_parser_line,startA,rsB,psR,rsH,newR,h1,hll,c1,eRCall,h4,hv,hl,hp1,hp2,hh]
        exact FinR.done (by simp) (by simp) rfl (by simp[resOf,resE]) und3 (by simp)
    · have hL:lineR ⟨path,dense,par,[],none⟩ line=none:=by unfold lineR;rw[if_neg c1]
      have hS:lineS ⟨path,dense,par,[],none⟩ line=rsS ⟨path,dense,par,[],none⟩:=by unfold lineS;rw[if_neg c1]
      simp only[F_recombine_line,hL,hS]
      simp[x_recombine_parser_line,startA,rsB,psR,h1,hll,c1]
      exact FinR.done (by simp) (by simp) rfl (by simp[resOf,resE]) und (by simp)
  | some h =>
    have hkl:=hkCR_len 2 done h.at_ h.rows.length
    have hrl:=rwC_len h.rows
    obtain⟨hh1,hh2⟩:=hls h rfl
    obtain⟨_,hat⟩:=List.getElem?_eq_some_iff.1 (hkCR_at 2 done h.at_ h.rows.length)
    simp only[rsB,psR] at und hv
    by_cases c1:Lib.hasPrefix line [64]=true
    · have hB:=hB c1
      have hS:lineS ⟨path,dense,par,done,some h⟩ line=(match headR par.toNat line with
        | none=>rsS ⟨path,dense,par,done,some h⟩
        | some a=>rsH ⟨path,dense,par,done,some h⟩ a):=by unfold lineS;rw[if_pos c1] <;> rfl
      simp only[F_recombine_line,hB,hS]
      cases hh:headR par.toNat line with
      | none =>
        have hb:hedB par.toNat line=false:=by unfold hedB;rw[hh]
        simp[x_recombine_parser_line,startA,rsB,psR,h1,hll,c1,eRCall,h4,hv,hd,hl,hp1,hp2,hh,hb]
        exact FinR.done (by simp) (by simp) rfl (by simp[resOf,resE]) und (by simp)
      | some a =>
        have und3:=und2 a
        simp only[rsH,psR,newR] at und3
        simp[x_recombine_parser_line,startA,rsB,psR,rsH,newR,h1,hll,c1,eRCall,h4,hv,hd,hl,hp1,hp2,hh]
        exact FinR.done (by simp) (by simp) rfl (by simp[resOf,resE]) und3 (by simp)
    · have hL:lineR ⟨path,dense,par,done,some h⟩ line=if line=unendL then (if h.rows=[] then none else some ⟨path,dense,par,done,some ⟨h.at_,endRow h.rows⟩⟩) else
        if (rowRd (line++[10]) par).2=true then some ⟨path,dense,par,done,some ⟨h.at_,h.rows++[(rowRd (line++[10]) par).1]⟩⟩ else none:=by unfold lineR;rw[if_neg c1]
      have hS:lineS ⟨path,dense,par,done,some h⟩ line=if line=unendL then (if h.rows=[] then rsS ⟨path,dense,par,done,some h⟩ else rsE ⟨path,dense,par,done,some h⟩ h) else rsS ⟨path,dense,par,done,some ⟨h.at_,h.rows++[(rowRd (line++[10]) par).1]⟩⟩:=by unfold lineS;rw[if_neg c1]
      have w0:IntKind.i64.wrap (done.length:Int)=(done.length:Int):=wrap_in (by omega) (by omega)
      have hu:[92,32,78,111,32,110,101,119,108,105,110,101,32,97,116,32,101,110,100,32,111,102,32,102,105,108,101]=unendL:=rfl
      have nz:¬(done.length:Int)+1=0:=by omega
      by_cases c2:line=unendL
      · have c2t:(line=unendL)=True:=eq_true c2
        rw[if_pos c2] at hL hS
        by_cases c3:h.rows=[]
        · rw[if_pos c3] at hL hS
          simp only[F_recombine_line,hL,hS]
          have hrl0:h.rows.length=0:=by rw[c3];rfl
          obtain⟨ha,hrs⟩:=h
          simp only at c3
          subst c3
          simp only[List.length_nil] at hkl hrl hat und
          simp[x_recombine_parser_line,startA,rsB,psR,h1,hll,c1,hkl,hat,hu,c2t,w0,nz]
          exact⟨by omega,FinR.done (by simp) (by simp) rfl (by simp[resOf,resE]) und (by simp)⟩
        · rw[if_neg c3] at hL hS
          simp only[F_recombine_line,hL,hS]
          have hpos:0<h.rows.length:=List.length_pos_iff.2 c3
          have w1:IntKind.i64.wrap ((h.rows.length:Int)-1)=((h.rows.length-1:Nat):Int):=by rw[wrap_in (by omega) (by omega)];omega
          have hlt:h.rows.length-1<h.rows.length:=by omega
          have hla:=rwC_at hlt
          obtain⟨_,hla2⟩:=List.getElem?_eq_some_iff.1 hla
          have htx:=(hh2 _ (List.getElem_mem hlt)).2
          have hgd:h.rows[h.rows.length-1]?=some h.rows[h.rows.length-1]:=List.getElem?_eq_getElem hlt
          simp only[rsE,psR]
          have hgd2:h.rows.getD (h.rows.length-1) default=h.rows[h.rows.length-1]:=by simp[List.getD,hgd]
          rw[hgd2]
          generalize hk:h.rows.length-1=k at *
          simp[x_recombine_parser_line,startA,rsB,psR,h1,hll,c1,hkl,hrl,hat,hu,c2t,c3,w0,nz,w1,hlt,hla,hla2,h2,show (h.rows[k]).text.length≤9223372036854775807 by omega]
          have hund:=rwset_under h.rows k h.rows[k].lost h.rows[k].marks (Lib.trimSuffix h.rows[k].text [10]) 3
          refine⟨by omega,FinR.done (by simp) (by simp) rfl (by simp[resOf,resE]) ?_ (by simp)⟩
          simp only[List.length_cons,List.length_nil,List.all_cons,List.all_nil,Ob.under,Bool.and_true,Nat.zero_add,hund,hkCR_under]
          simp
      · rw[if_neg c2] at hL hS
        simp only[F_recombine_line,hL,hS]
        have c4:¬line=[92,32,78,111,32,110,101,119,108,105,110,101,32,97,116,32,101,110,100,32,111,102,32,102,105,108,101]:=c2
        have hap:=rwC_app h.rows (rowRd (line++[10]) par).1
        have hset:=fun k=>hkCR_set 2 done h.at_ h.at_ h.rows.length k
        generalize hR:rowRd (line++[10]) par=R at *
        obtain⟨r,ok⟩:=R
        simp only at hap
        simp[x_recombine_parser_line,startA,rsB,psR,h1,hll,c1,hkl,hrl,hat,c4,w0,nz,h3,show line.length≤999999999 by omega,hR,hap,hset]
        have hok:(if ok=true then some (⟨path,dense,par,done,some ⟨h.at_,h.rows++[r]⟩⟩:RsT) else none).isSome=ok:=by cases ok <;> rfl
        rw[hok]
        refine⟨by omega,by omega,by unfold room;omega,FinR.done (by simp) (by simp) rfl (by simp[resOf,resE]) (by simp) (by simp)⟩
def hkRA (h:CHunkT):A:=.agg [.d (.sl 1 (h.at_.map Rep.to)),.d (.sl 3 (h.rows.map Rep.to))]
theorem hkR_fits (l:List CHunkT):∀x,x∈l.map hkR→x.fits 2=true:=by
  intro x hx
  obtain⟨h,_,rfl⟩:=List.mem_map.1 hx
  rfl
theorem rw_toD (l:List RowT):((((rwC l).drop 0).take l.length).map A.toD)=l.map Rep.to:=by
  rw[List.drop_zero,List.take_of_length_le (by simp[rwC])]
  unfold rwC
  rw[List.map_map]
  rfl
theorem rw_isD (l:List RowT):(((rwC l).drop 0).take l.length).all A.isD=true:=by
  rw[List.drop_zero,List.take_of_length_le (by simp[rwC])]
  simp[rwC,rwD,A.isD]
theorem hkR_freeze (L:Nat) (done:List CHunkT) (h:CHunkT):FzE L h.rows.length 3 (rwC h.rows) 2 (hkCR L done h.at_ h.rows.length) (done.map hkR++[hkRA h]):=by
  unfold hkCR
  refine FzE.app (FzE.refl (hkR_fits done)) (FzE.one rfl ⟨Fz.refl _ _ _ _ _,?_,trivial⟩)
  have:=Fz.own L h.rows.length 3 0 h.rows.length (rwC h.rows) (rw_isD h.rows)
  rw[rw_toD] at this
  exact this
theorem hkRs_toD (l:List CHunkT) (h:CHunkT):(l.map hkR++[hkRA h]).map A.toD=(l++[h]).map Rep.to:=by
  simp only[List.map_append,List.map_map,List.map_cons,List.map_nil]
  rfl
theorem hkRs_isD (l:List CHunkT) (h:CHunkT):(l.map hkR++[hkRA h]).all A.isD=true:=by
  simp[hkR,hkRA,A.isD,A.allD]
theorem endRow_set:∀l:List RowT,l≠[]→endRow l=l.set (l.length-1) ⟨(l.getD (l.length-1) default).lost,(l.getD (l.length-1) default).marks,Lib.trimSuffix (l.getD (l.length-1) default).text [10]⟩
  | [],h=>absurd rfl h
  | [x],_=>rfl
  | x::y::r,_=>by
    have ih:=endRow_set (y::r) (by simp)
    simp only[endRow,ih]
    simp
theorem rw_set (l:List RowT) (k:Nat) (x:RowT):rwC (l.set k x)=(rwC l).set k (rwD x):=by simp[rwC]
theorem rwC_fits (l:List RowT):∀x,x∈rwC l→x.fits 3=true:=by
  intro x hx
  obtain⟨h,_,rfl⟩:=List.mem_map.1 hx
  rfl
theorem wk_lastR (n v:Nat) (k:List Ob) (l:List RowT) (h:l≠[]):WkO n k (.cells v 3 ((rwC l).set (l.length-1) (.agg [.d (.bool (l.getD (l.length-1) default).lost),.d (.int .u32 (l.getD (l.length-1) default).marks),.d (.str (Lib.trimSuffix (l.getD (l.length-1) default).text [10]))]))) (.cells v 3 (rwC (endRow l))):=by
  rw[endRow_set l h,rw_set]
  exact .cells (WkE.setset (rwC_fits l) rfl ⟨Wk.refl _ _ _,Wk.refl _ _ _,Wk.refl _ _ _,trivial⟩)
def parseRD (l:List Str):D:=match parseR l with
  | none=>.tup [Rep.to noC,.bool false]
  | some p=>.tup [Rep.to p,.bool true]
structure PrcX where
  i:Nat
  x:RsT
def pcI (R:List Str) (x0:RsT) (y:PrcX):Prop:=y.i≤R.length∧foldR y.x (R.drop y.i)=foldR x0 R∧RsOk y.x (63 * y.i+47 * flen (R.take y.i))
def resC:Ob:=.cells 0 4 [.d (.agg [.str [],.bool false,.int .i64 0,.nilsl])]
@[simp] def S_recombine_parse:List D→Prop × D:=spec1 (α:=List Str) (fun l=>flen l≤1048576∧l.length≤1048577) (fun l=>parseRD l)
theorem ct_recombine_parse {P:Program} {f g1 g2:Nat} {G:Gam} (h:CodeOf P f 1 11 [42001,2] (x_recombine_parse g1 g2)) (hG:GamOk P G) (h1:G.findR g1=some R_recombine_parser_title) (h2:G.findR g2=some R_recombine_parser_line):Has P f S_recombine_parse:=h.has1 hG fun l hp=>by
  obtain⟨p1,p2⟩:=hp
  by_cases c:l.length<2
  · have e:parseRD l=.tup [Rep.to noC,.bool false]:=by unfold parseRD parseR;rw[if_pos c]
    rw[e]
    simp[x_recombine_parse,show (l.length:Int)<2 by omega,noC]
  · have hl0:0<l.length:=by omega
    have hl1:1<l.length:=by omega
    have b0:=mem_flat_le hl0
    have b1:=mem_flat_le hl1
    have bf:l.flatten.length=flen l:=rfl
    have q0:l[0].length≤1048576:=by omega
    have q1:l[1].length≤1048576:=by omega
    have ep:parseR l=if (titV l[0] l[1]).2=true then
      (match foldR (titV l[0] l[1]).1 (l.drop 2) with
      | none=>none
      | some x=>some ⟨x.path,x.dense,x.par,x.hunks⟩) else none:=by
      unfold parseR
      rw[if_neg c,show l.getD 0 []=l[0] by simp[List.getD,hl0],show l.getD 1 []=l[1] by simp[List.getD,hl1]] <;> rfl
    cases ca:(titV l[0] l[1]).2 with
    | false =>
      have e:parseRD l=.tup [Rep.to noC,.bool false]:=by unfold parseRD;rw[ep,if_neg (by rw[ca];simp)]
      rw[e]
      simp[x_recombine_parse,show ¬(l.length:Int)<2 by omega,show (1:Int)<l.length by omega,hl0,hl1,eRCall,h1,psT,q0,q1,ca,noC]
    | true =>
      rw[if_pos ca] at ep
      have hx0:=titV_ok ca q0
      have hfr:flen (l.drop 2)≤1048576:=by have:=flen_take l 2;omega
      have hlr:(l.drop 2).length=l.length-2:=by simp
      have hd2:List.take (l.length-2) (l.drop 2)=l.drop 2:=List.take_of_length_le (by simp)
      have hst:(titV l[0] l[1]).1.done=[]∧(titV l[0] l[1]).1.cur=none:=by
        unfold titV titR
        split
        · exact⟨rfl,rfl⟩
        · split <;> exact⟨rfl,rfl⟩
      have hst:(titV l[0] l[1]).1.done=[]∧(titV l[0] l[1]).1.cur=none:=by
        unfold titV titR
        split
        · exact⟨rfl,rfl⟩
        · split <;> exact⟨rfl,rfl⟩
      have hst:(titV l[0] l[1]).1.done=[]∧(titV l[0] l[1]).1.cur=none:=by
        unfold titV titR
        split
        · exact⟨rfl,rfl⟩
        · split <;> exact⟨rfl,rfl⟩
      simp[x_recombine_parse,show ¬(l.length:Int)<2 by omega,show (1:Int)<l.length by omega,hl0,hl1,eRCall,h1,psT,q0,q1,ca,show 2≤l.length by omega,hd2]
      refine⟨by omega,?_⟩
      have hR:List.take (l.length-2) (List.drop 2 (l.map Rep.to))=(l.drop 2).map Rep.to:=by rw[← List.map_drop];exact List.take_of_length_le (by simp)
      rw[hR,show l.length-2=(l.drop 2).length by simp]
      generalize (titV l[0] l[1]).1=x0 at *
      have epd:parseRD l=match foldR x0 (l.drop 2) with
        | none=>.tup [Rep.to noC,.bool false]
        | some x=>.tup [Rep.to (⟨x.path,x.dense,x.par,x.hunks⟩:CombT),.bool true]:=by
        unfold parseRD
        rw[ep]
        cases foldR x0 (l.drop 2) <;> rfl
      generalize l.drop 2=R at *
      rw[epd]
      have hx0:RsOk x0 (63 * 0+47 * flen (R.take 0)):=by simpa [flen] using hx0
      refine vc_lpR (σ:=PrcX) (pcI R x0) (fun y=>R.length-y.i)
        (fun y=>[.any,.ref 0 0 0 0,.any,.ref 1 0 0 0,.any,.any,.d (.sl 1 (R.map Rep.to)),.d (.int .i64 R.length),.d (.int .i64 y.i),.any,.any])
        (fun y=>resC::rsB 1 y.x) ⟨0,x0⟩ ?_ ⟨by simp,by simp,hx0⟩ ?_
      · refine Re.wn (s':=[resC,psR 2 x0 0]) [false,true,false,true,false,false,true,true,true] [.cells 0 2 []] (by simp) (by simp) ?_ ?_ (by simp[rsB,hst.2])
        · simp
        · refine⟨.inl rfl,.cellsL ?_,trivial⟩
          simp
          exact Wk.freshO _ _ _ 0 rfl
      clear hx0 hst ca ep
      rintro⟨i,x⟩ ⟨i1,i2,i3⟩
      simp only at i1 i2 i3
      by_cases hi:i<R.length
      · have w1:IntKind.i64.wrap ((i:Int)+1)=(i:Int)+1:=wrap_in (by omega) (by omega)
        rw[List.drop_eq_getElem_cons hi,foldR] at i2
        have hfs:=flen_succ hi
        have hft:=flen_take R (i+1)
        have hgi:R[i]?=some R[i]:=List.getElem?_eq_getElem hi
        have hll:R[i].length≤1048576:=by omega
        have bad:lineR x R[i]=none→foldR x0 R=none:=fun e=>by rw[← i2,e]
        have good:∀y,lineR x R[i]=some y→pcI R x0 ⟨i+1,y⟩:=fun y e=>by
          refine⟨hi,by rw[← i2,e],?_⟩
          have:=i3.step e hll
          rw[show 63 * i+47 * flen (R.take i)+63+47 * R[i].length=63 * (i+1)+47 * flen (R.take (i+1)) by omega] at this
          exact this
        clear i2
        have hdl:x.done.length≤1000000000:=by
          have h1:=i3.m
          have h2:=chunks_leM x.par.toNat x.hunks
          simp only[RsT.M,RsT.hunks,List.length_append] at h1 h2
          omega
        have hcl:∀h,x.cur=some h→h.rows.length≤1000000000∧RowsOk h.rows:=fun h e=>by
          have hm:h∈x.hunks:=by simp[RsT.hunks,e]
          have h1:=i3.m
          have h2:=chunk_leM x.par.toNat hm
          have h3:=rows_leM h.rows
          have h4:=i3.oks h hm
          unfold chunkM at h2
          simp only[RsT.M] at h1
          exact⟨by omega,h4.2⟩
        have i4:=i3.none
        have i5:=i3.p1
        have i6:=i3.p2
        have hv:=rsV_rsS i4
        generalize hg:R[i]=line at *
        obtain⟨path,dense,par,done,cur⟩:=x
        simp only at hdl i4 i5 i6 hcl
        cases cur with
        | none =>
          have hdn:=i4 rfl
          subst hdn
          simp only[rsB,psR] at hv
          by_cases c1:Lib.hasPrefix line [64]=true
          · have hL:lineR ⟨path,dense,par,[],none⟩ line=(match headR par.toNat line with
              | none=>none
              | some a=>if (a.length:Int)=par+1 then some ⟨path,dense,par,[],some ⟨a,[]⟩⟩ else none):=by unfold lineR;rw[if_pos c1] <;> rfl
            have hS:lineS ⟨path,dense,par,[],none⟩ line=(match headR par.toNat line with
              | none=>rsS ⟨path,dense,par,[],none⟩
              | some a=>rsH ⟨path,dense,par,[],none⟩ a):=by unfold lineS;rw[if_pos c1] <;> rfl
            cases hh:headR par.toNat line with
            | none =>
              rw[hh] at hL hS
              rw[bad hL]
              simp only at hL hS
              simp only[rsB,psR] at hS
              simp[hi,hgi,hg,hll,eRCall,h2,psR,resC,rsB,hv,i5,i6,hL,hS,noC]
            | some a =>
              rw[hh] at hL hS
              simp only at hL hS
              simp only[rsH,psR,newR] at hS
              by_cases c2:(a.length:Int)=par+1
              · rw[if_pos c2] at hL
                have hgd:=good _ hL
                simp[hi,hgi,hg,hll,eRCall,h2,psR,resC,rsB,hv,i5,i6,hL,hS,w1]
                refine Nxt.re ⟨i+1,⟨path,dense,par,[],some ⟨a,[]⟩⟩⟩ (by simp only;omega) ?_ (by simpa using hgd)
                refine Re.wn (s':=[resC,psR 2 ⟨path,dense,par,[],none⟩ 1,.cells 1 2 [.agg [.d (.sl 1 (a.map Rep.to)),.own 3 0 0 0]]]) [false,true,false,true,false,false,true,true,true] [.cells 0 3 []] (by simp) (by simp) ?_ ?_ (by simp[rsB,psR,hkCR,rwC,resC])
                · simp
                · refine⟨.inl rfl,.inl rfl,.cellsL ?_,trivial⟩
                  simp
                  exact Wk.freshO _ _ _ 0 rfl
              · rw[if_neg c2] at hL
                rw[bad hL]
                simp[hi,hgi,hg,hll,eRCall,h2,psR,resC,rsB,hv,i5,i6,hL,hS,noC]
          · have hL:lineR ⟨path,dense,par,[],none⟩ line=none:=by unfold lineR;rw[if_neg c1]
            have hS:lineS ⟨path,dense,par,[],none⟩ line=rsS ⟨path,dense,par,[],none⟩:=by unfold lineS;rw[if_neg c1]
            simp only[rsB,psR] at hS
            rw[bad hL]
            simp[hi,hgi,hg,hll,eRCall,h2,psR,resC,rsB,hv,i5,i6,hL,hS,noC]
        | some hk =>
          obtain⟨hk1,hk2⟩:=hcl hk rfl
          simp only[rsB,psR] at hv
          by_cases c1:Lib.hasPrefix line [64]=true
          · have hL:lineR ⟨path,dense,par,done,some hk⟩ line=(match headR par.toNat line with
              | none=>none
              | some a=>if (a.length:Int)=par+1 then some ⟨path,dense,par,done++[hk],some ⟨a,[]⟩⟩ else none):=by unfold lineR;rw[if_pos c1] <;> rfl
            have hS:lineS ⟨path,dense,par,done,some hk⟩ line=(match headR par.toNat line with
              | none=>rsS ⟨path,dense,par,done,some hk⟩
              | some a=>rsH ⟨path,dense,par,done,some hk⟩ a):=by unfold lineS;rw[if_pos c1] <;> rfl
            cases hh:headR par.toNat line with
            | none =>
              rw[hh] at hL hS
              rw[bad hL]
              simp only at hL hS
              simp only[rsB,psR] at hS
              simp[hi,hgi,hg,hll,eRCall,h2,psR,resC,rsB,hv,hdl,hk1,hk2,i5,i6,hL,hS,noC]
            | some a =>
              rw[hh] at hL hS
              simp only at hL hS
              simp only[rsH,psR,newR] at hS
              by_cases c2:(a.length:Int)=par+1
              · rw[if_pos c2] at hL
                have hgd:=good _ hL
                simp[hi,hgi,hg,hll,eRCall,h2,psR,resC,rsB,hv,hdl,hk1,hk2,i5,i6,hL,hS,w1]
                refine Nxt.re ⟨i+1,⟨path,dense,par,done++[hk],some ⟨a,[]⟩⟩⟩ (by simp only;omega) ?_ (by simpa using hgd)
                have r1:Re 0 [A.any,A.ref 0 0 0 0,A.any,A.ref 1 0 0 0,A.d (D.str line),A.any,A.d (D.sl 1 (List.map Rep.to R)),A.d (D.int IntKind.i64 ↑R.length),A.d (D.int IntKind.i64 (↑i+1)),A.d (D.bool true),A.d (D.bool false)]
                    [resC,psR 2 ⟨path,dense,par,done,some hk⟩ (done.length+1+1),.cells (done.length+1+1) 2 (hkCR 3 done hk.at_ hk.rows.length++[newR a]),.cells hk.rows.length 3 (rwC hk.rows)]
                    [A.any,A.ref 0 0 0 0,A.any,A.ref 1 0 0 0,A.any,A.any,A.d (D.sl 1 (List.map Rep.to R)),A.d (D.int IntKind.i64 ↑R.length),A.d (D.int IntKind.i64 (↑i+1)),A.any,A.any]
                    [resC,psR 2 ⟨path,dense,par,done,some hk⟩ (done.length+1+1),.cells (done.length+1+1) 2 (done.map hkR++[hkRA hk]++[newR a]),.dead]:=by
                  refine Re.freeze 3 hk.rows.length 3 (rwC hk.rows) rfl (by simp) ⟨rfl,?_⟩ rfl
                  intro k hkk hkk2
                  have:k=0∨k=1∨k=2:=by simp at hkk;omega
                  rcases this with rfl | rfl | rfl
                  · exact .inl rfl
                  · exact .inl rfl
                  · exact FzE.ob (FzE.app (hkR_freeze 3 done hk) (FzE.refl (fun x hx=>by simp at hx;subst hx;rfl)))
                have r2:Re 0 [A.any,A.ref 0 0 0 0,A.any,A.ref 1 0 0 0,A.any,A.any,A.d (D.sl 1 (List.map Rep.to R)),A.d (D.int IntKind.i64 ↑R.length),A.d (D.int IntKind.i64 (↑i+1)),A.any,A.any]
                    [resC,psR 2 ⟨path,dense,par,done,some hk⟩ (done.length+1+1),.cells (done.length+1+1) 2 (done.map hkR++[hkRA hk]++[newR a]),.dead]
                    [A.any,A.ref 0 0 0 0,A.any,A.ref 1 0 0 0,A.any,A.any,A.d (D.sl 1 (List.map Rep.to R)),A.d (D.int IntKind.i64 ↑R.length),A.d (D.int IntKind.i64 (↑i+1)),A.any,A.any]
                    [resC,psR 2 ⟨path,dense,par,done,some hk⟩ (done.length+1+1),.cells (done.length+1+1) 2 (hkCR 4 (done++[hk]) a 0),.dead,.cells 0 3 []]:=by
                  refine Re.weak (k:=[.cells 0 3 []]) (s':=[resC,psR 2 ⟨path,dense,par,done,some hk⟩ (done.length+1+1),.cells (done.length+1+1) 2 (hkCR 4 (done++[hk]) a 0),.dead]) (by simp) (by simp) (WkL.refl _ _ _) ⟨.inl rfl,.inl rfl,.cells ?_,.inl rfl,trivial⟩
                  unfold hkCR
                  rw[List.map_append]
                  refine WkE.app (WkE.app (WkE.refl (hkR_fits done)) (WkEL.toE ⟨⟨rfl,?_⟩,trivial⟩)) (WkEL.toE ⟨⟨rfl,?_⟩,trivial⟩)
                  · exact⟨Wk.refl _ _ _,Wk.refl _ _ _,trivial⟩
                  · exact⟨Wk.refl _ _ _,Wk.freshO _ _ _ 0 rfl,trivial⟩
                have r3:=Re.pick (lo:=0) (T:=[A.any,A.ref 0 0 0 0,A.any,A.ref 1 0 0 0,A.any,A.any,A.d (D.sl 1 (List.map Rep.to R)),A.d (D.int IntKind.i64 ↑R.length),A.d (D.int IntKind.i64 (↑i+1)),A.any,A.any])
                  (s:=[resC,psR 2 ⟨path,dense,par,done,some hk⟩ (done.length+1+1),.cells (done.length+1+1) 2 (hkCR 4 (done++[hk]) a 0),.dead,.cells 0 3 []]) [0,1,2,4] ⟨by simp,by simp,by simp[pickS,resC,psR,idxIn4]⟩ (by simp) (by intro k hk;omega) (by simp[idxIn4])
                have r4:=Re.trans r1 (Re.trans r2 r3)
                simp only[resC,psR,newR] at r4
                simp[pickS,idxIn4,psR,resC] at r4
                simpa [rsB,psR,rwC,resC] using r4
              · rw[if_neg c2] at hL
                rw[bad hL]
                simp[hi,hgi,hg,hll,eRCall,h2,psR,resC,rsB,hv,hdl,hk1,hk2,i5,i6,hL,hS,noC]
          · have hL:lineR ⟨path,dense,par,done,some hk⟩ line=if line=unendL then (if hk.rows=[] then none else some ⟨path,dense,par,done,some ⟨hk.at_,endRow hk.rows⟩⟩) else
              if (rowRd (line++[10]) par).2=true then some ⟨path,dense,par,done,some ⟨hk.at_,hk.rows++[(rowRd (line++[10]) par).1]⟩⟩ else none:=by unfold lineR;rw[if_neg c1]
            have hS:lineS ⟨path,dense,par,done,some hk⟩ line=if line=unendL then (if hk.rows=[] then rsS ⟨path,dense,par,done,some hk⟩ else rsE ⟨path,dense,par,done,some hk⟩ hk) else rsS ⟨path,dense,par,done,some ⟨hk.at_,hk.rows++[(rowRd (line++[10]) par).1]⟩⟩:=by unfold lineS;rw[if_neg c1]
            by_cases c2:line=unendL
            · rw[if_pos c2] at hL hS
              by_cases c3:hk.rows=[]
              · rw[if_pos c3] at hL hS
                rw[bad hL]
                simp only[rsB,psR] at hS
                simp[hi,hgi,hg,hll,eRCall,h2,psR,resC,rsB,hv,hdl,hk1,hk2,i5,i6,hL,hS,noC]
              · rw[if_neg c3] at hL hS
                have hgd:=good _ hL
                have hwk:=wk_lastR 4 hk.rows.length [] hk.rows c3
                have hel:=(endRow_spec hk.rows).2.1
                simp only[rsE,psR] at hS
                generalize hZ:(rwC hk.rows).set (hk.rows.length-1) (.agg [.d (.bool (hk.rows.getD (hk.rows.length-1) default).lost),.d (.int .u32 (hk.rows.getD (hk.rows.length-1) default).marks),.d (.str (Lib.trimSuffix (hk.rows.getD (hk.rows.length-1) default).text [10]))])=Z at *
                have hZl:Z.length=hk.rows.length:=by rw[← hZ];simp[rwC]
                have hZr:∀q:Nat→Nat,Z.map (A.ren q)=Z:=fun q=>by
                  rw[← hZ,List.map_set,ren_rw]
                  rfl
                have hZu:∀n x,x∈Z→A.under n x=true:=by
                  have:=rwset_under hk.rows (hk.rows.length-1) (hk.rows.getD (hk.rows.length-1) default).lost (hk.rows.getD (hk.rows.length-1) default).marks (Lib.trimSuffix (hk.rows.getD (hk.rows.length-1) default).text [10])
                  intro n x hx
                  rw[← hZ] at hx
                  exact List.all_eq_true.1 (this n) x hx
                simp[hi,hgi,hg,hll,eRCall,h2,psR,resC,rsB,hv,hdl,hk1,hk2,i5,i6,hL,hS,w1,hZr]
                refine⟨hZu 3,Nxt.re ⟨i+1,⟨path,dense,par,done,some ⟨hk.at_,endRow hk.rows⟩⟩⟩ (by simp only;omega) ?_ hgd⟩
                simp only[hel]
                refine Re.wn (s':=[resC,psR 2 ⟨path,dense,par,done,some hk⟩ (done.length+1),.cells (done.length+1) 2 (hkCR 3 done hk.at_ hk.rows.length),.cells hk.rows.length 3 (rwC (endRow hk.rows))]) [false,true,false,true,false,false,true,true,true] [] (by simp) (by simp) ?_ ?_ (by simp[psR,resC])
                · simp
                · exact⟨.inl rfl,.inl rfl,.inl rfl,hwk,trivial⟩
            · rw[if_neg c2] at hL hS
              simp only[rsB,psR] at hS
              generalize hRR:rowRd (line++[10]) par=RR at *
              obtain⟨r,ok⟩:=RR
              cases ok with
              | true =>
                rw[if_pos rfl] at hL
                have hgd:=good _ hL
                simp[hi,hgi,hg,hll,eRCall,h2,psR,resC,rsB,hv,hdl,hk1,hk2,i5,i6,hL,hS,w1]
                exact Nxt.mk (⟨i+1,⟨path,dense,par,done,some ⟨hk.at_,hk.rows++[r]⟩⟩⟩:PrcX) (by simp only;omega) (by simp) (by simp) hgd
              | false =>
                rw[if_neg (by simp)] at hL
                rw[bad hL]
                simp[hi,hgi,hg,hll,eRCall,h2,psR,resC,rsB,hv,hdl,hk1,hk2,i5,i6,hL,hS,noC]
      · rw[List.drop_of_length_le (by omega),foldR] at i2
        rw[← i2]
        simp[hi]
        obtain⟨path,dense,par,done,cur⟩:=x
        cases cur with
        | none =>
          have hdn:=i3.none rfl
          simp only at hdn
          subst hdn
          refine Hint.of (T':=[.any,.ref 0 0 0 0,.any,.ref 1 0 0 0,.any,.any,.any,.any,.any,.any,.any]) (s':=[resC,.cells 0 4 [.agg [.d (.str path),.d (.bool dense),.d (.int .i64 par),.d (.sl 2 [])]],.dead]) (Re.freeze 2 0 2 [] rfl (by simp) ⟨rfl,?_⟩ rfl) ?_
          · intro k hk hk2
            have:k=0∨k=1:=by simp[rsB] at hk;omega
            rcases this with rfl | rfl
            · exact .inl rfl
            · exact FzE.ob (FzE.one rfl ⟨Fz.refl _ _ _ _ _,Fz.refl _ _ _ _ _,Fz.refl _ _ _ _ _,Fz.own 2 0 2 0 0 [] rfl,trivial⟩)
          · simp[resC,RsT.hunks]
        | some hk =>
          have hl2:(hkCR 3 done hk.at_ hk.rows.length).length=done.length+1:=hkCR_len _ _ _ _
          refine Hint.of (T':=[.any,.ref 0 0 0 0,.any,.ref 1 0 0 0,.any,.any,.any,.any,.any,.any,.any]) (s':=[resC,.cells 0 4 [.agg [.d (.str path),.d (.bool dense),.d (.int .i64 par),.d (.sl 2 ((done++[hk]).map Rep.to))]],.dead,.dead])
            (Re.trans (T':=[.any,.ref 0 0 0 0,.any,.ref 1 0 0 0,.any,.any,.any,.any,.any,.any,.any]) (s':=[resC,psR 2 ⟨path,dense,par,done,some hk⟩ (done.length+1),.cells (done.length+1) 2 (done.map hkR++[hkRA hk]),.dead])
              (Re.freeze 3 hk.rows.length 3 (rwC hk.rows) rfl (by simp) ⟨rfl,?_⟩ rfl) (Re.freeze 2 (done.length+1) 2 (done.map hkR++[hkRA hk]) rfl (by simp) ⟨rfl,?_⟩ rfl)) ?_
          · intro k hkk hk2
            have:k=0∨k=1∨k=2:=by simp[rsB] at hkk;omega
            rcases this with rfl | rfl | rfl
            · exact .inl rfl
            · exact .inl rfl
            · exact FzE.ob (hkR_freeze 3 done hk)
          · intro k hkk hk2
            have:k=0∨k=1∨k=3:=by simp at hkk;omega
            rcases this with rfl | rfl | rfl
            · exact .inl rfl
            · refine FzE.ob (FzE.one rfl ⟨Fz.refl _ _ _ _ _,Fz.refl _ _ _ _ _,Fz.refl _ _ _ _ _,?_,trivial⟩)
              have hle:(done.map hkR++[hkRA hk]).length=done.length+1:=by simp
              have:=Fz.own 2 (done.length+1) 2 0 (done.length+1) (done.map hkR++[hkRA hk]) (by rw[List.drop_zero,List.take_of_length_le (by omega)];exact hkRs_isD done hk)
              rw[List.drop_zero,List.take_of_length_le (by omega),hkRs_toD] at this
              exact this
            · exact .inl rfl
          · simp[resC,RsT.hunks]
def readCD (s:Str):D:=.tup [Rep.to (readC s).1,.int .i64 (readC s).2]
@[simp] def S_recombine_Parse:List D→Prop × D:=spec1 (α:=Str) (fun s=>s.length≤1048576) (fun s=>readCD s)
theorem ct_recombine_Parse {P:Program} {f g1 g2 g3:Nat} {G:Gam} (h:CodeOf P f 1 12 [42001,2] (x_recombine_Parse g1 g2 g3)) (hG:GamOk P G) (h1:G.find g1=some S_strict_Lines) (h2:G.find g2=some S_recombine_parse) (h3:G.find g3=some S_combined_Format):Has P f S_recombine_Parse:=h.has1 hG fun s hp=>by
  have n1:¬(16777216:Int)<s.length:=by omega
  have hll:=linesS_len s
  have er:readC s=if (linesS s).2=false then (noC,(4:Int)) else
    match parseR (linesS s).1 with
    | none=>(noC,4)
    | some c=>if chkC c=0∧writC c=s then (c,0) else (noC,4):=by
    unfold readC
    rw[if_neg (by omega)] <;> rfl
  have el:((linesS s).2=true∧∃d,linesSD s=.tup [d,.bool true]∧Rep.of (α:=List Str) d=some (linesS s).1)∨((linesS s).2=false∧linesSD s=.tup [.nilsl,.bool false]):=by
    unfold linesSD
    by_cases c:s=[]
    · left
      subst c
      exact⟨rfl,.nilsl,by simp,rfl⟩
    · by_cases c2:Lib.hasSuffix s [10]=true
      · left
        refine⟨by unfold linesS;rw[if_neg c,if_pos c2],Rep.to (linesS s).1,by rw[if_neg c,if_pos c2],Rep.of_to _⟩
      · right
        refine⟨by unfold linesS;rw[if_neg c,if_neg c2],by rw[if_neg c,if_neg c2]⟩
  have e0:Rep.to noC=D.agg [.str [],.bool false,.int .i64 0,.sl 2 []]:=rfl
  rcases el with ⟨e1,d,e2,e3⟩ | ⟨e1,e2⟩
  · rw[if_neg (by rw[e1];simp)] at er
    generalize linesS s=ls at *
    obtain⟨l,ok⟩:=ls
    simp only at *
    have hfl:flen l≤1048576:=by omega
    have hln:l.length≤1048577:=by omega
    cases hpv:parseR l with
    | none =>
      rw[hpv] at er
      have ed:parseRD l=.tup [Rep.to noC,.bool false]:=by unfold parseRD;rw[hpv]
      simp only[readCD,er]
      simp[x_recombine_Parse,n1,h1,show s.length≤16777216 by omega,e2,h2,e3,hfl,hln,ed,noC]
    | some p =>
      rw[hpv] at er
      simp only at er
      have ed:parseRD l=.tup [Rep.to p,.bool true]:=by unfold parseRD;rw[hpv]
      have pk:CombOk ⟨p.path,p.dense,p.parents,p.hunks⟩:=parseR_ok hpv hfl hln
      have ef:fmtC ⟨p.path,p.dense,p.parents,p.hunks⟩=fmtC p:=rfl
      by_cases c1:chkC p=0
      · have efp:fmtC p=.tup [.str (writC p),.int .i64 0]:=if_pos c1
        by_cases c2:writC p=s
        · rw[if_pos ⟨c1,c2⟩] at er
          simp only[readCD,er]
          simp[x_recombine_Parse,n1,h1,show s.length≤16777216 by omega,e2,h2,e3,hfl,hln,ed,h3,pk,ef,efp,c2]
        · rw[if_neg (fun h=>c2 h.2)] at er
          simp only[readCD,er]
          simp[x_recombine_Parse,n1,h1,show s.length≤16777216 by omega,e2,h2,e3,hfl,hln,ed,h3,pk,ef,efp,c2,noC]
      · have efp:fmtC p=.tup [.str [],.int .i64 (chkC p)]:=if_neg c1
        rw[if_neg (fun h=>c1 h.1)] at er
        simp only[readCD,er]
        simp[x_recombine_Parse,n1,h1,show s.length≤16777216 by omega,e2,h2,e3,hfl,hln,ed,h3,pk,ef,efp,c1,noC]
  · rw[if_pos e1] at er
    simp only[readCD,er]
    simp[x_recombine_Parse,n1,h1,show s.length≤16777216 by omega,e2,noC]
theorem smlC_of {r:Str} {ps:List Str} (h1:r.length≤24) (h2:∀p,p∈ps→p.length≤24) (h3:1≤ps.length) (h4:ps.length≤32):SmlC r ps 24 25 where
  small:=⟨h1,h2,h3,h4,by omega,by omega⟩
  l0:=by omega
  l1:=linesV_leB h1
  l2 p hp:=linesV_leB (h2 p hp)
  b:=by omega
structure FullL (r:Str) (ps:List Str) (c:CombT) (t:TableT):Prop where
  g:FullG [120] r ps
  fc:fullC [120] r ps=c
  comb:CombOk c
  fmt:fmtC c=.tup [.str (writC c),.int .i64 0]
  len:(writC c).length≤800000
  back:readC (writC c)=(c,0)
  tab:tableR c=(t,0)
  ok:tabOk t
  par:t.parents=ps.length
  res:columnD t (-1)=.tup [.str r,.int .i64 0]
  col:∀k (hk:k<ps.length),columnD t k=.tup [.str ps[k],.int .i64 0]
theorem full_law {r:Str} {ps:List Str} (h:SmlC r ps 24 25):∃c t,FullL r ps c t:=by
  have hn:namedB [120]=true:=by decide
  obtain⟨h1,h2⟩:=h.full (path:=[120]) hn (by simp)
  obtain⟨k1,k2⟩:=column_full h
  exact⟨fullC [120] r ps,makeV r ps,⟨hn,by simp,h⟩,rfl,h1.comb,if_pos h1.chk,h2,read_back h.tab (by unfold fullC at h2;omega),table_full h.tab,h.tab.ok,rfl,k1,k2⟩
@[simp] def S_top_arise:List D→Prop × D:=spec0 True (.bool true)
theorem ct_top_arise {P:Program} {f g1 g2 g3:Nat} {G:Gam} (h:CodeOf P f 0 7 [0] (x_top_arise g1 g2 g3)) (hG:GamOk P G) (h1:G.find g1=some S_combined_Full) (h2:G.find g2=some S_project_Table) (h3:G.find g3=some S_project_Column):Has P f S_top_arise:=h.has0 hG fun _=>by
  obtain⟨c,t,k1,k2,k3,k4,k5,k6,k7,k8,k9,k10,k11⟩:=full_law (r:=[97]) (ps:=[[]]) (smlC_of (by simp) (by simp) (by simp) (by simp))
  have hce:CombOk ⟨c.path,c.dense,c.parents,c.hunks⟩:=k3
  have hte:tableR ⟨c.path,c.dense,c.parents,c.hunks⟩=(t,0):=k7
  have htk:tabOk ⟨t.parents,t.rows⟩:=k8
  have hcd:columnD ⟨t.parents,t.rows⟩ (-1)=.tup [.str [97],.int .i64 0]:=k10
  have e2:ofAll (Rep.of (α:=Str)) [.str []]=some [[]]:=rfl
  simp[x_top_arise,h1,e2,k1,k2,h2,hce,hte,h3,htk,hcd]
structure RsX where
  l:List Str
@[simp] def S_top_TopRestores:List D→Prop × D:=spec3 (α:=Str) (β:=List Str) (γ:=Int) (fun r ps _=>r.length≤9223372036854775807∧ps.length≤9223372036854775807) (fun _ _ _=>.bool true)
theorem ct_top_TopRestores {P:Program} {f g1 g2 g3 g4 g5 g6 g7:Nat} {G:Gam} (h:CodeOf P f 3 26 [3] (x_top_TopRestores g1 g2 g3 g4 g5 g6 g7)) (hG:GamOk P G) (h1:G.find g1=some S_top_arise) (h2:G.find g2=some S_gen_Mod) (h3:G.find g3=some S_combined_Full) (h4:G.find g4=some S_combined_Format) (h5:G.find g5=some S_recombine_Parse)
    (h6:G.find g6=some S_project_Table) (h7:G.find g7=some S_project_Column):Has P f S_top_TopRestores:=h.has3 hG fun r ps n hp=>by
  obtain⟨p1,p2⟩:=hp
  by_cases c1:24<(r.length:Int)
  · simp[x_top_TopRestores,h1,c1]
  by_cases c2:32<(ps.length:Int)
  · simp[x_top_TopRestores,h1,c1,c2]
  simp[x_top_TopRestores,c1,c2]
  refine⟨by unfold room;omega,?_⟩
  refine vc_lp (σ:=Nat) (fun i=>i≤ps.length∧∀k (h:k<ps.length),k<i→ps[k].length≤24) (fun i=>ps.length-i)
    (fun i=>[.d (.str r),.any,.d (.int .i64 n),.any,.gr 0 1 (ps.map Rep.to),.d (.int .i64 i),.any,.any,.any,.any,.any,.any,.any,.any,.any,.any,.any,.any,.any,.any,.any,.any,.any,.any,.any,.any]) (fun _=>[.tip ps.length]) 0 (by simp) (by simp) ⟨by simp,by simp⟩ ?_
  rintro i ⟨i1,i2⟩
  by_cases hi:i<ps.length
  · have w1:IntKind.i64.wrap ((i:Int)+1)=(i:Int)+1:=wrap_in (by omega) (by omega)
    have hg:ps[i]?=some ps[i]:=List.getElem?_eq_getElem hi
    by_cases c3:24<(ps[i].length:Int)
    · simp[hi,hg,c3,h1]
    · have hnx:∀k (h:k<ps.length),k<i+1→ps[k].length≤24:=fun k h hk=>by
        by_cases e:k=i
        · subst e;omega
        · exact i2 k h (by omega)
      clear i2
      generalize hge:ps[i]=w at *
      simp[hi,hg,hge,c3,w1]
      exact Nxt.mk (i+1) (by omega) (by simp) (by simp) ⟨by omega,hnx⟩
  have hall:∀p,p∈ps→p.length≤24:=fun p hp=>by
    obtain⟨k,hk,rfl⟩:=List.getElem_of_mem hp
    exact i2 k hk (by omega)
  clear i2
  obtain⟨m1,m2⟩:=modV_lt n (n:=33) (by omega)
  obtain⟨m3,m4⟩:=modV_lt n (n:=1000) (by omega)
  have hmm:∀x:Int,0≤modV x ((r.length:Int)+1)∧modV x ((r.length:Int)+1)<(r.length:Int)+1:=fun x=>modV_lt x (n:=(r.length:Int)+1) (by omega)
  generalize hA:modV n 33=a at *
  generalize hB:modV n 1000=b at *
  have w0:IntKind.i64.wrap ((r.length:Int)+1)=(r.length:Int)+1:=wrap_in (by omega) (by omega)
  simp[hi]
  refine vc_lp (σ:=RsX) (fun z=>(∀p,p∈z.l→p.length≤24)∧z.l.length≤32) (fun z=>33-z.l.length)
    (fun z=>[.d (.str r),.any,.d (.int .i64 n),.any,.gr 0 1 (z.l.map Rep.to),.any,.any,.any,.any,.any,.any,.any,.any,.any,.any,.any,.any,.any,.any,.any,.any,.any,.any,.any,.any,.any]) (fun z=>[.tip z.l.length]) ⟨ps⟩ (by simp) (by simp) ⟨hall,by simp only;omega⟩ ?_
  rintro⟨l⟩ ⟨l1,l2⟩
  simp only at l1 l2
  have w2:IntKind.i64.wrap (b+l.length)=b+l.length:=wrap_in (by omega) (by omega)
  obtain⟨q1,q2⟩:=hmm (b+l.length)
  obtain⟨q,hq⟩:=Int.eq_ofNat_of_zero_le q1
  by_cases c3:l.length=0∨(l.length:Int)<a
  · have hnx:(∀p,p∈l++[r.take q]→p.length≤24)∧(l++[r.take q]).length≤32:=by
      refine⟨fun p hp=>?_,by simp;omega⟩
      rw[List.mem_append,List.mem_singleton] at hp
      rcases hp with hp | rfl
      · exact l1 p hp
      · simp;omega
    by_cases c4:(l.length:Int)=0
    · have c5:l=[]:=List.length_eq_zero_iff.1 (by omega)
      subst c5
      simp at w2 hq q2
      simp[h2,hB,w2,w0,hq]
      exact⟨⟨by omega,by omega⟩,by omega,by unfold room;omega,Nxt.mk ⟨[r.take q]⟩ (by simp) (by simp) (by simp) (by simpa using hnx)⟩
    · have c5:l≠[]:=fun e=>c4 (by rw[e];rfl)
      simp[c5,h2,hA,hB,w2,w0,hq,show (l.length:Int)<a by omega]
      exact⟨⟨by omega,by omega⟩,by omega,by unfold room;omega,Nxt.mk ⟨l++[r.take q]⟩ (by simp;omega) (by simp) (by simp) hnx⟩
  · have c4:l≠[]:=fun e=>c3 (.inl (by rw[e];rfl))
    have hpos:=List.length_pos_iff.2 c4
    obtain⟨c,t,k1,k2,k3,k4,k5,k6,k7,k8,k9,k10,k11⟩:=full_law (smlC_of (r:=r) (ps:=l) (by omega) l1 (by omega) l2)
    have hce:CombOk ⟨c.path,c.dense,c.parents,c.hunks⟩:=k3
    have hfe:fmtC ⟨c.path,c.dense,c.parents,c.hunks⟩=.tup [.str (writC c),.int .i64 0]:=k4
    have hte:tableR ⟨c.path,c.dense,c.parents,c.hunks⟩=(t,0):=k7
    have hrd:readCD (writC c)=.tup [Rep.to c,.int .i64 0]:=by unfold readCD;rw[k6]
    have htk:tabOk ⟨t.parents,t.rows⟩:=k8
    have hcd:columnD ⟨t.parents,t.rows⟩ (-1)=.tup [.str r,.int .i64 0]:=k10
    have hcc:∀k (hk:k<l.length),columnD ⟨t.parents,t.rows⟩ k=.tup [.str l[k],.int .i64 0]:=k11
    rw[k9] at htk hcd
    simp only[k9] at hcc
    generalize writC c=W at *
    simp[c4,h2,hA,show ¬(l.length:Int)<a by omega,h3,k1,k2,h4,hce,hfe,h5,show W.length≤1048576 by omega,hrd,h6,hte,h7,htk,hcd,k9]
    refine vc_lp (σ:=Nat) (fun k=>k≤l.length) (fun k=>l.length-k)
      (fun k=>[.any,.any,.any,.any,.gr 0 1 (l.map Rep.to),.any,.any,.any,.any,.any,.any,.any,.ref 3 0 0 0,.any,.any,.any,.d (.int .i64 k),.any,.any,.any,.any,.any,.any,.any,.any,.any])
      (fun _=>[.tip l.length,.cells 0 4 [.d (Rep.to c)],.cells 0 4 [.d (Rep.to c)],.cells 0 2 [.d (.agg [.int .i64 l.length,.sl 3 (t.rows.map Rep.to)])]]) 0 (by simp) (by simp) (by simp) ?_
    intro k hk
    by_cases hkl:k<l.length
    · have w3:IntKind.i64.wrap ((k:Int)+1)=(k:Int)+1:=wrap_in (by omega) (by omega)
      have hg:l[k]?=some l[k]:=List.getElem?_eq_getElem hkl
      have hcx:=hcc k hkl
      generalize hge:l[k]=w at *
      simp[hkl,hg,hge,h7,htk,hcx,w3]
      exact Nxt.mk (k+1) (by omega) (by simp) (by simp) (by omega)
    · simp[hkl,h1]
theorem top_TopRestores_pre (r:Str) (ps:List Str) (n:Int) (w0:Arg.wf r) (w1:Arg.wf ps) (w2:Arg.wf n):r.length≤9223372036854775807∧ps.length≤9223372036854775807:=by
  have:=str_wf w0
  have:=len_wf w1
  omega
end Go.AE
