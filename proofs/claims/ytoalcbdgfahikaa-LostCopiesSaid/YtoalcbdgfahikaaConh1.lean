/-
  Law 15: Exact,Copies.
-/
import Derived.Test.YtoalcbdgfahikaaCong1

set_option linter.unusedSimpArgs false
set_option linter.unusedVariables false
set_option linter.unnecessarySimpa false
set_option maxRecDepth 20000
namespace Go.AE
def okM (p:Nat) (m:MergedT):Prop:=∃k:Nat,m.parents=(k:Int)∧0<k∧k<2 ^ p
theorem pow_le {p:Nat} (h:p≤32):2 ^ p≤4294967296:=by
  have:(4294967296:Nat)=2 ^ 32:=rfl
  rw[this]
  exact Nat.pow_le_pow_right (by omega) h
theorem okM_old {p:Nat} {m:MergedT} (h:okM p m) (hp:p<32):okM (p+1) m∧hasV p m=false:=by
  obtain⟨k,h1,h2,h3⟩:=h
  have h4:=pow_le (p:=p) (by omega)
  refine⟨⟨k,h1,h2,by rw[Nat.pow_succ];omega⟩,?_⟩
  simp only[hasV,h1,getU_nat (m:=k) (p:=p) (by omega) hp,Nat.testBit_lt_two_pow h3]
  decide
theorem okM_new {p:Nat} (x:Int) (hp:p<32):okM (p+1) ⟨x,bitV p⟩∧hasV p ⟨x,bitV p⟩=true∧∀b:Nat,b<p→hasV b ⟨x,bitV p⟩=false:=by
  have h4:=pow_le (p:=p+1) (by omega)
  have h5:0<2 ^ p:=Nat.pow_pos (by omega)
  rw[Nat.pow_succ] at h4
  refine⟨⟨2 ^ p,bitV_nat hp,h5,by rw[Nat.pow_succ];omega⟩,?_,fun b hb=>?_⟩
  · simp only[hasV,bitV_nat hp,getU_nat (m:=2 ^ p) (p:=p) (by omega) hp,Nat.testBit_two_pow_self]
    decide
  · simp only[hasV,bitV_nat hp,getU_nat (m:=2 ^ p) (p:=b) (by omega) (by omega),Nat.testBit_two_pow_of_ne (show p≠b by omega)]
    decide
theorem okM_hit {p:Nat} {m:MergedT} (h:okM p m) (hp:p<32):okM (p+1) ⟨m.line,orU m.parents (bitV p)⟩∧hasV p ⟨m.line,orU m.parents (bitV p)⟩=true∧∀b:Nat,b<p→hasV b ⟨m.line,orU m.parents (bitV p)⟩=hasV b m:=by
  obtain⟨k,h1,h2,h3⟩:=h
  have h4:=pow_le (p:=p+1) (by omega)
  have h5:0<2 ^ p:=Nat.pow_pos (by omega)
  rw[Nat.pow_succ] at h4
  have h6:k ||| 2 ^ p<2 ^ (p+1):=Nat.or_lt_two_pow (by rw[Nat.pow_succ];omega) (by rw[Nat.pow_succ];omega)
  have e:orU m.parents (bitV p)=((k ||| 2 ^ p:Nat):Int):=by rw[h1,bitV_nat hp,orU_nat (by omega) (by omega)]
  have h7:k≤k ||| 2 ^ p:=Nat.left_le_or
  rw[Nat.pow_succ] at h6
  refine⟨⟨k ||| 2 ^ p,e,by omega,by rw[Nat.pow_succ];exact h6⟩,?_,fun b hb=>?_⟩
  · simp only[hasV,e,getU_nat (m:=k ||| 2 ^ p) (p:=p) (by omega) hp,Nat.testBit_or,Nat.testBit_two_pow_self,Bool.or_true]
    decide
  · simp only[hasV]
    rw[e,getU_nat (m:=k ||| 2 ^ p) (p:=b) (by omega) (by omega),h1,getU_nat (m:=k) (p:=b) (by omega) (by omega),Nat.testBit_or,Nat.testBit_two_pow_of_ne (show p≠b by omega),Bool.or_false]
def prB (b:Nat) (l:List MergedT):List Int:=mlinesV (l.filter (hasV b))
theorem prB_app (b:Nat) (l m:List MergedT):prB b (l++m)=prB b l++prB b m:=by simp[prB,mlinesV]
theorem prB_none {b:Nat} {l:List MergedT} (h:∀m,m∈l→hasV b m=false):prB b l=[]:=by
  have:l.filter (hasV b)=[]:=List.filter_eq_nil_iff.2 fun m hm=>by rw[h m hm];simp
  simp[prB,this,mlinesV]
theorem prB_all {b:Nat} {l:List MergedT} (h:∀m,m∈l→hasV b m=true):prB b l=mlinesV l:=by
  have:l.filter (hasV b)=l:=List.filter_eq_self.2 h
  simp[prB,this]
theorem newV_mem {lines:List Int} {bit:Int} {i e:Nat} {m:MergedT} (h:m∈newV lines bit i e):∃x,m=⟨x,bit⟩:=by
  simp only[newV,List.mem_map] at h
  obtain⟨x,_,rfl⟩:=h
  exact⟨x,rfl⟩
theorem oldV_mem {l:List MergedT} {i e:Nat} {m:MergedT} (h:m∈oldV l i e):m∈l:=List.mem_of_mem_drop (List.mem_of_mem_take h)
theorem newV_lines (lines:List Int) (bit:Int) (i e:Nat):mlinesV (newV lines bit i e)=(lines.drop i).take (e-i):=by
  have:(MergedT.line ∘ fun x=>(⟨x,bit⟩:MergedT))=id:=rfl
  simp only[mlinesV,newV,List.map_map,this,List.map_id]
theorem hitV_one {l:List MergedT} {bit:Int} {i:Nat} (h:i<l.length):hitV l bit i (i+1)=[⟨l[i].line,orU l[i].parents bit⟩]:=by rw[hitV_step (by omega) h,hitV_self]
theorem joinV_ok {l:List MergedT} {lines:List Int} {p:Nat} (hp:p<32) (hl:∀m,m∈l→okM p m):∀(q:List SpanT) (i j:Nat),i≤l.length→j≤lines.length→ascB q i j l.length lines.length=true →
    (∀s,s∈q→(mlinesV l).getD s.fr.toNat 0=lines.getD s.to.toNat 0) →
    (∀m,m∈joinV l lines (bitV p) q i j→okM (p+1) m)∧(∀b,b<p→prB b (joinV l lines (bitV p) q i j)=prB b (l.drop i))∧prB p (joinV l lines (bitV p) q i j)=lines.drop j∧l.length≤(joinV l lines (bitV p) q i j).length+i
  | [],i,j,hi,hj,_,_=>by
    have e:oldV l i l.length=l.drop i:=by unfold oldV;exact List.take_of_length_le (by simp)
    have en:mlinesV (newV lines (bitV p) j lines.length)=lines.drop j:=by rw[newV_lines,List.take_of_length_le (by simp)]
    simp only[joinV,e]
    refine⟨fun m hm=>?_,fun b hb=>?_,?_,by simp;omega⟩
    · rcases List.mem_append.1 hm with hm | hm
      · exact (okM_old (hl m (List.mem_of_mem_drop hm)) hp).1
      · obtain⟨x,rfl⟩:=newV_mem hm
        exact (okM_new x hp).1
    · rw[prB_app,prB_none (l:=newV _ _ _ _) fun m hm=>?_,List.append_nil]
      obtain⟨x,rfl⟩:=newV_mem hm
      exact (okM_new x hp).2.2 b hb
    · rw[prB_app,prB_none fun m hm=>(okM_old (hl m (List.mem_of_mem_drop hm)) hp).2,List.nil_append,prB_all fun m hm=>?_,en]
      obtain⟨x,rfl⟩:=newV_mem hm
      exact (okM_new x hp).2.1
  | s::q,i,j,hi,hj,ha,hm=>by
    simp only[ascB,Bool.and_eq_true,decide_eq_true_eq] at ha
    obtain⟨⟨⟨⟨k1,k2⟩,k3⟩,k4⟩,k5⟩:=ha
    have hms:=hm s (by simp)
    obtain⟨fr,to⟩:=s
    simp only at k1 k2 k3 k4 k5 hms
    obtain⟨fr,rfl⟩:=Int.eq_ofNat_of_zero_le (show 0≤fr by omega)
    obtain⟨to,rfl⟩:=Int.eq_ofNat_of_zero_le (show 0≤to by omega)
    have c1:((fr:Int)+1)=((fr+1:Nat):Int):=by push_cast;rfl
    have c2:((to:Int)+1)=((to+1:Nat):Int):=by push_cast;rfl
    rw[c1,c2] at k5
    have hf:fr<l.length:=by omega
    have ht:to<lines.length:=by omega
    obtain⟨i1,i2,i3,i4⟩:=joinV_ok hp hl q (fr+1) (to+1) (by omega) (by omega) k5 fun s hs=>hm s (by simp[hs])
    have hok:=okM_hit (hl l[fr] (List.getElem_mem hf)) hp
    simp only[Int.toNat_natCast] at hms
    have hms':l[fr].line=lines[to]:=by simpa [List.getD,mlinesV,hf,ht] using hms
    simp only[joinV,Int.toNat_natCast,hitV_one hf]
    have eo:l.drop i=oldV l i fr++l[fr]::l.drop (fr+1):=by
      rw[← List.drop_eq_getElem_cons hf]
      unfold oldV
      rw[show l.drop fr=(l.drop i).drop (fr-i) by rw[List.drop_drop,show i+(fr-i)=fr by omega],List.take_append_drop]
    have en:lines.drop j=mlinesV (newV lines (bitV p) j to)++lines[to]::lines.drop (to+1):=by
      rw[newV_lines,← List.drop_eq_getElem_cons ht,show lines.drop to=(lines.drop j).drop (to-j) by rw[List.drop_drop,show j+(to-j)=to by omega],List.take_append_drop]
    refine⟨fun m hm=>?_,fun b hb=>?_,?_,?_⟩
    · simp only[List.mem_append,List.mem_singleton] at hm
      rcases hm with ((hm | hm) | rfl) | hm
      · exact (okM_old (hl m (oldV_mem hm)) hp).1
      · obtain⟨x,rfl⟩:=newV_mem hm
        exact (okM_new x hp).1
      · exact hok.1
      · exact i1 m hm
    · rw[prB_app,prB_app,prB_app,i2 b hb,prB_none (l:=newV _ _ _ _) fun m hm=>?_,List.append_nil,eo]
      · rw[show l[fr]::l.drop (fr+1)=[l[fr]]++l.drop (fr+1) from rfl,prB_app,prB_app,List.append_assoc]
        congr 2
        simp only[prB,List.filter_cons,List.filter_nil,hok.2.2 b hb]
        split <;> rfl
      · obtain⟨x,rfl⟩:=newV_mem hm
        exact (okM_new x hp).2.2 b hb
    · rw[prB_app,prB_app,prB_app,i3,prB_none (l:=oldV _ _ _) fun m hm=>(okM_old (hl m (oldV_mem hm)) hp).2,List.nil_append,prB_all (l:=newV _ _ _ _) fun m hm=>?_,en,List.append_assoc]
      · congr 1
        have h9:=hok.2.1
        rw[hms'] at h9
        simp only[prB,hms',List.filter_cons,List.filter_nil,h9,if_true,mlinesV,List.map_cons,List.map_nil]
        rfl
      · obtain⟨x,rfl⟩:=newV_mem hm
        exact (okM_new x hp).2.1
    · have:(oldV l i fr).length=fr-i:=by simp[oldV];omega
      simp only[List.length_append,List.length_cons,List.length_nil,this]
      omega
theorem prB_len (b:Nat) (l:List MergedT):(prB b l).length≤l.length:=by
  unfold prB
  rw[mlinesV_len]
  exact List.length_filter_le _ _
theorem mergeV_ok {l:List MergedT} {lines:List Int} {p:Nat} (hp:p<32) (hl:∀m,m∈l→okM p m) :
    (∀m,m∈mergeV l lines (bitV p)→okM (p+1) m)∧(∀b,b<p→prB b (mergeV l lines (bitV p))=prB b l)∧prB p (mergeV l lines (bitV p))=lines∧l.length≤(mergeV l lines (bitV p)).length:=by
  have hw:=walkV_asc (mlinesV l) lines 0 0
  simp only[Int.zero_add,mlinesV_len] at hw
  have:=joinV_ok (lines:=lines) hp hl (walkV (mlinesV l) lines 0 0) 0 0 (by omega) (by omega) hw fun s hs=>by
    have:=walkV_mem (mlinesV l) lines 0 0 s hs
    simpa using this
  rw[mergeV_join]
  simpa using this
structure CoalOk (ys:List (List Int)) (l:List MergedT):Prop where
  ok:∀m,m∈l→okM ys.length m
  pr:∀b (h:b<ys.length),prB b l=ys[b]
  len:l.length≤sumL ys
theorem sumL_app (a b:List (List Int)):sumL (a++b)=sumL a+sumL b:=by simp[sumL]
theorem coalO_ok:∀(xs ys:List (List Int)) (l:List MergedT),ys.length+xs.length≤32→sumL ys+sumL xs≤4096→CoalOk ys l→∃m,coalO xs ys.length l=some m∧CoalOk (ys++xs) m
  | [],ys,l,_,_,h=>⟨l,rfl,by rw[List.append_nil];exact h⟩
  | x::xs,ys,l,h1,h2,h=>by
    have e:sumL (x::xs)=x.length+sumL xs:=by simp[sumL]
    have hlen:=h.len
    simp only[List.length_cons] at h1
    have hl:¬longV (mlinesV l) x:=by unfold longV;rw[mlinesV_len];omega
    obtain⟨k1,k2,k3,k4⟩:=mergeV_ok (lines:=x) (p:=ys.length) (by omega) h.ok
    have hm:=mergeV_len (l:=l) (lines:=x) (bitV ys.length) (by omega) (by omega)
    have hs:sumL [x]=x.length:=by simp[sumL]
    obtain⟨m,m1,m2⟩:=coalO_ok xs (ys++[x]) (mergeV l x (bitV ys.length)) (by simp;omega) (by rw[sumL_app,hs];omega) ⟨by simpa using k1,fun b hb=>by
      simp at hb
      by_cases hb2:b<ys.length
      · rw[List.getElem_append_left hb2,← h.pr b hb2]
        exact k2 b hb2
      · have:b=ys.length:=by omega
        subst this
        simp[k3],by rw[sumL_app,hs];omega⟩
    refine⟨m,?_,by simpa using m2⟩
    simp only[coalO,hl,if_false]
    simpa using m1
theorem coal_all {xs:List (List Int)} (h1:xs.length≤32) (h2:sumL xs≤4096):∃m,coalD xs=.tup [Rep.to m,.int .i64 0]∧CoalOk xs m:=by
  obtain⟨m,m1,m2⟩:=coalO_ok xs [] [] (by simpa using h1) (by simpa [sumL] using h2) ⟨by simp,by simp,by simp⟩
  refine⟨m,?_,by simpa using m2⟩
  unfold coalD
  rw[if_neg (by omega)]
  simp only[List.length_nil] at m1
  rw[m1]
theorem projV_pr {l:List MergedT} {b:Nat} (h:b<32):projV l b=prB b l:=by
  unfold projV prB
  rw[if_pos (by omega)]
@[simp] def S_law15_LostExact:List D→Prop × D:=spec2 (α:=List Int) (β:=Int) (fun raw _=>raw.length≤9223372036854775807) (fun _ _=>Rep.to true)
theorem ct_law15_LostExact {P:Program} {f g1 g2 g3 g4 g5:Nat} {G:Gam} (h:CodeOf P f 2 15 [2] (x_law15_LostExact g1 g2 g3 g4 g5)) (hG:GamOk P G) (h1:G.find g1=some S_law15_lists) (h2:G.find g2=some S_lost_Coalesce) (h3:G.find g3=some S_lost_Project) (h4:G.find g4=some S_gen_Ints) (h5:G.find g5=some S_law15_awake):Has P f S_law15_LostExact:=h.has2 hG fun raw n hr=>by
  have hxl:=listsV_len raw n
  have hxm:∀x,x∈listsV raw n→x.length≤6:=fun x=>listsV_mem
  have hsum:=sumL_le hxm
  have s5:∀x,x∈listsV raw n→x.length≤1048576:=fun x hx=>by have:=hxm x hx;omega
  have t1:(listsV raw n).length≤1048576:=by omega
  obtain⟨m,m1,m2⟩:=coal_all (xs:=listsV raw n) (by omega) (by omega)
  obtain⟨ok,pr,len⟩:=m2
  have hml:m.length≤1048576:=by omega
  simp[x_law15_LostExact,h1,hr,h2,t1,m1]
  refine⟨s5,?_⟩
  generalize listsV raw n=xs at *
  have hmx:∀k (h:k<xs.length),xs[k].length≤m.length:=fun k h=>by rw[← pr k h];exact prB_len k m
  refine vc_lp (σ:=Nat × Nat) (fun x=>x.1≤xs.length∧x.2≤m.length) (fun x=>xs.length-x.1)
    (fun x=>[.any,.any,.any,.d (Rep.to xs),.d (Rep.to m),.any,.d (.int .i64 x.2),.d (.int .i64 (sumL (xs.take x.1):Nat)),.d (.int .i64 x.1),.any,.any,.any,.any,.any,.any]) (fun _=>[]) (0,0) (by simp[sumL]) (by simp) (by simp) ?_
  rintro⟨k,w⟩ ⟨b1,b2⟩
  simp only at b1 b2
  by_cases c1:k<xs.length
  · have c2:=hxm xs[k] (List.getElem_mem c1)
    have c3:=hmx k c1
    have e1:projV m k=xs[k]:=by rw[projV_pr (by omega),pr k c1]
    have c4:xs[k].length≤9223372036854775807:=by omega
    have c5:sumL (xs.take (k+1))=sumL (xs.take k)+xs[k].length:=by rw[take_snoc c1,sumL_app];simp[sumL]
    have c6:sumL (xs.take k)≤sumL xs:=by
      have:=sumL_app (xs.take k) (xs.drop k)
      rw[List.take_append_drop] at this
      omega
    simp[c1,getD_map,h3,h4,hml,e1,c4,add1 c1 (by omega)]
    simp (disch:=omega) only[wrap_in]
    exact Nxt.mk (k+1,max w xs[k].length) (by simp;omega) (by simp[c5];omega) (by simp) ⟨by simp;omega,by simp only;omega⟩
  · have c2:k=xs.length:=by omega
    subst c2
    simp
    refine vc_lp (σ:=Nat) (fun x=>x≤m.length) (fun x=>m.length-x)
      (fun x=>[.any,.any,.any,.d (Rep.to xs),.d (Rep.to m),.any,.d (.int .i64 w),.d (.int .i64 (sumL xs:Nat)),.any,.d (.int .i64 x),.any,.any,.any,.any,.any]) (fun _=>[]) 0 (by simp) (by simp) (by simp) ?_
    intro j hj
    by_cases d1:j<m.length
    · obtain⟨q,q1,q2,q3⟩:=ok m[j] (List.getElem_mem d1)
      have q4:=pow_le (p:=xs.length) (by omega)
      have q5:¬q=0:=by omega
      have q6:IntKind.u64.wrap (xs.length:Int)=xs.length:=u64_wrap (by omega)
      have q7:min xs.length IntKind.u64.bits=xs.length:=by simp only[IntKind.bits];omega
      have q8:(q:Int).fdiv (2 ^ xs.length)=0:=by
        rw[show ((2:Int) ^ xs.length)=((2 ^ xs.length:Nat):Int) by push_cast;rfl,Int.fdiv_eq_ediv_of_nonneg _ (Int.natCast_nonneg _)]
        have:q / 2 ^ xs.length=0:=Nat.div_eq_of_lt q3
        rw[show (q:Int) / ((2 ^ xs.length:Nat):Int)=((q / 2 ^ xs.length:Nat):Int) by rfl,this]
        rfl
      have q9:IntKind.u64.wrap (q:Int)=q:=u64_wrap (by omega)
      simp[d1,getD_map,q1,q5,q6,q7,q8,q9,add1 d1 (by omega)]
      exact Nxt.mk (j+1) (by omega) (by simp) (by simp) (by omega)
    · have d2:j=m.length:=by omega
      subst d2
      have e2:projV m xs.length=[]:=by
        rw[projV_pr (by omega)]
        exact prB_none fun x hx=>by
          obtain⟨q,q1,q2,q3⟩:=ok x hx
          have q4:=pow_le (p:=xs.length) (by omega)
          simp only[hasV,q1,getU_nat (m:=q) (p:=xs.length) (by omega) (by omega),Nat.testBit_lt_two_pow q3]
          decide
      have f1:(w:Int)≤m.length:=by omega
      have f2:(m.length:Int)≤(sumL xs:Nat):=by omega
      simp[f1,f2,h3,hml,e2,h5,b2,len]
theorem law15_LostExact_pre (raw:List Int) (k:Int) (w0:Arg.wf raw) (w1:Arg.wf k):raw.length≤9223372036854775807:=by
  have:=len_wf w0
  omega
/-! copies of a list -/
theorem mergeV_nil (x:List Int) (bit:Int):mergeV [] x bit=x.map fun y=>⟨y,bit⟩:=by
  rw[mergeV_join]
  simp only[mlinesV,List.map_nil,walkV_nil,joinV]
  simp[oldV,newV]
theorem mergeV_empty (l:List MergedT) (bit:Int):mergeV l [] bit=l:=by
  rw[mergeV_join]
  simp only[walkV_nil',joinV]
  simp[oldV,newV]
theorem mergeV_same {l:List MergedT} {x:List Int} (bit:Int) (h:mlinesV l=x):mergeV l x bit=l.map fun m=>⟨m.line,orU m.parents bit⟩:=by
  unfold mergeV
  rw[h,scriptV_self]
  simp[mergeS,hitV]
def copyV (x:List Int) (p:Nat→Bool):Nat→List (List Int)
  | 0=>[]
  | n+1=>copyV x p n++[if p n=true then [] else x]
def wantV (p:Nat→Bool):Nat→Int
  | 0=>0
  | n+1=>if p n=true then wantV p n else orU (wantV p n) (bitV n)
theorem copyV_len (x:List Int) (p:Nat→Bool):∀n,(copyV x p n).length=n
  | 0=>rfl
  | n+1=>by simp[copyV,copyV_len x p n]
theorem copyV_mem {x:List Int} {p:Nat→Bool} {y:List Int}:∀{n:Nat},y∈copyV x p n→y.length≤x.length
  | 0,h=>by simp[copyV] at h
  | n+1,h=>by
    simp only[copyV,List.mem_append,List.mem_singleton] at h
    rcases h with h | rfl
    · exact copyV_mem h
    · split <;> simp
theorem wantV_nat (p:Nat→Bool):∀n,n≤32→∃k:Nat,wantV p n=k∧k<2 ^ n
  | 0,_=>⟨0,rfl,by simp⟩
  | n+1,h=>by
    obtain⟨k,h1,h2⟩:=wantV_nat p n (by omega)
    have h4:=pow_le (p:=n+1) (by omega)
    have h5:0<2 ^ n:=Nat.pow_pos (by omega)
    rw[Nat.pow_succ] at h4 ⊢
    simp only[wantV]
    split
    · exact⟨k,h1,by omega⟩
    · refine⟨k ||| 2 ^ n,?_,?_⟩
      · rw[h1,bitV_nat (by omega),orU_nat (by omega) (by omega)]
      · have:=Nat.or_lt_two_pow (n:=n+1) (x:=k) (y:=2 ^ n) (by rw[Nat.pow_succ];omega) (by rw[Nat.pow_succ];omega)
        rwa [Nat.pow_succ] at this
theorem wantV_ne {p:Nat→Bool} {n:Nat} (h:n<32):orU (wantV p n) (bitV n)≠0:=by
  obtain⟨k,h1,h2⟩:=wantV_nat p n (by omega)
  have h4:=pow_le (p:=n+1) (by omega)
  have h5:0<2 ^ n:=Nat.pow_pos (by omega)
  rw[Nat.pow_succ] at h4
  rw[h1,bitV_nat h,orU_nat (by omega) (by omega)]
  have:2 ^ n≤k ||| 2 ^ n:=Nat.right_le_or
  omega
theorem coalO_app:∀(xs:List (List Int)) (y:List Int) (p:Nat) (l:List MergedT),coalO (xs++[y]) p l=(coalO xs p l).bind fun m=>coalO [y] (p+xs.length) m
  | [],y,p,l=>by simp[coalO]
  | x::xs,y,p,l=>by
    simp only[List.cons_append,coalO]
    split
    · rfl
    · rw[coalO_app xs y (p+1),List.length_cons,show p+1+xs.length=p+(xs.length+1) by omega]
      rfl
theorem copies_ok {x:List Int} (hx:x.length≤4096) (p:Nat→Bool):∀n,n≤32→∃m,coalO (copyV x p n) 0 []=some m∧(wantV p n=0→m=[])∧(wantV p n≠0→m=x.map fun y=>⟨y,wantV p n⟩)
  | 0,_=>⟨[],rfl,fun _=>rfl,fun h=>absurd rfl h⟩
  | n+1,h=>by
    obtain⟨m,h1,h2,h3⟩:=copies_ok hx p n (by omega)
    have hml:m.length≤4096:=by
      by_cases hz:wantV p n=0
      · rw[h2 hz];simp
      · rw[h3 hz];simpa using hx
    simp only[copyV,wantV]
    rw[coalO_app,h1,copyV_len]
    simp only[Option.bind_some,Nat.zero_add]
    by_cases hp:p n=true
    · have hl:¬longV (mlinesV m) ([]:List Int):=by unfold longV;rw[mlinesV_len];simp;omega
      simp only[hp,if_true,coalO,hl,if_false,mergeV_empty]
      exact⟨m,rfl,h2,h3⟩
    · have hl:¬longV (mlinesV m) x:=by unfold longV;rw[mlinesV_len];omega
      have hne:=wantV_ne (p:=p) (n:=n) (by omega)
      simp only[hp,if_false,coalO,hl,Bool.false_eq_true]
      refine⟨_,rfl,fun h=>absurd h hne,fun _=>?_⟩
      by_cases hz:wantV p n=0
      · rw[h2 hz,mergeV_nil,hz,bitV_nat (by omega)]
        have h4:=pow_le (p:=n) (by omega)
        have h5:2 ^ n<2 ^ 32:=Nat.pow_lt_pow_right (by omega) (by omega)
        rw[show (0:Int)=((0:Nat):Int) from rfl,orU_nat (by omega) (by omega)]
        simp
      · have h6:=h3 hz
        rw[mergeV_same _ (show mlinesV m=x by
          have:(MergedT.line ∘ fun y=>(⟨y,wantV p n⟩:MergedT))=id:=rfl
          rw[h6,mlinesV,List.map_map,this,List.map_id]),h6]
        simp
theorem ofAll_snoc {α:Type} {f:D→Option α}:∀{ds:List D} {l:List α} {d:D} {x:α},ofAll f ds=some l→f d=some x→ofAll f (ds++[d])=some (l++[x])
  | [],l,d,x,h,h2=>by simp[ofAll] at h;subst h;simp[ofAll,h2]
  | e::ds,l,d,x,h,h2=>by
    simp only[List.cons_append,ofAll] at h ⊢
    split at h
    · rename_i y ys h3 h4
      simp at h
      subst h
      rw[h3,ofAll_snoc h4 h2]
      rfl
    · simp at h
@[simp] def S_law15_LostCopies:List D→Prop × D:=spec2 (α:=List Int) (β:=Int) (fun raw _=>raw.length≤9223372036854775807) (fun _ _=>Rep.to true)
theorem ct_law15_LostCopies {P:Program} {f g1 g2 g3 g4 g5:Nat} {G:Gam} (h:CodeOf P f 2 15 [2] (x_law15_LostCopies g1 g2 g3 g4 g5)) (hG:GamOk P G) (h1:G.find g1=some S_gen_Mod) (h2:G.find g2=some S_gen_At) (h3:G.find g3=some S_gen_Ids) (h4:G.find g4=some S_lost_Coalesce) (h5:G.find g5=some S_law15_awake):Has P f S_law15_LostCopies:=h.has2 hG fun raw n hr=>by
  have hm:=modV_lt n (n:=32) (by omega)
  obtain⟨M,hM⟩:=Int.eq_ofNat_of_zero_le hm.1
  rw[hM] at hm
  obtain⟨N,hN⟩:∃N,N=M+1:=⟨_,rfl⟩
  have w0:IntKind.i64.wrap (1+(M:Int))=(N:Int):=by rw[wrap_in (by omega) (by omega)];omega
  have hm7:=modV_lt (atV raw 0) (n:=7) (by omega)
  obtain⟨x,hx⟩:∃x,x=idsG raw 5 (modV (atV raw 0) 7).toNat 3:=⟨_,rfl⟩
  have hxl:x.length≤6:=by rw[hx,idsG_len];omega
  obtain⟨p,hp⟩:∃p:Nat→Bool,∀k,p k=decide ((atV raw (50+(k:Int))).tmod 4=0):=⟨_,fun _=>rfl⟩
  have hr2:raw.length≤9223372036854775807:=by omega
  have h7a:modV (atV raw 0) 7≤1000000:=by omega
  simp[x_law15_LostCopies,h1,hM,w0,h2,h3,hr,hr2,← hx,h7a]
  refine vc_lp (σ:=Nat × List D) (fun y=>y.1≤N∧ofAll (Rep.of (α:=List Int)) y.2=some (copyV x p y.1)∧y.2.length=y.1) (fun y=>N-y.1)
    (fun y=>[.d (Rep.to raw),.any,.any,.d (Rep.to x),.gr 0 1 y.2,.d (.int .u32 (wantV p y.1)),.d (.int .i64 y.1),.any,.any,.any,.any,.any,.any,.any,.any].set 1 (.d (.int .i64 N))) (fun y=>[.tip y.2.length]) (0,[]) (by simp[wantV]) (by simp) (by simp[copyV]) ?_
  rintro⟨k,ds⟩ ⟨b1,b2,b3⟩
  simp only at b1 b2 b3
  by_cases c1:k<N
  · have c1':(k:Int)<N:=by omega
    have w1:=wrap_in (n:=50+(k:Int)) (by omega) (by omega)
    have w2:=wrap_in (n:=(k:Int)+1) (by omega) (by omega)
    have k1:(0:Int)≤50+(k:Int):=by omega
    have k2:50+(k:Int)<9223372036854775807:=by omega
    have u6:IntKind.u64.wrap (k:Int)=k:=u64_wrap (by omega)
    by_cases q:p k=true
    · have q':(atV raw (50+(k:Int))).tmod 4=0:=by simpa [hp] using q
      simp[c1,c1',h2,w1,w2,k1,k2,hr2,q']
      refine⟨by unfold room;omega,Nxt.mk (k+1,ds++[.nilsl]) (by simp;omega) (by simp[wantV,q]) (by simp) ⟨by simp;omega,?_,by simp;omega⟩⟩
      simp only[copyV,q,if_true]
      exact ofAll_snoc b2 rfl
    · have q':¬(atV raw (50+(k:Int))).tmod 4=0:=by simpa [hp] using q
      simp[c1,c1',h2,w1,w2,k1,k2,hr2,q',u6,bitN,orU_eq]
      refine⟨by unfold room;omega,Nxt.mk (k+1,ds++[Rep.to x]) (by simp;omega) (by simp[wantV,q]) (by simp) ⟨by simp;omega,?_,by simp;omega⟩⟩
      simp only[copyV,q,if_false,Bool.false_eq_true]
      exact ofAll_snoc b2 (Rep.of_to x)
  · have c2:k=N:=by omega
    subst c2
    obtain⟨m,m1,m2,m3⟩:=copies_ok (x:=x) (by omega) p k (by omega)
    have l1:=copyV_len x p k
    have l2:∀y,y∈copyV x p k→y.length≤1048576:=fun y hy=>by have:=copyV_mem hy;omega
    have l3:(copyV x p k).length≤1048576:=by omega
    have hD:coalD (copyV x p k)=.tup [Rep.to m,.int .i64 0]:=by unfold coalD;rw[if_neg (by omega),m1]
    have hml:m.length≤1048576:=by
      by_cases hz:wantV p k=0
      · rw[m2 hz];simp
      · rw[m3 hz];simp;omega
    simp[b2,h4,l3,hD]
    refine⟨l2,?_⟩
    by_cases hz:wantV p k=0
    · have:=m2 hz
      subst this
      simp[hz]
      refine vc_lp (σ:=Unit) (fun _=>True) (fun _=>0) (fun _=>[.any,.any,.any,.any,.any,.any,.any,.d (Rep.to ([]:List MergedT)),.any,.d (.int .i64 0),.any,.any,.any,.any,.any]) (fun _=>[]) () (by simp) (by simp) trivial ?_
      intro _ _
      simp[h5]
    · have:=m3 hz
      subst this
      simp[hz]
      obtain⟨wt,hwt⟩:∃wt,wt=wantV p k:=⟨_,rfl⟩
      rw[← hwt]
      have e:(x.map (fun y=>(⟨y,wt⟩:MergedT))).map Rep.to=x.map (Rep.to ∘ fun y=>(⟨y,wt⟩:MergedT)):=by rw[List.map_map]
      rw[← e]
      refine vc_lp (σ:=Nat) (fun j=>j≤x.length) (fun j=>x.length-j) (fun j=>[.any,.any,.any,.d (Rep.to x),.any,.d (.int .u32 wt),.any,.d (.sl 2 ((x.map (fun y=>(⟨y,wt⟩:MergedT))).map Rep.to)),.any,.d (.int .i64 j),.any,.any,.any,.any,.any]) (fun _=>[]) 0 (by simp) (by simp) (by simp) ?_
      intro j hj
      by_cases d1:j<x.length
      · simp[d1,add1 d1 (by omega)]
        exact Nxt.mk (j+1) (by omega) (by simp) (by simp) (by omega)
      · have d2:j=x.length:=by omega
        subst d2
        simp[h5]
theorem law15_LostCopies_pre (raw:List Int) (k:Int) (w0:Arg.wf raw) (w1:Arg.wf k):raw.length≤9223372036854775807:=by
  have:=len_wf w0
  omega
end Go.AE
