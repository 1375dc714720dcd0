/-
  Contracts of the document's functions that join lines.
-/
import Derived.Test.YthbniojgdkjjiaaDoorCona1

set_option linter.unusedSimpArgs false
set_option linter.unusedVariables false
set_option linter.unnecessarySimpa false
set_option maxRecDepth 20000
set_option maxHeartbeats 4000000
namespace Go.AE
def bytesD (s:Str):List D:=s.map fun c=>.int .u8 c.toNat
theorem u8s_bytes (s:Str):u8s (bytesD s)=s:=by
  unfold u8s bytesD
  rw[List.map_map]
  refine (List.map_congr_left fun c _=>?_).trans (List.map_id s)
  simp
theorem allU8_bytes (s:Str):allU8 (bytesD s):=by
  intro x hx
  unfold bytesD at hx
  obtain⟨c,_,rfl⟩:=List.mem_map.1 hx
  exact⟨_,rfl⟩
theorem bytesD_app (s t:Str):bytesD s++bytesD t=bytesD (s++t):=by simp[bytesD]
@[simp] theorem src_str (s:Store) (t:Str):src s 1 (.d (.str t))=(True,bytesD t):=by simp[src,bytesD]
@[simp] theorem eB2s_gr (s:Store) (l:Nat) (t:Str):eB2s s (.gr l 1 (bytesD t))=⟨True,[],.d (.str t)⟩:=by
  unfold eB2s
  simp[A.notStr,src,borFp,u8s_bytes,allU8_bytes]
theorem bytesD_len (s:Str):(bytesD s).length=s.length:=by simp[bytesD]
@[simp] def S_ref02_All:List D→Prop × D:=spec1 (α:=List Str) (fun l=>flen l≤4194304∧l.length≤4194304) (fun l=>.str l.flatten)
theorem ct_ref02_All {P:Program} {f:Nat} {G:Gam} (h:CodeOf P f 1 5 [1] x_ref02_All) (hG:GamOk P G):Has P f S_ref02_All:=h.has1 hG fun l hp=>by
  obtain⟨p1,p2⟩:=hp
  simp[x_ref02_All]
  refine vc_lp (σ:=Nat) (fun i=>i≤l.length) (fun i=>l.length-i) (fun i=>[.d (Rep.to l),.any,.gr 0 1 (bytesD (l.take i).flatten),.d (.int .i64 i),.any]) (fun i=>[.tip (flen (l.take i))]) 0 (by simp[bytesD]) (by simp[flen]) (by simp) ?_
  intro i i1
  by_cases hi:i<l.length
  · have w1:IntKind.i64.wrap ((i:Int)+1)=(i:Int)+1:=wrap_in (by omega) (by omega)
    have ef:=flen_succ hi
    have el:=flen_take l (i+1)
    have e1:(l.take (i+1)).flatten=(l.take i).flatten++l[i]:=by
      rw[List.take_succ_eq_append_getElem hi,List.flatten_append,List.flatten_cons,List.flatten_nil,List.append_nil]
    simp[hi,getD_map,w1,bytesD_len,bytesD_app,← e1,-List.length_flatten]
    exact⟨⟨rfl,by unfold room;unfold flen at *;omega⟩,Nxt.mk (i+1) (by omega) (by simp) (by simp[flen,e1]) (by omega)⟩
  · have hi2:i=l.length:=by omega
    subst hi2
    simp
def strsOk (l:List Str):Prop:=∀x,x∈l→x.length≤9223372036854775807
theorem mem_flen {x:Str}:∀{l:List Str},x∈l→x.length≤flen l
  | y::r,h=>by
    unfold flen
    rw[List.flatten_cons,List.length_append]
    rcases List.mem_cons.1 h with rfl | h
    · omega
    · have:=mem_flen h
      unfold flen at this
      omega
@[simp] theorem strsOk_flen {l:List Str} (h:flen l≤4194304):strsOk l:=fun x hx=>by have:=mem_flen hx;omega
@[simp] def S_ref02_List:List D→Prop × D:=spec1 (α:=List Str) (fun l=>strsOk l∧l.length≤4194304) (fun l=>.bool (listV l))
theorem ct_ref02_List {P:Program} {f g:Nat} {G:Gam} (h:CodeOf P f 1 8 [1] (x_ref02_List g)) (hG:GamOk P G) (hg:G.find g=some S_ref02_Ended):Has P f S_ref02_List:=h.has1 hG fun l hp=>by
  obtain⟨p1,p2⟩:=hp
  simp[x_ref02_List]
  refine vc_lp (σ:=Nat) (fun i=>i≤l.length∧listV l=listV (l.drop i)) (fun i=>l.length-i) (fun i=>[.d (Rep.to l),.any,.d (.int .i64 i),.any,.any,.any,.any,.any]) (fun _=>[]) 0 (by simp) (by simp) ⟨by simp,by simp⟩ ?_
  rintro i ⟨i1,i2⟩
  by_cases hi:i<l.length
  · have w1:IntKind.i64.wrap ((i:Int)+1)=(i:Int)+1:=wrap_in (by omega) (by omega)
    rw[listV_drop hi] at i2
    have hx:=p1 _ (List.getElem_mem hi)
    obtain⟨x,hq⟩:∃x,l[i]=x:=⟨_,rfl⟩
    rw[hq] at i2 hx
    simp[hi,getD_map,hq]
    refine vc_lp (σ:=Nat) (fun k=>(k=0∨k<x.length)∧∀j,j<k→x.getD j 0≠10) (fun k=>x.length-k) (fun k=>[.d (Rep.to l),.any,.d (.int .i64 i),.d (.int .i64 k),.any,.any,.any,.any]) (fun _=>[]) 0 (by simp) (by simp) ⟨by simp,by simp⟩ ?_
    rintro k ⟨k1,k2⟩
    have w2:IntKind.i64.wrap ((k:Int)+1)=(k:Int)+1:=wrap_in (by omega) (by omega)
    by_cases hk:k+1<x.length
    · have hk':(k:Int)+1<x.length:=by omega
      have hk2:k<x.length:=by omega
      have e:((x[k].toNat:Int)=10)=(x[k]=10):=by
        apply propext
        constructor
        · intro h
          exact UInt8.toNat_inj.1 (by simp;omega)
        · intro h;rw[h];rfl
      by_cases c:x[k]=10
      · have hb:listV l=false:=by
          rw[i2]
          have:(10:UInt8)∈x.dropLast:=by
            rw[List.dropLast_eq_take,List.mem_take_iff_getElem]
            exact⟨k,by omega,c⟩
          simp[okL,this]
        simp[hi,getD_map,hq,w2,hk',hk2,e,c,hb]
      · simp[hi,getD_map,hq,w2,hk',hk2,e,c]
        refine Nxt.mk (k+1) (by omega) (by simp) (by simp) ⟨by omega,fun j hj=>?_⟩
        by_cases hjk:j<k
        · exact k2 j hjk
        · obtain rfl:j=k:=by omega
          simpa [List.getD,hk2] using c
    · have hk':¬((k:Int)+1<x.length):=by omega
      have hn:(10:UInt8) ∉ x.dropLast:=by
        intro hm
        rw[List.dropLast_eq_take,List.mem_take_iff_getElem] at hm
        obtain⟨j,hj,hm⟩:=hm
        have:=k2 j (by omega)
        have hj2:j<x.length:=by omega
        simp[List.getD,hj2] at this
        exact this hm
      have hx2:x.length≤9223372036854775807:=by omega
      by_cases hx0:x=[]
      · subst hx0
        have hb:listV l=false:=by rw[i2];simp[okL]
        have hk0:¬((k:Int)+1<0):=by omega
        simp[hi,getD_map,hq,w2,hb,hk0]
      · have hok:okL x=true:=by simp[okL,hx0,hn]
        rw[hok] at i2
        by_cases hlast:i+1<l.length
        · have hl':(i:Int)+1<l.length:=by omega
          have hne:¬i+1=l.length:=by omega
          cases he:endedV x with
          | false =>
            have hb:listV l=false:=by rw[i2,he];simp[hne]
            simp[hi,getD_map,hq,w1,w2,hk',hx0,hl',hg,hx2,he,hb]
          | true =>
            simp[hi,getD_map,hq,w1,w2,hk',hx0,hl',hg,hx2,he]
            exact Nxt.mk (i+1) (by omega) (by simp) (by simp) ⟨by omega,by rw[i2,he];simp⟩
        · have hl':¬((i:Int)+1<l.length):=by omega
          simp[hi,getD_map,hq,w1,w2,hk',hx0,hl']
          exact Nxt.mk (i+1) (by omega) (by simp) (by simp) ⟨by omega,by rw[i2];simp;omega⟩
  · have hi2:i=l.length:=by omega
    subst hi2
    have hb:listV l=true:=by rw[i2];simp[listV]
    simp[hb]
@[simp] def S_ref02_Join:List D→Prop × D:=spec1 (α:=List Str) (fun l=>flen l≤4194304∧l.length≤4194304) (fun l=>joinD l)
theorem ct_ref02_Join {P:Program} {f g1 g2:Nat} {G:Gam} (h:CodeOf P f 1 6 [1,2] (x_ref02_Join g1 g2)) (hG:GamOk P G) (h1:G.find g1=some S_ref02_List) (h2:G.find g2=some S_ref02_All):Has P f S_ref02_Join:=h.has1 hG fun l hp=>by
  obtain⟨p1,p2⟩:=hp
  have hj:=join_flat l
  cases hb:listV l with
  | false=>simp[x_ref02_Join,h1,p1,p2,hb,joinD]
  | true =>
    have hf:((l.flatten.length:Nat):Int)=flen l:=rfl
    by_cases a:(1048576:Int)<flen l
    · have a':¬(flen l≤1048576):=by omega
      simp[x_ref02_Join,h1,h2,p1,p2,hb,joinD,a,a',hf,-List.length_flatten]
    · by_cases b:(4096:Int)<l.length
      · have b':¬(l.length≤4096):=by omega
        simp[x_ref02_Join,h1,h2,p1,p2,hb,joinD,a,b,b',hf,-List.length_flatten]
      · have a':flen l≤1048576:=by omega
        have b':l.length≤4096:=by omega
        simp[x_ref02_Join,h1,h2,p1,p2,hb,joinD,a,b,a',b',hf,hj,-List.length_flatten]
theorem joinD_form (l:List Str):∃a e,joinD l=.tup [.str a,.int .i64 e]:=by
  unfold joinD
  split
  · split
    · exact⟨_,_,rfl⟩
    · exact⟨_,_,rfl⟩
  · exact⟨_,_,rfl⟩
theorem bareV_len (x:Str):(bareV x).length≤x.length:=by
  unfold bareV
  split
  · simp
  · simp
def endL (x:Str):Str:=bareV x++[10]
theorem flen_le (l:List Str) (n:Nat) (h:∀x,x∈l→x.length≤n):flen l≤n * l.length:=by
  induction l with
  | nil=>simp[flen]
  | cons x r ih =>
    have h1:=ih fun y hy=>h y (by simp[hy])
    have h2:=h x (by simp)
    unfold flen at *
    rw[List.flatten_cons,List.length_append,List.length_cons,Nat.mul_add]
    omega
theorem allD_strs (m:List Str):(m.map fun x=>A.d (.str x)).all A.isD=true:=by
  rw[List.all_eq_true]
  intro y hy
  obtain⟨x,_,rfl⟩:=List.mem_map.1 hy
  rfl
@[simp] def S_law02_TextJoins:List D→Prop × D:=spec2 (α:=List Str) (β:=Bool) (fun l _=>l.length≤9223372036854775807∧∀x,x∈l→x.length≤9223372036854775807) (fun _ _=>.bool true)
theorem law02_TextJoins_pre (l:List Str) (ended:Bool) (w0:Arg.wf l) (w1:Arg.wf ended):l.length≤9223372036854775807∧∀x,x∈l→x.length≤9223372036854775807 :=
  ⟨len_wf w0,fun x hx=>str_wf (w0.2 x hx)⟩
def joinsC (l:List Str) (i:Nat):List A:=(l.take i).map fun x=>.d (.str (endL x))
theorem joinsC_zero (l:List Str):joinsC l 0=[]:=by simp[joinsC]
theorem joinsC_len {l:List Str} {i:Nat} (h:i≤l.length):(joinsC l i).length=i:=by simp[joinsC];omega
theorem joinsC_succ {l:List Str} {i:Nat} (h:i<l.length):joinsC l i++[.d (.str (bareV l[i]++[10]))]=joinsC l (i+1):=by
  unfold joinsC
  rw[List.take_succ_eq_append_getElem h,List.map_append]
  rfl
theorem joinsC_under (l:List Str) (i n:Nat):(joinsC l i).all (A.under n)=true:=by
  rw[List.all_eq_true]
  intro y hy
  obtain⟨x,_,rfl⟩:=List.mem_map.1 hy
  rfl
theorem bor_strs (s:Store) (v n:Nat) (m:List Str) (h:s.getD 0 .dead=.cells v 1 (m.map fun x=>.d (.str x))) (hn:n=m.length):bor s (.own 0 v 0 n)=(True,Rep.to m):=by
  subst hn
  unfold bor
  simp only[h,List.drop_zero]
  rw[List.take_of_length_le (by simp),allD_strs]
  simp[A.toD]
theorem borFp_own' (s:Store) (l v o n:Nat):borFp s (.own l v o n)=[(l,s.getD l .dead)]:=by first | exact (rfl) | rfl
theorem ct_law02_TextJoins {P:Program} {f g1 g2 g3 g4:Nat} {G:Gam} (h:CodeOf P f 2 17 [2] (x_law02_TextJoins g1 g2 g3 g4)) (hG:GamOk P G) (h1:G.find g1=some S_law02_awake) (h2:G.find g2=some S_ref02_Bare) (h3:G.find g3=some S_text_Join) (h4:G.find g4=some S_ref02_Join):Has P f S_law02_TextJoins:=h.has2 hG fun l ended hp=>by
  obtain⟨p2,p1⟩:=hp
  by_cases c:l.length≤12
  · have c':¬(12<(l.length:Int)):=by omega
    simp[x_law02_TextJoins,c']
    refine vc_lpR (σ:=Nat) (fun i=>i≤l.length∧∀x,x∈l.take i→x.length≤40) (fun i=>l.length-i)
      (fun i=>[.d (Rep.to l),.d (.bool ended),.any,.own 0 i 0 i,.d (.int .i64 i),.any,.any,.any,.any,.any,.any,.any,.any,.any,.any,.any,.any]) (fun i=>[.cells i 1 (joinsC l i)]) 0 ?_ (by simp) ?_
    · rw[joinsC_zero]
      refine Re.wn (s':=[]) [true,true,false,true,true] [.cells 0 1 []] (by simp) (by simp) ?_ (by simp) (by simp)
      simp
      exact Wk.freshO _ _ _ 0 rfl
    rintro i ⟨i1,i2⟩
    by_cases hi:i<l.length
    · have w1:IntKind.i64.wrap ((i:Int)+1)=(i:Int)+1:=wrap_in (by omega) (by omega)
      have ep:=p1 l[i] (List.getElem_mem hi)
      have hb:=bareV_len l[i]
      by_cases d:l[i].length≤40
      · have d':¬(40<(l[i].length:Int)):=by omega
        have q:l[i].length≤9223372036854775807:=by omega
        simp[hi,getD_map,w1,d',h2,q]
        rw[joinsC_succ hi]
        have hjl:=joinsC_len (l:=l) (i:=i) (by omega)
        refine⟨by omega,⟨by omega,by unfold room;omega⟩,Nxt.mk (i+1) (by omega) (by simp[w1]) (by simp) ⟨by omega,fun x hx=>?_⟩ (h4:=.inr ⟨by simp,by simpa [Ob.under] using joinsC_under l (i+1) 1⟩)⟩
        rw[List.take_succ_eq_append_getElem hi,List.mem_append] at hx
        rcases hx with hx | hx
        · exact i2 x hx
        · simp at hx;subst hx;exact d
      · have d':(40<(l[i].length:Int)):=by omega
        simp[hi,getD_map,d',h1]
    · have h7:i=l.length:=by omega
      subst h7
      rw[List.take_length] at i2
      have f1:=flen_le l 40 i2
      obtain⟨a1,e1,j1⟩:=joinD_form l
      have q1:flen l≤4194304:=by omega
      have q2:l.length≤4194304:=by omega
      obtain⟨m,hm⟩:∃m,l.map endL=m:=⟨_,rfl⟩
      have hml:m.length=l.length:=by rw[← hm];simp
      have hmx:∀x,x∈m→x.length≤41:=by
        intro x hx
        rw[← hm] at hx
        obtain⟨y,hy,rfl⟩:=List.mem_map.1 hx
        have:=i2 y hy
        have:=bareV_len y
        simp[endL]
        omega
      have hst:joinsC l l.length=m.map fun x=>A.d (.str x):=by rw[← hm,List.map_map,joinsC,List.take_length];rfl
      rw[hst]
      obtain⟨a2,e2,j2⟩:=joinD_form m
      have f2:=flen_le m 41 hmx
      have q3:flen m≤4194304:=by omega
      have q4:m.length≤4194304:=by omega
      have hb:=bor_strs [.cells l.length 1 (m.map fun x=>A.d (.str x))] l.length l.length m rfl hml.symm
      simp only[to_list,size_str] at hb
      cases ended with
      | true =>
        simp[h1,h3,h4,j1,q1,q2,hb,borFp_own',j2,q3,q4]
      | false =>
        by_cases hm0:0<l.length
        · obtain⟨k,hk⟩:∃k,l.length=k+1:=⟨l.length-1,by omega⟩
          have wk:IntKind.i64.wrap ((l.length:Int)-1)=(k:Int):=by rw[wrap_in (by omega) (by omega)];omega
          have hkm:k<m.length:=by omega
          have hkl:k<l.length:=by omega
          have hx:=hmx m[k] (List.getElem_mem hkm)
          have hx':m[k].length≤9223372036854775807:=by omega
          have hset:(m.map fun x=>A.d (.str x)).set k (A.d (.str (bareV m[k])))=(m.set k (bareV m[k])).map fun x=>A.d (.str x):=by rw[List.map_set]
          have hb3:=bareV_len m[k]
          have hgood:∀x,x∈m.set k (bareV m[k])→x.length≤41:=by
            intro x hx
            rcases List.mem_or_eq_of_mem_set hx with hx | rfl
            · exact hmx x hx
            · omega
          have hml2:(m.set k (bareV m[k])).length=l.length:=by rw[List.length_set];exact hml
          generalize m.set k (bareV m[k])=m2 at *
          obtain⟨a3,e3,j3⟩:=joinD_form m2
          have f3:=flen_le m2 41 hgood
          have q5:flen m2≤4194304:=by omega
          have q6:m2.length≤4194304:=by omega
          have hb2:=bor_strs [.cells l.length 1 (m2.map fun x=>A.d (.str x))] l.length l.length m2 rfl hml2.symm
          simp only[to_list,size_str] at hb2
          have hkl2:(k:Int)<l.length:=by omega
          simp[h1,h2,h3,h4,j1,q1,q2,hm0,wk,hkm,hkl2,hx',hset,hb2,borFp_own',j3,q5,q6]
        · simp[h1,h3,h4,j1,q1,q2,hb,borFp_own',j2,q3,q4,hm0]
  · have c':12<(l.length:Int):=by omega
    simp[x_law02_TextJoins,h1,c']
end Go.AE
