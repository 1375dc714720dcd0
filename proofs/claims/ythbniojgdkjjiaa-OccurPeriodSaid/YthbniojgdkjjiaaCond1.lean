/-
  Law 07: OccurPeriod.
-/
import Derived.Test.YthbniojgdkjjiaaCona1

set_option linter.unusedSimpArgs false
set_option linter.unusedVariables false
set_option linter.unnecessarySimpa false
set_option maxRecDepth 20000
set_option maxHeartbeats 2000000
namespace Go.AE
@[simp] def S_law07_OccurPeriod:List D→Prop × D:=spec1 (α:=List Int) (fun raw=>raw.length≤9223372036854775807) (fun _=>.bool true)
theorem law07_OccurPeriod_pre (raw:List Int) (w0:Arg.wf raw):raw.length≤9223372036854775807:=by
  have:=len_wf w0
  omega
theorem bordsV_getD {s:Str} {k:Nat} (h:k<s.length):(bordsV s)[k]'(by rw[bordsV_len];exact h)=bordV s (k+1):=by simp[bordsV]
theorem ct_law07_OccurPeriod {P:Program} {f g1 g2 g3:Nat} {G:Gam} (h:CodeOf P f 1 12 [1] (x_law07_OccurPeriod g1 g2 g3)) (hG:GamOk P G) (h1:G.find g1=some S_law07_word) (h2:G.find g2=some S_occur_Borders) (h3:G.find g3=some S_law07_awake):Has P f S_law07_OccurPeriod:=h.has1 hG fun raw p1=>by
  have hs:=wordV_len (raw:=raw) (fr:=0) (n:=30) (by omega)
  have q1:(wordV raw 0 30).length≤4194304:=by omega
  simp[x_law07_OccurPeriod,h1,h2,p1,q1,bordsV_len]
  generalize wordV raw 0 30=s at *
  have hs':s.length≤30:=by omega
  clear hs q1
  refine vc_lp (σ:=Nat) (fun k=>1≤k∧k≤s.length+1) (fun k=>s.length+1-k) (fun k=>[.d (Rep.to raw),.any,.d (Rep.to s),.d (Rep.to (bordsV s)),.d (.int .i64 k),.any,.any,.any,.any,.any,.any,.any]) (fun _=>[]) 1 (by simp) (by simp) (by simp) ?_
  rintro k ⟨k1,k2⟩
  by_cases k3:k≤s.length
  · obtain⟨b1,b2⟩:=bordV_spec k3 k1
    have b0:=b1.1
    have k3':(k:Int)≤s.length:=by omega
    have w1:IntKind.i64.wrap ((k:Int)-1)=((k-1:Nat):Int):=by rw[wrap_in (by omega) (by omega)];omega
    have w2:IntKind.i64.wrap ((k:Int)+1)=((k+1:Nat):Int):=by rw[wrap_in (by omega) (by omega)];omega
    have l1:k-1<(bordsV s).length:=by rw[bordsV_len];omega
    have e1:(bordsV s)[k-1]=(bordV s k:Int):=by
      have:=bordsV_getD (s:=s) (k:=k-1) (by omega)
      rw[this,show k-1+1=k by omega]
    generalize hb:bordV s k=b at *
    have c1:¬((k:Int)≤b):=by omega
    have c0:¬((b:Int)<0):=by omega
    have inner:∀(X:List A),True:=fun _=>trivial
    by_cases k4:1<k
    · have w3:IntKind.i64.wrap ((k:Int)-2)=((k-2:Nat):Int):=by rw[wrap_in (by omega) (by omega)];omega
      have l2:k-2<(bordsV s).length:=by rw[bordsV_len];omega
      have e2:(bordsV s)[k-2]=(bordV s (k-1):Int):=by
        have:=bordsV_getD (s:=s) (k:=k-2) (by omega)
        rw[this,show k-2+1=k-1 by omega]
      have gr:=bordV_grow (s:=s) (k:=k-1) (by omega) (by omega)
      rw[show k-1+1=k by omega,hb] at gr
      have b3:=(bordV_spec (s:=s) (k:=k-1) (by omega) (by omega)).1.1
      generalize bordV s (k-1)=c at *
      have w4:IntKind.i64.wrap ((c:Int)+1)=((c+1:Nat):Int):=by rw[wrap_in (by omega) (by omega)];omega
      have c2:¬((c:Int)+1<b):=by omega
      have c2':¬(c+1<b):=by omega
      have c3:¬((k:Int)=1):=by omega
      have c3':¬(k=1):=by omega
      have k4':(1:Int)<k:=by omega
      simp[k3',k3,w1,l1,e1,c1,c0,k4,w3,l2,e2,w4,c2,c2',c3,c3',getD_map,b0,k4']
      refine vc_lp (σ:=Nat) (fun i=>i≤b) (fun i=>b-i) (fun i=>[.d (Rep.to raw),.any,.d (Rep.to s),.d (Rep.to (bordsV s)),.d (.int .i64 k),.d (.int .i64 b),.d (.int .i64 i),.any,.any,.any,.any,.any]) (fun _=>[]) 0 (by simp) (by simp) (by simp) ?_
      intro i i1
      obtain⟨j,hj⟩:∃j:Nat,j=k-b+i:=⟨_,rfl⟩
      have v1:IntKind.i64.wrap ((i:Int)+k)=(i:Int)+k:=wrap_in (by omega) (by omega)
      have v2:IntKind.i64.wrap ((i:Int)+k-b)=(j:Int):=by rw[wrap_in (by omega) (by omega)];omega
      have v3:IntKind.i64.wrap ((i:Int)+1)=(i:Int)+1:=wrap_in (by omega) (by omega)
      by_cases i2:i<b
      · have i3:(j:Int)<k:=by omega
        have i3':j<k:=by omega
        have i4:i<s.length:=by omega
        have i5:j<s.length:=by omega
        have e3:s[i]=s[j]:=by have:=b1.2 i i2;rw[← hj] at this;simpa [List.getD,i4,i5] using this
        simp[v1,v2,v3,i3,i3',i4,i5,e3]
        exact Nxt.mk (i+1) (by omega) (by simp) (by simp) (by omega)
      · have i3:¬((j:Int)<k):=by omega
        have i3':¬(j<k):=by omega
        simp[v1,v2,v3,i3,i3',w2]
        exact Nxt.mk (k+1) (by omega) (by simp) (by simp) (by omega)
    · have c7:k=1:=by omega
      subst c7
      have c6:b=0:=by omega
      subst c6
      have w0:IntKind.i64.wrap 0=0:=rfl
      have k5:(1:Int)≤s.length:=by omega
      have k6:0<(bordsV s).length:=by omega
      have e7:(bordsV s)[0]=0:=e1
      have w7:IntKind.i64.wrap 2=2:=rfl
      have w8:IntKind.i64.wrap 1=1:=rfl
      simp[k5,w0,k6,e7,getD_map]
      refine vc_lp (σ:=Nat) (fun i=>i=0) (fun i=>0) (fun i=>[.d (Rep.to raw),.any,.d (Rep.to s),.d (Rep.to (bordsV s)),.d (.int .i64 1),.d (.int .i64 0),.d (.int .i64 0),.any,.any,.any,.any,.any]) (fun _=>[]) 0 (by simp) (by simp) rfl ?_
      rintro i rfl
      simp[w8,w7]
      exact Nxt.mk 2 (by omega) (by simp) (by simp) (by omega)
  · have c:¬((k:Int)≤s.length):=by omega
    simp[c,k3,h3]
end Go.AE
