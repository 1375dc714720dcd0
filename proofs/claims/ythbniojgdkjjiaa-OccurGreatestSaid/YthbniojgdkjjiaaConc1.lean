/-
  Law 07: OccurGreatest.
-/
import Derived.Test.YthbniojgdkjjiaaCona1

set_option linter.unusedSimpArgs false
set_option linter.unusedVariables false
set_option linter.unnecessarySimpa false
set_option maxRecDepth 20000
set_option maxHeartbeats 2000000
namespace Go.AE
@[simp] def S_law07_OccurGreatest:List D→Prop × D:=spec2 (α:=List Int) (β:=List Int) (fun raw p=>raw.length≤9223372036854775807∧p.length≤9223372036854775807) (fun _ _=>.bool true)
theorem law07_OccurGreatest_pre (raw:List Int) (p:List Int) (w0:Arg.wf raw) (w1:Arg.wf p):raw.length≤9223372036854775807∧p.length≤9223372036854775807:=by
  have:=len_wf w0
  have:=len_wf w1
  omega
theorem posV_at {n s:Str}:∀i (k:Nat) (h:k<(posV n s i).length),atB n s ((posV n s i)[k])=true∧i≤(posV n s i)[k]:=by
  refine pos_induct (n:=n) (s:=s) (fun i h k hk=>?_) fun i j h ih k hk=>?_
  · simp[posV_none h] at hk
  · obtain⟨a1,a2,a3⟩:=nextV_some h
    simp only[posV_some h] at hk ⊢
    cases k with
    | zero=>simp;exact⟨a2,a1⟩
    | succ k =>
      simp at hk
      have:=ih k hk
      simp
      exact⟨this.1,by omega⟩
theorem posV_gap {n s:Str}:∀i (k:Nat) (h:k+1<(posV n s i).length),(posV n s i)[k]+n.length≤(posV n s i)[k+1]:=by
  refine pos_induct (n:=n) (s:=s) (fun i h k hk=>?_) fun i j h ih k hk=>?_
  · simp[posV_none h] at hk
  · simp only[posV_some h] at hk ⊢
    cases k with
    | zero =>
      simp at hk
      have:=(posV_at (n:=n) (s:=s) (j+n.length) 0 hk).2
      simpa using this
    | succ k =>
      simp at hk
      have:=ih k hk
      simpa using this
theorem ct_law07_OccurGreatest {P:Program} {f g1 g2 g3 g4 g5:Nat} {G:Gam} (h:CodeOf P f 2 15 [2] (x_law07_OccurGreatest g1 g2 g3 g4 g5)) (hG:GamOk P G) (h1:G.find g1=some S_law07_word) (h2:G.find g2=some S_occur_Positions) (h3:G.find g3=some S_gen_Mod) (h4:G.find g4=some S_occur_Count) (h5:G.find g5=some S_law07_awake):Has P f S_law07_OccurGreatest:=h.has2 hG fun raw picks hp=>by
  obtain⟨p1,p2⟩:=hp
  have hn:=wordV_len (raw:=raw) (fr:=0) (n:=4) (by omega)
  have ht:=wordV_len (raw:=raw) (fr:=20) (n:=30) (by omega)
  have a2:(wordV raw 0 4).length≤4194304:=by omega
  have b2:(wordV raw 20 30).length≤4194304:=by omega
  simp[x_law07_OccurGreatest,h1,h2,p1,a2,b2]
  generalize wordV raw 0 4=n at *
  generalize wordV raw 20 30=s at *
  have hn':n.length≤4:=by omega
  have hs':s.length≤30:=by omega
  clear hn ht
  have hl:=posV_len' n s 0
  have hI:posI n s=(posV n s 0).map fun (k:Nat)=>(k:Int):=rfl
  refine vc_lp (σ:=Nat) (fun i=>i≤(posV n s 0).length) (fun i=>(posV n s 0).length-i) (fun i=>[.d (Rep.to raw),.d (Rep.to picks),.any,.d (.str n),.d (.str s),.d (Rep.to (posI n s)),.d (.int .i64 i),.any,.any,.any,.any,.any,.any,.any,.any]) (fun _=>[]) 0 (by simp) (by simp) (by simp) ?_
  intro i hi
  by_cases i1:i<(posV n s 0).length
  · obtain⟨c1,_⟩:=posV_at (n:=n) (s:=s) 0 i i1
    obtain⟨c2,c3,c4⟩:=atB_le c1
    have w1:IntKind.i64.wrap ((i:Int)+1)=(i:Int)+1:=wrap_in (by omega) (by omega)
    by_cases i2:0<i
    · have c5:=posV_gap (n:=n) (s:=s) 0 (i-1) (by omega)
      simp only[show i-1+1=i by omega] at c5
      have i3:i-1<(posV n s 0).length:=by omega
      generalize hq:(posV n s 0)[i]=q at *
      generalize hr:(posV n s 0)[i-1]=r at *
      have w2:IntKind.i64.wrap ((i:Int)-1)=((i-1:Nat):Int):=by rw[wrap_in (by omega) (by omega)];omega
      have w3:IntKind.i64.wrap ((q:Int)+n.length)=(q:Int)+n.length:=wrap_in (by omega) (by omega)
      have w4:IntKind.i64.wrap ((r:Int)+n.length)=(r:Int)+n.length:=wrap_in (by omega) (by omega)
      have d1:¬((s.length:Int)<q+n.length):=by omega
      have d2:¬((q:Int)<r+n.length):=by omega
      have d3:¬((q:Int)<0):=by omega
      simp[i1,hI,getD_map,c2,hq,w1,w2,w3,w4,d1,d2,d3,i2,i3,hr]
      rw[show ((q:Int)+n.length).toNat-q=n.length by omega]
      exact⟨⟨by omega,by omega⟩,c4,fun _=>Nxt.mk (i+1) (by omega) (by simp) (by simp) (by omega)⟩
    · have i3:i=0:=by omega
      subst i3
      obtain⟨q,hq⟩:∃q,(posV n s 0)[0]=q:=⟨_,rfl⟩
      rw[hq] at c3 c4
      have w3:IntKind.i64.wrap ((q:Int)+n.length)=(q:Int)+n.length:=wrap_in (by omega) (by omega)
      have w8:IntKind.i64.wrap 1=1:=rfl
      have d1:¬((s.length:Int)<q+n.length):=by omega
      have d3:¬((q:Int)<0):=by omega
      have hx:(posV n s 0)[0]?=some q:=by rw[List.getElem?_eq_getElem i1,hq]
      simp[i1,hI,getD_map,c2,hq,hx,w3,d1,d3,w8]
      rw[show ((q:Int)+n.length).toNat-q=n.length by omega]
      exact⟨⟨by omega,by omega⟩,c4,fun _=>Nxt.mk 1 (by omega) (by simp) (by simp) (by omega)⟩
  · have i2:i=(posV n s 0).length:=by omega
    simp[i1,hI]
    refine vc_lp (σ:=Nat × Nat × Nat) (fun x=>x.1≤picks.length∧x.2.1≤s.length∧x.2.2+(posV n s x.2.1).length≤(posV n s 0).length) (fun x=>picks.length-x.1) (fun x=>[.d (Rep.to raw),.d (Rep.to picks),.any,.d (.str n),.d (.str s),.d (Rep.to (posI n s)),.any,.d (.int .i64 x.2.1),.d (.int .i64 x.2.2),.d (.int .i64 x.1),.any,.any,.any,.any,.any]) (fun _=>[]) (0,0,0) (by simp[hI]) (by simp) (by simp) ?_
    rintro⟨k,e,m⟩ ⟨u1,u2,u3⟩
    simp only at u1 u2 u3
    by_cases hk:k<picks.length∧k<40∧n≠[]
    · obtain⟨k1,k2,k3⟩:=hk
      have k2':(k:Int)<40:=by omega
      obtain⟨m1,m2⟩:=modV_lt picks[k] (n:=5) (by omega)
      obtain⟨z,hz⟩:=Int.eq_ofNat_of_zero_le m1
      have w0:IntKind.i64.wrap ((e:Int)+z)=((e+z:Nat):Int):=by rw[wrap_in (by omega) (by omega)];omega
      obtain⟨p,hp⟩:∃p:Nat,p=e+z:=⟨_,rfl⟩
      rw[← hp] at w0
      have w1:IntKind.i64.wrap ((p:Int)+n.length)=(p:Int)+n.length:=wrap_in (by omega) (by omega)
      have w2:IntKind.i64.wrap ((k:Int)+1)=(k:Int)+1:=wrap_in (by omega) (by omega)
      have w3:IntKind.i64.wrap ((m:Int)+1)=(m:Int)+1:=wrap_in (by omega) (by omega)
      by_cases v1:p+n.length≤s.length
      · have v1':(p:Int)+n.length≤s.length:=by omega
        have tk:((p:Int)+n.length).toNat-p=n.length:=by omega
        have v2:(0:Int)≤(p:Int)+n.length:=by omega
        by_cases v3:(s.drop p).take n.length=n
        · have at1:atB n s p=true:=by simp[atB,k3,v1,v3]
          have pk:=posV_pick (n:=n) (s:=s) (e:=e) (p:=p) (by omega) at1
          simp[k1,k2,k2',k3,h3,hz,getD_map,w0,w1,w2,w3,v1,v1',tk,v3]
          refine⟨by omega,?_⟩
          exact Nxt.mk (k+1,p+n.length,m+1) (by simp;omega) (by simp[hI]) (by simp) ⟨by omega,by omega,by simp only;omega⟩
        · simp[k1,k2,k2',k3,h3,hz,getD_map,w0,w1,w2,w3,v1,v1',tk,v3]
          refine⟨by omega,?_⟩
          exact Nxt.mk (k+1,e,m) (by simp;omega) (by simp[hI]) (by simp) ⟨by omega,by omega,by simp only;omega⟩
      · have v1':¬((p:Int)+n.length≤s.length):=by omega
        simp[k1,k2,k2',k3,h3,hz,getD_map,w0,w1,w2,w3,v1,v1']
        exact Nxt.mk (k+1,e,m) (by simp;omega) (by simp[hI]) (by simp) ⟨by omega,by omega,by simp only;omega⟩
    · have u4:m≤(posV n s 0).length:=by omega
      by_cases k1:k<picks.length
      · by_cases k2:k<40
        · have k3:n=[]:=by
            apply Classical.byContradiction
            intro k3
            exact hk ⟨k1,k2,k3⟩
          have k2':(k:Int)<40:=by omega
          simp[k1,k2,k2',k3,h4,h5,hI,b2]
          subst k3
          simpa [posI] using u4
        · have k2':¬((k:Int)<40):=by omega
          simp[k1,k2,k2',h4,h5,hI,a2,b2,u4]
      · simp[k1,h4,h5,hI,a2,b2,u4]
end Go.AE
