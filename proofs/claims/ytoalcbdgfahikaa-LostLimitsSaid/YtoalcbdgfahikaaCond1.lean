/-
  Contracts of the document's functions on scripts.
-/
import Derived.Test.YtoalcbdgfahikaaCona1
import Derived.Test.YtoalcbdgfahikaaCode1

set_option linter.unusedSimpArgs false
set_option linter.unusedVariables false
set_option linter.unnecessarySimpa false
set_option maxRecDepth 20000
namespace Go.AE
def inV (n:Int):Bool:=decide (0≤n∧n≤4096)
@[simp] def S_ref08_in:List D→Prop × D:=spec1 (α:=Int) (fun _=>True) (fun n=>Rep.to (inV n))
theorem ct_ref08_in {P:Program} {f:Nat} {G:Gam} (h:CodeOf P f 1 2 [1] x_ref08_in) (hG:GamOk P G):Has P f S_ref08_in:=h.has1 hG fun n _=>by
  simp[x_ref08_in,inV]
  omega
@[simp] def S_ref08_Made:List D→Prop × D:=spec3 (α:=List SpanT) (β:=Int) (γ:=Int) (fun p m n=>p.length≤100000∧numOk m∧numOk n∧∀s,s∈p→numOk s.fr∧numOk s.to) (fun p m n=>Rep.to (madeV p m n))
theorem ct_ref08_Made {P:Program} {f:Nat} {G:Gam} (h:CodeOf P f 3 12 [3] x_ref08_Made) (hG:GamOk P G):Has P f S_ref08_Made:=h.has3 hG fun p m n hp=>by
  obtain⟨hp,hm,hn,hs⟩:=hp
  simp[x_ref08_Made]
  obtain⟨q,hq⟩:∃q,q=p++[SpanT.mk m n]:=⟨_,rfl⟩
  have hql:q.length=p.length+1:=by rw[hq];simp
  have hqs:∀k (h:k<q.length),numOk q[k].fr∧numOk q[k].to:=by
    intro k h
    have hm':q[k]∈p++[SpanT.mk m n]:=by rw[← hq];exact List.getElem_mem h
    rcases List.mem_append.1 hm' with h1 | h1
    · exact hs _ h1
    · rw[List.mem_singleton.1 h1];exact⟨hm,hn⟩
  have hgoal:madeV p m n=chgV q 0 0:=by rw[hq];rfl
  rw[hgoal]
  obtain⟨Tf,hT⟩:∃Tf:Nat × List ChangeT × Int × Int→List A,∀x,Tf x=[.d (Rep.to p),.d (.int .i64 m),.d (.int .i64 n),.any,.gr 0 4 (x.2.1.map Rep.to),.d (.int .i64 x.2.2.1),.d (.int .i64 x.2.2.2),.d (.int .i64 x.1),.any,.any,.any,.any]:=⟨_,fun _=>rfl⟩
  obtain⟨sf,hsf⟩:∃sf:Nat × List ChangeT × Int × Int→Store,∀x,sf x=[.tip x.2.1.length]:=⟨_,fun _=>rfl⟩
  refine vc_ghost (σ:=Nat × List ChangeT × Int × Int) [true,true,true,false,true,true,true,true] 1 (fun x=>x.1≤q.length∧x.2.1.length≤x.1∧x.2.1++chgV (q.drop x.1) x.2.2.1 x.2.2.2=chgV q 0 0∧-1000001≤x.2.2.1∧x.2.2.1≤1000001∧-1000001≤x.2.2.2∧x.2.2.2≤1000001)
    (fun x=>q.length-x.1) Tf sf (0,[],0,0) (by omega) ?_ ?_ ?_
  · simp[inScope]
  · simp[hT,hsf]
  rintro⟨k,out,i,j⟩ ⟨h1,h2,h3,h4,h5,h6,h7⟩
  simp only at h1 h2 h3 h4 h5 h6 h7
  have w0:=wrap_in (n:=(k:Int)+1) (by omega) (by omega)
  rw[hT,hsf]
  by_cases h8:k<q.length
  · obtain⟨⟨f1,f2⟩,f3,f4⟩:=hqs k h8
    rw[List.drop_eq_getElem_cons h8] at h3
    have hk0:k≤p.length:=by omega
    have hpk:∀h9:k<p.length,p[k]=q[k]:=by intro h9;subst hq;rw[List.getElem_append_left h9]
    have hlast:¬k<p.length→(m=q[k].fr∧n=q[k].to):=by
      intro h9
      have e:k=p.length:=by omega
      subst hq
      subst e
      rw[List.getElem_append_right (Nat.le_refl _)]
      simp
    generalize hg':q[k]=sp at *
    obtain⟨fr,to⟩:=sp
    simp only at f1 f2 f3 f4
    have w1:=wrap_in (n:=fr+1) (by omega) (by omega)
    have w2:=wrap_in (n:=to+1) (by omega) (by omega)
    have w3:=wrap_in (n:=fr-i) (by omega) (by omega)
    have w4:=wrap_in (n:=to-j) (by omega) (by omega)
    have r1:room (out.length+1) 32:=by unfold room;omega
    have c1:(i<fr∨j<to)→out++[(⟨i,fr-i,j,to-j⟩:ChangeT)]++chgV (q.drop (k+1)) (fr+1) (to+1)=chgV q 0 0:=by
      intro h
      rw[← h3]
      simp only[chgV,gt_iff_lt,h,if_true,List.append_assoc,List.cons_append,List.nil_append]
    have c2:¬(i<fr∨j<to)→out++chgV (q.drop (k+1)) (fr+1) (to+1)=chgV q 0 0:=by
      intro h
      rw[← h3]
      simp only[chgV,gt_iff_lt,h,if_false]
    by_cases h9:k<p.length
    · have hpk:=hpk h9
      simp[hk0,h9,getD_map,hpk,inScope,pairsOk,disj,w0,w1,w2,w3,w4]
      refine⟨fun h9=>⟨r1,k+1,by omega,out++[⟨i,fr-i,j,to-j⟩],fr+1,to+1,?_,?_,by omega,by simp;omega,c1 (.inl h9),by omega,by omega,by omega,by omega⟩,
        fun h9=>⟨fun h10=>⟨r1,k+1,by omega,out++[⟨i,fr-i,j,to-j⟩],fr+1,to+1,?_,?_,by omega,by simp;omega,c1 (.inr h10),by omega,by omega,by omega,by omega⟩,
          fun h10=>⟨k+1,by omega,out,fr+1,to+1,?_,?_,by omega,by omega,c2 (by omega),by omega,by omega,by omega,by omega⟩⟩⟩
      all_goals first | (rw[hT];simp;done) | (rw[hsf];simp;done) | (rw[hsf];done)
    · obtain⟨e1,e2⟩:=hlast h9
      simp only at e1 e2
      subst e1 e2
      simp[hk0,h9,getD_map,inScope,pairsOk,disj,w0,w1,w2,w3,w4]
      refine⟨fun h9=>⟨r1,k+1,by omega,out++[⟨i,m-i,j,n-j⟩],m+1,n+1,?_,?_,by omega,by simp;omega,c1 (.inl h9),by omega,by omega,by omega,by omega⟩,
        fun h9=>⟨fun h10=>⟨r1,k+1,by omega,out++[⟨i,m-i,j,n-j⟩],m+1,n+1,?_,?_,by omega,by simp;omega,c1 (.inr h10),by omega,by omega,by omega,by omega⟩,
          fun h10=>⟨k+1,by omega,out,m+1,n+1,?_,?_,by omega,by omega,c2 (by omega),by omega,by omega,by omega,by omega⟩⟩⟩
      all_goals first | (rw[hT];simp;done) | (rw[hsf];simp;done) | (rw[hsf];done)
  · have h9:k=q.length:=by omega
    have h10:¬k≤p.length:=by omega
    have h11:p.length<k:=by omega
    simp[h10,h11]
    subst h9
    rw[List.drop_length] at h3
    simp only[chgV,List.append_nil] at h3
    rw[h3]
end Go.AE
