/-
  Law 17: the dense runs.
-/
import Derived.Test.YtgmdpmpmbhahhaaCond1

set_option linter.unusedSimpArgs false
set_option linter.unusedVariables false
set_option linter.unnecessarySimpa false
set_option maxRecDepth 20000
set_option maxHeartbeats 4000000
namespace Go.AE
theorem not_dense {t:TableT} {n:Nat} (hn:n≤32) (hm:∀r,r∈t.rows→0≤r.marks∧r.marks.toNat<2 ^ n) {s:SpanT} (h:denseB (runRows t s) n=false):∃p,p<n∧∀r,r∈runRows t s→visB r p=visB r (-1):=by
  have hin:∀r,r∈runRows t s→r∈t.rows:=fun r hr=>List.mem_of_mem_drop (List.mem_of_mem_take hr)
  have hb:=dense_bits (rows:=runRows t s) (n:=n) fun r hr=>(hm r (hin r hr)).2
  have:¬∀p,p<n→(orN (runRows t s)).testBit p=true:=fun h9=>by rw[← hb,h] at h9;cases h9
  have:∃p,p<n∧(orN (runRows t s)).testBit p=false:=by
    by_cases h8:∃p,p<n∧(orN (runRows t s)).testBit p=false
    · exact h8
    · refine absurd (fun p hp=>?_) this
      cases h7:(orN (runRows t s)).testBit p with
      | true=>rfl
      | false=>exact absurd ⟨p,hp,h7⟩ h8
  obtain⟨p,hp,h1⟩:=this
  refine⟨p,hp,fun r hr=>?_⟩
  rw[orN_bit,List.any_eq_false] at h1
  have h2:=h1 r hr
  obtain⟨m1,m2⟩:=hm r (hin r hr)
  obtain⟨m,hmm⟩:=Int.eq_ofNat_of_zero_le m1
  rw[hmm,Int.toNat_natCast] at h2 m2
  have hlt:m<4294967296:=Nat.lt_of_lt_of_le m2 (pow_le hn)
  rw[vis_res]
  unfold visB
  rw[if_neg (by omega),if_neg (by omega),hmm,getU_nat hlt (by omega),if_neg h2]
  cases r.lost <;> rfl
theorem one_dense {t:TableT} (hv:marksB t.rows t.parents.toNat=true) (hp:t.parents=1) (h0:∀r,r∈t.rows→0≤r.marks) {s:SpanT} (hs:s∈runsV t):denseB (runRows t s) t.parents.toNat=true:=by
  obtain⟨a,b,rfl,f1,f2,f3,_⟩:=run_facts hv hs
  rw[marksB_all,List.all_eq_true] at hv
  rw[hp] at hv ⊢
  have hlt:∀r,r∈t.rows→r.marks.toNat<2 ^ 1:=fun r hr=>by
    have:=hv r hr
    simp only[markB,Bool.and_eq_true,decide_eq_true_eq] at this
    exact this.1
  have hin:∀r,r∈runRows t ⟨a,b⟩→r.marks.toNat<2 ^ 1:=fun r hr=>hlt r (List.mem_of_mem_drop (List.mem_of_mem_take hr))
  rw[show (1:Int).toNat=1 from rfl,dense_bits hin]
  intro p hp1
  obtain rfl:p=0:=by omega
  rw[orN_bit,List.any_eq_true]
  have ha:a<t.rows.length:=by omega
  refine⟨t.rows[a],?_,?_⟩
  · unfold runRows
    simp only[Int.toNat_natCast]
    refine List.mem_iff_getElem.2 ⟨0,by simp;omega,by simp⟩
  · have h1:=f3 a ha (by omega) (by omega)
    have h2:=h0 _ (List.getElem_mem ha)
    have h3:=hlt _ (List.getElem_mem ha)
    have:t.rows[a].marks.toNat=1:=by omega
    rw[this]
    rfl
@[simp] def S_law17_InterestDense:List D→Prop × D:=spec3 (α:=List Int) (β:=Int) (γ:=Bool) (fun raw _ _=>raw.length≤9223372036854775807) (fun _ _ _=>.bool true)
theorem ct_law17_InterestDense {P:Program} {f g1 g2 g3 g4 g5 g6:Nat} {G:Gam} (h:CodeOf P f 3 24 [3] (x_law17_InterestDense g1 g2 g3 g4 g5 g6)) (hG:GamOk P G) (h1:G.find g1=some S_law17_pick) (h2:G.find g2=some S_interest_Interesting) (h3:G.find g3=some S_interest_Runs) (h4:G.find g4=some S_gen_Spans) (h5:G.find g5=some S_ref16_Visible) (h6:G.find g6=some S_law17_awake):Has P f S_law17_InterestDense:=h.has3 hG fun raw n free hp=>by
  obtain⟨hc,hok,hpar⟩:=pick_valid raw n free
  obtain⟨n1,n2,_⟩:=pickN_in n
  generalize hv:pickV raw n free=t at *
  have hmk:=valid_marks hc
  have hpt:t.parents.toNat=pickN n:=by omega
  have hn:=hok.1
  have hm:∀r,r∈t.rows→0≤r.marks∧r.marks.toNat<2 ^ (pickN n):=fun r hr=>by
    have h8:=hmk
    rw[marksB_all,List.all_eq_true] at h8
    have:=h8 r hr
    simp only[markB,Bool.and_eq_true,decide_eq_true_eq] at this
    rw[hpt] at this
    exact⟨(hok.2.1 r hr).1,this.1⟩
  have hnd:=fun s h=>not_dense (t:=t) (n:=pickN n) (by omega) hm (s:=s) h
  have hA:intV t true=runsV t:=by unfold intV;simp
  have hB:intV t false=(intV t true).filter fun s=>denseB (runRows t s) (pickN n):=by rw[hA];unfold intV;rw[hpt];simp
  have h1d:t.parents=1→intV t false=intV t true:=fun h9=>by
    rw[hB,hA]
    refine List.filter_eq_self.2 fun s hs=>?_
    rw[← hpt]
    exact one_dense hmk h9 (fun r hr=>(hm r hr).1) hs
  have hrun:=fun s (hs:s∈intV t true)=>run_facts hmk (s:=s) (by rw[← hA];exact hs)
  have hasc:=intV_asc t true
  have hAl:=runsV_len t
  have hBl:=intV_len t false
  generalize pickN n=np at *
  obtain⟨A,hAA⟩:∃A,runsV t=A:=⟨_,rfl⟩
  obtain⟨B,hBB⟩:∃B,intV t false=B:=⟨_,rfl⟩
  rw[hAA] at hA hAl
  rw[hA,hBB] at hB
  rw[hA] at hrun hasc
  rw[hBB] at hBl h1d
  rw[hA] at h1d
  obtain⟨par,rows⟩:=t
  simp only at hpar hn hAl hBl h1d hrun hm hpt
  obtain⟨L,hL⟩:∃L,rows.length=L:=⟨_,rfl⟩
  rw[hL] at hn hAl hBl
  have hBlen:B.length≤9223372036854775807:=by omega
  have hAlen:A.length≤9223372036854775807:=by omega
  have hasc2:=List.pairwise_iff_getElem.1 hasc
  have guard1:par=1→A=B:=fun h=>(h1d h).symm
  by_cases hp1:par=1
  · have hAB:=guard1 hp1
    simp[x_law17_InterestDense,h1,h2,h3,h4,hp,hv,hok,hc,intD,hA,hAA,hBB,hAlen,eq_true hp1,eq_true hAB]
    refine vc_lp (σ:=Nat × Nat) (fun x=>x.1≤A.length∧x.2≤B.length∧B.drop x.2=(A.drop x.1).filter fun s=>denseB (runRows ⟨par,rows⟩ s) np) (fun x=>A.length-x.1)
      (fun x=>[.any,.any,.any,.any,.ref 0 0 0 0,.d (Rep.to A),.any,.d (Rep.to B),.any,.any,.any,.d (.int .i64 x.2),.d (.int .i64 x.1),.any,.any,.any,.any,.any,.any,.any,.any,.any,.any,.any])
      (fun _=>[.cells 0 2 [.d (Rep.to (⟨par,rows⟩:TableT))]]) (0,0) (by simp) (by simp) ⟨by simp,by simp,by simpa using hB⟩ ?_
    rintro⟨i,k⟩ ⟨hi,hk,hk2⟩
    simp only at hi hk hk2
    by_cases hiA:i<A.length
    · have w1:IntKind.i64.wrap ((i:Int)+1)=(i:Int)+1:=wrap_in (by omega) (by omega)
      have w2:IntKind.i64.wrap ((k:Int)+1)=(k:Int)+1:=wrap_in (by omega) (by omega)
      obtain⟨a,b,hab,f1,f2,_⟩:=hrun _ (List.getElem_mem hiA)
      have ha:A[i].fr=a:=by rw[hab]
      have hb:A[i].to=b:=by rw[hab]
      rw[List.drop_eq_getElem_cons hiA,List.filter_cons] at hk2
      cases hdn:denseB (runRows ⟨par,rows⟩ A[i]) np with
      | true =>
        rw[hdn,if_pos rfl] at hk2
        have hkB:k<B.length:=by
          rcases Nat.lt_or_ge k B.length with h | h
          · exact h
          · rw[List.drop_eq_nil_of_le h] at hk2;cases hk2
        rw[List.drop_eq_getElem_cons hkB,List.cons.injEq] at hk2
        obtain⟨hk3,hk4⟩:=hk2
        simp[hiA,hkB,getD_map,ha,hb,show ¬b≤a by omega,show ¬L<b by omega,hL,hk3,pairsOk,eSeq,cellsEq,cellEq,w1,w2]
        exact Nxt.mk (i+1,k+1) (by simp only;omega) (by simp) (by simp) ⟨by simp only;omega,by simp only;omega,hk4⟩
      | false =>
        rw[hdn,if_neg (by simp)] at hk2
        obtain⟨pp,pp1,pp2⟩:=hnd _ hdn
        have hne:∀h:k<B.length,¬(B[k].fr=a):=fun h h9=>by
          have hm:B[k]∈A.drop (i+1):=by
            have:B[k]∈B.drop k:=List.mem_iff_getElem.2 ⟨0,by simp;omega,by simp⟩
            rw[hk2] at this
            exact (List.mem_filter.1 this).1
          obtain⟨q,hq,hq2⟩:=List.mem_iff_getElem.1 hm
          simp at hq hq2
          have:=hasc2 i (i+1+q) hiA (by omega) (by omega)
          rw[hq2,hb] at this
          omega
        by_cases hkB:k<B.length
        · have hnk:=hne hkB
          simp[hiA,hkB,getD_map,ha,hb,show ¬b≤a by omega,show ¬L<b by omega,hL,hnk,pairsOk,eSeq,cellsEq,cellEq]
          refine vc_lp (σ:=Nat × Bool) (fun x=>x.1≤np∧(x.2=true↔∃q:Nat,q<x.1∧∀z (h:z<rows.length),a≤z→z<b→visB rows[z] q=visB rows[z] (-1))) (fun x=>np-x.1)
            (fun x=>[.any,.any,.any,.any,.ref 0 0 0 0,.d (Rep.to A),.any,.d (Rep.to B),.any,.any,.any,.d (.int .i64 k),.d (.int .i64 i),.d (.bool x.2),.d (.int .i64 x.1),.any,.any,.any,.any,.any,.any,.any,.any,.any])
            (fun _=>[.cells 0 2 [.d (Rep.to (⟨par,rows⟩:TableT))]]) (0,false) (by simp) (by simp) ⟨by simp,by simp⟩ ?_
          rintro⟨p,ag⟩ ⟨q1,q2⟩
          simp only at q1 q2
          by_cases hpn:p<np
          · have w3:IntKind.i64.wrap ((p:Int)+1)=(p:Int)+1:=wrap_in (by omega) (by omega)
            simp[hpn,hpar,hiA,getD_map,ha,hb]
            refine vc_lp (σ:=Nat × Bool) (fun x=>a≤x.1∧x.1≤b∧(x.2=true↔∀z (h:z<rows.length),a≤z→z<x.1→visB rows[z] p=visB rows[z] (-1))) (fun x=>b-x.1)
              (fun x=>[.any,.any,.any,.any,.ref 0 0 0 0,.d (Rep.to A),.any,.d (Rep.to B),.any,.any,.any,.d (.int .i64 k),.d (.int .i64 i),.d (.bool ag),.d (.int .i64 p),.d (.bool x.2),.d (.int .i64 x.1),.any,.any,.any,.any,.any,.any,.any])
              (fun _=>[.cells 0 2 [.d (Rep.to (⟨(np:Int),rows⟩:TableT))]]) (a,true) (by simp) (by simp) ⟨by simp,by simp only;omega,Iff.intro (fun _ z _ h1 h2=>by simp only at h2;omega) (fun _=>rfl)⟩ ?_
            rintro⟨z,sm⟩ ⟨e1,e2,e3⟩
            simp only at e1 e2 e3
            by_cases hzb:z<b
            · have w4:IntKind.i64.wrap ((z:Int)+1)=(z:Int)+1:=wrap_in (by omega) (by omega)
              have hzl:z<rows.length:=by omega
              have step:∀v:Bool,v=(sm && decide (visB rows[z] p=visB rows[z] (-1)))→(v=true↔∀y (h:y<rows.length),a≤y→y<z+1→visB rows[y] p=visB rows[y] (-1)):=by
                rintro v rfl
                rw[Bool.and_eq_true,e3,decide_eq_true_eq]
                constructor
                · rintro⟨x1,x2⟩ y hy y1 y2
                  by_cases e:y=z
                  · subst e;exact x2
                  · exact x1 y hy y1 (by omega)
                · intro x
                  exact⟨fun y hy y1 y2=>x y hy y1 (by omega),x z hzl e1 (by omega)⟩
              cases sm with
              | false =>
                simp[hiA,getD_map,hb,hzb,w4]
                exact Nxt.mk (z+1,false) (by simp only;omega) (by simp) (by simp) ⟨by simp only;omega,by simp only;omega,step false (by simp)⟩
              | true =>
                simp[hiA,getD_map,hb,hzb,hzl,w4,h5]
                exact Nxt.mk (z+1,visB rows[z] p == visB rows[z] (-1)) (by simp only;omega) (by simp <;> rfl) (by simp) ⟨by simp only;omega,by simp only;omega,step _ (by rw[Bool.true_and];cases visB rows[z] p <;> cases visB rows[z] (-1) <;> rfl)⟩
            · have h9:z=b:=by omega
              subst h9
              have stp:∀v:Bool,v=(ag || sm)→(v=true↔∃q:Nat,q<p+1∧∀y (h:y<rows.length),a≤y→y<z→visB rows[y] q=visB rows[y] (-1)):=by
                rintro v rfl
                rw[Bool.or_eq_true,q2,e3]
                constructor
                · rintro (⟨q,x1,x2⟩ | x)
                  · exact⟨q,by omega,x2⟩
                  · exact⟨p,by omega,x⟩
                · rintro⟨q,x1,x2⟩
                  by_cases e:q=p
                  · subst e;exact .inr x2
                  · exact .inl ⟨q,by omega,x2⟩
              cases ag with
              | true =>
                simp[hiA,getD_map,hb,w3]
                exact Nxt.mk (p+1,true) (by simp only;omega) (by simp) (by simp[hpar]) ⟨by simp only;omega,stp true (by simp)⟩
              | false =>
                simp[hiA,getD_map,hb,w3]
                exact Nxt.mk (p+1,sm) (by simp only;omega) (by simp) (by simp[hpar]) ⟨by simp only;omega,stp sm (by simp)⟩
          · have h9:p=np:=by omega
            subst h9
            have hag:ag=true:=q2.2 ⟨pp,pp1,fun z hz z1 z2=>pp2 _ (by
              rw[hab]
              unfold runRows
              simp only[Int.toNat_natCast]
              exact List.mem_iff_getElem.2 ⟨z-a,by simp;omega,by simp only[List.getElem_take,List.getElem_drop];congr 1;omega⟩)⟩
            subst hag
            simp[hpar,w1]
            exact Nxt.mk (i+1,k) (by simp only;omega) (by simp) (by simp[hpar]) ⟨by simp only;omega,by simp only;omega,hk2⟩
        · simp[hiA,hkB,getD_map,ha,hb,show ¬b≤a by omega,show ¬L<b by omega,hL]
          refine vc_lp (σ:=Nat × Bool) (fun x=>x.1≤np∧(x.2=true↔∃q:Nat,q<x.1∧∀z (h:z<rows.length),a≤z→z<b→visB rows[z] q=visB rows[z] (-1))) (fun x=>np-x.1)
            (fun x=>[.any,.any,.any,.any,.ref 0 0 0 0,.d (Rep.to A),.any,.d (Rep.to B),.any,.any,.any,.d (.int .i64 k),.d (.int .i64 i),.d (.bool x.2),.d (.int .i64 x.1),.any,.any,.any,.any,.any,.any,.any,.any,.any])
            (fun _=>[.cells 0 2 [.d (Rep.to (⟨par,rows⟩:TableT))]]) (0,false) (by simp) (by simp) ⟨by simp,by simp⟩ ?_
          rintro⟨p,ag⟩ ⟨q1,q2⟩
          simp only at q1 q2
          by_cases hpn:p<np
          · have w3:IntKind.i64.wrap ((p:Int)+1)=(p:Int)+1:=wrap_in (by omega) (by omega)
            simp[hpn,hpar,hiA,getD_map,ha,hb]
            refine vc_lp (σ:=Nat × Bool) (fun x=>a≤x.1∧x.1≤b∧(x.2=true↔∀z (h:z<rows.length),a≤z→z<x.1→visB rows[z] p=visB rows[z] (-1))) (fun x=>b-x.1)
              (fun x=>[.any,.any,.any,.any,.ref 0 0 0 0,.d (Rep.to A),.any,.d (Rep.to B),.any,.any,.any,.d (.int .i64 k),.d (.int .i64 i),.d (.bool ag),.d (.int .i64 p),.d (.bool x.2),.d (.int .i64 x.1),.any,.any,.any,.any,.any,.any,.any])
              (fun _=>[.cells 0 2 [.d (Rep.to (⟨(np:Int),rows⟩:TableT))]]) (a,true) (by simp) (by simp) ⟨by simp,by simp only;omega,Iff.intro (fun _ z _ h1 h2=>by simp only at h2;omega) (fun _=>rfl)⟩ ?_
            rintro⟨z,sm⟩ ⟨e1,e2,e3⟩
            simp only at e1 e2 e3
            by_cases hzb:z<b
            · have w4:IntKind.i64.wrap ((z:Int)+1)=(z:Int)+1:=wrap_in (by omega) (by omega)
              have hzl:z<rows.length:=by omega
              have step:∀v:Bool,v=(sm && decide (visB rows[z] p=visB rows[z] (-1)))→(v=true↔∀y (h:y<rows.length),a≤y→y<z+1→visB rows[y] p=visB rows[y] (-1)):=by
                rintro v rfl
                rw[Bool.and_eq_true,e3,decide_eq_true_eq]
                constructor
                · rintro⟨x1,x2⟩ y hy y1 y2
                  by_cases e:y=z
                  · subst e;exact x2
                  · exact x1 y hy y1 (by omega)
                · intro x
                  exact⟨fun y hy y1 y2=>x y hy y1 (by omega),x z hzl e1 (by omega)⟩
              cases sm with
              | false =>
                simp[hiA,getD_map,hb,hzb,w4]
                exact Nxt.mk (z+1,false) (by simp only;omega) (by simp) (by simp) ⟨by simp only;omega,by simp only;omega,step false (by simp)⟩
              | true =>
                simp[hiA,getD_map,hb,hzb,hzl,w4,h5]
                exact Nxt.mk (z+1,visB rows[z] p == visB rows[z] (-1)) (by simp only;omega) (by simp <;> rfl) (by simp) ⟨by simp only;omega,by simp only;omega,step _ (by rw[Bool.true_and];cases visB rows[z] p <;> cases visB rows[z] (-1) <;> rfl)⟩
            · have h9:z=b:=by omega
              subst h9
              have stp:∀v:Bool,v=(ag || sm)→(v=true↔∃q:Nat,q<p+1∧∀y (h:y<rows.length),a≤y→y<z→visB rows[y] q=visB rows[y] (-1)):=by
                rintro v rfl
                rw[Bool.or_eq_true,q2,e3]
                constructor
                · rintro (⟨q,x1,x2⟩ | x)
                  · exact⟨q,by omega,x2⟩
                  · exact⟨p,by omega,x⟩
                · rintro⟨q,x1,x2⟩
                  by_cases e:q=p
                  · subst e;exact .inr x2
                  · exact .inl ⟨q,by omega,x2⟩
              cases ag with
              | true =>
                simp[hiA,getD_map,hb,w3]
                exact Nxt.mk (p+1,true) (by simp only;omega) (by simp) (by simp[hpar]) ⟨by simp only;omega,stp true (by simp)⟩
              | false =>
                simp[hiA,getD_map,hb,w3]
                exact Nxt.mk (p+1,sm) (by simp only;omega) (by simp) (by simp[hpar]) ⟨by simp only;omega,stp sm (by simp)⟩
          · have h9:p=np:=by omega
            subst h9
            have hag:ag=true:=q2.2 ⟨pp,pp1,fun z hz z1 z2=>pp2 _ (by
              rw[hab]
              unfold runRows
              simp only[Int.toNat_natCast]
              exact List.mem_iff_getElem.2 ⟨z-a,by simp;omega,by simp only[List.getElem_take,List.getElem_drop];congr 1;omega⟩)⟩
            subst hag
            simp[hpar,w1]
            exact Nxt.mk (i+1,k) (by simp only;omega) (by simp) (by simp[hpar]) ⟨by simp only;omega,by simp only;omega,hk2⟩
    · have h9:i=A.length:=by omega
      subst h9
      rw[List.drop_length] at hk2
      have hkB:k=B.length:=by
        have:=congrArg List.length hk2
        simp at this
        omega
      simp[hkB,h6]
  · simp[x_law17_InterestDense,h1,h2,h3,h4,hp,hv,hok,hc,intD,hA,hAA,hBB,hAlen,hp1]
    refine vc_lp (σ:=Nat × Nat) (fun x=>x.1≤A.length∧x.2≤B.length∧B.drop x.2=(A.drop x.1).filter fun s=>denseB (runRows ⟨par,rows⟩ s) np) (fun x=>A.length-x.1)
      (fun x=>[.any,.any,.any,.any,.ref 0 0 0 0,.d (Rep.to A),.any,.d (Rep.to B),.any,.any,.any,.d (.int .i64 x.2),.d (.int .i64 x.1),.any,.any,.any,.any,.any,.any,.any,.any,.any,.any,.any])
      (fun _=>[.cells 0 2 [.d (Rep.to (⟨par,rows⟩:TableT))]]) (0,0) (by simp) (by simp) ⟨by simp,by simp,by simpa using hB⟩ ?_
    rintro⟨i,k⟩ ⟨hi,hk,hk2⟩
    simp only at hi hk hk2
    by_cases hiA:i<A.length
    · have w1:IntKind.i64.wrap ((i:Int)+1)=(i:Int)+1:=wrap_in (by omega) (by omega)
      have w2:IntKind.i64.wrap ((k:Int)+1)=(k:Int)+1:=wrap_in (by omega) (by omega)
      obtain⟨a,b,hab,f1,f2,_⟩:=hrun _ (List.getElem_mem hiA)
      have ha:A[i].fr=a:=by rw[hab]
      have hb:A[i].to=b:=by rw[hab]
      rw[List.drop_eq_getElem_cons hiA,List.filter_cons] at hk2
      cases hdn:denseB (runRows ⟨par,rows⟩ A[i]) np with
      | true =>
        rw[hdn,if_pos rfl] at hk2
        have hkB:k<B.length:=by
          rcases Nat.lt_or_ge k B.length with h | h
          · exact h
          · rw[List.drop_eq_nil_of_le h] at hk2;cases hk2
        rw[List.drop_eq_getElem_cons hkB,List.cons.injEq] at hk2
        obtain⟨hk3,hk4⟩:=hk2
        simp[hiA,hkB,getD_map,ha,hb,show ¬b≤a by omega,show ¬L<b by omega,hL,hk3,pairsOk,eSeq,cellsEq,cellEq,w1,w2]
        exact Nxt.mk (i+1,k+1) (by simp only;omega) (by simp) (by simp) ⟨by simp only;omega,by simp only;omega,hk4⟩
      | false =>
        rw[hdn,if_neg (by simp)] at hk2
        obtain⟨pp,pp1,pp2⟩:=hnd _ hdn
        have hne:∀h:k<B.length,¬(B[k].fr=a):=fun h h9=>by
          have hm:B[k]∈A.drop (i+1):=by
            have:B[k]∈B.drop k:=List.mem_iff_getElem.2 ⟨0,by simp;omega,by simp⟩
            rw[hk2] at this
            exact (List.mem_filter.1 this).1
          obtain⟨q,hq,hq2⟩:=List.mem_iff_getElem.1 hm
          simp at hq hq2
          have:=hasc2 i (i+1+q) hiA (by omega) (by omega)
          rw[hq2,hb] at this
          omega
        by_cases hkB:k<B.length
        · have hnk:=hne hkB
          simp[hiA,hkB,getD_map,ha,hb,show ¬b≤a by omega,show ¬L<b by omega,hL,hnk,pairsOk,eSeq,cellsEq,cellEq]
          refine vc_lp (σ:=Nat × Bool) (fun x=>x.1≤np∧(x.2=true↔∃q:Nat,q<x.1∧∀z (h:z<rows.length),a≤z→z<b→visB rows[z] q=visB rows[z] (-1))) (fun x=>np-x.1)
            (fun x=>[.any,.any,.any,.any,.ref 0 0 0 0,.d (Rep.to A),.any,.d (Rep.to B),.any,.any,.any,.d (.int .i64 k),.d (.int .i64 i),.d (.bool x.2),.d (.int .i64 x.1),.any,.any,.any,.any,.any,.any,.any,.any,.any])
            (fun _=>[.cells 0 2 [.d (Rep.to (⟨par,rows⟩:TableT))]]) (0,false) (by simp) (by simp) ⟨by simp,by simp⟩ ?_
          rintro⟨p,ag⟩ ⟨q1,q2⟩
          simp only at q1 q2
          by_cases hpn:p<np
          · have w3:IntKind.i64.wrap ((p:Int)+1)=(p:Int)+1:=wrap_in (by omega) (by omega)
            simp[hpn,hpar,hiA,getD_map,ha,hb]
            refine vc_lp (σ:=Nat × Bool) (fun x=>a≤x.1∧x.1≤b∧(x.2=true↔∀z (h:z<rows.length),a≤z→z<x.1→visB rows[z] p=visB rows[z] (-1))) (fun x=>b-x.1)
              (fun x=>[.any,.any,.any,.any,.ref 0 0 0 0,.d (Rep.to A),.any,.d (Rep.to B),.any,.any,.any,.d (.int .i64 k),.d (.int .i64 i),.d (.bool ag),.d (.int .i64 p),.d (.bool x.2),.d (.int .i64 x.1),.any,.any,.any,.any,.any,.any,.any])
              (fun _=>[.cells 0 2 [.d (Rep.to (⟨(np:Int),rows⟩:TableT))]]) (a,true) (by simp) (by simp) ⟨by simp,by simp only;omega,Iff.intro (fun _ z _ h1 h2=>by simp only at h2;omega) (fun _=>rfl)⟩ ?_
            rintro⟨z,sm⟩ ⟨e1,e2,e3⟩
            simp only at e1 e2 e3
            by_cases hzb:z<b
            · have w4:IntKind.i64.wrap ((z:Int)+1)=(z:Int)+1:=wrap_in (by omega) (by omega)
              have hzl:z<rows.length:=by omega
              have step:∀v:Bool,v=(sm && decide (visB rows[z] p=visB rows[z] (-1)))→(v=true↔∀y (h:y<rows.length),a≤y→y<z+1→visB rows[y] p=visB rows[y] (-1)):=by
                rintro v rfl
                rw[Bool.and_eq_true,e3,decide_eq_true_eq]
                constructor
                · rintro⟨x1,x2⟩ y hy y1 y2
                  by_cases e:y=z
                  · subst e;exact x2
                  · exact x1 y hy y1 (by omega)
                · intro x
                  exact⟨fun y hy y1 y2=>x y hy y1 (by omega),x z hzl e1 (by omega)⟩
              cases sm with
              | false =>
                simp[hiA,getD_map,hb,hzb,w4]
                exact Nxt.mk (z+1,false) (by simp only;omega) (by simp) (by simp) ⟨by simp only;omega,by simp only;omega,step false (by simp)⟩
              | true =>
                simp[hiA,getD_map,hb,hzb,hzl,w4,h5]
                exact Nxt.mk (z+1,visB rows[z] p == visB rows[z] (-1)) (by simp only;omega) (by simp <;> rfl) (by simp) ⟨by simp only;omega,by simp only;omega,step _ (by rw[Bool.true_and];cases visB rows[z] p <;> cases visB rows[z] (-1) <;> rfl)⟩
            · have h9:z=b:=by omega
              subst h9
              have stp:∀v:Bool,v=(ag || sm)→(v=true↔∃q:Nat,q<p+1∧∀y (h:y<rows.length),a≤y→y<z→visB rows[y] q=visB rows[y] (-1)):=by
                rintro v rfl
                rw[Bool.or_eq_true,q2,e3]
                constructor
                · rintro (⟨q,x1,x2⟩ | x)
                  · exact⟨q,by omega,x2⟩
                  · exact⟨p,by omega,x⟩
                · rintro⟨q,x1,x2⟩
                  by_cases e:q=p
                  · subst e;exact .inr x2
                  · exact .inl ⟨q,by omega,x2⟩
              cases ag with
              | true =>
                simp[hiA,getD_map,hb,w3]
                exact Nxt.mk (p+1,true) (by simp only;omega) (by simp) (by simp[hpar]) ⟨by simp only;omega,stp true (by simp)⟩
              | false =>
                simp[hiA,getD_map,hb,w3]
                exact Nxt.mk (p+1,sm) (by simp only;omega) (by simp) (by simp[hpar]) ⟨by simp only;omega,stp sm (by simp)⟩
          · have h9:p=np:=by omega
            subst h9
            have hag:ag=true:=q2.2 ⟨pp,pp1,fun z hz z1 z2=>pp2 _ (by
              rw[hab]
              unfold runRows
              simp only[Int.toNat_natCast]
              exact List.mem_iff_getElem.2 ⟨z-a,by simp;omega,by simp only[List.getElem_take,List.getElem_drop];congr 1;omega⟩)⟩
            subst hag
            simp[hpar,w1]
            exact Nxt.mk (i+1,k) (by simp only;omega) (by simp) (by simp[hpar]) ⟨by simp only;omega,by simp only;omega,hk2⟩
        · simp[hiA,hkB,getD_map,ha,hb,show ¬b≤a by omega,show ¬L<b by omega,hL]
          refine vc_lp (σ:=Nat × Bool) (fun x=>x.1≤np∧(x.2=true↔∃q:Nat,q<x.1∧∀z (h:z<rows.length),a≤z→z<b→visB rows[z] q=visB rows[z] (-1))) (fun x=>np-x.1)
            (fun x=>[.any,.any,.any,.any,.ref 0 0 0 0,.d (Rep.to A),.any,.d (Rep.to B),.any,.any,.any,.d (.int .i64 k),.d (.int .i64 i),.d (.bool x.2),.d (.int .i64 x.1),.any,.any,.any,.any,.any,.any,.any,.any,.any])
            (fun _=>[.cells 0 2 [.d (Rep.to (⟨par,rows⟩:TableT))]]) (0,false) (by simp) (by simp) ⟨by simp,by simp⟩ ?_
          rintro⟨p,ag⟩ ⟨q1,q2⟩
          simp only at q1 q2
          by_cases hpn:p<np
          · have w3:IntKind.i64.wrap ((p:Int)+1)=(p:Int)+1:=wrap_in (by omega) (by omega)
            simp[hpn,hpar,hiA,getD_map,ha,hb]
            refine vc_lp (σ:=Nat × Bool) (fun x=>a≤x.1∧x.1≤b∧(x.2=true↔∀z (h:z<rows.length),a≤z→z<x.1→visB rows[z] p=visB rows[z] (-1))) (fun x=>b-x.1)
              (fun x=>[.any,.any,.any,.any,.ref 0 0 0 0,.d (Rep.to A),.any,.d (Rep.to B),.any,.any,.any,.d (.int .i64 k),.d (.int .i64 i),.d (.bool ag),.d (.int .i64 p),.d (.bool x.2),.d (.int .i64 x.1),.any,.any,.any,.any,.any,.any,.any])
              (fun _=>[.cells 0 2 [.d (Rep.to (⟨(np:Int),rows⟩:TableT))]]) (a,true) (by simp) (by simp) ⟨by simp,by simp only;omega,Iff.intro (fun _ z _ h1 h2=>by simp only at h2;omega) (fun _=>rfl)⟩ ?_
            rintro⟨z,sm⟩ ⟨e1,e2,e3⟩
            simp only at e1 e2 e3
            by_cases hzb:z<b
            · have w4:IntKind.i64.wrap ((z:Int)+1)=(z:Int)+1:=wrap_in (by omega) (by omega)
              have hzl:z<rows.length:=by omega
              have step:∀v:Bool,v=(sm && decide (visB rows[z] p=visB rows[z] (-1)))→(v=true↔∀y (h:y<rows.length),a≤y→y<z+1→visB rows[y] p=visB rows[y] (-1)):=by
                rintro v rfl
                rw[Bool.and_eq_true,e3,decide_eq_true_eq]
                constructor
                · rintro⟨x1,x2⟩ y hy y1 y2
                  by_cases e:y=z
                  · subst e;exact x2
                  · exact x1 y hy y1 (by omega)
                · intro x
                  exact⟨fun y hy y1 y2=>x y hy y1 (by omega),x z hzl e1 (by omega)⟩
              cases sm with
              | false =>
                simp[hiA,getD_map,hb,hzb,w4]
                exact Nxt.mk (z+1,false) (by simp only;omega) (by simp) (by simp) ⟨by simp only;omega,by simp only;omega,step false (by simp)⟩
              | true =>
                simp[hiA,getD_map,hb,hzb,hzl,w4,h5]
                exact Nxt.mk (z+1,visB rows[z] p == visB rows[z] (-1)) (by simp only;omega) (by simp <;> rfl) (by simp) ⟨by simp only;omega,by simp only;omega,step _ (by rw[Bool.true_and];cases visB rows[z] p <;> cases visB rows[z] (-1) <;> rfl)⟩
            · have h9:z=b:=by omega
              subst h9
              have stp:∀v:Bool,v=(ag || sm)→(v=true↔∃q:Nat,q<p+1∧∀y (h:y<rows.length),a≤y→y<z→visB rows[y] q=visB rows[y] (-1)):=by
                rintro v rfl
                rw[Bool.or_eq_true,q2,e3]
                constructor
                · rintro (⟨q,x1,x2⟩ | x)
                  · exact⟨q,by omega,x2⟩
                  · exact⟨p,by omega,x⟩
                · rintro⟨q,x1,x2⟩
                  by_cases e:q=p
                  · subst e;exact .inr x2
                  · exact .inl ⟨q,by omega,x2⟩
              cases ag with
              | true =>
                simp[hiA,getD_map,hb,w3]
                exact Nxt.mk (p+1,true) (by simp only;omega) (by simp) (by simp[hpar]) ⟨by simp only;omega,stp true (by simp)⟩
              | false =>
                simp[hiA,getD_map,hb,w3]
                exact Nxt.mk (p+1,sm) (by simp only;omega) (by simp) (by simp[hpar]) ⟨by simp only;omega,stp sm (by simp)⟩
          · have h9:p=np:=by omega
            subst h9
            have hag:ag=true:=q2.2 ⟨pp,pp1,fun z hz z1 z2=>pp2 _ (by
              rw[hab]
              unfold runRows
              simp only[Int.toNat_natCast]
              exact List.mem_iff_getElem.2 ⟨z-a,by simp;omega,by simp only[List.getElem_take,List.getElem_drop];congr 1;omega⟩)⟩
            subst hag
            simp[hpar,w1]
            exact Nxt.mk (i+1,k) (by simp only;omega) (by simp) (by simp[hpar]) ⟨by simp only;omega,by simp only;omega,hk2⟩
    · have h9:i=A.length:=by omega
      subst h9
      rw[List.drop_length] at hk2
      have hkB:k=B.length:=by
        have:=congrArg List.length hk2
        simp at this
        omega
      simp[hkB,h6]
theorem law17_InterestDense_pre (raw:List Int) (n:Int) (a:Bool) (w0:Arg.wf raw) (w1:Arg.wf n) (w2:Arg.wf a):raw.length≤9223372036854775807:=by
  have:=len_wf w0
  omega
end Go.AE
