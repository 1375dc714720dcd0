/-
  Law 17: the run of a row,and whether each parent has a mark in it.
-/
import Derived.Test.YtgmdpmpmbhahhaaConb1

set_option linter.unusedSimpArgs false
set_option linter.unusedVariables false
set_option linter.unnecessarySimpa false
set_option maxRecDepth 20000
set_option maxHeartbeats 4000000
namespace Go.AE
def upL17:List RowT→Nat
  | []=>0
  | r::rs=>if r.marks≠0 then r.marks.toNat ||| upL17 rs else 0
def allB (t:TableT) (j:Nat):Bool:=decide (upL17 (t.rows.take (j+1)).reverse ||| upL17 (t.rows.drop j)=2 ^ t.parents.toNat-1)
theorem upL_lt {n:Nat}:∀rows:List RowT,(∀r,r∈rows→r.marks.toNat<2 ^ n)→upL17 rows<2 ^ n
  | [],_=>Nat.two_pow_pos n
  | r::rs,h=>by
    have ih:=upL_lt rs fun x hx=>h x (by simp[hx])
    unfold upL17
    split
    · exact Nat.or_lt_two_pow (h r (by simp)) ih
    · exact Nat.two_pow_pos n
theorem rev_take {rows:List RowT} {k:Nat} (h:k<rows.length):(rows.take (k+1)).reverse=rows[k]::(rows.take k).reverse:=by
  rw[List.take_succ_eq_append_getElem h,List.reverse_append]
  rfl
theorem ones64 {n:Nat} (h:n≤32):IntKind.u64.wrap (IntKind.u64.wrap (2 ^ min n IntKind.u64.bits)-1)=((2 ^ n-1:Nat):Int):=by
  have:∀n:_root_.Fin 33,IntKind.u64.wrap (IntKind.u64.wrap (2 ^ min n.val IntKind.u64.bits)-1)=((2 ^ n.val-1:Nat):Int):=by decide
  exact this ⟨n,by omega⟩
@[simp] def S_law17_all:List D→Prop × D:=spec2 (α:=TableT) (β:=Int) (fun t j=>tabOk t∧1≤t.parents∧t.parents≤32∧0≤j∧j<t.rows.length) (fun t j=>.bool (allB t j.toNat))
theorem ct_law17_all {P:Program} {f:Nat} {G:Gam} (h:CodeOf P f 2 9 [3] x_law17_all) (hG:GamOk P G):Has P f S_law17_all:=h.has2 hG fun t j hp=>by
  obtain⟨hok,p1,p2,p3,p4⟩:=hp
  obtain⟨par,rows⟩:=t
  simp only at p1 p2 p4
  obtain⟨n,rfl⟩:=Int.eq_ofNat_of_zero_le (show 0≤par by omega)
  obtain⟨j,rfl⟩:=Int.eq_ofNat_of_zero_le p3
  have hr:=hok.2.1
  have hn:=hok.1
  simp only at hr hn
  have e32:(4294967296:Nat)=2 ^ 32:=rfl
  have hm:∀r,r∈rows→r.marks.toNat<2 ^ 32:=fun r h=>by have:=hr r h;unfold rowOk at this;omega
  have b1:upL17 (rows.take (j+1)).reverse<2 ^ 32:=upL_lt _ fun r h=>hm r (List.mem_of_mem_take (List.mem_reverse.1 h))
  have b2:upL17 (rows.drop j)<2 ^ 32:=upL_lt _ fun r h=>hm r (List.mem_of_mem_drop h)
  obtain⟨A1,hA1⟩:∃A1,upL17 (rows.take (j+1)).reverse=A1:=⟨_,rfl⟩
  obtain⟨A2,hA2⟩:∃A2,upL17 (rows.drop j)=A2:=⟨_,rfl⟩
  have hv:allB ⟨n,rows⟩ j=decide (A1 ||| A2=2 ^ n-1):=by unfold allB;rw[← hA1,← hA2];rfl
  simp only[Int.toNat_natCast]
  rw[hv]
  rw[hA1] at b1
  rw[hA2] at b2
  simp[x_law17_all]
  refine vc_lp (σ:=Nat × Nat) (fun x=>x.1≤j+1∧x.2<2 ^ 32∧x.2 ||| upL17 (rows.take x.1).reverse=A1) (fun x=>x.1)
    (fun x=>[.any,.d (.int .i64 j),.ref 0 0 0 0,.any,.d (.int .u32 x.2),.d (.int .i64 ((x.1:Int)-1)),.any,.any,.any]) (fun _=>[.cells 0 2 [.d (Rep.to (⟨n,rows⟩:TableT))]]) (j+1,0) (by simp) (by simp) ⟨by simp,by simp,by simp only[Nat.zero_or];exact hA1⟩ ?_
  rintro⟨k,a⟩ ⟨k1,k2,k3⟩
  simp only at k1 k2 k3
  by_cases hk:k=0
  · subst hk
    have k3:a=A1:=by simpa [upL17] using k3
    subst k3
    simp
    have w64:∀a:Nat,a<2 ^ 32→IntKind.u64.wrap ((a:Nat):Int)=a:=fun a ha=>u64_wrap (by omega)
    have hone:=ones64 (n:=n) (by omega)
    have wN:IntKind.u64.wrap ((n:Nat):Int)=n:=u64_wrap (by omega)
    refine vc_lp (σ:=Nat × Nat) (fun x=>j≤x.1∧x.1≤rows.length∧x.2<2 ^ 32∧x.2 ||| upL17 (rows.drop x.1)=a ||| A2) (fun x=>rows.length-x.1)
      (fun x=>[.any,.d (.int .i64 j),.ref 0 0 0 0,.any,.d (.int .u32 x.2),.any,.d (.int .i64 x.1),.any,.any]) (fun _=>[.cells 0 2 [.d (Rep.to (⟨n,rows⟩:TableT))]]) (j,a) (by simp) (by simp) ⟨by simp,by simp only;omega,by simpa using k2,by simp only;rw[hA2]⟩ ?_
    rintro⟨k,c⟩ ⟨q1,q2,q3,q4⟩
    simp only at q1 q2 q3 q4
    by_cases hkl:k<rows.length
    · have w1:IntKind.i64.wrap ((k:Int)+1)=(k:Int)+1:=wrap_in (by omega) (by omega)
      rw[List.drop_eq_getElem_cons hkl,upL17] at q4
      by_cases hm0:rows[k].marks=0
      · rw[if_neg (by simpa using hm0),Nat.or_zero] at q4
        subst q4
        simp[hkl,getD_map,hm0,w64 _ q3,wN,hone]
        rw[Int.ofNat_inj]
      · rw[if_pos hm0,← Nat.or_assoc] at q4
        have hmr:=hr _ (List.getElem_mem hkl)
        have ho:=orU2 (a:=c) (b:=rows[k].marks.toNat) (by omega) (by have:=hmr.2;omega)
        have ho':IntKind.u32.wrap ((c % 2 ^ IntKind.u32.bits ||| (rows[k].marks % 2 ^ IntKind.u32.bits).toNat:Nat):Int)=((c ||| rows[k].marks.toNat:Nat):Int):=by
          rw[← ho]
          congr 2
          have:(2:Int) ^ IntKind.u32.bits=4294967296:=rfl
          have e2:(2:Nat) ^ IntKind.u32.bits=4294967296:=rfl
          rw[this,e2]
          congr 1
          have:=hmr.1
          have:=hmr.2
          omega
        simp[hkl,getD_map,hm0,w1,ho']
        exact Nxt.mk (k+1,c ||| rows[k].marks.toNat) (by simp only;omega) (by simp) (by simp) ⟨by simp only;omega,by simp only;omega,Nat.or_lt_two_pow q3 (by have:=hmr.2;omega),q4⟩
    · have h9:k=rows.length:=by omega
      subst h9
      rw[List.drop_length,upL17,Nat.or_zero] at q4
      subst q4
      simp[w64 _ q3,wN,hone]
      rw[Int.ofNat_inj]
  · obtain⟨k,rfl⟩:∃q,k=q+1:=⟨k-1,by omega⟩
    have hkl:k<rows.length:=by omega
    rw[rev_take hkl,upL17] at k3
    have w1:IntKind.i64.wrap ((k:Int)-1)=(k:Int)-1:=wrap_in (by omega) (by omega)
    have ek:((k+1:Nat):Int)-1=k:=by omega
    by_cases hm0:rows[k].marks=0
    · rw[if_neg (by simpa using hm0),Nat.or_zero] at k3
      subst k3
      simp[hkl,getD_map,hm0]
      clear hkl hm0 w1
      have w64:∀a:Nat,a<2 ^ 32→IntKind.u64.wrap ((a:Nat):Int)=a:=fun a ha=>u64_wrap (by omega)
      have hone:=ones64 (n:=n) (by omega)
      have wN:IntKind.u64.wrap ((n:Nat):Int)=n:=u64_wrap (by omega)
      refine vc_lp (σ:=Nat × Nat) (fun x=>j≤x.1∧x.1≤rows.length∧x.2<2 ^ 32∧x.2 ||| upL17 (rows.drop x.1)=a ||| A2) (fun x=>rows.length-x.1)
        (fun x=>[.any,.d (.int .i64 j),.ref 0 0 0 0,.any,.d (.int .u32 x.2),.any,.d (.int .i64 x.1),.any,.any]) (fun _=>[.cells 0 2 [.d (Rep.to (⟨n,rows⟩:TableT))]]) (j,a) (by simp) (by simp) ⟨by simp,by simp only;omega,by simpa using k2,by simp only;rw[hA2]⟩ ?_
      rintro⟨k,c⟩ ⟨q1,q2,q3,q4⟩
      simp only at q1 q2 q3 q4
      by_cases hkl:k<rows.length
      · have w1:IntKind.i64.wrap ((k:Int)+1)=(k:Int)+1:=wrap_in (by omega) (by omega)
        rw[List.drop_eq_getElem_cons hkl,upL17] at q4
        by_cases hm0:rows[k].marks=0
        · rw[if_neg (by simpa using hm0),Nat.or_zero] at q4
          subst q4
          simp[hkl,getD_map,hm0,w64 _ q3,wN,hone]
          rw[Int.ofNat_inj]
        · rw[if_pos hm0,← Nat.or_assoc] at q4
          have hmr:=hr _ (List.getElem_mem hkl)
          have ho:=orU2 (a:=c) (b:=rows[k].marks.toNat) (by omega) (by have:=hmr.2;omega)
          have ho':IntKind.u32.wrap ((c % 2 ^ IntKind.u32.bits ||| (rows[k].marks % 2 ^ IntKind.u32.bits).toNat:Nat):Int)=((c ||| rows[k].marks.toNat:Nat):Int):=by
            rw[← ho]
            congr 2
            have:(2:Int) ^ IntKind.u32.bits=4294967296:=rfl
            have e2:(2:Nat) ^ IntKind.u32.bits=4294967296:=rfl
            rw[this,e2]
            congr 1
            have:=hmr.1
            have:=hmr.2
            omega
          simp[hkl,getD_map,hm0,w1,ho']
          exact Nxt.mk (k+1,c ||| rows[k].marks.toNat) (by simp only;omega) (by simp) (by simp) ⟨by simp only;omega,by simp only;omega,Nat.or_lt_two_pow q3 (by have:=hmr.2;omega),q4⟩
      · have h9:k=rows.length:=by omega
        subst h9
        rw[List.drop_length,upL17,Nat.or_zero] at q4
        subst q4
        simp[w64 _ q3,wN,hone]
        rw[Int.ofNat_inj]
    · rw[if_pos hm0,← Nat.or_assoc] at k3
      have hmr:=hr _ (List.getElem_mem hkl)
      have hmN:rows[k].marks=((rows[k].marks.toNat:Nat):Int):=by have:=hmr.1;omega
      have ho:=orU2 (a:=a) (b:=rows[k].marks.toNat) (by omega) (by have:=hmr.2;omega)
      have ho':IntKind.u32.wrap ((a % 2 ^ IntKind.u32.bits ||| (rows[k].marks % 2 ^ IntKind.u32.bits).toNat:Nat):Int)=((a ||| rows[k].marks.toNat:Nat):Int):=by
        rw[← ho]
        congr 2
        have:(2:Int) ^ IntKind.u32.bits=4294967296:=rfl
        have e2:(2:Nat) ^ IntKind.u32.bits=4294967296:=rfl
        rw[this,e2]
        congr 1
        have:=hmr.2
        omega
      simp[hkl,getD_map,hm0,w1,ho']
      exact Nxt.mk (k,a ||| rows[k].marks.toNat) (by simp) (by simp) (by simp) ⟨by simp only;omega,Nat.or_lt_two_pow k2 (by have:=hmr.2;omega),k3⟩
theorem SpOk.sep {p:Nat→Bool} {n:Nat} {l:List SpanT} (h:SpOk p n l) {s t:SpanT} (hs:s∈l) (ht:t∈l):s=t∨s.to<t.fr∨t.to<s.fr:=by
  obtain⟨i,hi,rfl⟩:=List.mem_iff_getElem.1 hs
  obtain⟨j,hj,rfl⟩:=List.mem_iff_getElem.1 ht
  have:=List.pairwise_iff_getElem.1 h.asc
  rcases Nat.lt_trichotomy i j with h1 | h1 | h1
  · exact .inr (.inl (this i j hi hj h1))
  · subst h1;exact .inl rfl
  · exact .inr (.inr (this j i hj hi h1))
theorem SpOk.up {p:Nat→Bool} {n:Nat} {l:List SpanT} (h:SpOk p n l) {s:SpanT} (hs:s∈l) {i:Nat} (hi:(i:Int)=s.to) (hn:i<n):p i=false:=by
  cases hp:p i with
  | false=>rfl
  | true =>
    obtain⟨t,t1,t2,t3⟩:=h.cov i hn hp
    have r1:=h.rng s hs
    have r2:=h.rng t t1
    rcases h.sep hs t1 with rfl | h4 | h4 <;> omega
theorem SpOk.dn {p:Nat→Bool} {n:Nat} {l:List SpanT} (h:SpOk p n l) {s:SpanT} (hs:s∈l) {i:Nat} (hi:(i:Int)+1=s.fr):p i=false:=by
  have r1:=h.rng s hs
  cases hp:p i with
  | false=>rfl
  | true =>
    obtain⟨t,t1,t2,t3⟩:=h.cov i (by omega) hp
    have r2:=h.rng t t1
    rcases h.sep hs t1 with rfl | h4 | h4 <;> omega
theorem orN_cons (r:RowT) (rs:List RowT):orN (r::rs)=r.marks.toNat ||| orN rs:=by
  apply Nat.eq_of_testBit_eq
  intro p
  rw[Nat.testBit_or,orN_bit,orN_bit,List.any_cons]
theorem orN_app (a b:List RowT):orN (a++b)=orN a ||| orN b:=by
  apply Nat.eq_of_testBit_eq
  intro p
  rw[Nat.testBit_or,orN_bit,orN_bit,orN_bit,List.any_append]
theorem orN_rev (a:List RowT):orN a.reverse=orN a:=by
  apply Nat.eq_of_testBit_eq
  intro p
  rw[orN_bit,orN_bit,List.any_reverse]
theorem upL_run:∀(a b:List RowT),(∀r,r∈a→r.marks≠0)→(∀r rs,b=r::rs→r.marks=0)→upL17 (a++b)=orN a
  | [],b,_,h=>by
    cases b with
    | nil=>rfl
    | cons r rs =>
      rw[List.nil_append,upL17,if_neg (by simpa using h r rs rfl)]
      rfl
  | r::rs,b,h1,h2=>by
    rw[List.cons_append,upL17,if_pos (h1 r (by simp)),upL_run rs b (fun x hx=>h1 x (by simp[hx])) h2,orN_cons]
theorem all_dense {t:TableT} {a b j:Nat} (h1:a≤j) (h2:j<b) (h3:b≤t.rows.length) (hz:∀i (h:i<t.rows.length),a≤i→i<b→t.rows[i].marks≠0) (hlo:∀i (h:i<t.rows.length),i+1=a→t.rows[i].marks=0) (hup:∀h:b<t.rows.length,t.rows[b].marks=0) :
    allB t j=denseB (runRows t ⟨a,b⟩) t.parents.toNat:=by
  obtain⟨par,rows⟩:=t
  simp only at h3 hz hlo hup
  have e1:rows.drop j=(rows.drop j).take (b-j)++rows.drop b:=by
    rw[show b=j+(b-j) by omega,← List.drop_drop,show j+(b-j)-j=b-j by omega,List.take_append_drop]
  have e2:(rows.take (j+1)).reverse=((rows.take (j+1)).drop a).reverse++(rows.take a).reverse:=by
    rw[← List.reverse_append]
    congr 1
    have:rows.take a=(rows.take (j+1)).take a:=by rw[List.take_take,Nat.min_eq_left (by omega)]
    rw[this,List.take_append_drop]
  have u1:upL17 (rows.drop j)=orN ((rows.drop j).take (b-j)):=by
    rw[e1]
    rw[upL_run]
    · rw[← e1]
    · intro r hr
      obtain⟨i,hi,rfl⟩:=List.mem_iff_getElem.1 hr
      simp at hi ⊢
      exact hz _ (by omega) (by omega) (by omega)
    · intro r rs hrs
      have hb:b<rows.length:=by
        rcases Nat.lt_or_ge b rows.length with h | h
        · exact h
        · rw[List.drop_eq_nil_of_le h] at hrs;cases hrs
      rw[List.drop_eq_getElem_cons hb] at hrs
      simp only[List.cons.injEq] at hrs
      rw[← hrs.1]
      exact hup hb
  have u2:upL17 (rows.take (j+1)).reverse=orN ((rows.take (j+1)).drop a):=by
    rw[e2,upL_run,orN_rev]
    · intro r hr
      rw[List.mem_reverse] at hr
      obtain⟨i,hi,rfl⟩:=List.mem_iff_getElem.1 hr
      simp at hi ⊢
      exact hz _ (by omega) (by omega) (by omega)
    · intro r rs hrs
      rcases Nat.eq_zero_or_pos a with h0 | h0
      · subst h0;simp at hrs
      · obtain⟨a,rfl⟩:∃q,a=q+1:=⟨a-1,by omega⟩
        rw[rev_take (by omega)] at hrs
        simp only[List.cons.injEq] at hrs
        rw[← hrs.1]
        exact hlo a (by omega) rfl
  unfold allB denseB
  simp only
  rw[u1,u2]
  have e3:runRows ⟨par,rows⟩ ⟨a,b⟩=(rows.take (j+1)).drop a++(rows.drop (j+1)).take (b-(j+1)):=by
    unfold runRows
    simp only[Int.toNat_natCast]
    rw[List.drop_take,show b-a=(j+1-a)+(b-(j+1)) by omega,List.take_add,List.drop_drop,show a+(j+1-a)=j+1 by omega]
  have e4:(rows.drop j).take (b-j)=rows[j]'(by omega)::(rows.drop (j+1)).take (b-(j+1)):=by
    rw[List.drop_eq_getElem_cons (by omega),show b-j=(b-(j+1))+1 by omega,List.take_succ_cons]
  have e5:∀p,(orN ((rows.take (j+1)).drop a) ||| orN ((rows.drop j).take (b-j))).testBit p=(orN (runRows ⟨par,rows⟩ ⟨a,b⟩)).testBit p:=by
    intro p
    rw[e3,orN_app,e4,orN_cons,Nat.testBit_or,Nat.testBit_or,Nat.testBit_or]
    have hjm:rows[j]'(by omega)∈(rows.take (j+1)).drop a:=by
      refine List.mem_iff_getElem.2 ⟨j-a,by simp;omega,?_⟩
      simp only[List.getElem_drop,List.getElem_take]
      congr 1
      omega
    cases hb:(rows[j]'(by omega)).marks.toNat.testBit p with
    | false=>simp
    | true =>
      have:(orN ((rows.take (j+1)).drop a)).testBit p=true:=by
        rw[orN_bit,List.any_eq_true]
        exact⟨_,hjm,hb⟩
      simp[this]
  rw[Nat.eq_of_testBit_eq e5]
theorem run_facts {t:TableT} (hv:marksB t.rows t.parents.toNat=true) {s:SpanT} (hs:s∈runsV t):∃a b:Nat,s=⟨a,b⟩∧a<b∧b≤t.rows.length∧(∀i (h:i<t.rows.length),a≤i→i<b→t.rows[i].marks≠0)∧(∀i (h:i<t.rows.length),i+1=a→t.rows[i].marks=0)∧(∀h:b<t.rows.length,t.rows[b].marks=0):=by
  have ho:=runsV_ok t
  obtain⟨r1,r2,r3,r4⟩:=ho.rng s hs
  obtain⟨x,y⟩:=s
  simp only at r1 r2 r3 r4
  obtain⟨a,rfl⟩:=Int.eq_ofNat_of_zero_le r1
  obtain⟨b,rfl⟩:=Int.eq_ofNat_of_zero_le (show 0≤y by omega)
  have hbl:∀i (h:i<t.rows.length),(!blankV (t.rows.getD i default))=decide (t.rows[i].marks≠0):=fun i h=>by
    rw[marksB_all,List.all_eq_true] at hv
    have:=hv _ (List.getElem_mem h)
    unfold markB at this
    have e:t.rows.getD i default=t.rows[i]:=by simp[List.getD,h]
    rw[e]
    unfold blankV
    cases hl:t.rows[i].lost with
    | false=>simp
    | true =>
      rw[hl] at this
      simp at this
      simp[this.2]
  refine⟨a,b,rfl,by omega,by omega,fun i h h1 h2=>?_,fun i h h1=>?_,fun h=>?_⟩
  · have:=r4 i (by omega) (by omega)
    rw[hbl i h] at this
    simpa using this
  · have:=ho.dn hs (i:=i) (by simp only;omega)
    rw[hbl i h] at this
    simpa using this
  · have:=ho.up hs (i:=b) rfl h
    rw[hbl b h] at this
    simpa using this
def hitB (t:TableT) (dense:Bool) (j:Nat):Bool:=decide ((t.rows.getD j default).marks≠0) && (!dense || allB t j)
theorem hit_run {t:TableT} (hv:marksB t.rows t.parents.toNat=true) (dense:Bool) {j:Nat} (hj:j<t.rows.length):hitB t dense j=true↔∃s,s∈intV t (!dense)∧s.fr≤j∧(j:Int)<s.to:=by
  have e:t.rows.getD j default=t.rows[j]:=by simp[List.getD,hj]
  unfold hitB intV
  rw[e]
  constructor
  · intro h
    simp only[Bool.and_eq_true,decide_eq_true_eq] at h
    obtain⟨h1,h2⟩:=h
    have hb:(!blankV (t.rows.getD j default))=true:=by rw[e];unfold blankV;simp[h1]
    obtain⟨s,s1,s2,s3⟩:=(runsV_ok t).cov j hj hb
    refine⟨s,?_,s2,s3⟩
    rw[List.mem_filter]
    refine⟨s1,?_⟩
    obtain⟨a,b,rfl,f1,f2,f3,f4,f5⟩:=run_facts hv s1
    have:=all_dense (t:=t) (a:=a) (b:=b) (j:=j) (by simp only at s2;omega) (by simp only at s3;omega) f2 f3 f4 f5
    rw[← this]
    cases dense <;> simp_all
  · rintro⟨s,s1,s2,s3⟩
    rw[List.mem_filter] at s1
    obtain⟨s1,s4⟩:=s1
    obtain⟨a,b,rfl,f1,f2,f3,f4,f5⟩:=run_facts hv s1
    have:=all_dense (t:=t) (a:=a) (b:=b) (j:=j) (by simp only at s2;omega) (by simp only at s3;omega) f2 f3 f4 f5
    rw[← this] at s4
    have hz:=f3 j hj (by simp only at s2;omega) (by simp only at s3;omega)
    cases dense <;> simp_all
theorem near_hit {t:TableT} (hv:marksB t.rows t.parents.toNat=true) (dense:Bool) {c:Int} (hc:0≤c) {i:Nat} (hi:i<t.rows.length):nearB (intV t (!dense)) c i=true↔∃j:Nat,j<t.rows.length∧(i:Int)-c≤j∧(j:Int)≤i+c∧hitB t dense j=true:=by
  unfold nearB
  rw[List.any_eq_true]
  constructor
  · rintro⟨s,s1,s2⟩
    simp only[decide_eq_true_eq] at s2
    have hm:=List.mem_filter.1 s1
    obtain⟨a,b,rfl,f1,f2,_⟩:=run_facts hv hm.1
    simp only at s2
    by_cases h1:i<a
    · exact⟨a,by omega,by omega,by omega,(hit_run hv dense (by omega)).2 ⟨_,s1,by simp,by simp only;omega⟩⟩
    · by_cases h2:i<b
      · exact⟨i,by omega,by omega,by omega,(hit_run hv dense (by omega)).2 ⟨_,s1,by simp only;omega,by simp only;omega⟩⟩
      · exact⟨b-1,by omega,by omega,by omega,(hit_run hv dense (by omega)).2 ⟨_,s1,by simp only;omega,by simp only;omega⟩⟩
  · rintro⟨j,j1,j2,j3,j4⟩
    obtain⟨s,s1,s2,s3⟩:=(hit_run hv dense j1).1 j4
    exact⟨s,s1,by simp only[decide_eq_true_eq];omega⟩
theorem hunk_near {t:TableT} {c:Int} {all:Bool} {i:Nat} (hi:i<t.rows.length):nearB (hunksV t c all) 0 i=nearB (intV t all) c i:=by
  have ho:SpOk (nearB (intV t all) c) t.rows.length (hunksV t c all):=spV_ok _ _
  cases hb:nearB (intV t all) c i with
  | true =>
    obtain⟨s,s1,s2,s3⟩:=ho.cov i hi hb
    unfold nearB
    rw[List.any_eq_true]
    exact⟨s,s1,by simp only[decide_eq_true_eq];omega⟩
  | false =>
    rw[← Bool.not_eq_true]
    intro h
    unfold nearB at h
    rw[List.any_eq_true] at h
    obtain⟨s,s1,s2⟩:=h
    simp only[decide_eq_true_eq] at s2
    have:=(ho.rng s s1).2.2.2 i (by omega) (by omega)
    rw[hb] at this
    cases this
theorem valid_marks {t:TableT} (h:checkTab t=0):marksB t.rows t.parents.toNat=true:=by
  unfold checkTab at h
  split at h
  · cases h
  · split at h
    · assumption
    · cases h
@[simp] def S_law17_InterestCovers:List D→Prop × D:=spec5 (α:=List Int) (β:=Int) (γ:=Bool) (δ:=Bool) (ε:=Int) (fun raw _ _ _ _=>raw.length≤9223372036854775807) (fun _ _ _ _ _=>.bool true)
theorem ct_law17_InterestCovers {P:Program} {f g1 g2 g3 g4 g5:Nat} {G:Gam} (h:CodeOf P f 5 22 [5] (x_law17_InterestCovers g1 g2 g3 g4 g5)) (hG:GamOk P G) (h1:G.find g1=some S_law17_pick) (h2:G.find g2=some S_gen_Mod) (h3:G.find g3=some S_interest_Hunks) (h4:G.find g4=some S_law17_all) (h5:G.find g5=some S_law17_awake):Has P f S_law17_InterestCovers:=h.has5 hG fun raw n free dense c0 hp=>by
  obtain⟨hc,hok,hpar⟩:=pick_valid raw n free
  obtain⟨n1,n2,_⟩:=pickN_in n
  generalize hv:pickV raw n free=t at *
  have hmk:=valid_marks hc
  obtain⟨m1,m2⟩:=modV_lt c0 (n:=4) (by omega)
  obtain⟨c,hcc⟩:∃c,modV c0 4=c:=⟨_,rfl⟩
  rw[hcc] at m1 m2
  have hnr:∀i,i<t.rows.length→(nearB (hunksV t c (!dense)) 0 i=true↔∃j:Nat,j<t.rows.length∧(i:Int)-c≤j∧(j:Int)≤i+c∧hitB t dense j=true):=fun i hi=>by
    rw[hunk_near hi]
    exact near_hit hmk dense m1 hi
  have hho:SpOk (nearB (intV t (!dense)) c) t.rows.length (hunksV t c (!dense)):=spV_ok _ _
  have hhl:(hunksV t c (!dense)).length≤t.rows.length:=spV_len _ _
  have hrng:=hho.rng
  have hasc:=List.pairwise_iff_getElem.1 hho.asc
  have hn:=hok.1
  have hhit:∀j,(hj:j<t.rows.length)→hitB t dense j=(decide (t.rows[j].marks≠0) && (!dense || allB t j)):=fun j hj=>by
    unfold hitB
    have e:t.rows.getD j default=t.rows[j]:=by simp[List.getD,hj]
    rw[e]
  have hall:∀j:Nat,j<t.rows.length→(tabOk t∧1≤t.parents∧t.parents≤32∧(0:Int)≤j∧(j:Int)<t.rows.length):=fun j hj=>⟨hok,by omega,by omega,by omega,by omega⟩
  obtain⟨par,rows⟩:=t
  simp only at hall hhit hn hhl hrng hnr
  obtain⟨N,hN⟩:∃N,rows.length=N:=⟨_,rfl⟩
  generalize hH:hunksV ⟨par,rows⟩ c (!dense)=H at *
  simp[x_law17_InterestCovers,h1,h2,h3,hp,hv,hcc,hok,hc,hunksD,m1,show c≤1048576 by omega,hH]
  rw[boolC_false,hN]
  refine⟨⟨by unfold room;omega,by omega⟩,?_⟩
  refine vc_lp (σ:=Nat) (fun k=>k≤H.length) (fun k=>H.length-k)
    (fun k=>[.any,.any,.any,.d (.bool dense),.d (.int .i64 c),.any,.ref 0 0 0 0,.d (Rep.to H),.any,.own 1 0 0 N,.d (.int .i64 k),.any,.any,.any,.any,.any,.any,.any,.any,.any,.any,.any])
    (fun k=>[.cells 0 2 [.d (Rep.to (⟨par,rows⟩:TableT))],.cells 0 1 (boolC N (nearB (H.take k) 0))]) 0 (by simp) ?_ (by simp) ?_
  · have e:(boolC N fun _=>false)=boolC N (nearB (H.take 0) 0):=boolC_congr fun x _=>by simp[nearB]
    simp only[to_Table,SbS_cons,SbO_refl,true_and,SbS_nil,and_true]
    rw[e]
    simp
  intro k hk
  by_cases hkl:k<H.length
  · have w1:IntKind.i64.wrap ((k:Int)+1)=(k:Int)+1:=wrap_in (by omega) (by omega)
    obtain⟨r1,r2,r3,_⟩:=hrng _ (List.getElem_mem hkl)
    obtain⟨a,ha⟩:=Int.eq_ofNat_of_zero_le r1
    obtain⟨b,hb⟩:=Int.eq_ofNat_of_zero_le (show 0≤H[k].to by omega)
    have hbN:b≤N:=by omega
    have hnt:=fun i=>near_take hkl 0 i
    rw[ha,hb] at hnt
    by_cases hk0:0<k
    · obtain⟨q,hq⟩:∃q:Nat,(k:Int)-1=q:=⟨k-1,by omega⟩
      have wk:IntKind.i64.wrap ((k:Int)-1)=(q:Int):=by rw[wrap_in (by omega) (by omega)];omega
      have hql:q<H.length:=by omega
      have hprev:¬((a:Int)≤H[q].to):=by
        have:=hasc q k hql hkl (by omega)
        omega
      simp[hkl,hql,hk0,getD_map,ha,hb,show ¬(N<b) by omega,show ¬b≤a by omega,hN,wk,hprev]
      refine vc_lp (σ:=Nat) (fun j=>a≤j∧j≤b) (fun j=>b-j)
        (fun j=>[.any,.any,.any,.d (.bool dense),.d (.int .i64 c),.any,.ref 0 0 0 0,.d (Rep.to H),.any,.own 1 0 0 N,.d (.int .i64 k),.d (.int .i64 j),.any,.any,.any,.any,.any,.any,.any,.any,.any,.any])
        (fun j=>[.cells 0 2 [.d (Rep.to (⟨par,rows⟩:TableT))],.cells 0 1 (boolC N (hQ H 0 k a j))]) a (by simp) ?_ ⟨by omega,by omega⟩ ?_
      · have e:boolC N (nearB (H.take k) 0)=boolC N (hQ H 0 k a a):=boolC_congr fun x _=>by
          unfold hQ
          have:decide ((a:Int)≤x∧(x:Int)<a)=false:=by rw[decide_eq_false_iff_not];omega
          rw[this,Bool.or_false]
        rw[e]
        simp
      rintro j ⟨j1,j2⟩
      have hlen:=boolC_len N (hQ H 0 k a j)
      by_cases hj:j<b
      · have w2:IntKind.i64.wrap ((j:Int)+1)=(j:Int)+1:=wrap_in (by omega) (by omega)
        have hjn:j<N:=by omega
        have hset:(boolC N (hQ H 0 k a j)).set j (.d (.bool true))=boolC N (hQ H 0 k a ((j+1:Nat):Int)):=boolC_set fun x hx=>by
          unfold hQ
          by_cases e:x=j
          · subst e
            have:decide ((a:Int)≤x∧(x:Int)<((x+1:Nat):Int))=true:=by rw[decide_eq_true_eq];omega
            rw[this]
            simp
          · have:decide ((a:Int)≤x∧(x:Int)<((j+1:Nat):Int))=decide ((a:Int)≤x∧(x:Int)<j):=by
              rw[decide_eq_decide]
              omega
            rw[this,if_neg e]
        simp[hkl,getD_map,hb,hj,hjn,hlen,w2,hset]
        exact Nxt.mk (j+1) (by omega) (by simp) (by simp) ⟨by omega,by omega⟩
      · have h9:j=b:=by omega
        subst h9
        have e:boolC N (hQ H 0 k a j)=boolC N (nearB (H.take (k+1)) 0):=boolC_congr fun x hx=>by
          rw[hnt x]
          unfold hQ
          congr 1
        simp[hkl,getD_map,hb,w1,e]
        exact Nxt.mk (k+1) (by omega) (by simp) (by simp) (by omega)
    · simp[hkl,hk0,getD_map,ha,hb,show ¬(N<b) by omega,show ¬b≤a by omega,hN]
      refine vc_lp (σ:=Nat) (fun j=>a≤j∧j≤b) (fun j=>b-j)
        (fun j=>[.any,.any,.any,.d (.bool dense),.d (.int .i64 c),.any,.ref 0 0 0 0,.d (Rep.to H),.any,.own 1 0 0 N,.d (.int .i64 k),.d (.int .i64 j),.any,.any,.any,.any,.any,.any,.any,.any,.any,.any])
        (fun j=>[.cells 0 2 [.d (Rep.to (⟨par,rows⟩:TableT))],.cells 0 1 (boolC N (hQ H 0 k a j))]) a (by simp) ?_ ⟨by omega,by omega⟩ ?_
      · have e:boolC N (nearB (H.take k) 0)=boolC N (hQ H 0 k a a):=boolC_congr fun x _=>by
          unfold hQ
          have:decide ((a:Int)≤x∧(x:Int)<a)=false:=by rw[decide_eq_false_iff_not];omega
          rw[this,Bool.or_false]
        rw[e]
        simp
      rintro j ⟨j1,j2⟩
      have hlen:=boolC_len N (hQ H 0 k a j)
      by_cases hj:j<b
      · have w2:IntKind.i64.wrap ((j:Int)+1)=(j:Int)+1:=wrap_in (by omega) (by omega)
        have hjn:j<N:=by omega
        have hset:(boolC N (hQ H 0 k a j)).set j (.d (.bool true))=boolC N (hQ H 0 k a ((j+1:Nat):Int)):=boolC_set fun x hx=>by
          unfold hQ
          by_cases e:x=j
          · subst e
            have:decide ((a:Int)≤x∧(x:Int)<((x+1:Nat):Int))=true:=by rw[decide_eq_true_eq];omega
            rw[this]
            simp
          · have:decide ((a:Int)≤x∧(x:Int)<((j+1:Nat):Int))=decide ((a:Int)≤x∧(x:Int)<j):=by
              rw[decide_eq_decide]
              omega
            rw[this,if_neg e]
        simp[hkl,getD_map,hb,hj,hjn,hlen,w2,hset]
        exact Nxt.mk (j+1) (by omega) (by simp) (by simp) ⟨by omega,by omega⟩
      · have h9:j=b:=by omega
        subst h9
        have e:boolC N (hQ H 0 k a j)=boolC N (nearB (H.take (k+1)) 0):=boolC_congr fun x hx=>by
          rw[hnt x]
          unfold hQ
          congr 1
        simp[hkl,getD_map,hb,w1,e]
        exact Nxt.mk (k+1) (by omega) (by simp) (by simp) (by omega)
  · have h9:k=H.length:=by omega
    subst h9
    rw[List.take_length]
    simp
    refine vc_lp (σ:=Nat) (fun i=>i≤N) (fun i=>N-i)
      (fun i=>[.any,.any,.any,.d (.bool dense),.d (.int .i64 c),.any,.ref 0 0 0 0,.any,.any,.own 1 0 0 N,.any,.any,.d (.int .i64 i),.any,.any,.any,.any,.any,.any,.any,.any,.any])
      (fun i=>[.cells 0 2 [.d (Rep.to (⟨par,rows⟩:TableT))],.cells 0 1 (boolC N (nearB H 0))]) 0 (by simp) (by simp) (by simp) ?_
    intro i hi
    by_cases hiN:i<N
    · have w1:IntKind.i64.wrap ((i:Int)+1)=(i:Int)+1:=wrap_in (by omega) (by omega)
      have wa:IntKind.i64.wrap ((i:Int)-c)=i-c:=wrap_in (by omega) (by omega)
      have wb:IntKind.i64.wrap ((i:Int)+c)=i+c:=wrap_in (by omega) (by omega)
      obtain⟨lo,hlo⟩:∃lo:Nat,max (0:Int) ((i:Int)-c)=lo:=⟨(max (0:Int) ((i:Int)-c)).toNat,by omega⟩
      have hlo1:(i:Int)-c≤lo∧((lo:Int)=0∨(lo:Int)=i-c):=by omega
      have hg:=boolC_get (q:=nearB H 0) hiN
      have hlen:=boolC_len N (nearB H 0)
      have hw:=hnr i (by omega)
      simp[hiN,hN,wa,hlo]
      clear hlo
      refine vc_lp (σ:=Nat × Bool) (fun x=>lo≤x.1∧x.1≤N∧(x.1:Int)≤i+c+1∧(x.2=true↔∃j:Nat,lo≤j∧j<x.1∧hitB ⟨par,rows⟩ dense j=true)) (fun x=>N-x.1)
        (fun x=>[.any,.any,.any,.d (.bool dense),.d (.int .i64 c),.any,.ref 0 0 0 0,.any,.any,.own 1 0 0 N,.any,.any,.d (.int .i64 i),.d (.bool x.2),.d (.int .i64 x.1),.any,.any,.any,.any,.any,.any,.any])
        (fun x=>[.cells 0 2 [.d (Rep.to (⟨par,rows⟩:TableT))],.cells 0 1 (boolC N (nearB H 0))]) (lo,false) (by simp) (by simp) ⟨by simp,by simp only;omega,by simp only;omega,?_⟩ ?_
      · simp only[Bool.false_eq_true,false_iff]
        rintro⟨j,j1,j2,_⟩
        omega
      rintro⟨j,w⟩ ⟨j1,j2,j3,j4⟩
      simp only at j1 j2 j3 j4
      by_cases hjN:j<N∧(j:Int)≤i+c
      · obtain⟨hjN,hjc⟩:=hjN
        have w2:IntKind.i64.wrap ((j:Int)+1)=(j:Int)+1:=wrap_in (by omega) (by omega)
        have hjr:j<rows.length:=by omega
        have hh:=hhit j hjr
        have hal:=hall j hjr
        have step:∀v:Bool,(v=(w || hitB ⟨par,rows⟩ dense j))→(v=true↔∃j':Nat,lo≤j'∧j'<j+1∧hitB ⟨par,rows⟩ dense j'=true):=by
          rintro v rfl
          rw[Bool.or_eq_true,j4]
          constructor
          · rintro (⟨j',e1,e2,e3⟩ | h)
            · exact⟨j',e1,by omega,e3⟩
            · exact⟨j,j1,by omega,h⟩
          · rintro⟨j',e1,e2,e3⟩
            by_cases e:j'=j
            · subst e;exact .inr e3
            · exact .inl ⟨j',e1,by omega,e3⟩
        cases w with
        | true =>
          simp[hjN,hjc,hN,wb,w2]
          exact Nxt.mk (j+1,true) (by simp only;omega) (by simp) (by simp) ⟨by simp only;omega,by simp only;omega,by simp only;omega,step true (by simp)⟩
        | false =>
          by_cases hm0:rows[j].marks=0
          · simp[hjN,hjc,hjr,getD_map,hN,wb,w2,hm0]
            exact Nxt.mk (j+1,false) (by simp only;omega) (by simp) (by simp) ⟨by simp only;omega,by simp only;omega,by simp only;omega,step false (by rw[hh];simp[hm0])⟩
          · cases dense with
            | false =>
              simp[hjN,hjc,hjr,getD_map,hN,wb,w2,hm0]
              exact Nxt.mk (j+1,true) (by simp only;omega) (by simp) (by simp) ⟨by simp only;omega,by simp only;omega,by simp only;omega,step true (by rw[hh];simp[hm0])⟩
            | true =>
              simp[hjN,hjc,hjr,getD_map,hN,wb,w2,hm0,h4,hal]
              exact Nxt.mk (j+1,allB ⟨par,rows⟩ j) (by simp only;omega) (by simp) (by simp) ⟨by simp only;omega,by simp only;omega,by simp only;omega,step _ (by rw[hh];simp[hm0])⟩
      · have hex:nearB H 0 i=w:=by
          rw[Bool.eq_iff_iff,hw,j4]
          constructor
          · rintro⟨j',e1,e2,e3,e4⟩
            clear hw j4 hnr hhit hall
            refine⟨j',?_,?_,e4⟩
            · omega
            · omega
          · rintro⟨j',e1,e2,e3⟩
            exact⟨j',by omega,by omega,by omega,e3⟩
        rw[hex] at hg
        have hg2:∀h:i<(boolC N (nearB H 0)).length,(boolC N (nearB H 0))[i]'h=.d (.bool w):=fun h=>by obtain⟨_,h9⟩:=List.getElem?_eq_some_iff.1 hg;exact h9
        by_cases hjN2:j<N
        · simp[hjN2,hN,wb,show ¬(j:Int)≤i+c by omega,hg,hg2,hlen,hiN,w1]
          exact Nxt.mk (i+1) (by omega) (by simp) (by simp) (by omega)
        · simp[hjN2,hN,hg,hg2,hlen,hiN,w1]
          exact Nxt.mk (i+1) (by omega) (by simp) (by simp) (by omega)
    · simp[hiN,hN,h5]
theorem law17_InterestCovers_pre (raw:List Int) (n:Int) (a:Bool) (b:Bool) (c:Int) (w0:Arg.wf raw) (w1:Arg.wf n) (w2:Arg.wf a) (w3:Arg.wf b) (w4:Arg.wf c):raw.length≤9223372036854775807:=by
  have:=len_wf w0
  omega
end Go.AE
