/-
  Contracts of the document's functions on shortest scripts.
-/
import Derived.Test.YtoalcbdgfahikaaCona1
import Derived.Test.YtoalcbdgfahikaaCond1
import Derived.Test.YtoalcbdgfahikaaCode1

set_option linter.unusedSimpArgs false
set_option linter.unusedVariables false
set_option linter.unnecessarySimpa false
set_option maxRecDepth 20000
namespace Go.AE
def rowM (a b:List Int) (i:Nat):List Int:=(List.range (b.length+1)).map fun j=>(dist (a.drop i) (b.drop j):Int)
def tabM (a b:List Int):List (List Int):=(List.range (a.length+1)).map (rowM a b)
@[simp] def S_ref09_Table:List D→Prop × D:=spec2 (α:=List Int) (β:=List Int) (fun a b=>a.length≤4096∧b.length≤4096) (fun a b=>Rep.to (tabM a b))
theorem ct_ref09_Table {P:Program} {f:Nat} {G:Gam} (h:CodeOf P f 2 11 [2] x_ref09_Table) (hG:GamOk P G):Has P f S_ref09_Table:=h.has2 hG fun a b hp=>by
  obtain⟨ha,hb⟩:=hp
  have w1:=wrap_in (n:=(b.length:Int)+1) (by omega) (by omega)
  have w2:=wrap_in (n:=(a.length:Int)+1) (by omega) (by omega)
  simp[x_ref09_Table,w1,w2]
  refine⟨⟨by omega,by unfold room;omega,by omega⟩,?_⟩
  obtain⟨out,ho⟩:∃out:Nat→List A,∀i,out i=(List.range (a.length+1)).map (fun k=>if k<i then A.d .nilsl else .d (Rep.to (rowM a b k))):=⟨_,fun _=>rfl⟩
  obtain⟨row,hr⟩:∃row:Nat→Nat→List A,∀i j,row i j=(List.range (b.length+1)).map (fun k=>if k<j then A.d (.int .i64 0) else .d (.int .i64 (dist (a.drop i) (b.drop k):Int))):=⟨_,fun _ _=>rfl⟩
  have hol:∀i,(out i).length=a.length+1:=fun i=>by rw[ho];simp
  have hrl:∀i j,(row i j).length=b.length+1:=fun i j=>by rw[hr];simp
  obtain⟨Tf,hT⟩:∃Tf:Nat→List A,∀i,Tf i=[.d (Rep.to a),.d (Rep.to b),.any,.own 0 0 0 (a.length+1),.d (.int .i64 ((i:Int)-1)),.any,.any,.any,.any,.any,.any]:=⟨_,fun _=>rfl⟩
  obtain⟨sf,hsf⟩:∃sf:Nat→Store,∀i,sf i=[.cells 0 1 (out i)]:=⟨_,fun _=>rfl⟩
  have hoi:∀i,i≤a.length→∀x,((out (i+1)).set i x).getD i .any=x:=by
    intro i hi x
    have:i<((out (i+1)).set i x).length:=by rw[List.length_set,hol];omega
    rw[List.getD,List.getElem?_eq_getElem this]
    simp
  have hos:∀i,i≤a.length→(out (i+1)).set i (.d (Rep.to (rowM a b i)))=out i:=by
    intro i hi
    rw[ho,ho]
    apply List.ext_getElem
    · simp
    · intro k h1 h2
      rw[List.getElem_set]
      simp
      by_cases h3:i=k
      · subst h3;simp
      · by_cases h4:k<i
        · simp[h3,h4,show k<i+1 by omega]
        · simp[h3,h4,show ¬k<i+1 by omega]
  have hon:∀i k,i<k→k≤a.length→(out i).getD k .any=.d (Rep.to (rowM a b k)):=by
    intro i k h1 h2
    rw[ho]
    have:k<a.length+1:=by omega
    simp[List.getD,this,show ¬k<i by omega]
  have hrow:∀k,(rowM a b k).length=b.length+1:=fun k=>by simp[rowM]
  have hrg:∀k j,j≤b.length→((rowM a b k).map Rep.to)[j]?.getD default=D.int .i64 (dist (a.drop k) (b.drop j):Int):=by
    intro k j hj
    have:j<b.length+1:=by omega
    simp[rowM,this]
  have hrr:∀i j k,j≤k→k≤b.length→(row i j)[k]?.getD .any=.d (.int .i64 (dist (a.drop i) (b.drop k):Int)):=by
    intro i j k h1 h2
    have:k<b.length+1:=by omega
    rw[hr]
    simp[this,show ¬k<j by omega]
  have hrs:∀i j,j≤b.length→(row i (j+1)).set j (.d (.int .i64 (dist (a.drop i) (b.drop j):Int)))=row i j:=by
    intro i j hj
    rw[hr,hr]
    apply List.ext_getElem
    · simp
    · intro k h1 h2
      rw[List.getElem_set]
      simp
      by_cases h3:j=k
      · subst h3;simp
      · by_cases h4:k<j
        · simp[h3,h4,show k<j+1 by omega]
        · simp[h3,h4,show ¬k<j+1 by omega]
  have hnx:∀i x,i<a.length→((out (i+1)).set i x)[i+1]?.getD .any=.d (Rep.to (rowM a b (i+1))):=by
    intro i x h1
    have:=hon (i+0) (i+1) (by omega) (by omega)
    rw[List.getElem?_set_ne (by omega),ho]
    have:i+1<a.length+1:=by omega
    simp[this]
  have hng:∀i (h:i+1<(out (i+1)).length),(out (i+1))[i+1]=.d (Rep.to (rowM a b (i+1))):=by
    intro i h
    simp[ho]
  have hrg':∀k j (h:j<(rowM a b k).length),(rowM a b k)[j]=(dist (a.drop k) (b.drop j):Int):=by
    intro k j h
    simp[rowM]
  have hrr':∀i j (h:j<(row i j).length),(row i j)[j]=.d (.int .i64 (dist (a.drop i) (b.drop j):Int)):=by
    intro i j h
    simp[hr]
  have hcm:∀k,k≤a.length→∀j,j≤b.length→dist (a.drop k) (b.drop j)≤10000:=by
    intro k hk j hj
    have:=(dist_bounds (a.drop k) (b.drop j)).2.2.1
    simp at this
    omega
  refine vc_ghostR (σ:=Nat) (fun i=>i≤a.length+1) (fun i=>i) Tf sf (a.length+1) ⟨?_,by omega⟩ ?_
  · rw[hT,hsf]
    refine Re.wf _ [true,true,false,true,true] 1 (by omega) (by simp) (WkS.refl _ _ _) ?_ ?_ ?_
    · simp[inScope]
    · simp
    · simp
      rw[ho]
      apply List.ext_getElem
      · simp
      · intro k h1 h2
        simp at h1
        simp[h1]
  · intro i hi
    rw[hT,hsf]
    rcases i with _ | i
    · simp
      have hoe:out 0=(tabM a b).map (fun x=>A.d (Rep.to x)):=by rw[ho,tabM];simp
      have hol0:=hol 0
      refine⟨?_,?_⟩
      · simp only[bor,List.getD_cons_zero,hoe,List.drop_zero]
        refine⟨trivial,?_⟩
        rw[List.all_eq_true]
        intro x hx
        obtain⟨y,_,rfl⟩:=List.mem_map.1 (List.mem_of_mem_take hx)
        rfl
      · simp only[bor,List.getD_cons_zero,hoe,List.drop_zero]
        rw[List.take_of_length_le (by simp[tabM]),List.map_map]
        simp only[LeD_sl,true_and]
        rfl
    · have w3:((i+1:Nat):Int)-1=(i:Int):=by omega
      have hla:i<a.length+1:=by omega
      simp[w3,w1,hla,hol]
      refine⟨by unfold room;omega,by omega,?_⟩
      obtain⟨T2,hT2⟩:∃Tf:Nat→List A,∀j,Tf j=[.d (Rep.to a),.d (Rep.to b),.any,.own 0 0 0 (a.length+1),.d (.int .i64 i),.d (.int .i64 ((j:Int)-1)),.any,.any,.any,.any,.any]:=⟨_,fun _=>rfl⟩
      obtain⟨s2,hs2⟩:∃sf:Nat→Store,∀j,sf j=[.cells 0 1 ((out (i+1)).set i (.own 1 0 0 (b.length+1))),.cells 0 1 (row i j)]:=⟨_,fun _=>rfl⟩
      refine vc_ghostR (σ:=Nat) (fun j=>j≤b.length+1) (fun j=>j) T2 s2 (b.length+1) ⟨?_,by omega⟩ ?_
      · rw[hT2,hs2]
        refine Re.wf _ [true,true,false,true,true,true] 2 (by omega) (by simp) (WkS.refl _ _ _) ?_ ?_ ?_
        · simp[inScope]
        · simp
        · simp
          rw[hr]
          apply List.ext_getElem
          · simp
          · intro k h1 h2
            simp at h1
            simp[h1]
      · intro j hj
        rw[hT2,hs2]
        rcases j with _ | j
        · have w6:=wrap_in (n:=(i:Int)-1) (by omega) (by omega)
          simp[w6]
          have hrw0:row i 0=(rowM a b i).map (fun x=>A.d (Rep.to x)):=by rw[hr,rowM];simp
          have hfz:(((row i 0).drop 0).take (b.length+1)).all A.isD=true:=by
            rw[hrw0,List.drop_zero,List.take_of_length_le (by simp[hrow]),List.all_eq_true]
            intro x hx
            obtain⟨y,_,rfl⟩:=List.mem_map.1 hx
            rfl
          have hfr:=Fz.own 1 0 1 0 (b.length+1) (row i 0) hfz
          have e0:(((row i 0).drop 0).take (b.length+1)).map A.toD=(rowM a b i).map Rep.to:=by
            rw[hrw0,List.drop_zero,List.take_of_length_le (by simp[hrow]),List.map_map]
            rfl
          rw[e0] at hfr
          refine⟨i,by omega,?_,by omega⟩
          rw[hT,hsf]
          refine Re.trans (Re.freeze (s':=[.cells 0 1 (out i),.dead]) 1 0 1 (row i 0) rfl (FzL.refl _ _ _ _ _) ⟨rfl,?_⟩ rfl) ?_
          · intro k hk h0
            have hk0:k=0:=by simp at hk;omega
            subst hk0
            refine .inr ⟨0,1,_,_,rfl,rfl,by simp[hol],?_⟩
            intro k hk
            rw[← hos i (by omega)]
            have hkl:k<(out (i+1)).length:=by simp at hk;exact hk
            by_cases h1:i=k
            · subst h1
              simp[List.getD,hkl]
              exact hfr
            · simp[List.getD,hkl,List.getElem_set_ne h1]
              simp[ho]
              by_cases h2:k<i+1
              · simp[h2,A.cells]
              · simp[h2,A.cells]
          · refine Re.wf _ [true,true,false,true,true] 1 (by omega) (by simp) (WkS.refl _ _ _) ?_ ?_ ?_
            · simp[inScope]
              intro x hx
              rw[ho] at hx
              obtain⟨y,_,rfl⟩:=List.mem_map.1 hx
              by_cases h1:y<i <;> simp[h1]
            · simp
            · simp
        · have w4:((j+1:Nat):Int)-1=(j:Int):=by omega
          have hlb:j<b.length+1:=by omega
          have fin:∀v:Int,v=(dist (a.drop i) (b.drop j):Int)→∀c1 c2 c3 c4 c5:A,Re 0 [.d (Rep.to a),.d (Rep.to b),.any,.own 0 0 0 (a.length+1),.d (.int .i64 i),.d (.int .i64 ((j:Int)-1)),c1,c2,c3,c4,c5]
              [.cells 0 1 ((out (i+1)).set i (.own 1 0 0 (b.length+1))),.cells 0 1 ((row i (j+1)).set j (.d (.int .i64 v)))] (T2 j) (s2 j):=by
            intro v hv c1 c2 c3 c4 c5
            rw[hv,hrs i j (by omega),hT2,hs2]
            refine Re.wf _ [true,true,false,true,true,true] 2 (by omega) (by simp) (WkS.refl _ _ _) ?_ ?_ ?_
            · simp[inScope]
            · simp
            · simp
          have w5:=wrap_in (n:=(j:Int)-1) (by omega) (by omega)
          by_cases h1:i=a.length
          · subst h1
            simp[w4,hol,hrl,hla,hlb,w5]
            refine⟨by omega,by omega,j,by omega,fin _ ?_ _ _ _ _ _,by omega⟩
            rw[List.drop_length,dist_nil,List.length_drop,wrap_in (n:=(b.length:Int)-j) (by omega) (by omega)]
            omega
          · have h1':¬(i:Int)=a.length:=by omega
            by_cases h2:j=b.length
            · subst h2
              simp[w4,hol,hrl,hla,hlb,w5,h1']
              refine⟨by omega,by omega,b.length,by omega,fin _ ?_ _ _ _ _ _,by omega⟩
              rw[List.drop_length,dist_nil',List.length_drop,wrap_in (n:=(a.length:Int)-i) (by omega) (by omega)]
              omega
            · have h2':¬(j:Int)=b.length:=by omega
              have h3:i<a.length:=by omega
              have h4:j<b.length:=by omega
              have e1:=hnx i (.own 1 0 0 (b.length+1)) h3
              have e2:=hrg (i+1) (j+1) (by omega)
              have e3:=hrg (i+1) j (by omega)
              have e4:=hrr i (j+1) (j+1) (by omega) (by omega)
              by_cases h5:a[i]=b[j]
              · simp[w4,hol,hrl,hla,hlb,w5,h1',h2',h3,h4,getD_map,h5,pairsOk,disj,add1 h3 (by omega),add1 h4 (by omega),hng,hrg',hrow]
                refine⟨by omega,by omega,by omega,by omega,j,by omega,fin _ ?_ _ _ _ _ _,by omega⟩
                rw[List.drop_eq_getElem_cons h3,List.drop_eq_getElem_cons h4,h5,dist_eq]
              · have b1:=hcm (i+1) (by omega) j (by omega)
                have b2:=hcm i (by omega) (j+1) (by omega)
                simp[w4,hol,hrl,hla,hlb,w5,h1',h2',h3,h4,getD_map,h5,pairsOk,disj,add1 h3 (by omega),add1 h4 (by omega),hng,hrg',hrr',hrow]
                refine⟨by omega,by omega,by omega,by omega,by omega,by omega,j,by omega,fin _ ?_ _ _ _ _ _,by omega⟩
                rw[wrap_in (by omega) (by omega),List.drop_eq_getElem_cons h3,List.drop_eq_getElem_cons h4,dist_ne h5,← List.drop_eq_getElem_cons h3,← List.drop_eq_getElem_cons h4]
                omega
@[simp] def S_ref09_long:List D→Prop × D:=spec2 (α:=List Int) (β:=List Int) (fun a b=>a.length≤1048576∧b.length≤1048576) (fun a b=>Rep.to (decide (a.length > 4096∨b.length > 4096)))
theorem ct_ref09_long {P:Program} {f:Nat} {G:Gam} (h:CodeOf P f 2 3 [2] x_ref09_long) (hG:GamOk P G):Has P f S_ref09_long:=h.has2 hG fun a b hp=>by
  by_cases h1:4096<a.length
  · have:(4096:Int)<a.length:=by omega
    simp[x_ref09_long,h1,this]
  · have:¬(4096:Int)<a.length:=by omega
    simp[x_ref09_long,h1,this]
    omega
theorem tabM_len (a b:List Int):(tabM a b).length=a.length+1:=by simp[tabM]
theorem tabM_get (a b:List Int) (i:Nat) (h:i<(tabM a b).length):(tabM a b)[i]=rowM a b i:=by simp[tabM]
theorem rowM_len (a b:List Int) (i:Nat):(rowM a b i).length=b.length+1:=by simp[rowM]
theorem rowM_get (a b:List Int) (i j:Nat) (h:j<(rowM a b i).length):(rowM a b i)[j]=(dist (a.drop i) (b.drop j):Int):=by simp[rowM]
@[simp] def S_ref09_Distance:List D→Prop × D:=spec2 (α:=List Int) (β:=List Int) (fun a b=>a.length≤4096∧b.length≤4096) (fun a b=>.tup [.int .i64 (dist a b),.int .i64 0])
theorem ct_ref09_Distance {P:Program} {f g1 g2:Nat} {G:Gam} (h:CodeOf P f 2 5 [2,3] (x_ref09_Distance g1 g2)) (hG:GamOk P G) (hg1:G.find g1=some S_ref09_long) (hg2:G.find g2=some S_ref09_Table):Has P f S_ref09_Distance:=h.has2 hG fun a b hp=>by
  obtain⟨ha,hb⟩:=hp
  have h1:¬(a.length > 4096∨b.length > 4096):=by omega
  simp[x_ref09_Distance,hg1,hg2,h1,tabM_len,tabM_get,rowM_len,rowM_get]
  omega
@[simp] def S_ref09_Common:List D→Prop × D:=spec2 (α:=List Int) (β:=List Int) (fun a b=>a.length≤4096∧b.length≤4096) (fun a b=>.tup [.int .i64 ((a.length+b.length-dist a b) / 2:Nat),.int .i64 0])
theorem ct_ref09_Common {P:Program} {f g1:Nat} {G:Gam} (h:CodeOf P f 2 7 [2,3] (x_ref09_Common g1)) (hG:GamOk P G) (hg1:G.find g1=some S_ref09_Distance):Has P f S_ref09_Common:=h.has2 hG fun a b hp=>by
  obtain⟨ha,hb⟩:=hp
  have hb2:=(dist_bounds a b).2.2.1
  have w1:=wrap_in (n:=(a.length:Int)+b.length) (by omega) (by omega)
  have w2:=wrap_in (n:=(a.length:Int)+b.length-dist a b) (by omega) (by omega)
  simp[x_ref09_Common,hg1,ha,hb,w1,w2]
  obtain⟨c,hc⟩:∃c,c=a.length+b.length-dist a b:=⟨_,rfl⟩
  rw[← hc,show (a.length:Int)+b.length-dist a b=(c:Int) by omega,Int.tdiv_eq_ediv_of_nonneg (by omega),wrap_in (by omega) (by omega)]
@[simp] def S_ref09_Walk:List D→Prop × D:=spec2 (α:=List Int) (β:=List Int) (fun a b=>a.length≤4096∧b.length≤4096) (fun a b=>Rep.to (scriptV a b))
theorem ct_ref09_Walk {P:Program} {f g1 g2:Nat} {G:Gam} (h:CodeOf P f 2 10 [2] (x_ref09_Walk g1 g2)) (hG:GamOk P G) (hg1:G.find g1=some S_ref09_Table) (hg2:G.find g2=some S_ref08_Made):Has P f S_ref09_Walk:=h.has2 hG fun a b hp=>by
  obtain⟨ha,hb⟩:=hp
  simp[x_ref09_Walk,hg1,hg2]
  refine⟨⟨ha,hb⟩,?_⟩
  have hasc:=walkV_asc a b 0 0
  simp only[Int.zero_add] at hasc
  obtain⟨W,hW⟩:∃W,W=walkV a b 0 0:=⟨_,rfl⟩
  have hWl:W.length≤4096:=by rw[hW];have:=walkV_len a b 0 0;omega
  have hWm:∀s,s∈W→numOk s.fr∧numOk s.to:=by
    intro s hs
    have:=ascB_mem hasc s (by rw[← hW];exact hs)
    unfold numOk
    omega
  have hWs:scriptV a b=madeV W a.length b.length:=by rw[hW];rfl
  obtain⟨Tf,hT⟩:∃Tf:Nat × Nat × List SpanT→List A,∀x,Tf x=[.d (Rep.to a),.d (Rep.to b),.any,.d (Rep.to (tabM a b)),.gr 0 2 (x.2.2.map Rep.to),.d (.int .i64 x.1),.d (.int .i64 x.2.1),.any,.any,.any]:=⟨_,fun _=>rfl⟩
  obtain⟨sf,hsf⟩:∃sf:Nat × Nat × List SpanT→Store,∀x,sf x=[.tip x.2.2.length]:=⟨_,fun _=>rfl⟩
  refine vc_ghost (σ:=Nat × Nat × List SpanT) [true,true,false,true,true,true,true] 1 (fun x=>x.1≤a.length∧x.2.1≤b.length∧x.2.2++walkV (a.drop x.1) (b.drop x.2.1) x.1 x.2.1=W)
    (fun x=>a.length-x.1+(b.length-x.2.1)) Tf sf (0,0,[]) (by omega) (by simp[inScope]) ?_ ?_
  · simp[hT,hsf,hW]
  rintro⟨i,j,out⟩ ⟨h1,h2,h3⟩
  simp only at h1 h2 h3
  rw[hT,hsf]
  have hol:out.length≤W.length:=by rw[← h3];simp
  have r1:room (out.length+1) 16:=by unfold room;omega
  have h7:i<a.length+1:=by omega
  have h8:j<b.length+1:=by omega
  have hcm:∀k l,dist (a.drop k) (b.drop l)≤10000:=by
    intro k l
    have:=(dist_bounds (a.drop k) (b.drop l)).2.2.1
    simp at this
    omega
  have b1:=hcm (i+1) j
  have w7:=wrap_in (n:=(dist (a.drop (i+1)) (b.drop j):Int)+1) (by omega) (by omega)
  by_cases h4:i<a.length
  · have h4':(i:Int)<a.length:=by omega
    by_cases h5:j<b.length
    · have h5':(j:Int)<b.length:=by omega
      by_cases h6:a[i]=b[j]
      · simp[h4,h5,h4',h5',h6,getD_map,inScope,pairsOk,disj,add1 h4 (by omega),add1 h5 (by omega)]
        rw[List.drop_eq_getElem_cons h4,List.drop_eq_getElem_cons h5,h6,walkV_eq] at h3
        refine⟨r1,i+1,j+1,by omega,out++[⟨i,j⟩],by rw[hT];simp,by rw[hsf];simp,by omega,by omega,?_⟩
        rw[← h3]
        simp
      · simp[h4,h5,h4',h5',h6,getD_map,inScope,pairsOk,disj,add1 h4 (by omega),add1 h5 (by omega),tabM_len,tabM_get,rowM_len,rowM_get,h7,h8,w7]
        have e3:walkV (a.drop i) (b.drop j) i j=if dist (a.drop (i+1)) (b.drop j)+1=dist (a.drop i) (b.drop j) then walkV (a.drop (i+1)) (b.drop j) (i+1) j else walkV (a.drop i) (b.drop (j+1)) i (j+1):=by
          rw[List.drop_eq_getElem_cons h4,List.drop_eq_getElem_cons h5,walkV_ne h6]
        rw[e3] at h3
        refine⟨by omega,by omega,by omega,by omega,fun h9=>⟨i+1,j,by omega,out,by rw[hT];simp,by rw[hsf],by omega,by omega,?_⟩,fun h9=>⟨i,j+1,by omega,out,by rw[hT];simp,by rw[hsf],by omega,by omega,?_⟩⟩
        · rw[if_pos (by omega)] at h3
          exact h3
        · rw[if_neg (by omega)] at h3
          exact h3
    · have h5':¬(j:Int)<b.length:=by omega
      simp[h4,h5,h4',h5',getD_map,inScope,pairsOk,disj,add1 h4 (by omega),tabM_len,tabM_get,rowM_len,rowM_get,h7,h8,w7]
      have e1:j=b.length:=by omega
      have e2:dist (a.drop i) (b.drop j)=dist (a.drop (i+1)) (b.drop j)+1:=by
        subst e1
        rw[List.drop_length,dist_nil',dist_nil',List.length_drop,List.length_drop]
        omega
      have e3:walkV (a.drop i) (b.drop j) i j=walkV (a.drop (i+1)) (b.drop j) ((i+1:Nat):Int) j:=by
        subst e1
        rw[List.drop_length,walkV_nil',walkV_nil']
      refine⟨by omega,by omega,by omega,by omega,fun h9=>⟨i+1,j,by omega,out,by rw[hT];simp,by rw[hsf],by omega,by omega,by rw[← h3,e3]⟩,fun h9=>?_⟩
      exact absurd (by rw[e2];push_cast;rfl) h9
  · have h4':¬(i:Int)<a.length:=by omega
    by_cases h5:j<b.length
    · have h5':(j:Int)<b.length:=by omega
      simp[h4,h5,h4',h5',getD_map,inScope,pairsOk,disj,add1 h5 (by omega),tabM_len,tabM_get,rowM_len,rowM_get,h7,h8,w7]
      have e1:i=a.length:=by omega
      subst e1
      rw[List.drop_length,walkV_nil] at h3
      exact⟨a.length,j+1,by omega,out,by rw[hT];simp,by rw[hsf],by omega,by omega,by rw[List.drop_length,walkV_nil];exact h3⟩
    · have h5':¬(j:Int)<b.length:=by omega
      simp[h4,h5,h4',h5',hg2]
      have e1:i=a.length:=by omega
      subst e1
      rw[List.drop_length,walkV_nil,List.append_nil] at h3
      subst h3
      refine⟨⟨by omega,by unfold numOk;omega,by unfold numOk;omega,hWm⟩,?_⟩
      rw[hWs]
@[simp] def S_ref09_Script:List D→Prop × D:=spec2 (α:=List Int) (β:=List Int) (fun a b=>a.length≤4096∧b.length≤4096) (fun a b=>.tup [Rep.to (scriptV a b),.int .i64 0])
theorem ct_ref09_Script {P:Program} {f g1 g2:Nat} {G:Gam} (h:CodeOf P f 2 5 [2,3] (x_ref09_Script g1 g2)) (hG:GamOk P G) (hg1:G.find g1=some S_ref09_long) (hg2:G.find g2=some S_ref09_Walk):Has P f S_ref09_Script:=h.has2 hG fun a b hp=>by
  obtain⟨ha,hb⟩:=hp
  have h1:¬(a.length > 4096∨b.length > 4096):=by omega
  simp[x_ref09_Script,hg1,hg2,h1]
  omega
end Go.AE
