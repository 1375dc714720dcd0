/-
  Contracts of the document's functions on scripts: Check,Matched,Pairs,Fits,Size.
-/
import Derived.Test.YtoalcbdgfahikaaCond1
import Derived.Test.YtoalcbdgfahikaaAe3
import Derived.Test.YtoalcbdgfahikaaConc1

set_option linter.unusedSimpArgs false
set_option linter.unusedVariables false
set_option linter.unnecessarySimpa false
set_option maxRecDepth 20000
namespace Go.AE
def stepV (c:ChangeT) (i j:Int) (first:Bool):Bool :=
  inV c.old && inV c.oldLen && inV c.new && inV c.newLen && !decide (c.oldLen+c.newLen=0) && decide (c.old-i=c.new-j) && decide (i≤c.old) && (first || !decide (c.old=i))
def okV:List ChangeT→Int→Int→Bool→Int→Int→Bool
  | [],i,j,_,m,n=>decide (m-i=n-j) && decide (i≤m)
  | c::l,i,j,first,m,n=>stepV c i j first && okV l (c.old+c.oldLen) (c.new+c.newLen) false m n
def checkV (l:List ChangeT) (m n:Int):Bool:=inV m && inV n && okV l 0 0 true m n
theorem inV_true {n:Int} (h:inV n=true):0≤n∧n≤4096:=by simpa [inV] using h
theorem stepV_true {c:ChangeT} {i j:Int} {fst:Bool} (h:stepV c i j fst=true) :
    (0≤c.old∧c.old≤4096)∧(0≤c.oldLen∧c.oldLen≤4096)∧(0≤c.new∧c.new≤4096)∧(0≤c.newLen∧c.newLen≤4096)∧c.oldLen+c.newLen≠0∧c.old-i=c.new-j∧i≤c.old∧(fst=false→c.old≠i):=by
  simp only[stepV,inV,Bool.and_eq_true,decide_eq_true_eq,Bool.not_eq_true',decide_eq_false_iff_not,Bool.or_eq_true] at h
  obtain⟨⟨⟨⟨⟨⟨⟨h1,h2⟩,h3⟩,h4⟩,h5⟩,h6⟩,h7⟩,h8⟩:=h
  refine⟨h1,h2,h3,h4,h5,h6,h7,fun h=>?_⟩
  rw[h] at h8
  simpa using h8
@[simp] def S_ref08_Check:List D→Prop × D:=spec3 (α:=List ChangeT) (β:=Int) (γ:=Int) (fun p m n=>p.length≤100000) (fun p m n=>.int .i64 (if checkV p m n then 0 else 80))
theorem ct_ref08_Check {P:Program} {f g1:Nat} {G:Gam} (h:CodeOf P f 3 12 [3] (x_ref08_Check g1)) (hG:GamOk P G) (hg1:G.find g1=some S_ref08_in):Has P f S_ref08_Check:=h.has3 hG fun p m n hp=>by
  by_cases hm:inV m
  · by_cases hn:inV n
    · have hm':=inV_true hm
      have hn':=inV_true hn
      simp[x_ref08_Check,hg1,hm,hn]
      refine vc_lp (σ:=Nat × Int × Int) (fun x=>x.1≤p.length∧0≤x.2.1∧x.2.1≤8192∧0≤x.2.2∧x.2.2≤8192∧okV (p.drop x.1) x.2.1 x.2.2 (decide (x.1=0)) m n=okV p 0 0 true m n)
        (fun x=>p.length-x.1) (fun x=>[.d (Rep.to p),.d (.int .i64 m),.d (.int .i64 n),.any,.d (.int .i64 x.2.1),.d (.int .i64 x.2.2),.d (.int .i64 x.1),.any,.any,.any,.any,.any]) (fun _=>[]) (0,0,0) (by simp) (by simp) (by simp) ?_
      rintro⟨k,i,j⟩ ⟨h1,h2,h3,h4,h5,h6⟩
      simp only at h1 h2 h3 h4 h5 h6
      by_cases h8:k<p.length
      · rw[List.drop_eq_getElem_cons h8,okV] at h6
        obtain⟨c,hc⟩:∃c,c=p[k]:=⟨_,rfl⟩
        rw[← hc] at h6
        have hc':p[k]=c:=hc.symm
        obtain⟨o,ol,nw,nl⟩:=c
        have bad:stepV ⟨o,ol,nw,nl⟩ i j (decide (k=0))=false→checkV p m n=false:=by
          intro hs
          rw[hs,Bool.false_and] at h6
          unfold checkV
          rw[← h6,Bool.and_false]
        have fin:stepV ⟨o,ol,nw,nl⟩ i j (decide (k=0))=true→okV (p.drop (k+1)) (o+ol) (nw+nl) (decide (k+1=0)) m n=okV p 0 0 true m n:=by
          intro hs
          rw[hs,Bool.true_and] at h6
          exact h6
        simp[h8,getD_map,hc',hg1]
        refine⟨fun q=>bad (by simp[stepV,q]),fun q1=>⟨fun q=>bad (by simp[stepV,q]),fun q2=>⟨fun q=>bad (by simp[stepV,q]),fun q3=>⟨fun q=>bad (by simp[stepV,q]),fun q4=>?_⟩⟩⟩⟩
        have b1:=inV_true q1
        have b2:=inV_true q2
        have b3:=inV_true q3
        have b4:=inV_true q4
        simp (disch:=omega) only[wrap_in]
        refine⟨fun q=>bad (by simp[stepV,q]),fun q5=>⟨fun q=>bad (by simp[stepV,q]),fun q6=>⟨fun q=>bad (by simp[stepV];omega),fun q7=>?_⟩⟩⟩
        refine⟨fun hk=>⟨fun q=>bad (by simp[stepV,q];omega),fun q8=>Nxt.mk (k+1,o+ol,nw+nl) (by simp;omega) (by simp) (by simp) ?_⟩,
          fun hk=>Nxt.mk (k+1,o+ol,nw+nl) (by simp;omega) (by simp) (by simp) ?_⟩
        · exact⟨by omega,by simp;omega,by simp;omega,by simp;omega,by simp;omega,fin (by simp[stepV,q1,q2,q3,q4,q5,q6,q7,q8])⟩
        · exact⟨by omega,by simp;omega,by simp;omega,by simp;omega,by simp;omega,fin (by simp[stepV,q1,q2,q3,q4,q5,q6,q7,hk])⟩
      · have h9:k=p.length:=by omega
        subst h9
        rw[List.drop_length,okV] at h6
        have w1:=wrap_in (n:=m-i) (by omega) (by omega)
        have w2:=wrap_in (n:=n-j) (by omega) (by omega)
        simp[h8,w1,w2,checkV,hm,hn,← h6]
        omega
    · simp[x_ref08_Check,hg1,hm,hn,checkV]
  · simp[x_ref08_Check,hg1,hm,checkV]
def runN:Nat→Int→Int→List SpanT
  | 0,_,_=>[]
  | n+1,i,j=>⟨i,j⟩::runN n (i+1) (j+1)
theorem runN_len:∀(n:Nat) (i j:Int),(runN n i j).length=n
  | 0,_,_=>rfl
  | n+1,i,j=>by simp[runN,runN_len n]
theorem runN_snoc:∀(n:Nat) (i j:Int),runN (n+1) i j=runN n i j++[⟨i+n,j+n⟩]
  | 0,i,j=>by simp[runN]
  | n+1,i,j=>by
    rw[runN,runN_snoc n]
    simp only[runN,List.cons_append]
    congr 4 <;> push_cast <;> omega
def matV:List ChangeT→Int→Int→Int→List SpanT
  | [],i,j,m=>runN (m-i).toNat i j
  | c::l,i,j,m=>runN (c.old-i).toNat i j++matV l (c.old+c.oldLen) (c.new+c.newLen) m
theorem matV_len:∀(l:List ChangeT) (i j m n:Int) (fst:Bool),okV l i j fst m n=true→((matV l i j m).length:Int)+i≤m
  | [],i,j,m,n,fst,h=>by
    simp only[okV,Bool.and_eq_true,decide_eq_true_eq] at h
    simp only[matV,runN_len]
    omega
  | c::l,i,j,m,n,fst,h=>by
    simp only[okV,Bool.and_eq_true] at h
    have:=matV_len l _ _ _ _ _ h.2
    have hs:=stepV_true h.1
    simp only[matV,List.length_append,runN_len]
    omega
theorem matV_mem:∀(l:List ChangeT) (i j m n:Int) (fst:Bool),okV l i j fst m n=true→∀s,s∈matV l i j m→i≤s.fr∧s.fr<m∧j≤s.to∧s.to<n:=by
  have run:∀(k:Nat) (i j:Int) (s:SpanT),s∈runN k i j→i≤s.fr∧s.fr<i+k∧s.to-j=s.fr-i:=by
    intro k
    induction k with
    | zero=>intro i j s hs;simp[runN] at hs
    | succ k ih =>
      intro i j s hs
      simp only[runN,List.mem_cons] at hs
      rcases hs with rfl | hs
      · simp;omega
      · have:=ih _ _ _ hs
        push_cast
        omega
  have bound:∀(l:List ChangeT) (i j m n:Int) (fst:Bool),okV l i j fst m n=true→i≤m∧j≤n:=by
    intro l
    induction l with
    | nil =>
      intro i j m n fst h
      simp only[okV,Bool.and_eq_true,decide_eq_true_eq] at h
      omega
    | cons c l ih =>
      intro i j m n fst h
      simp only[okV,Bool.and_eq_true] at h
      have h1:=ih _ _ _ _ _ h.2
      have h2:=stepV_true h.1
      omega
  intro l
  induction l with
  | nil =>
    intro i j m n fst h s hs
    simp only[okV,Bool.and_eq_true,decide_eq_true_eq] at h
    have:=run _ _ _ _ hs
    omega
  | cons c l ih =>
    intro i j m n fst h s hs
    simp only[okV,Bool.and_eq_true] at h
    have h1:=bound _ _ _ _ _ _ h.2
    have h2:=stepV_true h.1
    simp only[matV,List.mem_append] at hs
    rcases hs with hs | hs
    · have:=run _ _ _ _ hs
      omega
    · have:=ih _ _ _ _ _ h.2 s hs
      omega
@[simp] def S_ref08_Matched:List D→Prop × D:=spec2 (α:=List ChangeT) (β:=Int) (fun p m=>p.length≤100000∧∃n,checkV p m n=true) (fun p m=>Rep.to (matV p 0 0 m))
theorem ct_ref08_Matched {P:Program} {f:Nat} {G:Gam} (h:CodeOf P f 2 10 [2] x_ref08_Matched) (hG:GamOk P G):Has P f S_ref08_Matched:=h.has2 hG fun p m hp=>by
  obtain⟨hp,n,hc⟩:=hp
  simp only[checkV,Bool.and_eq_true] at hc
  obtain⟨⟨hm,hn⟩,hok⟩:=hc
  have hm:=inV_true hm
  have hn:=inV_true hn
  simp[x_ref08_Matched]
  obtain⟨R,hR⟩:∃R,R=matV p 0 0 m:=⟨_,rfl⟩
  have hRl:R.length≤4096:=by have:=matV_len _ _ _ _ _ _ hok;rw[hR];omega
  refine vc_lp (σ:=Nat × Int × Int × List SpanT) (fun x=>x.1≤p.length∧0≤x.2.1∧x.2.1≤8192∧0≤x.2.2.1∧x.2.2.1≤8192∧okV (p.drop x.1) x.2.1 x.2.2.1 (decide (x.1=0)) m n=true∧x.2.2.2++matV (p.drop x.1) x.2.1 x.2.2.1 m=R)
    (fun x=>p.length-x.1) (fun x=>[.d (Rep.to p),.d (.int .i64 m),.any,.gr 0 2 (x.2.2.2.map Rep.to),.d (.int .i64 x.2.1),.d (.int .i64 x.2.2.1),.d (.int .i64 x.1),.any,.any,.any])
    (fun x=>[.tip x.2.2.2.length]) (0,0,0,[]) (by simp) (by simp) (by simp[hok,hR]) ?_
  rintro⟨k,i,j,out⟩ ⟨h1,h2,h3,h4,h5,h6,h7⟩
  simp only at h1 h2 h3 h4 h5 h6 h7
  by_cases h8:k<p.length
  · rw[List.drop_eq_getElem_cons h8,okV,Bool.and_eq_true] at h6
    rw[List.drop_eq_getElem_cons h8,matV] at h7
    obtain⟨c,hc⟩:∃c,c=p[k]:=⟨_,rfl⟩
    rw[← hc] at h6 h7
    have hc':p[k]=c:=hc.symm
    obtain⟨o,ol,nw,nl⟩:=c
    obtain⟨hs,h6⟩:=h6
    have hs:=stepV_true hs
    simp only at hs h6 h7
    obtain⟨b1,b2,b3,b4,b5,b6,b7,b8⟩:=hs
    simp[h8]
    refine vc_lp (σ:=Int × Int × List SpanT) (fun x=>0≤x.1∧x.1≤o∧o-x.1=nw-x.2.1∧x.2.2++(runN (o-x.1).toNat x.1 x.2.1++matV (p.drop (k+1)) (o+ol) (nw+nl) m)=R)
      (fun x=>(o-x.1).toNat) (fun x=>[.d (Rep.to p),.d (.int .i64 m),.any,.gr 0 2 (x.2.2.map Rep.to),.d (.int .i64 x.1),.d (.int .i64 x.2.1),.d (.int .i64 k),.any,.any,.any])
      (fun x=>[.tip x.2.2.length]) (i,j,out) (by simp) (by simp) ⟨by omega,by omega,by omega,h7⟩ ?_
    rintro⟨i',j',out'⟩ ⟨g1,g2,g3,g4⟩
    simp only at g1 g2 g3 g4
    have hol:out'.length≤R.length:=by rw[← g4];simp
    by_cases g5:i'<o
    · simp[h8,getD_map,hc',g5]
      simp (disch:=omega) only[wrap_in]
      refine⟨by unfold room;omega,Nxt.mk (i'+1,j'+1,out'++[⟨i',j'⟩]) (by simp;omega) (by simp) (by simp) ⟨by simp;omega,by simp;omega,by simp;omega,?_⟩⟩
      rw[← g4,show (o-i').toNat=(o-(i'+1)).toNat+1 by omega,runN]
      simp
    · have g6:i'=o:=by omega
      have g7:j'=nw:=by omega
      subst g6 g7
      simp[h8,getD_map,hc',pairsOk]
      simp (disch:=omega) only[wrap_in]
      refine Nxt.mk (k+1,i'+ol,j'+nl,out') (by simp;omega) (by simp) (by simp) ⟨by omega,by simp;omega,by simp;omega,by simp;omega,by simp;omega,by simpa using h6,?_⟩
      rw[← g4]
      simp[runN]
  · have h9:k=p.length:=by omega
    subst h9
    rw[List.drop_length,okV,Bool.and_eq_true,decide_eq_true_eq,decide_eq_true_eq] at h6
    rw[List.drop_length,matV] at h7
    simp
    refine vc_lp (σ:=Int × Int × List SpanT) (fun x=>0≤x.1∧x.1≤m∧m-x.1=n-x.2.1∧x.2.2++(runN (m-x.1).toNat x.1 x.2.1)=R)
      (fun x=>(m-x.1).toNat) (fun x=>[.d (Rep.to p),.d (.int .i64 m),.any,.gr 0 2 (x.2.2.map Rep.to),.d (.int .i64 x.1),.d (.int .i64 x.2.1),.any,.any,.any,.any])
      (fun x=>[.tip x.2.2.length]) (i,j,out) (by simp) (by simp) ⟨by dsimp only;omega,by dsimp only;omega,by dsimp only;omega,h7⟩ ?_
    rintro⟨i',j',out'⟩ ⟨g1,g2,g3,g4⟩
    simp only at g1 g2 g3 g4
    have hol:out'.length≤R.length:=by rw[← g4];simp
    by_cases g5:i'<m
    · simp[g5]
      simp (disch:=omega) only[wrap_in]
      refine⟨by unfold room;omega,Nxt.mk (i'+1,j'+1,out'++[⟨i',j'⟩]) (by simp;omega) (by simp) (by simp) ⟨by simp;omega,by simp;omega,by simp;omega,?_⟩⟩
      rw[← g4,show (m-i').toNat=(m-(i'+1)).toNat+1 by omega,runN]
      simp
    · have g6:i'=m:=by omega
      subst g6
      simp[runN] at g4
      simp[g4,← hR]
@[simp] def S_ref08_Pairs:List D→Prop × D:=spec3 (α:=List ChangeT) (β:=Int) (γ:=Int) (fun p m n=>p.length≤100000) (fun p m n=>.tup [Rep.to (if checkV p m n then matV p 0 0 m else []),.int .i64 (if checkV p m n then 0 else 80)])
theorem ct_ref08_Pairs {P:Program} {f g1 g2:Nat} {G:Gam} (h:CodeOf P f 3 7 [3,4] (x_ref08_Pairs g1 g2)) (hG:GamOk P G) (hg1:G.find g1=some S_ref08_Check) (hg2:G.find g2=some S_ref08_Matched):Has P f S_ref08_Pairs:=h.has3 hG fun p m n hp=>by
  by_cases hc:checkV p m n=true
  · simp[x_ref08_Pairs,hg1,hg2,hc,hp]
    exact⟨n,hc⟩
  · simp[x_ref08_Pairs,hg1,hg2,hc,hp]
def fitsV (l:List ChangeT) (a b:List Int):Bool:=checkV l a.length b.length && (matV l 0 0 a.length).all fun s=>decide (a.getD s.fr.toNat 0=b.getD s.to.toNat 0)
@[simp] def S_ref08_Fits:List D→Prop × D:=spec3 (α:=List ChangeT) (β:=List Int) (γ:=List Int) (fun l a b=>l.length≤100000∧a.length≤1048576∧b.length≤1048576) (fun l a b=>Rep.to (fitsV l a b))
theorem ct_ref08_Fits {P:Program} {f g1:Nat} {G:Gam} (h:CodeOf P f 3 10 [3] (x_ref08_Fits g1)) (hG:GamOk P G) (hg1:G.find g1=some S_ref08_Pairs):Has P f S_ref08_Fits:=h.has3 hG fun l a b hp=>by
  obtain⟨hp,ha,hb⟩:=hp
  by_cases hc:checkV l a.length b.length=true
  · simp[x_ref08_Fits,hg1,hc,hp]
    have hok:okV l 0 0 true a.length b.length=true:=by simp only[checkV,Bool.and_eq_true] at hc;exact hc.2
    have hM:=matV_mem _ _ _ _ _ _ hok
    have hL:=matV_len _ _ _ _ _ _ hok
    have hF:fitsV l a b=(matV l 0 0 a.length).all fun s=>decide (a.getD s.fr.toNat 0=b.getD s.to.toNat 0):=by simp[fitsV,hc]
    generalize matV l 0 0 a.length=q at *
    refine vc_lp (σ:=Nat) (fun x=>x≤q.length∧((q.drop x).all fun s=>decide (a.getD s.fr.toNat 0=b.getD s.to.toNat 0))=fitsV l a b) (fun x=>q.length-x) (fun x=>[.any,.d (Rep.to a),.d (Rep.to b),.any,.d (Rep.to q),.any,.d (.int .i64 x),.any,.any,.any]) (fun _=>[]) 0 (by simp) (by simp) ⟨by omega,by simp[hF]⟩ ?_
    rintro k ⟨h1,h2⟩
    by_cases h8:k<q.length
    · have hm:=hM _ (List.getElem_mem h8)
      rw[List.drop_eq_getElem_cons h8] at h2
      generalize hq:q[k]=s at *
      obtain⟨fr,to⟩:=s
      simp only at hm
      obtain⟨x,rfl⟩:=Int.eq_ofNat_of_zero_le hm.1
      obtain⟨y,rfl⟩:=Int.eq_ofNat_of_zero_le hm.2.2.1
      have hx:x<a.length:=by omega
      have hy:y<b.length:=by omega
      simp[hx,hy] at h2
      simp[h8,getD_map,hq,hx,hy,pairsOk,add1 h8 (by omega)]
      refine⟨fun q=>?_,fun q=>Nxt.mk (k+1) (by omega) (by simp) (by simp) ⟨by omega,?_⟩⟩
      · rw[← h2];simp[q]
      · rw[← h2];simp[q]
    · have h9:k=q.length:=by omega
      subst h9
      simp at h2
      simp[← h2]
  · simp[x_ref08_Fits,hg1,hc,hp,fitsV]
def cntV (n:Int):Int:=if inV n then n else 0
def sizeV:List ChangeT→Int × Int
  | []=>(0,0)
  | c::l=>(cntV c.oldLen+(sizeV l).1,cntV c.newLen+(sizeV l).2)
theorem cntV_bd (n:Int):0≤cntV n∧cntV n≤4096:=by
  unfold cntV
  split
  · rename_i h;exact inV_true h
  · omega
@[simp] def S_ref08_Size:List D→Prop × D:=spec1 (α:=List ChangeT) (fun l=>l.length≤1048576) (fun l=>.tup [.int .i64 (sizeV l).1,.int .i64 (sizeV l).2])
theorem ct_ref08_Size {P:Program} {f g1:Nat} {G:Gam} (h:CodeOf P f 1 9 [1,2] (x_ref08_Size g1)) (hG:GamOk P G) (hg1:G.find g1=some S_ref08_in):Has P f S_ref08_Size:=h.has1 hG fun l hp=>by
  simp[x_ref08_Size]
  refine vc_lp (σ:=Nat × Int × Int) (fun x=>x.1≤l.length∧0≤x.2.1∧x.2.1≤4096 * x.1∧0≤x.2.2∧x.2.2≤4096 * x.1∧x.2.1+(sizeV (l.drop x.1)).1=(sizeV l).1∧x.2.2+(sizeV (l.drop x.1)).2=(sizeV l).2) (fun x=>l.length-x.1)
    (fun x=>[.d (Rep.to l),.any,.any,.d (.int .i64 x.2.1),.d (.int .i64 x.2.2),.d (.int .i64 x.1),.any,.any,.any]) (fun _=>[]) (0,0,0) (by simp) (by simp) (by simp) ?_
  rintro⟨k,a,b⟩ ⟨h1,h2,h3,h4,h5,h6,h7⟩
  simp only at h1 h2 h3 h4 h5 h6 h7
  by_cases h8:k<l.length
  · rw[List.drop_eq_getElem_cons h8,sizeV] at h6 h7
    generalize hq:l[k]=c at *
    have c1:=cntV_bd c.oldLen
    have c2:=cntV_bd c.newLen
    simp only at h6 h7
    by_cases d1:inV c.oldLen=true <;> by_cases d2:inV c.newLen=true <;> simp[cntV,d1,d2] at h6 h7 c1 c2 <;> simp[h8,getD_map,hq,hg1,d1,d2,pairsOk] <;> simp (disch:=omega) only[wrap_in]
    · exact Nxt.mk (k+1,a+c.oldLen,b+c.newLen) (by simp;omega) (by simp) (by simp) ⟨by omega,by simp;omega,by simp;omega,by simp;omega,by simp;omega,by simp;omega,by simp;omega⟩
    · exact Nxt.mk (k+1,a+c.oldLen,b) (by simp;omega) (by simp) (by simp) ⟨by omega,by simp;omega,by simp;omega,by simp;omega,by simp;omega,by simp;omega,by simp;omega⟩
    · exact Nxt.mk (k+1,a,b+c.newLen) (by simp;omega) (by simp) (by simp) ⟨by omega,by simp;omega,by simp;omega,by simp;omega,by simp;omega,by simp;omega,by simp;omega⟩
    · exact Nxt.mk (k+1,a,b) (by simp;omega) (by simp) (by simp) ⟨by omega,by simp;omega,by simp;omega,by simp;omega,by simp;omega,by simp;omega,by simp;omega⟩
  · have h9:k=l.length:=by omega
    subst h9
    rw[List.drop_length,sizeV] at h6 h7
    simp only at h6 h7
    simp
    omega
theorem runN_one (i j:Int):runN 1 i j=[⟨i,j⟩]:=rfl
theorem okV_chgV:∀(p:List SpanT) (i j i0 j0 m n:Int) (fst:Bool),0≤i0→i0≤i→i-i0=j-j0→0≤j0→(fst=false→i0<i)→i≤m→j≤n→m≤4096→n≤4096→ascB p i j m n=true →
    okV (chgV (p++[⟨m,n⟩]) i j) i0 j0 fst m n=true∧matV (chgV (p++[⟨m,n⟩]) i j) i0 j0 m=runN (i-i0).toNat i0 j0++p:=by
  intro p
  induction p with
  | nil =>
    intro i j i0 j0 m n fst h1 h2 h3 h4 h5 h6 h7 h8 h9 _
    simp only[List.nil_append,chgV,gt_iff_lt]
    split
    · refine⟨?_,?_⟩
      · have:stepV ⟨i,m-i,j,n-j⟩ i0 j0 fst=true:=by
          cases fst
          · have:=h5 rfl
            simp[stepV,inV]
            omega
          · simp[stepV,inV]
            omega
        simp only[okV,this,Bool.true_and,Bool.and_eq_true,decide_eq_true_eq]
        omega
      · simp only[matV]
        rw[show (m-(i+(m-i))).toNat=0 by omega]
        simp[runN]
    · refine⟨?_,?_⟩
      · simp only[okV,Bool.and_eq_true,decide_eq_true_eq]
        omega
      · simp only[matV]
        rw[show (m-i0).toNat=(i-i0).toNat by omega]
        simp
  | cons s p ih =>
    intro i j i0 j0 m n fst h1 h2 h3 h4 h5 h6 h7 h8 h9 ha
    simp only[ascB,Bool.and_eq_true,decide_eq_true_eq] at ha
    obtain⟨⟨⟨⟨k1,k2⟩,k3⟩,k4⟩,k5⟩:=ha
    obtain⟨fr,to⟩:=s
    simp only at k1 k2 k3 k4 k5
    simp only[List.cons_append,chgV,gt_iff_lt]
    split
    · obtain⟨e1,e2⟩:=ih (fr+1) (to+1) fr to m n false (by omega) (by omega) (by omega) (by omega) (fun _=>by omega) (by omega) (by omega) h8 h9 k5
      have:stepV ⟨i,fr-i,j,to-j⟩ i0 j0 fst=true:=by
        cases fst
        · have:=h5 rfl
          simp[stepV,inV]
          omega
        · simp[stepV,inV]
          omega
      have a1:i+(fr-i)=fr:=by omega
      have a2:j+(to-j)=to:=by omega
      refine⟨?_,?_⟩
      · simp only[okV,this,Bool.true_and,a1,a2]
        exact e1
      · simp only[matV,a1,a2,e2]
        rw[show (fr+1-fr).toNat=1 by omega,runN_one]
        rfl
    · obtain⟨e1,e2⟩:=ih (fr+1) (to+1) i0 j0 m n fst (by omega) (by omega) (by omega) (by omega) (fun _=>by omega) (by omega) (by omega) h8 h9 k5
      refine⟨e1,?_⟩
      rw[e2,show (fr+1-i0).toNat=(i-i0).toNat+1 by omega,runN_snoc,List.append_assoc]
      congr 1
      simp only[List.cons_append,List.nil_append,List.cons.injEq,SpanT.mk.injEq,and_true]
      omega
theorem sizeV_chgV:∀(p:List SpanT) (i j m n:Int),0≤i→0≤j→i≤m→j≤n→m≤4096→n≤4096→ascB p i j m n=true →
    (sizeV (chgV (p++[⟨m,n⟩]) i j)).1=m-i-p.length∧(sizeV (chgV (p++[⟨m,n⟩]) i j)).2=n-j-p.length:=by
  have cnt:∀x:Int,0≤x→x≤4096→cntV x=x:=fun x h1 h2=>by simp[cntV,inV];omega
  intro p
  induction p with
  | nil =>
    intro i j m n h1 h2 h3 h4 h5 h6 _
    simp only[List.nil_append,chgV,gt_iff_lt]
    split
    · simp only[sizeV,cnt (m-i) (by omega) (by omega),cnt (n-j) (by omega) (by omega),List.length_nil]
      omega
    · simp only[sizeV,List.length_nil]
      omega
  | cons s p ih =>
    intro i j m n h1 h2 h3 h4 h5 h6 ha
    simp only[ascB,Bool.and_eq_true,decide_eq_true_eq] at ha
    obtain⟨⟨⟨⟨k1,k2⟩,k3⟩,k4⟩,k5⟩:=ha
    obtain⟨fr,to⟩:=s
    simp only at k1 k2 k3 k4 k5
    have:=ih (fr+1) (to+1) m n (by omega) (by omega) (by omega) (by omega) h5 h6 k5
    simp only[List.cons_append,chgV,gt_iff_lt,List.length_cons]
    split
    · simp only[sizeV,cnt (fr-i) (by omega) (by omega),cnt (to-j) (by omega) (by omega)]
      omega
    · omega
theorem walkV_len2 (a b:List Int) (i j:Int):2 * (walkV a b i j).length+dist a b=a.length+b.length:=by
  generalize hn:a.length+b.length=n
  induction n using Nat.strongRecOn generalizing a b i j with
  | _ n ih =>
    cases a with
    | nil=>rw[walkV_nil,dist_nil];simp at hn ⊢;omega
    | cons x a =>
      cases b with
      | nil=>rw[walkV_nil',dist_nil'];simp at hn ⊢;omega
      | cons y b =>
        simp only[List.length_cons] at hn ⊢
        by_cases h:x=y
        · subst h
          rw[walkV_eq,dist_eq]
          have:=ih (a.length+b.length) (by omega) a b (i+1) (j+1) rfl
          simp only[List.length_cons]
          omega
        · rw[walkV_ne h]
          have hd:=dist_ne h a b
          split
          · have:=ih (a.length+(b.length+1)) (by omega) a (y::b) (i+1) j (by simp)
            omega
          · have:=ih ((a.length+1)+b.length) (by omega) (x::a) b i (j+1) (by simp)
            omega
theorem walkV_mem (a b:List Int) (i j:Int):∀s,s∈walkV a b i j→a.getD (s.fr-i).toNat 0=b.getD (s.to-j).toNat 0:=by
  generalize hn:a.length+b.length=n
  induction n using Nat.strongRecOn generalizing a b i j with
  | _ n ih =>
    cases a with
    | nil=>rw[walkV_nil];simp
    | cons x a =>
      cases b with
      | nil=>rw[walkV_nil'];simp
      | cons y b =>
        simp only[List.length_cons] at hn
        have hasc:=walkV_asc (x::a) (y::b) i j
        intro s hs
        by_cases h:x=y
        · subst h
          rw[walkV_eq] at hs
          simp only[List.mem_cons] at hs
          rcases hs with rfl | hs
          · simp
          · have:=ih (a.length+b.length) (by omega) a b (i+1) (j+1) rfl s hs
            have hb:=ascB_mem (walkV_asc a b (i+1) (j+1)) s hs
            rw[show (s.fr-i).toNat=(s.fr-(i+1)).toNat+1 by omega,show (s.to-j).toNat=(s.to-(j+1)).toNat+1 by omega,List.getD_cons_succ,List.getD_cons_succ]
            exact this
        · rw[walkV_ne h] at hs
          split at hs
          · have:=ih (a.length+(b.length+1)) (by omega) a (y::b) (i+1) j (by simp) s hs
            have hb:=ascB_mem (walkV_asc a (y::b) (i+1) j) s hs
            rw[show (s.fr-i).toNat=(s.fr-(i+1)).toNat+1 by omega,List.getD_cons_succ]
            exact this
          · have:=ih ((a.length+1)+b.length) (by omega) (x::a) b i (j+1) (by simp) s hs
            have hb:=ascB_mem (walkV_asc (x::a) b i (j+1)) s hs
            rw[show (s.to-j).toNat=(s.to-(j+1)).toNat+1 by omega,List.getD_cons_succ]
            exact this
theorem dist_drop (a b:List Int):∀(r s:Nat),dist a b≤r+s+dist (a.drop r) (b.drop s):=by
  have one:∀(r:Nat) (a b:List Int),dist a b≤r+dist (a.drop r) b:=by
    intro r
    induction r with
    | zero=>intro a b;simp
    | succ r ih =>
      intro a b
      cases a with
      | nil=>simp
      | cons x a =>
        have h1:=dist_del x a b
        have h2:=ih a b
        simp only[List.drop_succ_cons]
        omega
  intro r s
  have h1:=one r a b
  have h2:=one s b (a.drop r)
  rw[dist_comm b,dist_comm (b.drop s)] at h2
  omega
theorem script_ok {a b:List Int} (ha:a.length≤4096) (hb:b.length≤4096):checkV (scriptV a b) a.length b.length=true∧matV (scriptV a b) 0 0 a.length=walkV a b 0 0 ∧
    (sizeV (scriptV a b)).1=a.length-(walkV a b 0 0).length∧(sizeV (scriptV a b)).2=b.length-(walkV a b 0 0).length:=by
  have hw:=walkV_asc a b 0 0
  simp only[Int.zero_add] at hw
  have h1:=okV_chgV (walkV a b 0 0) 0 0 0 0 a.length b.length true (by omega) (by omega) (by omega) (by omega) (by simp) (by omega) (by omega) (by omega) (by omega) hw
  have h2:=sizeV_chgV (walkV a b 0 0) 0 0 a.length b.length (by omega) (by omega) (by omega) (by omega) (by omega) (by omega) hw
  refine⟨?_,?_,?_,?_⟩
  · simp only[checkV,Bool.and_eq_true]
    exact⟨⟨by simp[inV];omega,by simp[inV];omega⟩,h1.1⟩
  · exact h1.2
  · rw[show sizeV (scriptV a b)=sizeV (chgV (walkV a b 0 0++[⟨a.length,b.length⟩]) 0 0) from rfl,h2.1]
    omega
  · rw[show sizeV (scriptV a b)=sizeV (chgV (walkV a b 0 0++[⟨a.length,b.length⟩]) 0 0) from rfl,h2.2]
    omega
theorem script_fits {a b:List Int} (ha:a.length≤4096) (hb:b.length≤4096):fitsV (scriptV a b) a b=true:=by
  obtain⟨h1,h2,_⟩:=script_ok ha hb
  simp only[fitsV,h1,h2,Bool.true_and,List.all_eq_true,decide_eq_true_eq]
  intro s hs
  have:=walkV_mem a b 0 0 s hs
  simpa using this
@[simp] def S_law09_ShortestLeast:List D→Prop × D:=spec3 (α:=List Int) (β:=Int) (γ:=List Int) (fun raw _ picks=>raw.length≤9223372036854775807∧picks.length≤9223372036854775807) (fun _ _ _=>Rep.to true)
theorem ct_law09_ShortestLeast {P:Program} {f g1 g2 g3 g4 g5 g6 g7 g8:Nat} {G:Gam} (h:CodeOf P f 3 23 [3] (x_law09_ShortestLeast g1 g2 g3 g4 g5 g6 g7 g8)) (hG:GamOk P G) (h1:G.find g1=some S_law09_pair) (h2:G.find g2=some S_shortest_Script) (h3:G.find g3=some S_shortest_Distance) (h4:G.find g4=some S_shortest_Common) (h5:G.find g5=some S_ref08_Fits) (h6:G.find g6=some S_ref08_Size) (h7:G.find g7=some S_gen_Mod) (h8:G.find g8=some S_law09_awake):Has P f S_law09_ShortestLeast:=h.has3 hG fun raw kinds picks hr=>by
  obtain⟨hr,hpk⟩:=hr
  obtain⟨a,ha⟩:∃a,a=pairA raw kinds:=⟨_,rfl⟩
  obtain⟨b,hb⟩:∃b,b=pairB raw kinds:=⟨_,rfl⟩
  have la:a.length≤12:=by rw[ha];exact pairA_len raw kinds
  have lb:b.length≤12:=by rw[hb];exact pairB_len raw kinds
  have s1:a.length≤1048576:=by omega
  have s2:b.length≤1048576:=by omega
  have hl1:¬longV a b:=by unfold longV;omega
  have hsl:=scriptV_len a b
  have hsl':(scriptV a b).length≤100000:=by omega
  have hsl'':(scriptV a b).length≤1048576:=by omega
  obtain⟨k1,k2,k3,k4⟩:=script_ok (a:=a) (b:=b) (by omega) (by omega)
  have k5:=script_fits (a:=a) (b:=b) (by omega) (by omega)
  have k6:=walkV_len2 a b 0 0
  have k7:=dist_bounds a b
  obtain⟨c,hc⟩:∃c,c=(a.length+b.length-dist a b) / 2:=⟨_,rfl⟩
  have hc2:c=(walkV a b 0 0).length:=by omega
  rw[← hc2] at k3 k4
  have hc3:((a.length+b.length-dist a b:Nat):Int) / 2=(c:Int):=by omega
  simp[x_law09_ShortestLeast,h1,← ha,← hb,hr,h2,h3,h4,h5,h6,s1,s2,hl1,hsl',hsl'',k5,k3,k4,hc3]
  refine vc_lp (σ:=Nat × Nat × Nat × Nat) (fun x=>(x.1≤picks.length+2∧x.1≤41)∧x.2.1≤a.length∧x.2.2.1≤b.length∧2 * x.2.2.2+dist a b≤x.2.1+x.2.2.1+dist (a.drop x.2.1) (b.drop x.2.2.1)) (fun x=>picks.length+2-x.1)
    (fun x=>[.any,.any,.d (Rep.to picks),.any,.d (Rep.to a),.d (Rep.to b),.any,.any,.d (.int .i64 (dist a b:Nat)),.any,.d (.int .i64 c),.any,.d (.int .i64 (a.length-c)),.d (.int .i64 (b.length-c)),.d (.int .i64 x.2.1),.d (.int .i64 x.2.2.1),.d (.int .i64 x.2.2.2),.d (.int .i64 x.1),.any,.any,.any,.any,.any])
    (fun _=>[]) (0,0,0,0) (by simp) (by simp) (by simp) ?_
  rintro⟨k,i,j,m⟩ ⟨⟨g1,g0⟩,g2,g3,g4⟩
  simp only at g1 g0 g2 g3 g4
  have hd:=(dist_bounds (a.drop i) (b.drop j)).2.2.1
  simp only[List.length_drop] at hd
  have w1:=wrap_in (n:=(k:Int)+1) (by omega) (by omega)
  have w2:=wrap_in (n:=(k:Int)+2) (by omega) (by omega)
  by_cases q1:k+1<picks.length
  · have q1':(k:Int)+1<picks.length:=by omega
    by_cases q2:(k:Int)<40
    · have q3:k<picks.length:=by omega
      have m1:=modV_lt picks[k] (n:=4) (by omega)
      have m2:=modV_lt picks[k+1] (n:=4) (by omega)
      obtain⟨r,hr'⟩:=Int.eq_ofNat_of_zero_le m1.1
      obtain⟨s,hs'⟩:=Int.eq_ofNat_of_zero_le m2.1
      rw[hr'] at m1
      rw[hs'] at m2
      have w3:IntKind.i64.wrap ((i:Int)+(r:Nat))=((i+r:Nat):Int):=by rw[wrap_in (by omega) (by omega)];push_cast;rfl
      have w4:IntKind.i64.wrap ((j:Int)+(s:Nat))=((j+s:Nat):Int):=by rw[wrap_in (by omega) (by omega)];push_cast;rfl
      have hdr:=dist_drop (a.drop i) (b.drop j) r s
      rw[List.drop_drop,List.drop_drop] at hdr
      simp[w1,w2,q1,q1',q2,q3,getD_map,h7,hr',hs',pairsOk]
      rw[w3,w4]
      generalize hp:i+r=p at *
      generalize hq:j+s=q at *
      refine⟨by omega,fun q4=>⟨fun q5=>?_,fun _=>Nxt.mk (k+2,i,j,m) (by simp;omega) (by simp) (by simp) ⟨by simp;omega,g2,g3,g4⟩⟩,fun _=>Nxt.mk (k+2,i,j,m) (by simp;omega) (by simp) (by simp) ⟨by simp;omega,g2,g3,g4⟩⟩
      have q4:p<a.length:=by omega
      have q5:q<b.length:=by omega
      by_cases q6:a[p]=b[q]
      · simp[q4,q5,q6,getD_map,w2]
        simp (disch:=omega) only[wrap_in]
        refine Nxt.mk (k+2,p+1,q+1,m+1) (by simp;omega) (by simp) (by simp) ⟨by simp;omega,by simp;omega,by simp;omega,?_⟩
        rw[List.drop_eq_getElem_cons q4,List.drop_eq_getElem_cons q5,q6,dist_eq] at hdr
        simp only
        omega
      · simp[q4,q5,q6,getD_map,w2]
        exact Nxt.mk (k+2,i,j,m) (by simp;omega) (by simp) (by simp) ⟨by simp;omega,g2,g3,g4⟩
    · simp[w1,q1,q1',q2,pairsOk]
      simp (disch:=omega) only[wrap_in]
      simp[h8,pairsOk]
      omega
  · have q1':¬(k:Int)+1<picks.length:=by omega
    simp[w1,q1,q1',pairsOk]
    simp (disch:=omega) only[wrap_in]
    simp[h8,pairsOk]
    omega
theorem law09_ShortestLeast_pre (raw:List Int) (k:Int) (x:List Int) (w0:Arg.wf raw) (w1:Arg.wf k) (w2:Arg.wf x):raw.length≤9223372036854775807∧x.length≤9223372036854775807:=by
  have:=len_wf w0
  have:=len_wf w2
  omega
end Go.AE
