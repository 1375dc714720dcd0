/-
  The combined diff of some spans of the rows of a valid table is valid,plainly.
-/
import Derived.Test.YtafcebkjmeinnaaGreatDoorCona2
import Derived.Test.YtafcebkjmeinnaaGreatDoorCona1
import Derived.Test.YtafcebkjmeinnaaGreatDoorCode1
import Derived.Test.YtafcebkjmeinnaaGreatDoorAe3
import Derived.Lib.Index
import Derived.Lib.IndexMore
import Derived.Lib.Strings

set_option linter.unusedSimpArgs false
set_option linter.unusedVariables false
set_option linter.unnecessarySimpa false
set_option maxRecDepth 100000
set_option maxHeartbeats 8000000
namespace Go.AE
def cutRows (t:TableT) (s:SpanT):List RowT:=(t.rows.drop s.fr.toNat).take (s.to.toNat-s.fr.toNat)
def cutH (t:TableT) (s:SpanT):CHunkT:=⟨ctsV (t.rows.take s.fr.toNat) t.parents.toNat,cutRows t s⟩
def cutC (path:Str) (t:TableT) (l:List SpanT) (dense:Bool):CombT:=⟨path,dense,t.parents,l.map (cutH t)⟩
theorem cut_mem {t:TableT} {s:SpanT} {r:RowT} (h:r∈cutRows t s):r∈t.rows:=List.mem_of_mem_drop (List.mem_of_mem_take h)
theorem cfV_split (rows:List RowT) (n p:Nat) {a b:Nat} (h:a≤b):cfV (rows.take b) n p=cfV (rows.take a) n p+cfV ((rows.drop a).take (b-a)) n p:=by
  have:rows.take b=rows.take a++(rows.drop a).take (b-a):=by
    rw[show b=a+(b-a) by omega,List.take_add]
    simp
  rw[this]
  unfold cfV
  rw[List.countP_append]
theorem cfV_mono (rows:List RowT) (n p:Nat) {a b:Nat} (h:a≤b):cfV (rows.take a) n p≤cfV (rows.take b) n p:=by
  rw[cfV_split rows n p h]
  omega
theorem cfV_le (rows:List RowT) (n p a:Nat):cfV (rows.take a) n p≤cfV rows n p:=by
  unfold cfV
  conv=>rhs;rw[← List.take_append_drop a rows,List.countP_append]
  omega
theorem cts_zip (a b:List RowT) (n:Nat):(ctsV a n).zipWith (·+·) (ctsV b n)=(List.range (n+1)).map fun p=>((cfV b n p+cfV a n p:Nat):Int):=by
  rw[ctsV_eq,ctsV_eq,List.zipWith_map,List.zipWith_self]
  apply List.map_congr_left
  intro p _
  push_cast
  omega
theorem fol_cut {t:TableT} {s:SpanT} {e:Nat} (he:e≤s.fr.toNat) (hf:s.fr.toNat<s.to.toNat) (hl:s.to.toNat≤t.rows.length) (hc:∀p,cfV t.rows t.parents.toNat p≤4096) :
    folV (cutH t s) t.parents.toNat (ctsV (t.rows.take e) t.parents.toNat)=some (ctsV (t.rows.take s.to.toNat) t.parents.toNat):=by
  generalize hn:t.parents.toNat=n at *
  have hne:cutRows t s≠[]:=by
    intro h
    have:=congrArg List.length h
    unfold cutRows at this
    simp at this
    omega
  unfold folV
  rw[if_neg (by simp[cutH,ctsV_len,hn,hne])]
  have ha:atOk (cutH t s).at_ (ctsV (t.rows.take e) n)=true:=by
    rw[ats_get _ _ (by simp[cutH,ctsV_len,hn])]
    intro k hk
    simp only[cutH,hn,ctsV_len] at hk ⊢
    rw[ctsV_get _ (by omega),ctsV_get _ (by omega)]
    have h1:=cfV_mono t.rows n k he
    have h2:=cfV_le t.rows n k s.fr.toNat
    have h3:=hc k
    omega
  rw[if_pos ha]
  simp only[cutH,hn]
  rw[cts_zip,ctsV_eq]
  congr 1
  apply List.map_congr_left
  intro p _
  rw[cfV_split t.rows n p (Nat.le_of_lt hf)]
  rfl
/-! ### what may follow what -/
theorem ends_mono:∀(rows:List RowT) (res res':Bool) (par par':Nat),(res'=true→res=true)→(∀p,par'.testBit p=true→par.testBit p=true)→endsB res par rows=true→endsB res' par' rows=true
  | [],_,_,_,_,_,_,_=>rfl
  | r::rs,res,res',par,par',h1,h2,h=>by
    simp only[endsB,Bool.and_eq_true,decide_eq_true_eq] at h ⊢
    obtain⟨⟨a,b⟩,c⟩:=h
    refine⟨⟨?_,?_⟩,ends_mono rs _ _ _ _ ?_ ?_ c⟩
    · apply Nat.eq_of_testBit_eq
      intro p
      have:=congrArg (fun x=>Nat.testBit x p) a
      simp only[Nat.testBit_and,Nat.zero_testBit] at this ⊢
      cases hp:par'.testBit p with
      | false=>simp
      | true=>rw[h2 p hp] at this;simpa using this
    · cases hr:res' with
      | false=>simp
      | true=>rw[h1 hr] at b;simpa using b
    · intro hr
      rw[Bool.or_eq_true] at hr ⊢
      rcases hr with hr | hr
      · exact .inl (h1 hr)
      · exact .inr hr
    · intro p hp
      split at hp
      · rename_i he
        rw[if_pos he]
        exact h2 p hp
      · rename_i he
        rw[if_neg he,Nat.testBit_or,Bool.or_eq_true]
        rw[Nat.testBit_or,Bool.or_eq_true] at hp
        rcases hp with hp | hp
        · exact .inl (h2 p hp)
        · exact .inr hp
theorem ends_drop:∀(a b:List RowT) (res:Bool) (par:Nat),endsB res par (a++b)=true→endsB res par b=true
  | [],_,_,_,h=>h
  | r::a,b,res,par,h=>by
    simp only[List.cons_append,endsB,Bool.and_eq_true] at h
    refine ends_mono b _ _ _ _ ?_ ?_ (ends_drop a b _ _ h.2)
    · intro h;simp[h]
    · intro p hp
      split
      · exact hp
      · rw[Nat.testBit_or,hp];rfl
theorem ads_of:∀(a b:List RowT) (res:Bool) (par:Nat),(∀r,r∈a→lineB r.text=true)→endsB res par (a++b)=true→∃res' par',adsV res par a=some (res',par')∧endsB res' par' b=true
  | [],_,res,par,_,h=>⟨res,par,rfl,h⟩
  | r::a,b,res,par,hl,h=>by
    simp only[List.cons_append,endsB,Bool.and_eq_true] at h
    have h1:=ads_of a b _ _ (fun x hx=>hl x (by simp[hx])) h.2
    have ho:(lineB r.text && endsOk res par r)=true:=by
      rw[hl r (by simp)]
      simp only[endsOk,Bool.true_and,Bool.and_eq_true]
      exact h.1
    rw[adsV,if_pos ho]
    exact h1
theorem well_cut {t:TableT} (hc:∀p,cfV t.rows t.parents.toNat p≤4096) (hl:∀r,r∈t.rows→lineB r.text=true):∀(l:List SpanT) (e:Nat) (res:Bool) (par:Nat),ordC t.rows.length e l=true→endsB res par (t.rows.drop e)=true →
    ∃k,wellC t.parents.toNat res par (ctsV (t.rows.take e) t.parents.toNat) (l.map (cutH t))=some (ctsV (t.rows.take k) t.parents.toNat)
  | [],e,_,_,_,_=>⟨e,rfl⟩
  | s::l,e,res,par,ho,hb=>by
    simp only[ordC,Bool.and_eq_true,Bool.not_eq_true',Bool.or_eq_false_iff,decide_eq_false_iff_not] at ho
    obtain⟨⟨⟨o1,o2⟩,o3⟩,o4⟩:=ho
    rw[show s.to=((s.to.toNat:Nat):Int) by omega] at o4
    have hfol:=fol_cut (t:=t) (s:=s) (e:=e) (by omega) (by omega) (by omega) hc
    have e1:t.rows.drop e=(t.rows.drop e).take (s.fr.toNat-e)++t.rows.drop s.fr.toNat:=by
      conv=>lhs;rw[← List.take_append_drop (s.fr.toNat-e) (t.rows.drop e)]
      rw[List.drop_drop,show e+(s.fr.toNat-e)=s.fr.toNat by omega]
    have e2:t.rows.drop s.fr.toNat=cutRows t s++t.rows.drop s.to.toNat:=by
      conv=>lhs;rw[← List.take_append_drop (s.to.toNat-s.fr.toNat) (t.rows.drop s.fr.toNat)]
      rw[List.drop_drop,show s.fr.toNat+(s.to.toNat-s.fr.toNat)=s.to.toNat by omega]
      rfl
    rw[e1] at hb
    have hb:=ends_drop _ _ _ _ hb
    rw[e2] at hb
    obtain⟨res',par',h1,h2⟩:=ads_of _ _ _ _ (fun r hr=>hl r (cut_mem hr)) hb
    obtain⟨k,hk⟩:=well_cut hc hl l s.to.toNat res' par' o4 h2
    refine⟨k,?_⟩
    rw[List.map_cons,wellC,hfol]
    simp only
    have h1:adsV res par (cutH t s).rows=some (res',par'):=h1
    rw[h1]
    exact hk
theorem maxV_le {l:List Int} {m:Int} (h0:l≠[]) (h:∀x,x∈l→x≤m):maxV l≤m:=by
  have:∀(l:List Int) (a:Int),a≤m→(∀x,x∈l→x≤m)→l.foldl max a≤m:=by
    intro l
    induction l with
    | nil=>intro a ha _;exact ha
    | cons x r ih =>
      intro a ha hx
      have:=hx x (by simp)
      exact ih (max a x) (by omega) fun y hy=>hx y (by simp[hy])
  cases l with
  | nil=>exact absurd rfl h0
  | cons a r=>exact this r a (h a (by simp)) fun x hx=>h x (by simp[hx])
structure TabS (t:TableT) (n L B:Nat):Prop where
  par:t.parents=n
  n1:1≤n
  n2:n≤32
  valid:checkTab t=0
  ok:tabOk t
  cols:∀p,p≤n→cfV t.rows n p≤L
  texts:∀r,r∈t.rows→r.text.length≤B
  l1:L≤25
  b1:B≤100
theorem TabS.marks {t:TableT} {n L B:Nat} (h:TabS t n L B):t.rows.all (markB n)=true:=by
  have hv:=h.valid
  unfold checkTab at hv
  rw[h.par,Int.toNat_natCast] at hv
  split at hv
  · cases hv
  · split at hv
    · rename_i c;rwa [marksB_all] at c
    · cases hv
theorem TabS.ends {t:TableT} {n L B:Nat} (h:TabS t n L B):(∀r,r∈t.rows→lineB r.text=true)∧endsB false 0 t.rows=true:=by
  have hm:=h.marks
  have hv:=h.valid
  unfold checkTab at hv
  rw[h.par,Int.toNat_natCast] at hv
  split at hv
  · cases hv
  · split at hv
    · split at hv
      · rename_i c
        rw[texts_ends h.ok.2.1 hm h.n2,Bool.and_eq_true,List.all_eq_true] at c
        exact c
      · cases hv
    · cases hv
theorem cfV_far (rows:List RowT) {n p:Nat} (hp:n≤p):cfV rows n p=cfV rows n n:=by
  unfold cfV visN
  simp only[if_neg (show ¬p<n by omega),if_neg (show ¬n<n by omega)]
theorem TabS.cols' {t:TableT} {n L B:Nat} (h:TabS t n L B) (p:Nat):cfV t.rows t.parents.toNat p≤4096:=by
  have hl:=h.l1
  rw[h.par,Int.toNat_natCast]
  by_cases hp:p≤n
  · have:=h.cols p hp;omega
  · rw[cfV_far _ (show n≤p by omega)]
    have:=h.cols n (Nat.le_refl _);omega
theorem row_seen {r:RowT} {n:Nat} (ho:rowOk r) (h:markB n r=true) (hn:n≤32):∃p,p≤n∧visN n r p=true:=by
  cases hl:r.lost with
  | false=>exact⟨n,Nat.le_refl _,by unfold visN;rw[if_neg (by omega),hl];rfl⟩
  | true =>
    unfold markB at h
    rw[hl] at h
    simp only[Bool.not_true,Bool.false_or,Bool.and_eq_true,decide_eq_true_eq] at h
    obtain⟨h1,h2⟩:=h
    have h3:r.marks.toNat≠0:=by have:=ho.1;omega
    obtain⟨p,hp⟩:=Nat.exists_testBit_of_ne_zero h3
    have hpn:p<n:=by
      apply Classical.byContradiction
      intro hc
      rw[Nat.testBit_lt_two_pow (Nat.lt_of_lt_of_le h1 (Nat.pow_le_pow_right (by omega) (by omega)))] at hp
      cases hp
    refine⟨p,by omega,?_⟩
    unfold visN
    rw[if_pos hpn,← inN_bit ho (by omega)]
    unfold inN
    rw[hl,if_pos rfl]
    exact hp
def sumTo (f:Nat→Nat):Nat→Nat
  | 0=>0
  | k+1=>sumTo f k+f k
theorem sumTo_add (f g:Nat→Nat):∀k,sumTo (fun p=>f p+g p) k=sumTo f k+sumTo g k
  | 0=>rfl
  | k+1=>by simp only[sumTo,sumTo_add f g k];omega
theorem sumTo_le (f:Nat→Nat) {L:Nat}:∀k,(∀p,p<k→f p≤L)→sumTo f k≤L * k
  | 0,_=>Nat.le_refl _
  | k+1,h=>by
    have:=sumTo_le f k fun p hp=>h p (by omega)
    have:=h k (by omega)
    simp only[sumTo,Nat.mul_succ]
    omega
theorem sumTo_one (f:Nat→Nat) {p:Nat}:∀k,p<k→f p≤sumTo f k
  | 0,h=>by omega
  | k+1,h=>by
    by_cases e:p=k
    · subst e;simp only[sumTo];omega
    · have:=sumTo_one f k (p:=p) (by omega)
      simp only[sumTo]
      omega
theorem rows_seen:∀(rows:List RowT) (n:Nat),n≤32→(∀r,r∈rows→rowOk r)→rows.all (markB n)=true→rows.length≤sumTo (cfV rows n) (n+1)
  | [],_,_,_,_=>by simp
  | r::rs,n,hn,ho,hm=>by
    simp only[List.all_cons,Bool.and_eq_true] at hm
    have ih:=rows_seen rs n hn (fun x hx=>ho x (by simp[hx])) hm.2
    obtain⟨p,hp,hv⟩:=row_seen (ho r (by simp)) hm.1 hn
    have e:cfV (r::rs) n=fun q=>cfV rs n q+(if visN n r q=true then 1 else 0):=by
      funext q
      unfold cfV
      rw[List.countP_cons]
    rw[e,sumTo_add]
    have:=sumTo_one (fun q=>if visN n r q=true then 1 else 0) (n+1) (p:=p) (by omega)
    simp only[hv,if_true] at this
    rw[List.length_cons]
    omega
theorem TabS.len {t:TableT} {n L B:Nat} (h:TabS t n L B):t.rows.length≤L * (n+1) :=
  Nat.le_trans (rows_seen t.rows n h.n2 h.ok.2.1 h.marks) (sumTo_le _ _ fun p hp=>h.cols p (by omega))
/-! ### how great the diff is -/
theorem rowsM_le {B:Nat}:∀l:List RowT,(∀r,r∈l→r.text.length≤B)→(l.map rwM).sum≤(62+B) * l.length
  | [],_=>by simp
  | x::r,h=>by
    have:=rowsM_le r fun y hy=>h y (by simp[hy])
    have:=h x (by simp)
    simp only[List.map_cons,List.sum_cons,List.length_cons,rwM,Nat.mul_succ]
    omega
theorem ord_len {N:Nat}:∀(l:List SpanT) (e:Nat),ordC N e l=true→e≤N→l.length≤N-e∧(∀s,s∈l→(e:Int)≤s.fr∧s.fr<s.to∧s.to≤N)∧(l.map fun s=>s.to.toNat-s.fr.toNat).sum≤N-e
  | [],e,_,_=>by simp
  | s::l,e,h,he=>by
    simp only[ordC,Bool.and_eq_true,Bool.not_eq_true',Bool.or_eq_false_iff,decide_eq_false_iff_not] at h
    obtain⟨⟨⟨o1,o2⟩,o3⟩,o4⟩:=h
    rw[show s.to=((s.to.toNat:Nat):Int) by omega] at o4
    obtain⟨i1,i2,i3⟩:=ord_len l s.to.toNat o4 (by omega)
    refine⟨by simp;omega,fun x hx=>?_,by simp only[List.map_cons,List.sum_cons];omega⟩
    rcases List.mem_cons.1 hx with rfl | hx
    · omega
    · have:=i2 x hx;omega
theorem chunks_cut {t:TableT} {n B:Nat} (hB:∀r,r∈t.rows→r.text.length≤B):∀l:List SpanT,chunksM n (l.map (cutH t))≤(47 * (n+1)+10) * l.length+(62+B) * (l.map fun s=>s.to.toNat-s.fr.toNat).sum
  | []=>by simp[chunksM]
  | s::l=>by
    have h1:=chunks_cut (n:=n) hB l
    have h2:=rowsM_le (B:=B) (cutRows t s) fun r hr=>hB r (cut_mem hr)
    have h3:(cutRows t s).length≤s.to.toNat-s.fr.toNat:=by simp[cutRows];omega
    have h4:=Nat.mul_le_mul_left (62+B) h3
    simp only[chunksM,List.map_cons,List.sum_cons,chunkM,List.length_cons,Nat.mul_succ,Nat.mul_add] at *
    have h5:(cutH t s).rows=cutRows t s:=rfl
    rw[h5]
    omega
theorem title_len (c:CombT):(titleW c).length≤80+4 * c.path.length:=by
  have hq:=quote_len c.path
  have hf:=fmt_len c.parents
  unfold titleW
  simp only[List.length_append,List.length_cons,List.length_nil]
  split <;> simp <;> omega
structure CutG (path:Str) (t:TableT) (l:List SpanT) (dense:Bool):Prop where
  named:namedB path=true
  plen:path.length≤1000
  ok:tabOk t
  valid:checkTab t=0
  p1:1≤t.parents
  p2:t.parents≤32
  len:l.length≤1000000
  ord:ordC t.rows.length 0 l=true
  comb:CombOk (cutC path t l dense)
  chk:chkC (cutC path t l dense)=0
theorem TabS.cut {t:TableT} {n L B:Nat} (h:TabS t n L B) {path:Str} (hn:namedB path=true) (hp:path.length≤1000) {l:List SpanT} (ho:ordC t.rows.length 0 l=true) (dense:Bool) :
    CutG path t l dense∧(writC (cutC path t l dense)).length≤80+4 * path.length+(47 * (n+1)+10) * l.length+(62+B) * t.rows.length:=by
  have hlen:=h.len
  have hn1:=h.n1
  have hn2:=h.n2
  have hL:=h.l1
  have hB:=h.b1
  obtain⟨o1,o2,o3⟩:=ord_len (N:=t.rows.length) l 0 ho (by omega)
  have hrl:t.rows.length≤825:=Nat.le_trans hlen (Nat.mul_le_mul hL (show n+1≤33 by omega))
  have hw:(writC (cutC path t l dense)).length≤80+4 * path.length+(47 * (n+1)+10) * l.length+(62+B) * t.rows.length:=by
    have h1:=title_len (cutC path t l dense)
    have h2:=hunksC_leM (n:=n) hn2 (l.map (cutH t))
    have h3:=chunks_cut (n:=n) h.texts l
    have h4:=Nat.mul_le_mul_left (62+B) (show (l.map fun s=>s.to.toNat-s.fr.toNat).sum≤t.rows.length by omega)
    unfold writC
    rw[List.length_append]
    have e1:(cutC path t l dense).parents.toNat=n:=by show t.parents.toNat=n;rw[h.par];simp
    have e2:(cutC path t l dense).hunks=l.map (cutH t):=rfl
    have e3:(cutC path t l dense).path=path:=rfl
    rw[e1,e2]
    rw[e3] at h1
    omega
  have hsm:(writC (cutC path t l dense)).length≤2000000:=by
    have h1:=Nat.mul_le_mul (show 47 * (n+1)+10≤1561 by omega) (show l.length≤825 by omega)
    have h2:=Nat.mul_le_mul (show 62+B≤162 by omega) hrl
    omega
  obtain⟨e1,e2⟩:=h.ends
  have hpar:=h.par
  have hform:formB (cutC path t l dense)=true:=by
    obtain⟨k,hk⟩:=well_cut h.cols' e1 l 0 false 0 ho (by simpa using e2)
    have hz:ctsV (t.rows.take 0) t.parents.toNat=List.replicate (t.parents.toNat+1) 0:=by
      rw[ctsV_eq,List.take_zero]
      have:((fun p=>((cfV [] t.parents.toNat p:Nat):Int)):Nat→Int)=fun _=>0:=by funext p;simp[cfV]
      rw[this,List.map_const',List.length_range]
    rw[hz] at hk
    unfold formB
    have hk:wellC (cutC path t l dense).parents.toNat false 0 (List.replicate ((cutC path t l dense).parents.toNat+1) 0) (cutC path t l dense).hunks=some (ctsV (t.rows.take k) t.parents.toNat):=hk
    rw[hk]
    simp only[decide_eq_true_eq]
    refine maxV_le (by intro h;have:=congrArg List.length h;rw[ctsV_len] at this;simp at this) fun x hx=>?_
    rw[ctsV_eq] at hx
    obtain⟨p,_,rfl⟩:=List.mem_map.1 hx
    have h1:=cfV_le t.rows t.parents.toNat p k
    have h2:=h.cols' p
    omega
  have hmark:markC (cutC path t l dense)=true:=by
    have hm:=h.marks
    rw[List.all_eq_true] at hm
    unfold markC cutC
    simp only[List.all_eq_true]
    intro u hu r hr
    obtain⟨s,_,rfl⟩:=List.mem_map.1 hu
    rw[hpar,Int.toNat_natCast]
    exact hm r (cut_mem hr)
  refine⟨⟨hn,hp,h.ok,h.valid,by omega,by omega,by omega,ho,⟨by simp[cutC];omega,by show path.length≤1048576;omega,fun u hu=>?_,by omega⟩,?_⟩,hw⟩
  · obtain⟨s,_,rfl⟩:=List.mem_map.1 hu
    refine⟨?_,?_,fun r hr=>⟨h.ok.2.1 r (cut_mem hr),?_⟩⟩
    · simp only[cutH,cutRows,List.length_take,List.length_drop];omega
    · simp only[cutH,ctsV_len];omega
    · have:=h.texts r (cut_mem hr);omega
  · unfold chkC
    have hp1:(cutC path t l dense).parents=n:=hpar
    have hp2:(cutC path t l dense).path=path:=rfl
    rw[hp2,if_neg (by rw[hn];simp),if_neg (by rw[hp1];omega),if_neg (by rw[hmark];simp),if_neg (by rw[hform];simp),if_neg (by omega)]
structure CcX where
  t:TableT
  e:Nat
  to:Nat
  l:List Int
  v:Nat
def obTab:Ob→TableT
  | .cells _ _ (x::_)=>(Rep.of x.toD).getD ⟨0,[]⟩
  | _=>⟨0,[]⟩
@[simp] theorem obTab_to (t:TableT) (v e:Nat):obTab (.cells v e [.d (Rep.to t)])=t:=by
  simp only[obTab,A.toD,Rep.of_to,Option.getD_some]
@[simp] theorem obTab_agg (n:Int) (rows:List RowT) (v e:Nat):obTab (.cells v e [.d (.agg [.int .i64 n,.sl 3 (rows.map Rep.to)])])=⟨n,rows⟩:=obTab_to ⟨n,rows⟩ v e
def sliT (t:TableT) (a b:Nat):List RowT:=(t.rows.drop a).take (b-a)
def addL (l:List Int) (r:List RowT) (n:Nat):List Int:=(List.range (n+1)).map fun p=>l.getD p 0+(cfV r n p:Int)
@[simp] def F_combined_Cut_1:RF CcX where
  new:=0
  view a s:=⟨obTab (s.getD 0 .dead),((s.getD 1 .dead).at 0 0).gi.toNat,(a.getD 0 .any).gi.toNat,(s.getD 3 .dead).intsA,(s.getD 3 .dead).ver⟩
  args x:=[.d (.int .i64 x.to),.ref 0 0 0 0,.ref 1 0 0 0,.ref 2 0 0 0]
  st x:=[.cells 0 2 [.d (Rep.to x.t)],.cells 0 1 [.d (.int .i64 x.e)],.cells 0 1 [.own 3 x.v 0 x.l.length],.cells x.v 1 (lstI x.l)]
  pre x:=x.t.rows.length≤1048576∧x.e≤x.to∧x.to≤x.t.rows.length∧1≤x.t.parents∧x.t.parents≤32∧x.l.length=x.t.parents.toNat+1∧∀z,z∈x.l→0≤z∧z≤2000000000
  res x:=.tup []
  st' x:=[.cells 0 2 [.d (Rep.to x.t)],.cells 0 1 [.d (.int .i64 x.to)],.cells 0 1 [.own 3 x.v 0 x.l.length],.cells x.v 1 (lstI (addL x.l (sliT x.t x.e x.to) x.t.parents.toNat))]
abbrev R_combined_Cut_1:RSpec:=F_combined_Cut_1.spec
theorem lstI_cell {l:List Int} {n:Nat} (h:l.length=n+1):lstI l=cellI (fun p=>l.getD p 0) n:=by
  rw[cellI_l]
  congr 1
  apply List.ext_getElem (by simp[h])
  intro i h1 h2
  simp[List.getD,show i<l.length from h1]
theorem ct_combined_Cut_1 {P:Program} {f g1:Nat} {G:Gam} (hc:CodeOf P f 4 10 [] (x_combined_Cut_1 g1)) (hG:GamOk P G) (h1:G.findR g1=some R_combined_counts):RSpec.Ok P f R_combined_Cut_1:=by
  refine RF.ok hc.call fun x hx=>hc.rcalls hG rfl ?_
  obtain⟨⟨par,rows⟩,e,to,l,v⟩:=x
  obtain⟨p1,p2,p3,p4,p5,p6,p7⟩:=hx
  simp only at p1 p2 p3 p4 p5 p6 p7
  obtain⟨n,rfl⟩:=Int.eq_ofNat_of_zero_le (show 0≤par by omega)
  simp only[Int.toNat_natCast] at p6
  have hsl:(sliT ⟨n,rows⟩ e to).length=to-e:=by simp[sliT];omega
  have hcl:=lstI_cell p6
  have hsm:List.take (to-e) (List.drop e (rows.map Rep.to))=(sliT ⟨n,rows⟩ e to).map Rep.to:=by simp[sliT,List.map_take,List.map_drop]
  obtain⟨S,hS⟩:∃S,S=sliT ⟨n,rows⟩ e to:=⟨_,rfl⟩
  rw[← hS] at hsl hsm
  simp only[F_combined_Cut_1,← hS,Int.toNat_natCast]
  rw[hcl,p6]
  obtain⟨F,hF⟩:∃F:Nat→Nat→Int,F=fun k p=>if p<k then l.getD p 0+(cfV S n p:Int) else l.getD p 0:=⟨_,rfl⟩
  have hF0:cellI (fun p=>l.getD p 0) n=cellI (F 0) n:=cellI_congr fun p _=>by rw[hF];simp
  rw[hF0]
  simp[x_combined_Cut_1,startA,p2,p3,hsm,eRCall,h1,show n≤32 by omega,hsl,show to-e≤1000000000 by omega]
  have hcb:∀p,cfV S n p≤1048576:=fun p=>by
    have:cfV S n p≤S.length:=List.countP_le_length
    omega
  have hlb:∀p,p≤n→0≤l.getD p 0∧l.getD p 0≤2000000000:=fun p hp=>by
    have e:l.getD p 0=l[p]'(by omega):=by simp[List.getD,show p<l.length by omega]
    rw[e]
    exact p7 _ (List.getElem_mem _)
  refine vc_lp (σ:=Nat) (fun k=>k≤n+1) (fun k=>n+1-k)
    (fun k=>[.d (.int .i64 to),.ref 0 0 0 0,.ref 1 0 0 0,.ref 2 0 0 0,.any,.any,.own 4 0 0 (n+1),.d (.int .i64 (n+1)),.d (.int .i64 k),.any])
    (fun k=>[.cells 0 2 [.d (.agg [.int .i64 n,.sl 3 (rows.map Rep.to)])],.cells 0 1 [.d (.int .i64 e)],.cells 0 1 [.own 3 v 0 (n+1)],.cells v 1 (cellI (F k) n),.cells 0 1 (cellN (cfV S n) n)]) 0 (by simp) (by simp) (by simp) ?_
  intro k k1
  by_cases hk:k<n+1
  · have w1:IntKind.i64.wrap ((k:Int)+1)=(k:Int)+1:=wrap_in (by omega) (by omega)
    have hFk:F k k=l.getD k 0:=by rw[hF];simp
    have hg:=cellI_get (F k) (n:=n) (p:=k) (by omega)
    have hg2:=cellN_get (cfV S n) (n:=n) (p:=k) (by omega)
    have hb:=hlb k (by omega)
    have hc:=hcb k
    rw[hFk] at hg
    have hset:=cellI_set (F k) (n:=n) (p:=k) (by omega) (l.getD k 0+(cfV S n k:Int))
    have hcn:cellI (fun q=>if q=k then l.getD k 0+(cfV S n k:Int) else F k q) n=cellI (F (k+1)) n:=cellI_congr fun q hq=>by
      rw[hF]
      simp only
      by_cases e:q=k
      · subst e;rw[if_pos rfl,if_pos (by omega)]
      · rw[if_neg e]
        by_cases e2:q<k
        · rw[if_pos e2,if_pos (by omega)]
        · rw[if_neg e2,if_neg (by omega)]
    rw[hcn] at hset
    generalize l.getD k 0=z at *
    have w3:IntKind.i64.wrap (z+(cfV S n k:Int))=z+(cfV S n k:Int):=wrap_in (by omega) (by omega)
    simp[show (k:Int)<(n:Int)+1 by omega,hk,hg,hg2,hFk,w3,hset,w1]
    exact Nxt.mk (k+1) (by omega) (by simp) (by simp) (by omega)
  · obtain rfl:k=n+1:=by omega
    have hend:cellI (F (n+1)) n=lstI (addL l S n):=by
      rw[cellI_l]
      congr 1
      apply List.map_congr_left
      intro p hp
      have:=List.mem_range.1 hp
      rw[hF]
      simp only
      rw[if_pos this]
    rw[hend]
    simp
    exact FinR.done (by simp) (by simp) rfl (by simp[resOf,resE]) (by simp) (by simp)
@[simp] def S_combined_Cut:List D→Prop × D:=spec4 (α:=Str) (β:=TableT) (γ:=List SpanT) (δ:=Bool) (fun path t l dense=>CutG path t l dense) (fun path t l dense=>.tup [Rep.to (cutC path t l dense),.int .i64 0])
@[simp] theorem objsL_lstI (l:List Int):A.objsL (lstI l)=[]:=objsL_d (fun z=>D.int .i64 z) l
theorem addL_cts (rows:List RowT) (n:Nat) (t:TableT) (ht:t.rows=rows) {a b:Nat} (h:a≤b):addL (ctsV (rows.take a) n) (sliT t a b) n=ctsV (rows.take b) n:=by
  unfold addL sliT
  rw[ctsV_eq (rows.take b),ht]
  apply List.map_congr_left
  intro p hp
  have hp:=List.mem_range.1 hp
  rw[ctsV_get _ (by omega),cfV_split rows n p h]
  push_cast
  rfl
theorem cts_zero (n:Nat):List.replicate (n+1) (A.d (.int .i64 0))=lstI (ctsV [] n):=by
  rw[cellN_zero,cellN_I,cellI_l,ctsV_eq]
  rfl
theorem cts_rng (rows:List RowT) (n:Nat) (hr:rows.length≤1048576):∀z,z∈ctsV rows n→0≤z∧z≤2000000000:=by
  intro z hz
  rw[ctsV_eq] at hz
  obtain⟨p,_,rfl⟩:=List.mem_map.1 hz
  have:cfV rows n p≤rows.length:=List.countP_le_length
  omega
structure CutX where
  i:Nat
  e:Nat
theorem ct_combined_Cut {P:Program} {f g1 g2 g3 g4 g5 g6 g7:Nat} {G:Gam} (h:CodeOf P f 4 22 [42005,6] (x_combined_Cut g1 g2 g3 g4 g5 g6 g7)) (hG:GamOk P G) (h1:G.find g1=some S_combined_named) (h2:G.find g2=some S_weave_Check) (h3:G.find g3=some S_combined_ordered) (h4:G.find g4=some S_slices_Clone_Row_Row) (h5:G.find g5=some S_combined_Check)
    (h6:G.findR g6=some R_slices_Clone_int_int) (h7:G.findR g7=some R_combined_Cut_1):Has P f S_combined_Cut:=h.has4 hG fun path t l dense hp=>by
  obtain⟨c1,c2,c3,c4,c5,c6,c7,c8,c9,c10⟩:=hp
  obtain⟨par,rows⟩:=t
  simp only at c5 c6 c8
  obtain⟨n,hn⟩:=Int.eq_ofNat_of_zero_le (show 0≤par by omega)
  subst hn
  have w0:IntKind.i64.wrap ((n:Int)+1)=(n:Int)+1:=wrap_in (by omega) (by omega)
  have e0:((n:Int)+1).toNat=n+1:=by omega
  obtain⟨H,hH⟩:∃H,l.map (cutH ⟨n,rows⟩)=H:=⟨_,rfl⟩
  have hCe:cutC path ⟨n,rows⟩ l dense=⟨path,dense,n,H⟩:=by rw[← hH];rfl
  rw[hCe] at c9 c10 ⊢
  simp[x_combined_Cut,h1,c1,h2,c3,c4,h3,c8,c7,w0,e0]
  have hrl:rows.length≤1048576:=c3.1
  refine⟨by omega,⟨by omega,by unfold room;omega,by omega⟩,?_⟩
  rw[cts_zero]
  obtain⟨hsF,hhs⟩:∃hsF:Nat→List CHunkT,∀k,hsF k=(l.take k).map (cutH ⟨n,rows⟩):=⟨_,fun _=>rfl⟩
  have hsl:∀k,k≤l.length→(hsF k).length=k:=fun k hk=>by rw[hhs];simp;omega
  refine vc_lpR (σ:=CutX) (fun z=>z.i≤l.length∧z.e≤rows.length∧ordC rows.length z.e (l.drop z.i)=true) (fun z=>l.length-z.i)
    (fun z=>[.any,.any,.any,.any,.ref 0 0 0 0,.ref 1 0 0 0,.any,.any,.ref 2 0 0 0,.ref 4 0 0 0,.any,.fn (.func g7) [] [.ref 0 0 0 0,.ref 5 0 0 0,.ref 4 0 0 0],.any,.any,.any,.any,.any,.d (.sl 2 (l.map Rep.to)),.d (.int .i64 l.length),.d (.int .i64 z.i),.any,.any])
    (fun z=>[.cells 0 2 [.d (.agg [.int .i64 n,.sl 3 (rows.map Rep.to)])],.cells 0 4 [.d (.agg [.str [],.bool false,.int .i64 0,.nilsl])],.cells 0 4 [.agg [.d (.str path),.d (.bool dense),.d (.int .i64 n),.gr 6 2 ((hsF z.i).map Rep.to)]],.cells 0 1 (lstI (ctsV (rows.take z.e) n)),.cells 0 1 [.own 3 0 0 (n+1)],.cells 0 1 [.d (.int .i64 z.e)],.tip z.i]) ⟨0,0⟩ ?_ ⟨by simp,by simp,by simpa using c8⟩ ?_
  · refine Re.wn (s':=[.cells 0 2 [.d (.agg [.int .i64 n,.sl 3 (rows.map Rep.to)])],.cells 0 4 [.d (.agg [.str [],.bool false,.int .i64 0,.nilsl])],.cells 0 4 [.agg [.d (.str path),.d (.bool dense),.d (.int .i64 n),.gr 6 2 []]],.cells 0 1 (lstI (ctsV [] n)),.cells 0 1 [.own 3 0 0 (n+1)],.cells 0 1 [.d (.int .i64 0)]]) [false,false,false,false,true,true,false,false,true,true,false,true,false,false,false,false,false,true,true,true] [.tip 0] (by simp) (by simp) ?_ ?_ (by simp[hhs])
    · simp
    · exact⟨.inl rfl,.inl rfl,.cellsL ⟨⟨rfl,⟨Wk.refl _ _ _,Wk.refl _ _ _,Wk.refl _ _ _,Wk.fresh 6 [.tip 0] 2 0 rfl,trivial⟩⟩,trivial⟩,.inl rfl,.inl rfl,.inl rfl,trivial⟩
  rintro⟨i,e⟩ ⟨i1,i2,i3⟩
  simp only at i1 i2 i3
  by_cases hi:i<l.length
  · have w1:IntKind.i64.wrap ((i:Int)+1)=(i:Int)+1:=wrap_in (by omega) (by omega)
    have hgi:l[i]?=some l[i]:=List.getElem?_eq_getElem hi
    have hnx:hsF (i+1)=hsF i++[cutH ⟨n,rows⟩ l[i]]:=by rw[hhs,hhs,List.take_succ_eq_append_getElem hi,List.map_append];rfl
    rw[List.drop_eq_getElem_cons hi] at i3
    simp only[ordC,Bool.and_eq_true,Bool.not_eq_true',Bool.or_eq_false_iff,decide_eq_false_iff_not] at i3
    obtain⟨⟨⟨o1,o2⟩,o3⟩,o4⟩:=i3
    have hsi:=hsl i (by omega)
    generalize hs:l[i]=s at *
    obtain⟨fr,to⟩:=s
    simp only at o1 o2 o3 o4
    obtain⟨a,rfl⟩:=Int.eq_ofNat_of_zero_le (show 0≤fr by omega)
    obtain⟨b,rfl⟩:=Int.eq_ofNat_of_zero_le (show 0≤to by omega)
    have a1:=addL_cts rows n ⟨n,rows⟩ rfl (a:=e) (b:=a) (by omega)
    have a2:=addL_cts rows n ⟨n,rows⟩ rfl (a:=a) (b:=b) (by omega)
    have hr1:=cts_rng (rows.take e) n (by simp;omega)
    have hr2:=cts_rng (rows.take a) n (by simp;omega)
    have hl1:=ctsV_len (rows.take e) n
    have hl2:=ctsV_len (rows.take a) n
    have hcut:cutH ⟨n,rows⟩ ⟨a,b⟩=⟨ctsV (rows.take a) n,sliT ⟨n,rows⟩ a b⟩:=rfl
    rw[hcut] at hnx
    have hsll:(sliT ⟨n,rows⟩ a b).length=b-a:=by simp[sliT];omega
    have hsm:List.take (b-a) (List.drop a (rows.map Rep.to))=(sliT ⟨n,rows⟩ a b).map Rep.to:=by simp[sliT,List.map_take,List.map_drop]
    have hne:sliT ⟨n,rows⟩ a b≠[]:=fun h=>by rw[h] at hsll;simp at hsll;omega
    generalize hX:ctsV (rows.take e) n=X at *
    generalize hY:ctsV (rows.take a) n=Y at *
    generalize hS:sliT ⟨n,rows⟩ a b=S at *
    have d1:e≤a:=by omega
    have d2:a≤b:=by omega
    have d3:a≤rows.length:=by omega
    have d4:b≤rows.length:=by omega
    simp[hi,hgi,hs,eCallv,eRCall,h7,hrl,hl1,hl2,d1,d2,d3,d4,c5,c6,hr1,hr2,a1,a2,h6,h4,hne,hsm,hsll,hS,w1]
    refine⟨hr1,by omega,by omega,⟨by omega,by unfold room;omega⟩,hr2,Nxt.mk ⟨i+1,b⟩ (by simp only;omega) (by simp) (by simp[hnx]) ⟨by simp only;omega,by simp only;omega,o4⟩⟩
  · obtain rfl:i=l.length:=by omega
    have hall:hsF l.length=H:=by rw[hhs,List.take_length,hH]
    rw[hall]
    simp
    refine Hint.of (T':=[.any,.any,.any,.any,.any,.ref 1 0 0 0,.any,.any,.ref 2 0 0 0,.any,.any,.any,.any,.any,.any,.any,.any,.any,.any,.any,.any,.any])
      (s':=[.cells 0 2 [.d (.agg [.int .i64 n,.sl 3 (rows.map Rep.to)])],.cells 0 4 [.d (.agg [.str [],.bool false,.int .i64 0,.nilsl])],.cells 0 4 [.d (.agg [.str path,.bool dense,.int .i64 n,.sl 2 (H.map Rep.to)])],.cells 0 1 (lstI (ctsV (rows.take e) n)),.cells 0 1 [.own 3 0 0 (n+1)],.cells 0 1 [.d (.int .i64 e)],.tip l.length])
      (Re.wn (s':=[.cells 0 2 [.d (.agg [.int .i64 n,.sl 3 (rows.map Rep.to)])],.cells 0 4 [.d (.agg [.str [],.bool false,.int .i64 0,.nilsl])],.cells 0 4 [.d (.agg [.str path,.bool dense,.int .i64 n,.sl 2 (H.map Rep.to)])],.cells 0 1 (lstI (ctsV (rows.take e) n)),.cells 0 1 [.own 3 0 0 (n+1)],.cells 0 1 [.d (.int .i64 e)],.tip l.length]) [false,false,false,false,false,true,false,false,true] [] (by simp) (by simp) (by simp) ⟨.inl rfl,.inl rfl,.cellsL ⟨⟨rfl,⟨Wk.refl _ _ _,Wk.refl _ _ _,Wk.refl _ _ _,Wk.gr _ _ _ _ _,trivial⟩⟩,trivial⟩,.inl rfl,.inl rfl,.inl rfl,.inl rfl,trivial⟩ (by simp)) ?_
    simp[h5,c9,c10]
theorem cfV_col (rows:List RowT) {n p:Nat} (hp:p<n):cfV rows n p=(colV rows p).length:=by
  unfold cfV colV
  rw[List.length_map,List.countP_eq_length_filter]
  congr 1
  apply List.filter_congr
  intro r _
  unfold visN
  rw[if_pos hp]
theorem cfV_res (rows:List RowT) (n:Nat):cfV rows n n=(colV rows (-1)).length:=by
  unfold cfV colV
  rw[List.length_map,List.countP_eq_length_filter]
  congr 1
  apply List.filter_congr
  intro r _
  unfold visN
  rw[if_neg (by omega),vis_res]
theorem make_tabS {r:Str} {ps:List Str} {B L:Nat} (h:Small r ps B) (hL:L≤25) (h1:(linesV r).length≤L) (h2:∀p,p∈ps→(linesV p).length≤L) (hB:B * (((B+1) * ps.length+1) * (B+2))≤4194304):TabS (makeV r ps) ps.length L B where
  par:=rfl
  n1:=h.n1
  n2:=h.n2
  valid:=make_valid h
  ok:=make_tabOk h hB
  cols p hp:=by
    by_cases c:p<ps.length
    · rw[cfV_col _ c,make_col h c]
      exact h2 _ (List.getElem_mem c)
    · obtain rfl:p=ps.length:=by omega
      rw[cfV_res,make_res]
      exact h1
  texts x hx:=(make_text h hx).2
  l1:=hL
  b1:=h.b1
theorem ord_of {n:Int}:∀(l:List SpanT) (e:Int),(∀s,s∈l→e≤s.fr∧s.fr<s.to∧s.to≤n)→l.Pairwise (fun s t=>s.to<t.fr)→ordC n e l=true
  | [],_,_,_=>rfl
  | s::l,e,h,hp=>by
    obtain⟨h1,h2,h3⟩:=h s (by simp)
    obtain⟨p1,p2⟩:=List.pairwise_cons.1 hp
    have ih:=ord_of l s.to (fun t ht=>by
      have a:=p1 t ht
      have b:=h t (by simp[ht])
      exact⟨by omega,b.2.1,b.2.2⟩) p2
    simp only[ordC,ih,Bool.and_true,Bool.not_eq_true',Bool.or_eq_false_iff,decide_eq_false_iff_not]
    exact⟨⟨by omega,by omega⟩,by omega⟩
theorem hunks_ord (t:TableT) (c:Int) (all:Bool):ordC t.rows.length 0 (hunksV t c all)=true:=by
  have h:=spV_ok (nearB (intV t all) c) t.rows.length
  refine ord_of _ _ (fun s hs=>?_) h.asc
  obtain⟨h1,h2,h3,_⟩:=h.rng s hs
  exact⟨h1,h2,h3⟩
def fullSp (t:TableT):List SpanT:=if t.rows=[] then [] else [⟨0,t.rows.length⟩]
theorem full_ord (t:TableT):ordC t.rows.length 0 (fullSp t)=true:=by
  unfold fullSp
  split
  · rfl
  · rename_i c
    have:=List.length_pos_iff.2 c
    simp[ordC]
    omega
def fullC (path r:Str) (ps:List Str):CombT:=cutC path (makeV r ps) (fullSp (makeV r ps)) false
def madeC (path r:Str) (ps:List Str) (c:Int) (dense:Bool):CombT:=cutC path (makeV r ps) (hunksV (makeV r ps) c (!dense)) dense
structure SmlC (r:Str) (ps:List Str) (B L:Nat):Prop where
  small:Small r ps B
  l0:L≤25
  l1:(linesV r).length≤L
  l2:∀p,p∈ps→(linesV p).length≤L
  b:B * (((B+1) * ps.length+1) * (B+2))≤4194304
theorem SmlC.tab {r:Str} {ps:List Str} {B L:Nat} (h:SmlC r ps B L):TabS (makeV r ps) ps.length L B:=make_tabS h.small h.l0 h.l1 h.l2 h.b
theorem SmlC.full {r:Str} {ps:List Str} {B L:Nat} (h:SmlC r ps B L) {path:Str} (hn:namedB path=true) (hp:path.length≤1000):CutG path (makeV r ps) (fullSp (makeV r ps)) false∧(writC (fullC path r ps)).length≤800000:=by
  obtain⟨h1,h2⟩:=h.tab.cut hn hp (full_ord (makeV r ps)) false
  refine⟨h1,?_⟩
  have hl:=h.tab.len
  have hs:(fullSp (makeV r ps)).length≤1:=by unfold fullSp;split <;> simp
  have h3:=Nat.mul_le_mul h.l0 (show ps.length+1≤33 by have:=h.small.n2;omega)
  have h4:=Nat.mul_le_mul (show 62+B≤162 by have:=h.small.b1;omega) (show (makeV r ps).rows.length≤825 by omega)
  have h5:=Nat.mul_le_mul (show 47 * (ps.length+1)+10≤1561 by have:=h.small.n2;omega) hs
  unfold fullC
  omega
theorem SmlC.made {r:Str} {ps:List Str} {B L:Nat} (h:SmlC r ps B L) {path:Str} (hn:namedB path=true) (hp:path.length≤1000) (c:Int) (dense:Bool) (hps:ps.length≤5):CutG path (makeV r ps) (hunksV (makeV r ps) c (!dense)) dense∧(writC (madeC path r ps c dense)).length≤800000:=by
  have ho:=hunks_ord (makeV r ps) c (!dense)
  obtain⟨h1,h2⟩:=h.tab.cut hn hp ho dense
  refine⟨h1,?_⟩
  have hl:=h.tab.len
  obtain⟨o1,_,_⟩:=ord_len (N:=(makeV r ps).rows.length) _ 0 ho (by omega)
  have h3:=Nat.mul_le_mul h.l0 (show ps.length+1≤6 by omega)
  have h4:=Nat.mul_le_mul (show 62+B≤162 by have:=h.small.b1;omega) (show (makeV r ps).rows.length≤150 by omega)
  have h5:=Nat.mul_le_mul (show 47 * (ps.length+1)+10≤292 by omega) (show (hunksV (makeV r ps) c (!dense)).length≤150 by omega)
  unfold madeC
  omega
theorem small_make {r:Str} {ps:List Str} {B:Nat} (h:Small r ps B):makeD r ps=.tup [Rep.to (makeV r ps),.int .i64 0]:=by
  have:=h.n1
  have:=h.n2
  unfold makeD
  rw[if_neg (by omega)]
structure FullG (path r:Str) (ps:List Str):Prop where
  named:namedB path=true
  plen:path.length≤1000
  sml:SmlC r ps 24 25
@[simp] def S_combined_Full:List D→Prop × D:=spec3 (α:=Str) (β:=Str) (γ:=List Str) (fun path r ps=>FullG path r ps) (fun path r ps=>.tup [Rep.to (fullC path r ps),.int .i64 0])
theorem ct_combined_Full {P:Program} {f g1 g2 g3:Nat} {G:Gam} (h:CodeOf P f 3 11 [42003,4] (x_combined_Full g1 g2 g3)) (hG:GamOk P G) (h1:G.find g1=some S_combined_named) (h2:G.find g2=some S_weave_Make) (h3:G.find g3=some S_combined_Cut):Has P f S_combined_Full:=h.has3 hG fun path r ps hp=>by
  obtain⟨p1,p2,p3⟩:=hp
  have hm:=small_make p3.small
  have hc:=(p3.full p1 p2).1
  have q1:r.length≤100:=by have:=p3.small.hr;omega
  have q2:∀p,p∈ps→p.length≤100:=fun p hp=>by have:=p3.small.hp p hp;omega
  have hrl:=p3.tab.ok.1
  have hfc:fullC path r ps=cutC path (makeV r ps) (fullSp (makeV r ps)) false:=rfl
  have hfs:fullSp (makeV r ps)=if (makeV r ps).rows=[] then [] else [⟨0,(makeV r ps).rows.length⟩]:=rfl
  rw[hfc]
  generalize makeV r ps=t at *
  have hte:∀l d,CutG path ⟨t.parents,t.rows⟩ l d=CutG path t l d:=fun _ _=>rfl
  have hce:∀l d,cutC path ⟨t.parents,t.rows⟩ l d=cutC path t l d:=fun _ _=>rfl
  generalize hC:cutC path t (fullSp t) false=C at *
  by_cases c:t.rows=[]
  · rw[if_pos c] at hfs
    rw[hfs] at hC hc
    have he:(⟨t.parents,[]⟩:TableT)=t:=by rw[← c]
    have hte2:∀l d,CutG path ⟨t.parents,[]⟩ l d=CutG path t l d:=fun _ _=>by rw[he]
    have hce2:∀l d,cutC path ⟨t.parents,[]⟩ l d=cutC path t l d:=fun _ _=>by rw[he]
    simp[x_combined_Full,h1,p1,h2,q1,hm,c,h3,hte2,hce2,hc,hC]
    exact q2
  · rw[if_neg c] at hfs
    rw[hfs] at hC hc
    have hl:=List.length_pos_iff.2 c
    simp[x_combined_Full,h1,p1,h2,q1,q2,hm,c,hl,h3,hte,hc,hce,hC]
    exact q2
structure MadeG (path r:Str) (ps:List Str) (c:Int):Prop where
  named:namedB path=true
  plen:path.length≤1000
  sml:SmlC r ps 100 20
  n:ps.length≤5
  c1:0≤c
  c2:c≤1048576
@[simp] def S_combined_Make:List D→Prop × D:=spec5 (α:=Str) (β:=Str) (γ:=List Str) (δ:=Int) (ε:=Bool) (fun path r ps c _=>MadeG path r ps c) (fun path r ps c dense=>.tup [Rep.to (madeC path r ps c dense),.int .i64 0])
theorem ct_combined_Make {P:Program} {f g1 g2 g3 g4:Nat} {G:Gam} (h:CodeOf P f 5 13 [42005,6] (x_combined_Make g1 g2 g3 g4)) (hG:GamOk P G) (h1:G.find g1=some S_combined_named) (h2:G.find g2=some S_weave_Make) (h3:G.find g3=some S_interest_Hunks) (h4:G.find g4=some S_combined_Cut):Has P f S_combined_Make:=h.has5 hG fun path r ps c dense hp=>by
  obtain⟨p1,p2,p3,p4,p5,p6⟩:=hp
  have hm:=small_make p3.small
  have hc:=(p3.made p1 p2 c dense p4).1
  have q1:r.length≤100:=p3.small.hr
  have q2:∀p,p∈ps→p.length≤100:=fun p hp=>p3.small.hp p hp
  have hok:=p3.tab.ok
  have hv:=p3.tab.valid
  have hfc:madeC path r ps c dense=cutC path (makeV r ps) (hunksV (makeV r ps) c (!dense)) dense:=rfl
  rw[hfc]
  generalize makeV r ps=t at *
  have hhd:hunksD t c dense=.tup [Rep.to (hunksV t c (!dense)),.int .i64 0]:=by unfold hunksD;rw[if_pos hv,if_pos ⟨p5,p6⟩]
  have hok2:tabOk ⟨t.parents,t.rows⟩:=hok
  have hhd2:hunksD ⟨t.parents,t.rows⟩ c dense=hunksD t c dense:=rfl
  have hte:∀l d,CutG path ⟨t.parents,t.rows⟩ l d=CutG path t l d:=fun _ _=>rfl
  have hce:∀l d,cutC path ⟨t.parents,t.rows⟩ l d=cutC path t l d:=fun _ _=>rfl
  generalize hunksV t c (!dense)=H at *
  generalize hC:cutC path t H dense=C at *
  simp[x_combined_Make,h1,p1,h2,q1,hm,h3,hok2,hhd2,hhd,h4,hte,hc,hce,hC]
  exact q2
/-! ### a text and its lines -/
def joinC (c:UInt8):List Str→Str
  | []=>[]
  | [w]=>w
  | w::v::r=>w++c::joinC c (v::r)
theorem splitC_word (c:UInt8):∀(w cur s:Str),c ∉ w→splitC c cur (w++s)=splitC c (cur++w) s
  | [],cur,s,_=>by simp
  | x::w,cur,s,h=>by
    have h1:x≠c:=fun e=>h (by simp[e])
    have h2:c ∉ w:=fun e=>h (by simp[e])
    simp only[List.cons_append,splitC,if_neg h1]
    rw[splitC_word c w (cur++[x]) s h2]
    simp
theorem splitC_join (c:UInt8):∀(ws:List Str),ws≠[]→(∀w,w∈ws→c ∉ w)→splitC c [] (joinC c ws)=ws
  | [],h,_=>absurd rfl h
  | [w],_,h=>by
    have:=splitC_word c w [] [] (h w (by simp))
    simp only[List.append_nil,List.nil_append] at this
    rw[joinC,this]
    rfl
  | w::v::r,_,h=>by
    have h1:=splitC_word c w [] (c::joinC c (v::r)) (h w (by simp))
    have h2:=splitC_join c (v::r) (by simp) fun x hx=>h x (by simp at hx ⊢;exact .inr hx)
    rw[joinC,h1,splitC,if_pos rfl,h2]
    simp
theorem join_end (c:UInt8):∀ws:List Str,ws≠[]→ws.flatMap (fun w=>w++[c])=joinC c ws++[c]
  | [],h=>absurd rfl h
  | [w],_=>by simp[joinC]
  | w::v::r,_=>by
    have:=join_end c (v::r) (by simp)
    rw[List.flatMap_cons,this,joinC]
    simp
theorem join_begin (c:UInt8):∀ws:List Str,ws≠[]→ws.flatMap (fun w=>c::w)=c::joinC c ws
  | [],h=>absurd rfl h
  | [w],_=>by simp[joinC]
  | w::v::r,_=>by
    have:=join_begin c (v::r) (by simp)
    rw[List.flatMap_cons,this,joinC]
    simp
theorem splS_join {ws:List Str} (h0:ws≠[]) (h:∀w,w∈ws→(32:UInt8) ∉ w):splS (joinC 32 ws)=ws:=by
  unfold splS
  rw[splitK_C 32 _ _ rfl,splitC_join 32 ws h0 h]
theorem linesS_join {ws:List Str} (h0:ws≠[]) (h:∀w,w∈ws→(10:UInt8) ∉ w):linesS (ws.flatMap fun w=>w++[10])=(ws,true):=by
  rw[join_end 10 ws h0]
  have hs:Lib.hasSuffix (joinC 10 ws++[10]) [10]=true:=by
    rw[hasSuffix_ended]
    simp[endedV]
  have hc:cutSuf (joinC 10 ws++[10]) [10]=joinC 10 ws:=by
    unfold cutSuf
    rw[if_pos hs]
    simp
  unfold linesS
  rw[if_neg (by simp),if_pos hs,hc,splitK_C 10 _ _ rfl,splitC_join 10 ws h0 h]
/-! ### a row -/
def mkB (r:RowT) (p:Nat):UInt8:=if getU r.marks p=1 then (if r.lost then 45 else 43) else 32
theorem markW_get (r:RowT):∀(n p:Nat) (s:Str),p<n→(markW r n++s).getD p 0=mkB r p
  | 0,_,_,h=>by omega
  | n+1,p,s,h=>by
    have hl:=markW_len r n
    by_cases e:p=n
    · subst e
      rw[markW,List.append_assoc]
      simp only[List.getD]
      rw[List.getElem?_append_right (by omega),hl]
      simp[mkB]
    · rw[markW,List.append_assoc]
      exact markW_get r n p _ (by omega)
theorem mod_pow_succ (m p:Nat):m % 2 ^ (p+1)=m % 2 ^ p ||| (if m.testBit p=true then 2 ^ p else 0):=by
  apply Nat.eq_of_testBit_eq
  intro q
  rw[Nat.testBit_or,Nat.testBit_mod_two_pow,Nat.testBit_mod_two_pow]
  by_cases e:q=p
  · subst e
    cases h:m.testBit q with
    | true=>simp[Nat.testBit_two_pow_self]
    | false=>simp
  · have h1:(if m.testBit p=true then 2 ^ p else 0).testBit q=false:=by
      split
      · rw[Nat.testBit_two_pow];simp;omega
      · simp
    rw[h1,Bool.or_false]
    have h2:decide (q<p+1)=decide (q<p):=by rw[decide_eq_decide];omega
    rw[h2]
theorem rdM_mark {r:RowT} {m:Nat} (hm:r.marks=m) (hlt:m<4294967296) (s:Str) {n:Nat} (hn:n≤32):∀p,p≤n→rdM (markW r n++s) p=some (if r.lost=true then (0,m % 2 ^ p) else (m % 2 ^ p,0))
  | 0,_=>by
    rw[rdM,Nat.pow_zero,Nat.mod_one]
    cases r.lost <;> rfl
  | p+1,hp=>by
    have ih:=rdM_mark hm hlt s hn p (by omega)
    have hg:=markW_get r n p s (by omega)
    have hs:=mod_pow_succ m p
    have hb:=getU_nat (m:=m) (p:=p) hlt (by omega)
    rw[rdM,ih,hg]
    unfold mkB
    rw[hm,hb]
    cases hl:r.lost with
    | true =>
      cases ht:m.testBit p with
      | true =>
        rw[ht] at hs
        simp only[if_true] at hs ⊢
        rw[hs]
        simp
      | false =>
        rw[ht] at hs
        simp only[Bool.false_eq_true,if_false,Nat.or_zero] at hs ⊢
        rw[hs]
        simp
    | false =>
      cases ht:m.testBit p with
      | true =>
        rw[ht] at hs
        simp only[if_true] at hs ⊢
        rw[hs]
        simp
      | false =>
        rw[ht] at hs
        simp only[Bool.false_eq_true,if_false,Nat.or_zero] at hs ⊢
        rw[hs]
        simp
theorem rowRd_mark {r:RowT} {n:Nat} (hr:rowOk r) (hm:markB n r=true) (h1:1≤n) (h2:n≤32) (s:Str):rowRd (markW r n++s) n=(⟨r.lost,r.marks,s⟩,true):=by
  obtain⟨m,hmm⟩:=Int.eq_ofNat_of_zero_le hr.1
  have hlt:m<4294967296:=by have:=hr.2;omega
  have hl:=markW_len r n
  unfold markB at hm
  rw[hmm,Bool.and_eq_true] at hm
  obtain⟨m1,m2⟩:=hm
  simp only[Int.toNat_natCast,decide_eq_true_eq] at m1
  have hd:=rdM_mark hmm hlt s h2 n (Nat.le_refl _)
  rw[Nat.mod_eq_of_lt m1] at hd
  unfold rowRd
  rw[if_neg (by simp[hl];omega),Int.toNat_natCast,hd]
  have hdr:(markW r n++s).drop n=s:=by rw[List.drop_append_of_le_length (by omega),List.drop_of_length_le (by omega)];rfl
  cases hlo:r.lost with
  | true =>
    rw[hlo] at m2
    have hm0:m≠0:=by simpa using m2
    simp[hm0,hdr,hmm]
  | false=>simp[hdr,hmm]
def rowL (n:Nat) (r:RowT):List Str:=if endedV r.text=true then [markW r n++r.text.dropLast] else [markW r n++r.text,unendL]
theorem unendS_eq:unendS=10::(unendL++[10]):=rfl
theorem ended_last {s:Str} (h:endedV s=true):s=s.dropLast++[10]:=by
  unfold endedV at h
  rw[decide_eq_true_eq] at h
  have hne:s≠[]:=by intro e;subst e;simp at h
  have:=List.dropLast_concat_getLast hne
  rw[List.getLast?_eq_some_getLast hne] at h
  rw[Option.some.inj h] at this
  exact this.symm
theorem rowW_lines (n:Nat) (r:RowT):rowW r n=(rowL n r).flatMap fun w=>w++[10]:=by
  unfold rowW rowL
  by_cases h:endedV r.text=true
  · rw[if_pos h,if_pos h]
    have:=ended_last h
    simp only[List.flatMap_cons,List.flatMap_nil,List.append_nil,List.append_assoc]
    rw[← this]
  · rw[if_neg h,if_neg h,unendS_eq]
    simp
theorem markW_free (r:RowT) (n:Nat):(10:UInt8) ∉ markW r n:=by
  induction n with
  | zero=>simp[markW]
  | succ n ih =>
    rw[markW,List.mem_append]
    rintro (h | h)
    · exact ih h
    · rw[List.mem_singleton] at h
      split at h
      · split at h <;> exact absurd h (by decide)
      · exact absurd h (by decide)
theorem okL_free {s:Str} (h:okL s=true) (he:endedV s=false):(10:UInt8) ∉ s:=by
  unfold okL at h
  rw[decide_eq_true_eq] at h
  obtain⟨h1,h2⟩:=h
  have h3:=List.dropLast_concat_getLast h1
  intro hc
  rw[← h3,List.mem_append] at hc
  rcases hc with hc | hc
  · exact h2 hc
  · rw[List.mem_singleton] at hc
    unfold endedV at he
    rw[List.getLast?_eq_some_getLast h1,← hc] at he
    simp at he
theorem rowL_free {r:RowT} {n:Nat} (h:lineB r.text=true):∀w,w∈rowL n r→(10:UInt8) ∉ w:=by
  intro w hw
  have hm:=markW_free r n
  have h:okL r.text=true:=h
  unfold rowL at hw
  split at hw
  · rw[List.mem_singleton] at hw
    subst hw
    rw[List.mem_append]
    unfold okL at h
    rw[decide_eq_true_eq] at h
    rintro (hc | hc)
    · exact hm hc
    · exact h.2 hc
  · rename_i he
    have hf:=okL_free h (by simpa using he)
    simp only[List.mem_cons,List.not_mem_nil,or_false] at hw
    rcases hw with rfl | rfl
    · rw[List.mem_append]
      rintro (hc | hc)
      · exact hm hc
      · exact hf hc
    · decide
theorem markW_head (r:RowT) {n:Nat} (hn:1≤n) (s:Str):∃b t,markW r n++s=b::t∧(b=43∨b=45∨b=32):=by
  have h:=markW_get r n 0 s (by omega)
  have hl:=markW_len r n
  cases hm:markW r n++s with
  | nil =>
    have:=congrArg List.length hm
    simp[hl] at this
    omega
  | cons b t =>
    rw[hm] at h
    refine⟨b,t,rfl,?_⟩
    simp at h
    rw[h]
    unfold mkB
    split
    · split
      · exact .inr (.inl rfl)
      · exact .inl rfl
    · exact .inr (.inr rfl)
theorem trim_ten (s:Str):Lib.trimSuffix (s++[10]) [10]=s:=by
  have hs:Lib.hasSuffix (s++[10]) [10]=true:=by
    rw[hasSuffix_ended]
    simp[endedV]
  unfold Lib.trimSuffix
  rw[if_pos hs]
  simp
theorem endRow_app:∀(l:List RowT) (r:RowT),endRow (l++[r])=l++[⟨r.lost,r.marks,Lib.trimSuffix r.text [10]⟩]
  | [],_=>rfl
  | [x],_=>rfl
  | x::y::l,r=>by
    have:=endRow_app (y::l) r
    rw[List.cons_append] at this
    rw[List.cons_append,List.cons_append,endRow,this]
    rfl
theorem foldR_app:∀(a b:List Str) (x y:RsT),foldR x a=some y→foldR x (a++b)=foldR y b
  | [],b,x,y,h=>by
    rw[foldR] at h
    rw[List.nil_append,Option.some.inj h]
  | l::a,b,x,y,h=>by
    rw[foldR] at h
    rw[List.cons_append,foldR]
    cases hl:lineR x l with
    | none=>rw[hl] at h;cases h
    | some z =>
      rw[hl] at h
      exact foldR_app a b z y h
theorem line_row {x:RsT} {h:CHunkT} {line:Str} (hc:x.cur=some h) (h1:Lib.hasPrefix line [64]=false) (h2:line≠unendL) (h3:(rowRd (line++[10]) x.par).2=true):lineR x line=some ⟨x.path,x.dense,x.par,x.done,some ⟨h.at_,h.rows++[(rowRd (line++[10]) x.par).1]⟩⟩:=by
  unfold lineR
  rw[if_neg (by rw[h1];simp),hc]
  simp only
  rw[if_neg h2,if_pos h3]
theorem line_unend {x:RsT} {h:CHunkT} (hc:x.cur=some h) (h1:h.rows≠[]):lineR x unendL=some ⟨x.path,x.dense,x.par,x.done,some ⟨h.at_,endRow h.rows⟩⟩:=by
  unfold lineR
  rw[if_neg (by decide),hc]
  simp only
  rw[if_pos trivial,if_neg h1]
theorem fold_row {n:Nat} (h1:1≤n) (h2:n≤32) {r:RowT} (hr:rowOk r) (hm:markB n r=true) (hl:lineB r.text=true) (path:Str) (dense:Bool) (done:List CHunkT) (a:List Int) (acc:List RowT) :
    foldR ⟨path,dense,n,done,some ⟨a,acc⟩⟩ (rowL n r)=some ⟨path,dense,n,done,some ⟨a,acc++[r]⟩⟩:=by
  have hrd:=rowRd_mark hr hm h1 h2
  have hpre:∀s,Lib.hasPrefix (markW r n++s) [64]=false∧markW r n++s≠unendL:=fun s=>by
    obtain⟨b,t,e,hb⟩:=markW_head r h1 s
    rw[e]
    refine⟨?_,?_⟩
    · unfold Lib.hasPrefix
      rcases hb with rfl | rfl | rfl <;> simp[List.isPrefixOf]
    · intro hc
      unfold unendL at hc
      have:=(List.cons.inj hc).1
      rcases hb with rfl | rfl | rfl <;> exact absurd this (by decide)
  unfold rowL
  by_cases he:endedV r.text=true
  · rw[if_pos he]
    have hw:=ended_last he
    obtain⟨p1,p2⟩:=hpre r.text.dropLast
    have hx:rowRd (markW r n++r.text.dropLast++[10]) n=(r,true):=by
      rw[List.append_assoc,← hw,hrd]
    have:=line_row (x:=⟨path,dense,n,done,some ⟨a,acc⟩⟩) rfl p1 p2 (by rw[hx])
    rw[foldR,this]
    simp only[foldR,hx]
  · rw[if_neg he]
    obtain⟨p1,p2⟩:=hpre r.text
    have hx:rowRd (markW r n++r.text++[10]) n=(⟨r.lost,r.marks,r.text++[10]⟩,true):=by
      rw[List.append_assoc,hrd]
    have e1:=line_row (x:=⟨path,dense,n,done,some ⟨a,acc⟩⟩) rfl p1 p2 (by rw[hx])
    rw[hx] at e1
    have e2:=line_unend (x:=⟨path,dense,n,done,some ⟨a,acc++[⟨r.lost,r.marks,r.text++[10]⟩]⟩⟩) rfl (by simp)
    rw[endRow_app,trim_ten] at e2
    rw[foldR,e1]
    simp only
    rw[foldR,e2]
    rfl
theorem fold_rows {n:Nat} (h1:1≤n) (h2:n≤32) (path:Str) (dense:Bool) (done:List CHunkT) (a:List Int):∀(rows acc:List RowT),(∀r,r∈rows→rowOk r∧markB n r=true∧lineB r.text=true) →
    foldR ⟨path,dense,n,done,some ⟨a,acc⟩⟩ (rows.flatMap (rowL n))=some ⟨path,dense,n,done,some ⟨a,acc++rows⟩⟩
  | [],acc,_=>by simp[foldR]
  | r::rows,acc,h=>by
    obtain⟨q1,q2,q3⟩:=h r (by simp)
    have e1:=fold_row h1 h2 q1 q2 q3 path dense done a acc
    rw[List.flatMap_cons,foldR_app _ _ _ _ e1,fold_rows h1 h2 path dense done a rows (acc++[r]) fun x hx=>h x (by simp[hx])]
    simp
end Go.AE
namespace Go.AE
theorem joinD_P (l:List Str):(listV l=true∧joinD l=.tup [.str (joinP l).1,.int .i64 (joinP l).2]∧(joinP l).2≠2)∨(listV l=false∧joinD l=.tup [.str [],.int .i64 2]∧joinP l=([],140)):=by
  unfold joinD joinP
  cases c:listV l with
  | true =>
    left
    rw[join_flat]
    by_cases d:flen l≤1048576∧l.length≤4096
    · simp[d]
    · simp[d]
  | false=>right;simp
def colD (rows:List RowT) (c:Int) (i:Nat):List D:=(colV (rows.take i) c).map Rep.to
theorem colV_succ {rows:List RowT} {i:Nat} (hi:i<rows.length) (c:Int):colV (rows.take (i+1)) c=colV (rows.take i) c++(if visB rows[i] c=true then [rows[i].text] else []):=by
  unfold colV
  rw[List.take_succ_eq_append_getElem hi,List.filter_append,List.map_append]
  congr 1
  cases h:visB rows[i] c <;> simp[h]
theorem colV_le (rows:List RowT) (c:Int):(colV rows c).length≤rows.length∧flen (colV rows c)≤flen (rows.map RowT.text):=by
  induction rows with
  | nil=>simp[colV,flen]
  | cons r rs ih =>
    have e:colV (r::rs) c=(if visB r c=true then [r.text] else [])++colV rs c:=by
      unfold colV
      cases h:visB r c <;> simp[h]
    obtain⟨h1,h2⟩:=ih
    have e2:flen ((r::rs).map RowT.text)=r.text.length+flen (rs.map RowT.text):=by simp[flen]
    rw[e,e2,List.length_append,List.length_cons]
    have e3:∀a b:List Str,flen (a++b)=flen a+flen b:=fun a b=>by simp[flen]
    rw[e3]
    split
    · have:flen [r.text]=r.text.length:=by simp[flen]
      simp only[List.length_singleton]
      omega
    · have:flen []=0:=rfl
      simp only[List.length_nil]
      omega
@[simp] def S_project_column:List D→Prop × D:=spec2 (α:=TableT) (β:=Int) (fun t _=>tabOk t) (fun t c=>joinD (colV t.rows c))
theorem ct_project_column {P:Program} {f g1 g2:Nat} {G:Gam} (h:CodeOf P f 2 12 [3,4] (x_project_column g1 g2)) (hG:GamOk P G) (h1:G.find g1=some S_weave_Visible) (h2:G.find g2=some S_text_Join):Has P f S_project_column:=h.has2 hG fun t c hp=>by
  obtain⟨p1,p2,p3⟩:=hp
  obtain⟨par,rows⟩:=t
  simp only at p1 p2 p3
  obtain⟨z1,z2⟩:=colV_le rows c
  simp[x_project_column]
  refine vc_lp (σ:=Nat) (fun i=>i≤rows.length) (fun i=>rows.length-i)
    (fun i=>[.any,.d (.int .i64 c),.ref 0 0 0 0,.any,.any,.gr 1 1 (colD rows c i),.any,.d (.sl 3 (rows.map Rep.to)),.d (.int .i64 rows.length),.d (.int .i64 i),.any,.any])
    (fun i=>[.cells 0 2 [.d (Rep.to (⟨par,rows⟩:TableT))],.tip (colV (rows.take i) c).length]) 0 (by simp[colD,colV]) (by simp[colV]) (by simp) ?_
  intro i i1
  have hcl:(colD rows c i).length=(colV (rows.take i) c).length:=by simp[colD]
  have hcb:=(colV_le (rows.take i) c).1
  rw[List.length_take] at hcb
  by_cases hi:i<rows.length
  · have w1:IntKind.i64.wrap ((i:Int)+1)=(i:Int)+1:=wrap_in (by omega) (by omega)
    have hs:=colV_succ hi c
    have hve:visB ⟨rows[i].lost,rows[i].marks,rows[i].text⟩ c=visB rows[i] c:=rfl
    cases hv:visB rows[i] c with
    | true =>
      rw[hv,if_pos rfl] at hs
      have hd:colD rows c i++[.str rows[i].text]=colD rows c (i+1):=by unfold colD;rw[hs,List.map_append];rfl
      have hl2:=congrArg List.length hs
      rw[List.length_append,List.length_singleton] at hl2
      simp[hi,getD_map,h1,hve,hv,hcl,w1,hd]
      exact⟨by unfold room;omega,Nxt.mk (i+1) (by omega) (by simp) (by simp[hl2]) (by omega)⟩
    | false =>
      rw[hv,if_neg (by simp),List.append_nil] at hs
      have hd:colD rows c i=colD rows c (i+1):=by unfold colD;rw[hs]
      rw[hd]
      simp[hi,getD_map,h1,hve,hv,w1]
      exact Nxt.mk (i+1) (by omega) (by simp) (by simp[hs]) (by omega)
  · obtain rfl:i=rows.length:=by omega
    have e:colD rows c rows.length=(colV rows c).map Rep.to:=by unfold colD;rw[List.take_length]
    rw[e]
    have hj:joinD (colV rows c)=.tup [.str (joinP (colV rows c)).1,.int .i64 (if listV (colV rows c)=true then (joinP (colV rows c)).2 else 2)]:=by
      rcases joinD_P (colV rows c) with ⟨a1,a2,_⟩ | ⟨a1,a2,a3⟩
      · rw[a2,if_pos a1]
      · rw[a2,a3,if_neg (by rw[a1];simp)]
    simp[h2,show flen (colV rows c)≤4194304 by omega,show (colV rows c).length≤4194304 by omega,hj]
def columnD (t:TableT) (c:Int):D:=if checkTab t≠0 then .tup [.str [],.int .i64 (checkTab t)] else if c < -1∨t.parents≤c then .tup [.str [],.int .i64 3] else joinD (colV t.rows c)
@[simp] def S_project_Column:List D→Prop × D:=spec2 (α:=TableT) (β:=Int) (fun t _=>tabOk t) (fun t c=>columnD t c)
theorem ct_project_Column {P:Program} {f g1 g2:Nat} {G:Gam} (h:CodeOf P f 2 8 [3,4] (x_project_Column g1 g2)) (hG:GamOk P G) (h1:G.find g1=some S_weave_Check) (h2:G.find g2=some S_project_column):Has P f S_project_Column:=h.has2 hG fun t c hp=>by
  have hte:tabOk ⟨t.parents,t.rows⟩:=hp
  have hke:checkTab ⟨t.parents,t.rows⟩=checkTab t:=rfl
  have hcd:columnD t c=if checkTab t≠0 then .tup [.str [],.int .i64 (checkTab t)] else if c < -1∨t.parents≤c then .tup [.str [],.int .i64 3] else joinD (colV t.rows c):=rfl
  by_cases c0:checkTab t=0
  · rw[if_neg (by rw[c0];simp)] at hcd
    by_cases c1:c < -1
    · rw[hcd,if_pos (.inl c1)]
      simp[x_project_Column,h1,hte,hke,c0,c1]
    by_cases c2:t.parents≤c
    · rw[hcd,if_pos (.inr c2)]
      simp[x_project_Column,h1,hte,hke,c0,c1,c2]
    · rw[hcd,if_neg (by omega)]
      have hj:∃s e,joinD (colV t.rows c)=.tup [.str s,.int .i64 e]:=by
        rcases joinD_P (colV t.rows c) with ⟨_,a2,_⟩ | ⟨_,a2,_⟩
        · exact⟨_,_,a2⟩
        · exact⟨_,_,a2⟩
      obtain⟨s,e,hj⟩:=hj
      simp[x_project_Column,h1,hte,hke,c0,c1,c2,h2,hj]
  · rw[hcd,if_pos c0]
    simp[x_project_Column,h1,hte,hke,c0]
theorem well_rows:∀(hs:List CHunkT) (n:Nat) (res:Bool) (par:Nat) (ends fin:List Int),wellC n res par ends hs=some fin→∀h,h∈hs→h.rows≠[]
  | [],_,_,_,_,_,_,h,hh=>by simp at hh
  | u::hs,n,res,par,ends,fin,e,h,hh=>by
    rw[wellC] at e
    cases hf:folV u n ends with
    | none=>rw[hf] at e;cases e
    | some nx =>
      rw[hf] at e
      cases ha:adsV res par u.rows with
      | none=>simp only[ha] at e;cases e
      | some x =>
        obtain⟨r',p'⟩:=x
        simp only[ha] at e
        rcases List.mem_cons.1 hh with rfl | hh
        · exact (fol_len hf).2
        · exact well_rows hs n r' p' nx fin e h hh
theorem form_rows {c:CombT} (h:formB c=true):∀u,u∈c.hunks→u.rows≠[]:=by
  unfold formB at h
  split at h
  · cases h
  · rename_i fin e
    exact well_rows _ _ _ _ _ _ e
def tableR (c:CombT):TableT × Int :=
  if chkC c≠0 then (⟨0,[]⟩,chkC c) else match c.hunks with
    | []=>(⟨c.parents,[]⟩,0)
    | h::r=>if r≠[]∨0<maxV h.at_ then (⟨0,[]⟩,121) else (⟨c.parents,h.rows⟩,0)
@[simp] def S_project_Table:List D→Prop × D:=spec1 (α:=CombT) CombOk (fun c=>.tup [Rep.to (tableR c).1,.int .i64 (tableR c).2])
theorem ct_project_Table {P:Program} {f g1 g2 g3:Nat} {G:Gam} (h:CodeOf P f 1 9 [22002,3] (x_project_Table g1 g2 g3)) (hG:GamOk P G) (h1:G.find g1=some S_combined_Check) (h2:G.find g2=some S_slices_Max_int_int) (h3:G.find g3=some S_slices_Clone_Row_Row):Has P f S_project_Table:=h.has1 hG fun c hp=>by
  have hce:CombOk ⟨c.path,c.dense,c.parents,c.hunks⟩:=hp
  have hke:chkC ⟨c.path,c.dense,c.parents,c.hunks⟩=chkC c:=rfl
  have ht:tableR c=if chkC c≠0 then (⟨0,[]⟩,chkC c) else match c.hunks with
    | []=>(⟨c.parents,[]⟩,0)
    | h::r=>if r≠[]∨0<maxV h.at_ then (⟨0,[]⟩,121) else (⟨c.parents,h.rows⟩,0):=by unfold tableR <;> rfl
  by_cases c0:chkC c=0
  · rw[if_neg (by rw[c0];simp)] at ht
    obtain⟨z1,z2,z3,z4,z5,z6⟩:=chkC_zero c0
    have hat:=form_ats z5
    have hro:=form_rows z5
    obtain⟨p1,p2,p3,p4⟩:=hp
    obtain⟨path,dense,par,hs⟩:=c
    simp only at ht hce hke z2 z3 hro p3 p1
    cases hs with
    | nil =>
      rw[ht]
      simp[x_project_Table,h1,hce,hke,c0]
    | cons u r =>
      simp only at ht
      have hu:=hat u (by simp)
      have hr:=hro u (by simp)
      have hq:=p3 u (by simp)
      by_cases c1:r=[]
      · subst c1
        by_cases c2:0<maxV u.at_
        · rw[if_pos (.inr c2)] at ht
          rw[ht]
          simp[x_project_Table,h1,hce,hke,c0,h2,show 0<u.at_.length by omega,hq.2.1,c2]
        · rw[if_neg (by simp;omega)] at ht
          rw[ht]
          simp[x_project_Table,h1,hce,hke,c0,h2,show 0<u.at_.length by omega,hq.2.1,c2,h3,hr,hq.1]
      · rw[if_pos (.inl c1)] at ht
        rw[ht]
        have hl:1<(r.length:Int)+1:=by
          have:=List.length_pos_iff.2 c1
          omega
        simp[x_project_Table,h1,hce,hke,c0,hl]
        omega
  · rw[if_pos c0] at ht
    rw[ht]
    simp[x_project_Table,h1,hce,hke,c0]
/-! ### the first line of a hunk -/
theorem frange_facts:∀c:Nat,c≤25→rangeV (frangeV 0 c) 0=some (0,(c:Int),(frangeV 0 c).length)∧(frangeV 0 c).all (fun b=>b != 32 && b != 10)=true:=by
  have h:∀c:_root_.Fin 26,rangeV (frangeV 0 ((c:Nat):Int)) 0=some (0,((c:Nat):Int),(frangeV 0 ((c:Nat):Int)).length)∧(frangeV 0 ((c:Nat):Int)).all (fun b=>b != 32 && b != 10)=true:=by decide +kernel
  intro c hc
  exact h ⟨c,by omega⟩
def wdsV (f:Nat→Nat) (n:Nat):List Str:=(List.range n).map (fun p=>45::frangeV 0 (f p:Nat))++[43::frangeV 0 (f n:Nat)]
theorem wds_ne (f:Nat→Nat) (n:Nat):wdsV f n≠[]:=by simp[wdsV]
theorem wds_free {f:Nat→Nat} {n:Nat} (hf:∀p,p≤n→f p≤25):∀w,w∈wdsV f n→(32:UInt8) ∉ w∧(10:UInt8) ∉ w:=by
  have key:∀p,p≤n→(32:UInt8) ∉ frangeV 0 (f p:Nat)∧(10:UInt8) ∉ frangeV 0 (f p:Nat):=fun p hp=>by
    have h:=(frange_facts (f p) (hf p hp)).2
    rw[List.all_eq_true] at h
    refine⟨fun hc=>?_,fun hc=>?_⟩
    · have:=h _ hc
      simp at this
    · have:=h _ hc
      simp at this
  intro w hw
  unfold wdsV at hw
  rw[List.mem_append,List.mem_map] at hw
  rcases hw with ⟨p,hp,rfl⟩ | hw
  · have:=key p (by have:=List.mem_range.1 hp;omega)
    simp only[List.mem_cons,not_or]
    exact⟨⟨by decide,this.1⟩,⟨by decide,this.2⟩⟩
  · rw[List.mem_singleton] at hw
    subst hw
    have:=key n (Nat.le_refl _)
    simp only[List.mem_cons,not_or]
    exact⟨⟨by decide,this.1⟩,⟨by decide,this.2⟩⟩
theorem wordR_ok {sg:UInt8} {c:Nat} (hc:c≤25):wordR [sg] (sg::frangeV 0 c)=some 0:=by
  unfold wordR
  have h:Lib.hasPrefix (sg::frangeV 0 (c:Int)) [sg]=true:=by
    unfold Lib.hasPrefix
    simp[List.isPrefixOf]
  rw[if_pos h,List.drop_one,List.tail_cons,(frange_facts c hc).1]
  simp
theorem rep_app (k:Nat):List.replicate k (0:Int)++[0]=List.replicate (k+1) 0:=List.replicate_succ'.symm
theorem wordsR_ok {f:Nat→Nat} {n:Nat} (hf:∀p,p≤n→f p≤25):∀d k,k+d=n→wordsR n (List.replicate k 0) ((wdsV f n).drop k)=some (List.replicate (n+1) 0)
  | 0,k,hk=>by
    obtain rfl:k=n:=by omega
    have hd:(wdsV f k).drop k=[43::frangeV 0 (f k:Nat)]:=by
      unfold wdsV
      rw[List.drop_append_of_le_length (by simp),List.drop_of_length_le (by simp)]
      rfl
    rw[hd,wordsR,List.length_replicate,if_pos rfl,wordR_ok (hf k (Nat.le_refl _))]
    simp only[wordsR,rep_app]
  | d+1,k,hk=>by
    have hlen:(wdsV f n).length=n+1:=by simp[wdsV]
    have hg:(wdsV f n)[k]'(by omega)=45::frangeV 0 (f k:Nat):=by
      unfold wdsV
      rw[List.getElem_append_left (by simp;omega)]
      simp
    rw[List.drop_eq_getElem_cons (by omega),hg,wordsR,List.length_replicate,if_neg (by omega),wordR_ok (hf k (by omega))]
    simp only[rep_app]
    exact wordsR_ok hf d (k+1) (by omega)
theorem ranges_flat (f:Nat→Nat) (ns:List Int) (n:Nat):∀p,p≤n→(∀q,q<p→ns.getD q 0=(f q:Nat))→rangesW (List.replicate (n+1) 0) ns p=((List.range p).map fun q=>45::frangeV 0 (f q:Nat)).flatMap fun w=>32::w
  | 0,_,_=>rfl
  | p+1,hp,h=>by
    have ih:=ranges_flat f ns n p (by omega) fun q hq=>h q (by omega)
    have hz:(List.replicate (n+1) (0:Int)).getD p 0=0:=by simp[List.getD,List.getElem?_replicate,show p<n+1 by omega]
    rw[rangesW,ih,List.range_succ,List.map_append,List.flatMap_append,hz,h p (by omega)]
    simp
def headL (f:Nat→Nat) (n:Nat):Str:=atsW n++(32::(joinC 32 (wdsV f n)++(32::atsW n)))
theorem headC_line {rows:List RowT} {n:Nat}:headC ⟨List.replicate (n+1) 0,rows⟩ n=headL (cfV rows n) n++[10]:=by
  have hr:=ranges_flat (cfV rows n) (ctsV rows n) n n (Nat.le_refl _) fun q hq=>ctsV_get rows (by omega)
  have hz:(List.replicate (n+1) (0:Int)).getD n 0=0:=by simp[List.getD,List.getElem?_replicate]
  have hb:=join_begin 32 _ (wds_ne (cfV rows n) n)
  unfold headC headL
  simp only
  rw[hr,hz,ctsV_get rows (Nat.le_refl _)]
  have hw:(wdsV (cfV rows n) n).flatMap (fun w=>32::w)=((List.range n).map fun q=>45::frangeV 0 (cfV rows n q:Nat)).flatMap (fun w=>32::w)++(32::43::frangeV 0 (cfV rows n n:Nat)):=by
    unfold wdsV
    rw[List.flatMap_append]
    simp
  rw[hb] at hw
  have:atsW n++(32::(joinC 32 (wdsV (cfV rows n) n)++32::atsW n))++[10]=atsW n++((32::joinC 32 (wdsV (cfV rows n) n))++(32::(atsW n++[10]))):=by simp
  rw[this,hw]
  simp
theorem headR_ok {f:Nat→Nat} {n:Nat} (hf:∀p,p≤n→f p≤25):headR n (headL f n)=some (List.replicate (n+1) 0):=by
  have hal:(atsW n).length=n+1:=by simp[atsW]
  have e1:headL f n=(atsW n++[32])++(joinC 32 (wdsV f n)++(32::atsW n)):=by unfold headL;simp
  have hp:Lib.hasPrefix (headL f n) (atsW n++[32])=true:=by
    rw[e1]
    unfold Lib.hasPrefix
    rw[List.isPrefixOf_iff_prefix]
    exact List.prefix_append _ _
  have hd:(headL f n).drop (n+2)=joinC 32 (wdsV f n)++(32::atsW n):=by
    rw[e1,List.drop_append_of_le_length (by simp[hal]),List.drop_of_length_le (by simp[hal])]
    rfl
  have hs:Lib.hasSuffix (joinC 32 (wdsV f n)++(32::atsW n)) (32::atsW n)=true:=by
    unfold Lib.hasSuffix
    rw[List.isSuffixOf_iff_suffix]
    exact List.suffix_append _ _
  have ht:(joinC 32 (wdsV f n)++(32::atsW n)).take ((joinC 32 (wdsV f n)++(32::atsW n)).length-(n+2))=joinC 32 (wdsV f n):=by
    rw[List.length_append,List.length_cons,hal,show (joinC 32 (wdsV f n)).length+(n+1+1)-(n+2)=(joinC 32 (wdsV f n)).length by omega]
    simp
  unfold headR
  rw[if_pos hp,hd,if_pos hs,ht,splS_join (wds_ne f n) fun w hw=>(wds_free hf w hw).1]
  exact wordsR_ok hf n 0 (by omega)
theorem joinC_free {c x:UInt8} (hc:x≠c):∀ws:List Str,(∀w,w∈ws→x ∉ w)→x ∉ joinC c ws
  | [],_=>by simp[joinC]
  | [w],h=>h w (by simp)
  | w::v::r,h=>by
    have ih:=joinC_free hc (v::r) fun y hy=>h y (by simp at hy ⊢;exact .inr hy)
    rw[joinC,List.mem_append,List.mem_cons]
    rintro (h1 | h1 | h1)
    · exact h w (by simp) h1
    · exact hc h1
    · exact ih h1
theorem headL_free {f:Nat→Nat} {n:Nat} (hf:∀p,p≤n→f p≤25):(10:UInt8) ∉ headL f n:=by
  have ha:(10:UInt8) ∉ atsW n:=by
    intro h
    have:=List.eq_of_mem_replicate h
    exact absurd this (by decide)
  unfold headL
  simp only[List.mem_append,List.mem_cons,not_or]
  exact⟨ha,by decide,joinC_free (by decide) _ fun w hw=>(wds_free hf w hw).2,by decide,ha⟩
theorem line_head {f:Nat→Nat} {n:Nat} (hf:∀p,p≤n→f p≤25) (path:Str) (dense:Bool):lineR ⟨path,dense,n,[],none⟩ (headL f n)=some ⟨path,dense,n,[],some ⟨List.replicate (n+1) 0,[]⟩⟩:=by
  have hp:Lib.hasPrefix (headL f n) [64]=true:=by
    unfold headL atsW Lib.hasPrefix
    rw[List.replicate_succ]
    simp[List.isPrefixOf]
  unfold lineR
  simp only
  rw[if_pos hp,Int.toNat_natCast,headR_ok hf]
  simp
/-! ### the title -/
def titA:Str:=cbP++[120]
def titB (n:Nat):Str:=parP++fmtV n
theorem tit_facts:∀n:Nat,1≤n→n≤32→titV titA (titB n)=(⟨[120],false,(n:Int),[],none⟩,true)∧(10:UInt8) ∉ titB n:=by
  have h:∀n:_root_.Fin 33,1≤(n:Nat)→titV titA (titB n)=(⟨[120],false,((n:Nat):Int),[],none⟩,true)∧(10:UInt8) ∉ titB n:=by decide +kernel
  intro n h1 h2
  exact h ⟨n,by omega⟩ h1
theorem title_lines (n:Nat) (hs:List CHunkT):titleW ⟨[120],false,n,hs⟩=[titA,titB n].flatMap fun w=>w++[10]:=by
  have hq:quoteV [120]=[120]:=by decide
  unfold titleW titA titB cbP parP
  simp[hq]
/-! ### all of it -/
theorem read_back {t:TableT} {n L B:Nat} (h:TabS t n L B) (hs:(writC (cutC [120] t (fullSp t) false)).length≤16777216):readC (writC (cutC [120] t (fullSp t) false))=(cutC [120] t (fullSp t) false,0):=by
  have hck:chkC (cutC [120] t (fullSp t) false)=0:=(h.cut (path:=[120]) (by decide) (by simp) (full_ord t) false).1.chk
  have hn1:=h.n1
  have hn2:=h.n2
  obtain⟨par,rows⟩:=t
  have hpar:par=n:=h.par
  subst hpar
  obtain⟨q1,q2⟩:=tit_facts n hn1 hn2
  have q3:(10:UInt8) ∉ titA:=by decide
  have hf:∀p,p≤n→cfV rows n p≤25:=fun p hp=>Nat.le_trans (h.cols p hp) h.l1
  have hrows:∀r,r∈rows→rowOk r∧markB n r=true∧lineB r.text=true:=fun r hr =>
    ⟨h.ok.2.1 r hr,List.all_eq_true.1 h.marks r hr,h.ends.1 r hr⟩
  generalize hC:cutC [120] ⟨n,rows⟩ (fullSp ⟨n,rows⟩) false=C at *
  have key:∃ws:List Str,ws.length ≥ 2∧writC C=ws.flatMap (fun w=>w++[10])∧(∀w,w∈ws→(10:UInt8) ∉ w)∧parseR ws=some C:=by
    by_cases c:rows=[]
    · subst c
      have hCe:C=⟨[120],false,n,[]⟩:=by rw[← hC];rfl
      refine⟨[titA,titB n],by simp,?_,?_,?_⟩
      · rw[hCe]
        unfold writC
        rw[title_lines]
        simp
      · intro w hw
        simp only[List.mem_cons,List.not_mem_nil,or_false] at hw
        rcases hw with rfl | rfl
        · exact q3
        · exact q2
      · unfold parseR
        rw[if_neg (by simp)]
        simp only[List.getD_cons_zero,List.getD_cons_succ,q1,if_true,List.drop_succ_cons,List.drop_zero,foldR]
        rw[hCe]
        rfl
    · have hlen:=List.length_pos_iff.2 c
      have hfs:fullSp ⟨n,rows⟩=[⟨0,rows.length⟩]:=by unfold fullSp;rw[if_neg c]
      have hCe:C=⟨[120],false,n,[⟨List.replicate (n+1) 0,rows⟩]⟩:=by
        rw[← hC,hfs]
        have hz:ctsV [] n=List.replicate (n+1) 0:=by
          rw[ctsV_eq]
          have:((fun p=>((cfV [] n p:Nat):Int)):Nat→Int)=fun _=>0:=by funext p;simp[cfV]
          rw[this,List.map_const',List.length_range]
        simp[cutC,cutH,cutRows,hz]
      refine⟨titA::titB n::headL (cfV rows n) n::rows.flatMap (rowL n),by simp,?_,?_,?_⟩
      · rw[hCe]
        unfold writC
        rw[title_lines]
        simp only[List.flatMap_cons,List.flatMap_nil,List.append_nil,Int.toNat_natCast,hunkC,headC_line]
        have:rows.flatMap (fun r=>rowW r n)=(rows.flatMap (rowL n)).flatMap fun w=>w++[10]:=by
          rw[List.flatMap_assoc]
          congr 1
          funext r
          exact rowW_lines n r
        rw[this]
        simp
      · intro w hw
        simp only[List.mem_cons,List.mem_flatMap] at hw
        rcases hw with rfl | rfl | rfl | ⟨r,hr,hw⟩
        · exact q3
        · exact q2
        · exact headL_free hf
        · exact rowL_free (hrows r hr).2.2 w hw
      · unfold parseR
        rw[if_neg (by simp)]
        simp only[List.getD_cons_zero,List.getD_cons_succ,q1,if_true,List.drop_succ_cons,List.drop_zero,foldR]
        rw[line_head hf]
        simp only
        rw[fold_rows hn1 hn2 _ _ _ _ rows [] hrows]
        simp only[List.nil_append]
        rw[hCe]
        rfl
  obtain⟨ws,k1,k2,k3,k4⟩:=key
  have hlin:=linesS_join (ws:=ws) (by intro e;subst e;simp at k1) k3
  rw[← k2] at hlin
  unfold readC
  rw[if_neg (by omega),if_neg (by rw[hlin];simp),hlin]
  simp only[k4]
  rw[if_pos ⟨hck,trivial⟩]
theorem table_full {t:TableT} {n L B:Nat} (h:TabS t n L B):tableR (cutC [120] t (fullSp t) false)=(t,0):=by
  have hck:chkC (cutC [120] t (fullSp t) false)=0:=(h.cut (path:=[120]) (by decide) (by simp) (full_ord t) false).1.chk
  unfold tableR
  rw[if_neg (by rw[hck];simp)]
  obtain⟨par,rows⟩:=t
  by_cases c:rows=[]
  · subst c
    rfl
  · have hfs:fullSp ⟨par,rows⟩=[⟨0,rows.length⟩]:=by unfold fullSp;rw[if_neg c]
    have hz:ctsV [] par.toNat=List.replicate (par.toNat+1) 0:=by
      rw[ctsV_eq]
      have:((fun p=>((cfV [] par.toNat p:Nat):Int)):Nat→Int)=fun _=>0:=by funext p;simp[cfV]
      rw[this,List.map_const',List.length_range]
    have hm:maxV (List.replicate (par.toNat+1) 0)≤0:=maxV_le (by simp) fun x hx=>by have:=List.eq_of_mem_replicate hx;omega
    simp only[cutC,hfs,List.map_cons,List.map_nil,cutH,cutRows,Int.toNat_zero,List.take_zero,hz]
    rw[if_neg (by simp;omega)]
    simp
theorem column_full {r:Str} {ps:List Str} {B L:Nat} (h:SmlC r ps B L):columnD (makeV r ps) (-1)=.tup [.str r,.int .i64 0]∧∀k (hk:k<ps.length),columnD (makeV r ps) k=.tup [.str ps[k],.int .i64 0]:=by
  have hv:=make_valid h.small
  have hp:(makeV r ps).parents=ps.length:=rfl
  have ck:∀s:Str,s.length≤100→checkT s=0:=fun s h=>check_of (by omega) (by have:s.count 10≤s.length:=List.count_le_length;omega)
  have hb:=h.small.b1
  refine⟨?_,fun k hk=>?_⟩
  · unfold columnD
    rw[if_neg (by rw[hv];simp),if_neg (by rw[hp];omega),make_res]
    exact joinD_lines (ck r (by have:=h.small.hr;omega))
  · unfold columnD
    rw[if_neg (by rw[hv];simp),if_neg (by rw[hp];omega),make_col h.small hk]
    exact joinD_lines (ck _ (by have:=h.small.hp _ (List.getElem_mem hk);omega))
structure RtX where
  a:Str
  b:Str
def psT (x:RsT):Ob:=.cells 0 4 [.agg [.d (.str x.path),.d (.bool x.dense),.d (.int .i64 x.par),.d .nilsl]]
@[simp] def F_recombine_title:RF RtX where
  new:=0
  view a _:=⟨(a.getD 1 .any).gs,(a.getD 2 .any).gs⟩
  args x:=[.ref 0 0 0 0,.d (.str x.a),.d (.str x.b)]
  st _:=[psT ⟨[],false,0,[],none⟩]
  pre x:=x.a.length≤1048576∧x.b.length≤1048576
  res x:=.d (.bool (titV x.a x.b).2)
  st' x:=[psT (titV x.a x.b).1]
abbrev R_recombine_parser_title:RSpec:=F_recombine_title.spec
theorem cutPre_len (s p:Str):(cutPre s p).length≤s.length:=by
  unfold cutPre
  split <;> simp
theorem ct_recombine_parser_title {P:Program} {f g1 g2 g3:Nat} {G:Gam} (hc:CodeOf P f 3 17 [3] (x_recombine_parser_title g1 g2 g3)) (hG:GamOk P G) (h1:G.find g1=some S_strings_CutPrefix) (h2:G.find g2=some S_scan_Unquote) (h3:G.find g3=some S_scan_Number):RSpec.Ok P f R_recombine_parser_title:=by
  refine RF.ok hc.call fun x hx=>hc.rcalls hG rfl ?_
  obtain⟨a,b⟩:=x
  obtain⟨ha,hb⟩:=hx
  simp only at ha hb
  have ec:[100,105,102,102,32,45,45,99,99,32]=ccP:=rfl
  have eb:[100,105,102,102,32,45,45,99,111,109,98,105,110,101,100,32]=cbP:=rfl
  have ep:[112,97,114,101,110,116,115,32]=parP:=rfl
  have hq:=cutPre_len b parP
  generalize hQ:cutPre b parP=q at hq
  have hne:∀(dense:Bool) (r:Str),titR dense r b=(⟨((unqV r 0).getD ([],0)).1,dense,((numV q 0).getD (0,0)).1,[],none⟩,
    Lib.hasPrefix b parP && (unqV r 0).isSome && decide (((unqV r 0).getD ([],0)).2=r.length) && (numV q 0).isSome && decide (((numV q 0).getD (0,0)).2=q.length) && decide (1≤((numV q 0).getD (0,0)).1) && decide (((numV q 0).getD (0,0)).1≤32)):=fun dense r=>by
    unfold titR
    rw[hQ]
  by_cases c1:Lib.hasPrefix a ccP=true
  · have et:titV a b=titR true (a.drop 10) b:=by unfold titV;rw[if_pos c1]
    have er:cutPre a ccP=a.drop 10:=by unfold cutPre;rw[if_pos c1];rfl
    have hr:(a.drop 10).length≤1048576:=by simp;omega
    rw[hne] at et
    generalize a.drop 10=r at *
    simp only[F_recombine_title,et]
    have hl1:a.length≤9223372036854775807:=by omega
    have hl2:b.length≤9223372036854775807:=by omega
    have hl3:q.length≤1048576:=by omega
    cases hb1:Lib.hasPrefix b parP <;> cases hu:unqV r 0 <;> cases hn:numV q 0
    · simp[x_recombine_parser_title,startA,psT,ec,eb,ep,h1,hl1,hl2,c1,er,hQ,h2,hr,hb1,hu,optW,h3,hl3,hn,optN]
      exact FinR.done (by simp) (by simp) rfl (by simp[resOf,resE]) (by simp) (by simp)
    · simp[x_recombine_parser_title,startA,psT,ec,eb,ep,h1,hl1,hl2,c1,er,hQ,h2,hr,hb1,hu,optW,h3,hl3,hn,optN]
      exact FinR.done (by simp) (by simp) rfl (by simp[resOf,resE]) (by simp) (by simp)
    · rename_i x
      by_cases e1:x.2=r.length
      · simp[x_recombine_parser_title,startA,psT,ec,eb,ep,h1,hl1,hl2,c1,er,hQ,h2,hr,hb1,hu,optW,h3,hl3,hn,optN,e1]
        exact FinR.done (by simp) (by simp) rfl (by simp[resOf,resE]) (by simp) (by simp)
      · simp[x_recombine_parser_title,startA,psT,ec,eb,ep,h1,hl1,hl2,c1,er,hQ,h2,hr,hb1,hu,optW,h3,hl3,hn,optN,e1]
        exact FinR.done (by simp) (by simp) rfl (by simp[resOf,resE]) (by simp) (by simp)
    · rename_i x y
      simp[x_recombine_parser_title,startA,psT,ec,eb,ep,h1,hl1,hl2,c1,er,hQ,h2,hr,hb1,hu,optW,h3,hl3,hn,optN]
      exact FinR.done (by simp) (by simp) rfl (by simp[resOf,resE]) (by simp) (by simp)
    · simp[x_recombine_parser_title,startA,psT,ec,eb,ep,h1,hl1,hl2,c1,er,hQ,h2,hr,hb1,hu,optW,h3,hl3,hn,optN]
      exact FinR.done (by simp) (by simp) rfl (by simp[resOf,resE]) (by simp) (by simp)
    · simp[x_recombine_parser_title,startA,psT,ec,eb,ep,h1,hl1,hl2,c1,er,hQ,h2,hr,hb1,hu,optW,h3,hl3,hn,optN]
      exact FinR.done (by simp) (by simp) rfl (by simp[resOf,resE]) (by simp) (by simp)
    · rename_i x
      by_cases e1:x.2=r.length
      · simp[x_recombine_parser_title,startA,psT,ec,eb,ep,h1,hl1,hl2,c1,er,hQ,h2,hr,hb1,hu,optW,h3,hl3,hn,optN,e1]
        exact FinR.done (by simp) (by simp) rfl (by simp[resOf,resE]) (by simp) (by simp)
      · simp[x_recombine_parser_title,startA,psT,ec,eb,ep,h1,hl1,hl2,c1,er,hQ,h2,hr,hb1,hu,optW,h3,hl3,hn,optN,e1]
        exact FinR.done (by simp) (by simp) rfl (by simp[resOf,resE]) (by simp) (by simp)
    · rename_i x y
      by_cases e1:x.2=r.length
      · by_cases e2:y.2=q.length
        · by_cases e3:1≤y.1
          · by_cases e4:y.1≤32
            · simp[x_recombine_parser_title,startA,psT,ec,eb,ep,h1,hl1,hl2,c1,er,hQ,h2,hr,hb1,hu,optW,h3,hl3,hn,optN,e1,e2,e3,e4]
              exact FinR.done (by simp) (by simp) rfl (by simp[resOf,resE]) (by simp) (by simp)
            · simp[x_recombine_parser_title,startA,psT,ec,eb,ep,h1,hl1,hl2,c1,er,hQ,h2,hr,hb1,hu,optW,h3,hl3,hn,optN,e1,e2,e3,e4]
              exact FinR.done (by simp) (by simp) rfl (by simp[resOf,resE]) (by simp) (by simp)
          · simp[x_recombine_parser_title,startA,psT,ec,eb,ep,h1,hl1,hl2,c1,er,hQ,h2,hr,hb1,hu,optW,h3,hl3,hn,optN,e1,e2,e3]
            exact FinR.done (by simp) (by simp) rfl (by simp[resOf,resE]) (by simp) (by simp)
        · simp[x_recombine_parser_title,startA,psT,ec,eb,ep,h1,hl1,hl2,c1,er,hQ,h2,hr,hb1,hu,optW,h3,hl3,hn,optN,e1,e2,show ¬(y.2:Int)=(q.length:Int) by omega]
          exact FinR.done (by simp) (by simp) rfl (by simp[resOf,resE]) (by simp) (by simp)
      · simp[x_recombine_parser_title,startA,psT,ec,eb,ep,h1,hl1,hl2,c1,er,hQ,h2,hr,hb1,hu,optW,h3,hl3,hn,optN,e1,show ¬(x.2:Int)=(r.length:Int) by omega]
        exact FinR.done (by simp) (by simp) rfl (by simp[resOf,resE]) (by simp) (by simp)
  by_cases c2:Lib.hasPrefix a cbP=true
  · have et:titV a b=titR false (a.drop 16) b:=by unfold titV;rw[if_neg c1,if_pos c2]
    have er:cutPre a cbP=a.drop 16:=by unfold cutPre;rw[if_pos c2];rfl
    have hr:(a.drop 16).length≤1048576:=by simp;omega
    rw[hne] at et
    generalize a.drop 16=r at *
    simp only[F_recombine_title,et]
    have hl1:a.length≤9223372036854775807:=by omega
    have hl2:b.length≤9223372036854775807:=by omega
    have hl3:q.length≤1048576:=by omega
    cases hb1:Lib.hasPrefix b parP <;> cases hu:unqV r 0 <;> cases hn:numV q 0
    · simp[x_recombine_parser_title,startA,psT,ec,eb,ep,h1,hl1,hl2,c1,c2,er,hQ,h2,hr,hb1,hu,optW,h3,hl3,hn,optN]
      exact FinR.done (by simp) (by simp) rfl (by simp[resOf,resE]) (by simp) (by simp)
    · simp[x_recombine_parser_title,startA,psT,ec,eb,ep,h1,hl1,hl2,c1,c2,er,hQ,h2,hr,hb1,hu,optW,h3,hl3,hn,optN]
      exact FinR.done (by simp) (by simp) rfl (by simp[resOf,resE]) (by simp) (by simp)
    · rename_i x
      by_cases e1:x.2=r.length
      · simp[x_recombine_parser_title,startA,psT,ec,eb,ep,h1,hl1,hl2,c1,c2,er,hQ,h2,hr,hb1,hu,optW,h3,hl3,hn,optN,e1]
        exact FinR.done (by simp) (by simp) rfl (by simp[resOf,resE]) (by simp) (by simp)
      · simp[x_recombine_parser_title,startA,psT,ec,eb,ep,h1,hl1,hl2,c1,c2,er,hQ,h2,hr,hb1,hu,optW,h3,hl3,hn,optN,e1]
        exact FinR.done (by simp) (by simp) rfl (by simp[resOf,resE]) (by simp) (by simp)
    · rename_i x y
      simp[x_recombine_parser_title,startA,psT,ec,eb,ep,h1,hl1,hl2,c1,c2,er,hQ,h2,hr,hb1,hu,optW,h3,hl3,hn,optN]
      exact FinR.done (by simp) (by simp) rfl (by simp[resOf,resE]) (by simp) (by simp)
    · simp[x_recombine_parser_title,startA,psT,ec,eb,ep,h1,hl1,hl2,c1,c2,er,hQ,h2,hr,hb1,hu,optW,h3,hl3,hn,optN]
      exact FinR.done (by simp) (by simp) rfl (by simp[resOf,resE]) (by simp) (by simp)
    · simp[x_recombine_parser_title,startA,psT,ec,eb,ep,h1,hl1,hl2,c1,c2,er,hQ,h2,hr,hb1,hu,optW,h3,hl3,hn,optN]
      exact FinR.done (by simp) (by simp) rfl (by simp[resOf,resE]) (by simp) (by simp)
    · rename_i x
      by_cases e1:x.2=r.length
      · simp[x_recombine_parser_title,startA,psT,ec,eb,ep,h1,hl1,hl2,c1,c2,er,hQ,h2,hr,hb1,hu,optW,h3,hl3,hn,optN,e1]
        exact FinR.done (by simp) (by simp) rfl (by simp[resOf,resE]) (by simp) (by simp)
      · simp[x_recombine_parser_title,startA,psT,ec,eb,ep,h1,hl1,hl2,c1,c2,er,hQ,h2,hr,hb1,hu,optW,h3,hl3,hn,optN,e1]
        exact FinR.done (by simp) (by simp) rfl (by simp[resOf,resE]) (by simp) (by simp)
    · rename_i x y
      by_cases e1:x.2=r.length
      · by_cases e2:y.2=q.length
        · by_cases e3:1≤y.1
          · by_cases e4:y.1≤32
            · simp[x_recombine_parser_title,startA,psT,ec,eb,ep,h1,hl1,hl2,c1,c2,er,hQ,h2,hr,hb1,hu,optW,h3,hl3,hn,optN,e1,e2,e3,e4]
              exact FinR.done (by simp) (by simp) rfl (by simp[resOf,resE]) (by simp) (by simp)
            · simp[x_recombine_parser_title,startA,psT,ec,eb,ep,h1,hl1,hl2,c1,c2,er,hQ,h2,hr,hb1,hu,optW,h3,hl3,hn,optN,e1,e2,e3,e4]
              exact FinR.done (by simp) (by simp) rfl (by simp[resOf,resE]) (by simp) (by simp)
          · simp[x_recombine_parser_title,startA,psT,ec,eb,ep,h1,hl1,hl2,c1,c2,er,hQ,h2,hr,hb1,hu,optW,h3,hl3,hn,optN,e1,e2,e3]
            exact FinR.done (by simp) (by simp) rfl (by simp[resOf,resE]) (by simp) (by simp)
        · simp[x_recombine_parser_title,startA,psT,ec,eb,ep,h1,hl1,hl2,c1,c2,er,hQ,h2,hr,hb1,hu,optW,h3,hl3,hn,optN,e1,e2,show ¬(y.2:Int)=(q.length:Int) by omega]
          exact FinR.done (by simp) (by simp) rfl (by simp[resOf,resE]) (by simp) (by simp)
      · simp[x_recombine_parser_title,startA,psT,ec,eb,ep,h1,hl1,hl2,c1,c2,er,hQ,h2,hr,hb1,hu,optW,h3,hl3,hn,optN,e1,show ¬(x.2:Int)=(r.length:Int) by omega]
        exact FinR.done (by simp) (by simp) rfl (by simp[resOf,resE]) (by simp) (by simp)
  have et:titV a b=(⟨[],false,0,[],none⟩,false):=by unfold titV;rw[if_neg c1,if_neg c2]
  simp only[F_recombine_title,et]
  have hl1:a.length≤9223372036854775807:=by omega
  simp[x_recombine_parser_title,startA,psT,ec,eb,h1,hl1,c1,c2]
  exact FinR.done (by simp) (by simp) rfl (by simp[resOf,resE]) (by simp) (by simp)
/-! ### the parser -/
def hkR (h:CHunkT):A:=.d (Rep.to h)
def rwD (r:RowT):A:=.d (Rep.to r)
def obDoneR:Ob→List CHunkT
  | .cells _ _ xs=>xs.dropLast.map fun x=>(Rep.of x.toD).getD default
  | _=>[]
def obRows:Ob→List RowT
  | .cells _ _ xs=>xs.map fun x=>(Rep.of x.toD).getD default
  | _=>[]
def obCurR (o l:Ob):Option CHunkT:=match o with
  | .cells _ _ xs=>xs.getLast?.map fun y=>⟨(Rep.of (α:=List Int) (y.cells.getD 0 .any).toD).getD [],obRows l⟩
  | _=>none
def hkCR (i:Nat) (done:List CHunkT) (a:List Int) (m:Nat):List A:=done.map hkR++[.agg [.d (.sl 1 (a.map Rep.to)),.own i m 0 m]]
def rwC (l:List RowT):List A:=l.map rwD
@[simp] theorem obDoneR_nil (v e:Nat):obDoneR (.cells v e [])=[]:=rfl
@[simp] theorem obDoneR_hk (v e i:Nat) (done:List CHunkT) (a:List Int) (m:Nat):obDoneR (.cells v e (hkCR i done a m))=done:=by
  simp only[obDoneR,hkCR,List.dropLast_concat,List.map_map]
  refine (List.map_congr_left fun x _=>?_).trans (List.map_id _)
  simp only[hkR,A.toD,Rep.of_to,Function.comp_apply,Option.getD_some,id]
@[simp] theorem obRows_rw (v e:Nat) (l:List RowT):obRows (.cells v e (rwC l))=l:=by
  simp only[obRows,rwC,List.map_map]
  refine (List.map_congr_left fun x _=>?_).trans (List.map_id _)
  simp only[rwD,A.toD,Rep.of_to,Function.comp_apply,Option.getD_some,id]
@[simp] theorem obCurR_nil (v e:Nat) (l:Ob):obCurR (.cells v e []) l=none:=rfl
@[simp] theorem obCurR_hk (v e i:Nat) (done:List CHunkT) (a:List Int) (m:Nat) (l:Ob):obCurR (.cells v e (hkCR i done a m)) l=some ⟨a,obRows l⟩:=by
  have h:Rep.of (α:=List Int) (.sl 1 (a.map Rep.to))=some a:=Rep.of_to (α:=List Int) a
  simp only[obCurR,hkCR,List.getLast?_append,List.getLast?_singleton,Option.some_or,Option.map_some,A.cells,List.getD_cons_zero,A.toD,h,Option.getD_some]
@[simp] theorem objsL_hkR (i:Nat) (done:List CHunkT) (a:List Int) (m:Nat):A.objsL (hkCR i done a m)=[i]:=by
  unfold hkCR
  rw[objsL_app]
  have:A.objsL (done.map hkR)=[]:=objsL_d Rep.to done
  rw[this]
  rfl
@[simp] theorem objsL_rw (l:List RowT):A.objsL (rwC l)=[]:=objsL_d Rep.to l
@[simp] theorem ren_hkR (q:Nat→Nat) (i:Nat) (done:List CHunkT) (a:List Int) (m:Nat):(hkCR i done a m).map (A.ren q)=hkCR (q i) done a m:=by
  unfold hkCR
  rw[List.map_append,List.map_map]
  rfl
@[simp] theorem ren_rw (q:Nat→Nat) (l:List RowT):(rwC l).map (A.ren q)=rwC l:=by
  unfold rwC
  rw[List.map_map]
  rfl
theorem hkCR_under (i:Nat) (done:List CHunkT) (a:List Int) (m k:Nat):(hkCR i done a m).all (A.under k)=decide (i<k):=by
  have:(done.map hkR).all (A.under k)=true:=by
    rw[List.all_eq_true]
    intro x hx
    obtain⟨y,_,rfl⟩:=List.mem_map.1 hx
    rfl
  unfold hkCR
  rw[List.all_append,this]
  simp
theorem rwC_under (l:List RowT) (k:Nat):(rwC l).all (A.under k)=true:=by
  rw[List.all_eq_true]
  intro x hx
  obtain⟨y,_,rfl⟩:=List.mem_map.1 hx
  rfl
@[simp] theorem hkR_under (i:Nat) (done:List CHunkT) (a:List Int) (m k:Nat):(∀x,x∈hkCR i done a m→A.under k x=true)=(i<k):=by
  have:=hkCR_under i done a m k
  rw[Bool.eq_iff_iff,List.all_eq_true,decide_eq_true_eq] at this
  exact propext this
@[simp] theorem rw_under (l:List RowT) (k:Nat):(∀x,x∈rwC l→A.under k x=true)=True:=by
  have:=rwC_under l k
  rw[List.all_eq_true] at this
  exact eq_true this
def rsV (st:Store):RsT:=⟨((st.getD 0 .dead).at 0 0).gs,((st.getD 0 .dead).at 0 1).gb,((st.getD 0 .dead).at 0 2).gi,obDoneR (st.getD 1 .dead),obCurR (st.getD 1 .dead) (st.getD 2 .dead)⟩
def psR (i:Nat) (x:RsT) (k:Nat):Ob:=.cells 0 4 [.agg [.d (.str x.path),.d (.bool x.dense),.d (.int .i64 x.par),.own i k 0 k]]
def rsB (b:Nat) (x:RsT):Store:=match x.cur with
  | none=>[psR (b+1) x 0,.cells 0 2 []]
  | some h=>[psR (b+1) x (x.done.length+1),.cells (x.done.length+1) 2 (hkCR (b+2) x.done h.at_ h.rows.length),.cells h.rows.length 3 (rwC h.rows)]
abbrev rsS (x:RsT):Store:=rsB 0 x
theorem rsV_rsS {x:RsT} (h:x.cur=none→x.done=[]):rsV (rsS x)=x:=by
  obtain⟨path,dense,par,done,cur⟩:=x
  cases cur with
  | none =>
    have:done=[]:=h rfl
    subst this
    simp[rsV,rsB,psR,A.cells]
  | some c=>simp[rsV,rsB,psR,A.cells]
theorem hkCR_len (i:Nat) (done:List CHunkT) (a:List Int) (m:Nat):(hkCR i done a m).length=done.length+1:=by simp[hkCR]
theorem rwC_len (l:List RowT):(rwC l).length=l.length:=by simp[rwC]
theorem rsS_under (x:RsT):(rsS x).all (Ob.under (rsS x).length)=true:=by
  obtain⟨path,dense,par,done,cur⟩:=x
  cases cur with
  | none=>simp[rsB,psR]
  | some c=>simp[rsB,psR]
structure RlX where
  x:RsT
  line:Str
def newR (a:List Int):A:=.d (.agg [.sl 1 (a.map Rep.to),.nilsl])
def rsH (x:RsT) (a:List Int):Store:=match x.cur with
  | none=>[psR 1 x 1,.cells 1 2 [newR a]]
  | some h=>[psR 1 x (x.done.length+1+1),.cells (x.done.length+1+1) 2 (hkCR 2 x.done h.at_ h.rows.length++[newR a]),.cells h.rows.length 3 (rwC h.rows)]
theorem rsH_under (x:RsT) (a:List Int):(rsH x a).all (Ob.under (rsH x a).length)=true:=by
  obtain⟨path,dense,par,done,cur⟩:=x
  cases cur with
  | none=>simp[rsH,psR,newR]
  | some c =>
    have h1:=hkCR_under 2 done c.at_ c.rows.length 3
    have h2:=rwC_under c.rows 3
    simp only[rsH,psR,List.length_cons,List.length_nil,List.all_cons,List.all_nil,Ob.under,Bool.and_true,Nat.zero_add,List.all_append,h1,h2]
    simp[newR]
def hedB (n:Nat) (line:Str):Bool:=match headR n line with
  | none=>false
  | some a=>decide (a.length=n+1)
@[simp] def F_recombine_header:RF RlX where
  new:=0
  view a st:=⟨rsV st,(a.getD 1 .any).gs⟩
  args x:=[.ref 0 0 0 0,.d (.str x.line)]
  st x:=rsS x.x
  pre x:=(x.x.cur=none→x.x.done=[])∧x.x.done.length≤1000000000∧x.line.length≤1048576∧1≤x.x.par∧x.x.par≤32
  res x:=.d (.bool (hedB x.x.par.toNat x.line))
  st' x:=match headR x.x.par.toNat x.line with
    | none=>rsS x.x
    | some a=>rsH x.x a
abbrev R_recombine_parser_header:RSpec:=F_recombine_header.spec
structure RhX where
  i:Nat
  acc:List Int
theorem split_mem_len {s w:Str} (h:w∈splS s):w.length≤s.length:=by
  unfold splS at h
  rw[splitK_C 32 _ _ rfl] at h
  have h1:=(splitC_len 32 s []).1
  obtain⟨i,hi,rfl⟩:=List.getElem_of_mem h
  have h2:=mem_flat_le hi
  have h3:(splitC 32 [] s).flatten.length=flen (splitC 32 [] s):=rfl
  simp at h1
  omega
theorem split_len (s:Str):(splS s).length≤s.length+1:=by
  unfold splS
  rw[splitK_C 32 _ _ rfl]
  exact (splitC_len 32 s []).2
theorem ct_recombine_parser_header {P:Program} {f g1 g2 g3 g4 g5:Nat} {G:Gam} (hc:CodeOf P f 2 23 [2] (x_recombine_parser_header g1 g2 g3 g4 g5)) (hG:GamOk P G) (h1:G.find g1=some S_strings_Repeat) (h2:G.find g2=some S_strings_CutPrefix) (h3:G.find g3=some S_strings_CutSuffix) (h4:G.find g4=some S_strings_Split) (h5:G.find g5=some S_scan_Range):RSpec.Ok P f R_recombine_parser_header:=by
  refine RF.ok hc.call fun x hx=>hc.rcalls hG rfl ?_
  obtain⟨x,line⟩:=x
  obtain⟨h0,hd,hl,hp1,hp2⟩:=hx
  simp only at h0 hd hl hp1 hp2
  have und:=rsS_under x
  have und2:=rsH_under x
  obtain⟨n,hn⟩:=Int.eq_ofNat_of_zero_le (show 0≤x.par by omega)
  have w0:IntKind.i64.wrap ((n:Int)+1)=(n:Int)+1:=wrap_in (by omega) (by omega)
  have e0:((n:Int)+1).toNat=n+1:=by omega
  have hr:Lib.repeatL [64] (n+1)=atsW n:=repeat_at (n+1)
  have hal:(atsW n).length=n+1:=by simp[atsW]
  have hll:line.length≤9223372036854775807:=by omega
  have hnn:x.par.toNat=n:=by omega
  obtain⟨path,dense,par,done,cur⟩:=x
  simp only at hn hnn hd h0 hp1 hp2
  subst hn
  have eh:headR n line=if Lib.hasPrefix line (atsW n++[32])=true then
    (if Lib.hasSuffix (line.drop (n+2)) (32::atsW n)=true then wordsR n [] (splS ((line.drop (n+2)).take ((line.drop (n+2)).length-(n+2)))) else none) else none:=rfl
  cases cur with
  | none =>
    have hdn:done=[]:=h0 rfl
    subst hdn
    have und2:=und2
    simp only[rsH,psR,newR] at und2
    by_cases c1:Lib.hasPrefix line (atsW n++[32])=true
    · have ec:cutPre line (atsW n++[32])=line.drop (n+2):=by unfold cutPre;rw[if_pos c1];simp[hal]
      rw[if_pos c1] at eh
      generalize hr1:line.drop (n+2)=r1 at *
      have hrl:r1.length≤1048576:=by rw[← hr1];simp;omega
      by_cases c2:Lib.hasSuffix r1 (32::atsW n)=true
      · have es:cutSuf r1 (32::atsW n)=r1.take (r1.length-(n+2)):=by unfold cutSuf;rw[if_pos c2];simp[hal]
        rw[if_pos c2] at eh
        generalize hr2:r1.take (r1.length-(n+2))=r2 at *
        have hrl2:r2.length≤1048576:=by rw[← hr2];simp;omega
        have hsp:Lib.splitK [32] 0 (Lib.count r2 [32]) r2=splS r2:=rfl
        have hw1:=split_len r2
        have hw2:=fun w=>split_mem_len (s:=r2) (w:=w)
        generalize splS r2=ws at *
        simp only[F_recombine_header,hedB]
        simp only[hnn]
        generalize hV:headR n line=V at *
        simp[x_recombine_parser_header,startA,rsB,psR,w0,e0,h1,hr,hal,h2,hll,c1,ec,h3,show r1.length≤9223372036854775807 by omega,c2,es,h4,show r2.length<4294967281 by omega,hsp]
        refine⟨⟨by omega,by omega,by omega⟩,by omega,by omega,?_⟩
        refine vc_lpR (σ:=RhX) (fun z=>z.i≤ws.length∧z.acc.length=z.i∧wordsR n z.acc (ws.drop z.i)=V) (fun z=>ws.length-z.i)
          (fun z=>[.ref 0 0 0 0,.any,.any,.any,.any,.any,.ref 2 0 0 0,.any,.any,.any,.any,.any,.any,.any,.any,.any,.any,.d (.sl 1 (ws.map Rep.to)),.d (.int .i64 ws.length),.d (.int .i64 z.i),.any,.any,.any])
          (fun z=>[psR 1 ⟨path,dense,n,[],none⟩ 0,.cells 0 2 [],.cells 0 2 [.agg [.gr 3 1 (z.acc.map Rep.to),.d .nilsl]],.tip z.acc.length]) ⟨0,[]⟩ ?_ ⟨by simp,by simp,by simpa using eh.symm⟩ ?_
        · refine Re.wn (s':=[psR 1 ⟨path,dense,n,[],none⟩ 0,.cells 0 2 [],.cells 0 2 [.agg [.gr 3 1 [],.d .nilsl]]]) [true,false,false,false,false,false,true,false,false,false,false,false,false,false,false,false,false,true,true,true] [.tip 0] (by simp) (by simp) ?_ ?_ (by simp)
          · simp
          · exact⟨.inl rfl,.inl rfl,.cellsL ⟨⟨rfl,⟨Wk.fresh 3 [.tip 0] 1 0 rfl,Wk.refl _ _ _,trivial⟩⟩,trivial⟩,trivial⟩
        rintro⟨i,acc⟩ ⟨i1,i2,i3⟩
        simp only at i1 i2 i3
        by_cases hi:i<ws.length
        · have w1:IntKind.i64.wrap ((i:Int)+1)=(i:Int)+1:=wrap_in (by omega) (by omega)
          have hwl:=hw2 ws[i] (List.getElem_mem hi)
          have hg:ws[i]?=some ws[i]:=List.getElem?_eq_getElem hi
          rw[List.drop_eq_getElem_cons hi,wordsR,i2] at i3
          generalize hge:ws[i]=w at *
          by_cases hs:(i:Int)=n
          · rw[if_pos hs] at i3
            obtain rfl:i=n:=by omega
            by_cases q1:Lib.hasPrefix w [43]=true
            · have ew:cutPre w [43]=w.drop 1:=by unfold cutPre;rw[if_pos q1];rfl
              have ewr:wordR [43] w=match rangeV (w.drop 1) 0 with
                | none=>none
                | some x=>if x.2.2=(w.drop 1).length then some x.1 else none:=by unfold wordR;rw[if_pos q1] <;> rfl
              rw[ewr] at i3
              have hwd:(w.drop 1).length≤1048576:=by simp;omega
              generalize w.drop 1=u at *
              cases hrg:rangeV u 0 with
              | none =>
                rw[hrg] at i3
                have i3:none=V:=i3
                subst i3
                simp[psR,hi,hg,hge,h2,show w.length≤9223372036854775807 by omega,h5,optR,w1,hs,q1,ew,hwd,hrg]
                exact FinR.done (by simp) (by simp) rfl (by simp[resOf,resE]) (by simp) (by simp)
              | some x =>
                rw[hrg] at i3
                by_cases q2:x.2.2=u.length
                · simp only[if_pos q2] at i3
                  simp[psR,hi,hg,hge,h2,show w.length≤9223372036854775807 by omega,h5,optR,w1,hs,q1,ew,hwd,hrg,q2,i2]
                  exact⟨by unfold room;omega,Nxt.mk ⟨i+1,acc++[x.1]⟩ (by simp only;omega) (by simp) (by simp[psR,i2]) ⟨by simp only;omega,by simp[i2],i3⟩⟩
                · simp only[if_neg q2] at i3
                  subst i3
                  simp[psR,hi,hg,hge,h2,show w.length≤9223372036854775807 by omega,h5,optR,w1,hs,q1,ew,hwd,hrg,q2,show ¬(x.2.2:Int)=(u.length:Int) by omega]
                  exact FinR.done (by simp) (by simp) rfl (by simp[resOf,resE]) (by simp) (by simp)
            · have ew:cutPre w [43]=w:=by unfold cutPre;rw[if_neg q1]
              have ewr:wordR [43] w=none:=by unfold wordR;rw[if_neg q1]
              rw[ewr] at i3
              have i3:none=V:=i3
              subst i3
              cases hrg:rangeV w 0 with
              | none =>
                simp[psR,hi,hg,hge,h2,show w.length≤9223372036854775807 by omega,h5,optR,w1,hs,q1,ew,hrg,show w.length≤1048576 by omega]
                exact FinR.done (by simp) (by simp) rfl (by simp[resOf,resE]) (by simp) (by simp)
              | some x =>
                simp[psR,hi,hg,hge,h2,show w.length≤9223372036854775807 by omega,h5,optR,w1,hs,q1,ew,hrg,show w.length≤1048576 by omega]
                exact FinR.done (by simp) (by simp) rfl (by simp[resOf,resE]) (by simp) (by simp)
          · rw[if_neg hs] at i3
            have hs2:¬i=n:=by omega
            by_cases q1:Lib.hasPrefix w [45]=true
            · have ew:cutPre w [45]=w.drop 1:=by unfold cutPre;rw[if_pos q1];rfl
              have ewr:wordR [45] w=match rangeV (w.drop 1) 0 with
                | none=>none
                | some x=>if x.2.2=(w.drop 1).length then some x.1 else none:=by unfold wordR;rw[if_pos q1] <;> rfl
              rw[ewr] at i3
              have hwd:(w.drop 1).length≤1048576:=by simp;omega
              generalize w.drop 1=u at *
              cases hrg:rangeV u 0 with
              | none =>
                rw[hrg] at i3
                have i3:none=V:=i3
                subst i3
                simp[psR,hi,hg,hge,h2,show w.length≤9223372036854775807 by omega,h5,optR,w1,hs,hs2,q1,ew,hwd,hrg]
                exact FinR.done (by simp) (by simp) rfl (by simp[resOf,resE]) (by simp) (by simp)
              | some x =>
                rw[hrg] at i3
                by_cases q2:x.2.2=u.length
                · simp only[if_pos q2] at i3
                  simp[psR,hi,hg,hge,h2,show w.length≤9223372036854775807 by omega,h5,optR,w1,hs,hs2,q1,ew,hwd,hrg,q2,i2]
                  exact⟨by unfold room;omega,Nxt.mk ⟨i+1,acc++[x.1]⟩ (by simp only;omega) (by simp) (by simp[psR,i2]) ⟨by simp only;omega,by simp[i2],i3⟩⟩
                · simp only[if_neg q2] at i3
                  subst i3
                  simp[psR,hi,hg,hge,h2,show w.length≤9223372036854775807 by omega,h5,optR,w1,hs,hs2,q1,ew,hwd,hrg,q2,show ¬(x.2.2:Int)=(u.length:Int) by omega]
                  exact FinR.done (by simp) (by simp) rfl (by simp[resOf,resE]) (by simp) (by simp)
            · have ew:cutPre w [45]=w:=by unfold cutPre;rw[if_neg q1]
              have ewr:wordR [45] w=none:=by unfold wordR;rw[if_neg q1]
              rw[ewr] at i3
              have i3:none=V:=i3
              subst i3
              cases hrg:rangeV w 0 with
              | none =>
                simp[psR,hi,hg,hge,h2,show w.length≤9223372036854775807 by omega,h5,optR,w1,hs,hs2,q1,ew,hrg,show w.length≤1048576 by omega]
                exact FinR.done (by simp) (by simp) rfl (by simp[resOf,resE]) (by simp) (by simp)
              | some x =>
                simp[psR,hi,hg,hge,h2,show w.length≤9223372036854775807 by omega,h5,optR,w1,hs,hs2,q1,ew,hrg,show w.length≤1048576 by omega]
                exact FinR.done (by simp) (by simp) rfl (by simp[resOf,resE]) (by simp) (by simp)
        · rw[List.drop_of_length_le (by omega),wordsR] at i3
          subst i3
          simp[hi,psR]
          refine Hint.of (T':=[.ref 0 0 0 0,.any,.any,.any,.any,.any,.ref 2 0 0 0,.any,.any,.any,.any,.any,.any,.any,.any,.any,.any,.any,.any,.any,.any,.any,.any]) (s':=[psR 1 ⟨path,dense,n,[],none⟩ 0,.cells 0 2 [],.cells 0 2 [.d (.agg [.sl 1 (acc.map Rep.to),.nilsl])],.tip acc.length])
            (Re.wn (s':=[psR 1 ⟨path,dense,n,[],none⟩ 0,.cells 0 2 [],.cells 0 2 [.d (.agg [.sl 1 (acc.map Rep.to),.nilsl])],.tip acc.length]) [true,false,false,false,false,false,true] [] (by simp) (by simp) (by simp) ⟨.inl rfl,.inl rfl,.cellsL ⟨⟨rfl,⟨Wk.gr _ _ _ _ _,Wk.refl _ _ _,trivial⟩⟩,trivial⟩,.inl rfl,trivial⟩ (by simp)) ?_
          have hdec:decide ((acc.length:Int)=(n:Int)+1)=decide (acc.length=n+1):=by
            rw[decide_eq_decide]
            omega
          have und3:=und2 acc
          simp[psR,w0,hdec,rsH,newR]
          refine⟨by unfold room;omega,FinR.done (by simp) (by simp) rfl (by simp[resOf,resE]) und3 (by simp)⟩
      · rw[if_neg c2] at eh
        simp only[F_recombine_header,hedB,hnn,eh]
        simp[x_recombine_parser_header,startA,rsB,psR,w0,e0,h1,hr,hal,h2,hll,c1,ec,h3,show r1.length≤9223372036854775807 by omega,c2]
        refine⟨⟨by omega,by omega,by omega⟩,by omega,by omega,?_⟩
        exact FinR.done (by simp) (by simp) rfl (by simp[resOf,resE]) (by simp) (by simp)
    · rw[if_neg c1] at eh
      simp only[F_recombine_header,hedB,hnn,eh]
      simp[x_recombine_parser_header,startA,rsB,psR,w0,e0,h1,hr,hal,h2,hll,c1]
      refine⟨⟨by omega,by omega,by omega⟩,by omega,?_⟩
      exact FinR.done (by simp) (by simp) rfl (by simp[resOf,resE]) (by simp) (by simp)
  | some hk =>
    have hkl:=hkCR_len 2 done hk.at_ hk.rows.length
    have und2:=und2
    simp only[rsH,psR,newR] at und2
    by_cases c1:Lib.hasPrefix line (atsW n++[32])=true
    · have ec:cutPre line (atsW n++[32])=line.drop (n+2):=by unfold cutPre;rw[if_pos c1];simp[hal]
      rw[if_pos c1] at eh
      generalize hr1:line.drop (n+2)=r1 at *
      have hrl:r1.length≤1048576:=by rw[← hr1];simp;omega
      by_cases c2:Lib.hasSuffix r1 (32::atsW n)=true
      · have es:cutSuf r1 (32::atsW n)=r1.take (r1.length-(n+2)):=by unfold cutSuf;rw[if_pos c2];simp[hal]
        rw[if_pos c2] at eh
        generalize hr2:r1.take (r1.length-(n+2))=r2 at *
        have hrl2:r2.length≤1048576:=by rw[← hr2];simp;omega
        have hsp:Lib.splitK [32] 0 (Lib.count r2 [32]) r2=splS r2:=rfl
        have hw1:=split_len r2
        have hw2:=fun w=>split_mem_len (s:=r2) (w:=w)
        generalize splS r2=ws at *
        simp only[F_recombine_header,hedB]
        simp only[hnn]
        generalize hV:headR n line=V at *
        simp[x_recombine_parser_header,startA,rsB,psR,w0,e0,h1,hr,hal,h2,hll,c1,ec,h3,show r1.length≤9223372036854775807 by omega,c2,es,h4,show r2.length<4294967281 by omega,hsp,hkl]
        refine⟨⟨by omega,by omega,by omega⟩,by omega,by omega,?_⟩
        refine vc_lpR (σ:=RhX) (fun z=>z.i≤ws.length∧z.acc.length=z.i∧wordsR n z.acc (ws.drop z.i)=V) (fun z=>ws.length-z.i)
          (fun z=>[.ref 0 0 0 0,.any,.any,.any,.any,.any,.ref 3 0 0 0,.any,.any,.any,.any,.any,.any,.any,.any,.any,.any,.d (.sl 1 (ws.map Rep.to)),.d (.int .i64 ws.length),.d (.int .i64 z.i),.any,.any,.any])
          (fun z=>[psR 1 ⟨path,dense,n,done,some hk⟩ (done.length+1),.cells (done.length+1) 2 (hkCR 2 done hk.at_ hk.rows.length),.cells hk.rows.length 3 (rwC hk.rows),.cells 0 2 [.agg [.gr 4 1 (z.acc.map Rep.to),.d .nilsl]],.tip z.acc.length]) ⟨0,[]⟩ ?_ ⟨by simp,by simp,by simpa using eh.symm⟩ ?_
        · refine Re.wn (s':=[psR 1 ⟨path,dense,n,done,some hk⟩ (done.length+1),.cells (done.length+1) 2 (hkCR 2 done hk.at_ hk.rows.length),.cells hk.rows.length 3 (rwC hk.rows),.cells 0 2 [.agg [.gr 4 1 [],.d .nilsl]]]) [true,false,false,false,false,false,true,false,false,false,false,false,false,false,false,false,false,true,true,true] [.tip 0] (by simp) (by simp) ?_ ?_ (by simp)
          · simp
          · exact⟨.inl rfl,.inl rfl,.inl rfl,.cellsL ⟨⟨rfl,⟨Wk.fresh 4 [.tip 0] 1 0 rfl,Wk.refl _ _ _,trivial⟩⟩,trivial⟩,trivial⟩
        rintro⟨i,acc⟩ ⟨i1,i2,i3⟩
        simp only at i1 i2 i3
        by_cases hi:i<ws.length
        · have w1:IntKind.i64.wrap ((i:Int)+1)=(i:Int)+1:=wrap_in (by omega) (by omega)
          have hwl:=hw2 ws[i] (List.getElem_mem hi)
          have hg:ws[i]?=some ws[i]:=List.getElem?_eq_getElem hi
          rw[List.drop_eq_getElem_cons hi,wordsR,i2] at i3
          generalize hge:ws[i]=w at *
          by_cases hs:(i:Int)=n
          · rw[if_pos hs] at i3
            obtain rfl:i=n:=by omega
            by_cases q1:Lib.hasPrefix w [43]=true
            · have ew:cutPre w [43]=w.drop 1:=by unfold cutPre;rw[if_pos q1];rfl
              have ewr:wordR [43] w=match rangeV (w.drop 1) 0 with
                | none=>none
                | some x=>if x.2.2=(w.drop 1).length then some x.1 else none:=by unfold wordR;rw[if_pos q1] <;> rfl
              rw[ewr] at i3
              have hwd:(w.drop 1).length≤1048576:=by simp;omega
              generalize w.drop 1=u at *
              cases hrg:rangeV u 0 with
              | none =>
                rw[hrg] at i3
                have i3:none=V:=i3
                subst i3
                simp[psR,hi,hg,hge,h2,show w.length≤9223372036854775807 by omega,h5,optR,w1,hs,q1,ew,hwd,hrg]
                exact FinR.done (by simp) (by simp) rfl (by simp[resOf,resE]) (by simp) (by simp)
              | some x =>
                rw[hrg] at i3
                by_cases q2:x.2.2=u.length
                · simp only[if_pos q2] at i3
                  simp[psR,hi,hg,hge,h2,show w.length≤9223372036854775807 by omega,h5,optR,w1,hs,q1,ew,hwd,hrg,q2,i2]
                  exact⟨by unfold room;omega,Nxt.mk ⟨i+1,acc++[x.1]⟩ (by simp only;omega) (by simp) (by simp[psR,i2]) ⟨by simp only;omega,by simp[i2],i3⟩⟩
                · simp only[if_neg q2] at i3
                  subst i3
                  simp[psR,hi,hg,hge,h2,show w.length≤9223372036854775807 by omega,h5,optR,w1,hs,q1,ew,hwd,hrg,q2,show ¬(x.2.2:Int)=(u.length:Int) by omega]
                  exact FinR.done (by simp) (by simp) rfl (by simp[resOf,resE]) (by simp) (by simp)
            · have ew:cutPre w [43]=w:=by unfold cutPre;rw[if_neg q1]
              have ewr:wordR [43] w=none:=by unfold wordR;rw[if_neg q1]
              rw[ewr] at i3
              have i3:none=V:=i3
              subst i3
              cases hrg:rangeV w 0 with
              | none =>
                simp[psR,hi,hg,hge,h2,show w.length≤9223372036854775807 by omega,h5,optR,w1,hs,q1,ew,hrg,show w.length≤1048576 by omega]
                exact FinR.done (by simp) (by simp) rfl (by simp[resOf,resE]) (by simp) (by simp)
              | some x =>
                simp[psR,hi,hg,hge,h2,show w.length≤9223372036854775807 by omega,h5,optR,w1,hs,q1,ew,hrg,show w.length≤1048576 by omega]
                exact FinR.done (by simp) (by simp) rfl (by simp[resOf,resE]) (by simp) (by simp)
          · rw[if_neg hs] at i3
            have hs2:¬i=n:=by omega
            by_cases q1:Lib.hasPrefix w [45]=true
            · have ew:cutPre w [45]=w.drop 1:=by unfold cutPre;rw[if_pos q1];rfl
              have ewr:wordR [45] w=match rangeV (w.drop 1) 0 with
                | none=>none
                | some x=>if x.2.2=(w.drop 1).length then some x.1 else none:=by unfold wordR;rw[if_pos q1] <;> rfl
              rw[ewr] at i3
              have hwd:(w.drop 1).length≤1048576:=by simp;omega
              generalize w.drop 1=u at *
              cases hrg:rangeV u 0 with
              | none =>
                rw[hrg] at i3
                have i3:none=V:=i3
                subst i3
                simp[psR,hi,hg,hge,h2,show w.length≤9223372036854775807 by omega,h5,optR,w1,hs,hs2,q1,ew,hwd,hrg]
                exact FinR.done (by simp) (by simp) rfl (by simp[resOf,resE]) (by simp) (by simp)
              | some x =>
                rw[hrg] at i3
                by_cases q2:x.2.2=u.length
                · simp only[if_pos q2] at i3
                  simp[psR,hi,hg,hge,h2,show w.length≤9223372036854775807 by omega,h5,optR,w1,hs,hs2,q1,ew,hwd,hrg,q2,i2]
                  exact⟨by unfold room;omega,Nxt.mk ⟨i+1,acc++[x.1]⟩ (by simp only;omega) (by simp) (by simp[psR,i2]) ⟨by simp only;omega,by simp[i2],i3⟩⟩
                · simp only[if_neg q2] at i3
                  subst i3
                  simp[psR,hi,hg,hge,h2,show w.length≤9223372036854775807 by omega,h5,optR,w1,hs,hs2,q1,ew,hwd,hrg,q2,show ¬(x.2.2:Int)=(u.length:Int) by omega]
                  exact FinR.done (by simp) (by simp) rfl (by simp[resOf,resE]) (by simp) (by simp)
            · have ew:cutPre w [45]=w:=by unfold cutPre;rw[if_neg q1]
              have ewr:wordR [45] w=none:=by unfold wordR;rw[if_neg q1]
              rw[ewr] at i3
              have i3:none=V:=i3
              subst i3
              cases hrg:rangeV w 0 with
              | none =>
                simp[psR,hi,hg,hge,h2,show w.length≤9223372036854775807 by omega,h5,optR,w1,hs,hs2,q1,ew,hrg,show w.length≤1048576 by omega]
                exact FinR.done (by simp) (by simp) rfl (by simp[resOf,resE]) (by simp) (by simp)
              | some x =>
                simp[psR,hi,hg,hge,h2,show w.length≤9223372036854775807 by omega,h5,optR,w1,hs,hs2,q1,ew,hrg,show w.length≤1048576 by omega]
                exact FinR.done (by simp) (by simp) rfl (by simp[resOf,resE]) (by simp) (by simp)
        · rw[List.drop_of_length_le (by omega),wordsR] at i3
          subst i3
          simp[hi,hkl,psR]
          refine Hint.of (T':=[.ref 0 0 0 0,.any,.any,.any,.any,.any,.ref 3 0 0 0,.any,.any,.any,.any,.any,.any,.any,.any,.any,.any,.any,.any,.any,.any,.any,.any]) (s':=[psR 1 ⟨path,dense,n,done,some hk⟩ (done.length+1),.cells (done.length+1) 2 (hkCR 2 done hk.at_ hk.rows.length),.cells hk.rows.length 3 (rwC hk.rows),.cells 0 2 [.d (.agg [.sl 1 (acc.map Rep.to),.nilsl])],.tip acc.length])
            (Re.wn (s':=[psR 1 ⟨path,dense,n,done,some hk⟩ (done.length+1),.cells (done.length+1) 2 (hkCR 2 done hk.at_ hk.rows.length),.cells hk.rows.length 3 (rwC hk.rows),.cells 0 2 [.d (.agg [.sl 1 (acc.map Rep.to),.nilsl])],.tip acc.length]) [true,false,false,false,false,false,true] [] (by simp) (by simp) (by simp) ⟨.inl rfl,.inl rfl,.inl rfl,.cellsL ⟨⟨rfl,⟨Wk.gr _ _ _ _ _,Wk.refl _ _ _,trivial⟩⟩,trivial⟩,.inl rfl,trivial⟩ (by simp)) ?_
          have hdec:decide ((acc.length:Int)=(n:Int)+1)=decide (acc.length=n+1):=by
            rw[decide_eq_decide]
            omega
          have und3:=und2 acc
          simp[psR,hkl,w0,hdec,rsH,newR]
          refine⟨by unfold room;omega,FinR.done (by simp) (by simp) rfl (by simp[resOf,resE]) und3 (by simp)⟩
      · rw[if_neg c2] at eh
        simp only[F_recombine_header,hedB,hnn,eh]
        simp[x_recombine_parser_header,startA,rsB,psR,w0,e0,h1,hr,hal,h2,hll,c1,ec,h3,show r1.length≤9223372036854775807 by omega,c2]
        refine⟨⟨by omega,by omega,by omega⟩,by omega,by omega,?_⟩
        exact FinR.done (by simp) (by simp) rfl (by simp[resOf,resE]) (by simp) (by simp)
    · rw[if_neg c1] at eh
      simp only[F_recombine_header,hedB,hnn,eh]
      simp[x_recombine_parser_header,startA,rsB,psR,w0,e0,h1,hr,hal,h2,hll,c1]
      refine⟨⟨by omega,by omega,by omega⟩,by omega,?_⟩
      exact FinR.done (by simp) (by simp) rfl (by simp[resOf,resE]) (by simp) (by simp)
@[simp] theorem hkCR_at (i:Nat) (done:List CHunkT) (a:List Int) (m:Nat):(hkCR i done a m)[done.length]?=some (.agg [.d (.sl 1 (a.map Rep.to)),.own i m 0 m]):=by
  simp[hkCR]
theorem hkCR_set (i:Nat) (done:List CHunkT) (a b:List Int) (m k:Nat):(hkCR i done a m).set done.length (.agg [.d (.sl 1 (b.map Rep.to)),.own i k 0 k])=hkCR i done b k:=by
  simp[hkCR]
theorem rwC_app (l:List RowT) (r:RowT):rwC l++[.d (.agg [.bool r.lost,.int .u32 r.marks,.str r.text])]=rwC (l++[r]):=by simp[rwC,rwD]
theorem rwC_at {l:List RowT} {i:Nat} (h:i<l.length):(rwC l)[i]?=some (.d (.agg [.bool l[i].lost,.int .u32 l[i].marks,.str l[i].text])):=by
  simp[rwC,rwD,h]
theorem rwset_under (l:List RowT) (k:Nat) (a:Bool) (b:Int) (c:Str) (n:Nat):((rwC l).set k (.agg [.d (.bool a),.d (.int .u32 b),.d (.str c)])).all (A.under n)=true:=by
  rw[List.all_eq_true]
  intro x hx
  rcases List.mem_or_eq_of_mem_set hx with hx | rfl
  · have:=rwC_under l n
    rw[List.all_eq_true] at this
    exact this x hx
  · rfl
def rsE (x:RsT) (h:CHunkT):Store :=
  [psR 1 x (x.done.length+1),.cells (x.done.length+1) 2 (hkCR 2 x.done h.at_ h.rows.length),.cells h.rows.length 3 ((rwC h.rows).set (h.rows.length-1) (.agg [.d (.bool (h.rows.getD (h.rows.length-1) default).lost),.d (.int .u32 (h.rows.getD (h.rows.length-1) default).marks),.d (.str (Lib.trimSuffix (h.rows.getD (h.rows.length-1) default).text [10]))]))]
def lineS (x:RsT) (line:Str):Store :=
  if Lib.hasPrefix line [64]=true then (match headR x.par.toNat line with
    | none=>rsS x
    | some a=>rsH x a)
  else match x.cur with
    | none=>rsS x
    | some h=>if line=unendL then (if h.rows=[] then rsS x else rsE x h) else rsS ⟨x.path,x.dense,x.par,x.done,some ⟨h.at_,h.rows++[(rowRd (line++[10]) x.par).1]⟩⟩
@[simp] def F_recombine_line:RF RlX where
  new:=0
  view a st:=⟨rsV st,(a.getD 1 .any).gs⟩
  args x:=[.ref 0 0 0 0,.d (.str x.line)]
  st x:=rsS x.x
  pre x:=((x.x.cur=none→x.x.done=[])∧x.x.done.length≤1000000000∧(∀h,x.x.cur=some h→h.rows.length≤1000000000∧RowsOk h.rows))∧x.line.length≤1048576∧1≤x.x.par∧x.x.par≤32
  res x:=.d (.bool (lineR x.x x.line).isSome)
  st' x:=lineS x.x x.line
abbrev R_recombine_parser_line:RSpec:=F_recombine_line.spec
theorem hedB_line {x:RsT} {line:Str} (h1:1≤x.par) (hp:Lib.hasPrefix line [64]=true):(lineR x line).isSome=hedB x.par.toNat line:=by
  unfold lineR hedB
  rw[if_pos hp]
  cases headR x.par.toNat line with
  | none=>rfl
  | some a =>
    simp only
    by_cases c:(a.length:Int)=x.par+1
    · rw[if_pos c]
      have:a.length=x.par.toNat+1:=by omega
      simp[this]
    · rw[if_neg c]
      have:¬a.length=x.par.toNat+1:=by omega
      simp[this]
theorem ct_recombine_parser_line {P:Program} {f g1 g2 g3 g4:Nat} {G:Gam} (hc:CodeOf P f 2 11 [2] (x_recombine_parser_line g1 g2 g3 g4)) (hG:GamOk P G) (h1:G.find g1=some S_strings_HasPrefix) (h2:G.find g2=some S_strings_TrimSuffix) (h3:G.find g3=some S_recombine_Row) (h4:G.findR g4=some R_recombine_parser_header):RSpec.Ok P f R_recombine_parser_line:=by
  refine RF.ok hc.call fun x hx=>hc.rcalls hG rfl ?_
  obtain⟨⟨path,dense,par,done,cur⟩,line⟩:=x
  obtain⟨⟨h0,hd,hls⟩,hl,hp1,hp2⟩:=hx
  simp only at h0 hd hls hl hp1 hp2
  have hll:line.length≤9223372036854775807:=by omega
  have hv:=rsV_rsS (x:=⟨path,dense,par,done,cur⟩) h0
  have und:=rsS_under ⟨path,dense,par,done,cur⟩
  have und2:=rsH_under ⟨path,dense,par,done,cur⟩
  have hB:=hedB_line (x:=⟨path,dense,par,done,cur⟩) (line:=line) hp1
  cases cur with
  | none =>
    have hdn:done=[]:=h0 rfl
    subst hdn
    simp only[rsB,psR] at und hv
    by_cases c1:Lib.hasPrefix line [64]=true
    · have hB:=hB c1
      have hS:lineS ⟨path,dense,par,[],none⟩ line=(match headR par.toNat line with
        | none=>rsS ⟨path,dense,par,[],none⟩
        | some a=>rsH ⟨path,dense,par,[],none⟩ a):=by unfold lineS;rw[if_pos c1] <;> rfl
      simp only[F_recombine_line,hB,hS]
      cases hh:headR par.toNat line with
      | none =>
        have hb:hedB par.toNat line=false:=by unfold hedB;rw[hh]
        simp[x_recombine_parser_line,startA,rsB,psR,h1,hll,c1,eRCall,h4,hv,hl,hp1,hp2,hh,hb]
        exact FinR.done (by simp) (by simp) rfl (by simp[resOf,resE]) und (by simp)
      | some a =>
        have und3:=und2 a
        simp only[rsH,psR,newR] at und3
        simp[x_recombine_parser_line,startA,rsB,psR,rsH,newR,h1,hll,c1,eRCall,h4,hv,hl,hp1,hp2,hh]
        exact FinR.done (by simp) (by simp) rfl (by simp[resOf,resE]) und3 (by simp)
    · have hL:lineR ⟨path,dense,par,[],none⟩ line=none:=by unfold lineR;rw[if_neg c1]
      have hS:lineS ⟨path,dense,par,[],none⟩ line=rsS ⟨path,dense,par,[],none⟩:=by unfold lineS;rw[if_neg c1]
      simp only[F_recombine_line,hL,hS]
      simp[x_recombine_parser_line,startA,rsB,psR,h1,hll,c1]
      exact FinR.done (by simp) (by simp) rfl (by simp[resOf,resE]) und (by simp)
  | some h =>
    have hkl:=hkCR_len 2 done h.at_ h.rows.length
    have hrl:=rwC_len h.rows
    obtain⟨hh1,hh2⟩:=hls h rfl
    obtain⟨_,hat⟩:=List.getElem?_eq_some_iff.1 (hkCR_at 2 done h.at_ h.rows.length)
    simp only[rsB,psR] at und hv
    by_cases c1:Lib.hasPrefix line [64]=true
    · have hB:=hB c1
      have hS:lineS ⟨path,dense,par,done,some h⟩ line=(match headR par.toNat line with
        | none=>rsS ⟨path,dense,par,done,some h⟩
        | some a=>rsH ⟨path,dense,par,done,some h⟩ a):=by unfold lineS;rw[if_pos c1] <;> rfl
      simp only[F_recombine_line,hB,hS]
      cases hh:headR par.toNat line with
      | none =>
        have hb:hedB par.toNat line=false:=by unfold hedB;rw[hh]
        simp[x_recombine_parser_line,startA,rsB,psR,h1,hll,c1,eRCall,h4,hv,hd,hl,hp1,hp2,hh,hb]
        exact FinR.done (by simp) (by simp) rfl (by simp[resOf,resE]) und (by simp)
      | some a =>
        have und3:=und2 a
        simp only[rsH,psR,newR] at und3
        simp[x_recombine_parser_line,startA,rsB,psR,rsH,newR,h1,hll,c1,eRCall,h4,hv,hd,hl,hp1,hp2,hh]
        exact FinR.done (by simp) (by simp) rfl (by simp[resOf,resE]) und3 (by simp)
    · have hL:lineR ⟨path,dense,par,done,some h⟩ line=if line=unendL then (if h.rows=[] then none else some ⟨path,dense,par,done,some ⟨h.at_,endRow h.rows⟩⟩) else
        if (rowRd (line++[10]) par).2=true then some ⟨path,dense,par,done,some ⟨h.at_,h.rows++[(rowRd (line++[10]) par).1]⟩⟩ else none:=by unfold lineR;rw[if_neg c1]
      have hS:lineS ⟨path,dense,par,done,some h⟩ line=if line=unendL then (if h.rows=[] then rsS ⟨path,dense,par,done,some h⟩ else rsE ⟨path,dense,par,done,some h⟩ h) else rsS ⟨path,dense,par,done,some ⟨h.at_,h.rows++[(rowRd (line++[10]) par).1]⟩⟩:=by unfold lineS;rw[if_neg c1]
      have w0:IntKind.i64.wrap (done.length:Int)=(done.length:Int):=wrap_in (by omega) (by omega)
      have hu:[92,32,78,111,32,110,101,119,108,105,110,101,32,97,116,32,101,110,100,32,111,102,32,102,105,108,101]=unendL:=rfl
      have nz:¬(done.length:Int)+1=0:=by omega
      by_cases c2:line=unendL
      · have c2t:(line=unendL)=True:=eq_true c2
        rw[if_pos c2] at hL hS
        by_cases c3:h.rows=[]
        · rw[if_pos c3] at hL hS
          simp only[F_recombine_line,hL,hS]
          have hrl0:h.rows.length=0:=by rw[c3];rfl
          obtain⟨ha,hrs⟩:=h
          simp only at c3
          subst c3
          simp only[List.length_nil] at hkl hrl hat und
          simp[x_recombine_parser_line,startA,rsB,psR,h1,hll,c1,hkl,hat,hu,c2t,w0,nz]
          exact⟨by omega,FinR.done (by simp) (by simp) rfl (by simp[resOf,resE]) und (by simp)⟩
        · rw[if_neg c3] at hL hS
          simp only[F_recombine_line,hL,hS]
          have hpos:0<h.rows.length:=List.length_pos_iff.2 c3
          have w1:IntKind.i64.wrap ((h.rows.length:Int)-1)=((h.rows.length-1:Nat):Int):=by rw[wrap_in (by omega) (by omega)];omega
          have hlt:h.rows.length-1<h.rows.length:=by omega
          have hla:=rwC_at hlt
          obtain⟨_,hla2⟩:=List.getElem?_eq_some_iff.1 hla
          have htx:=(hh2 _ (List.getElem_mem hlt)).2
          have hgd:h.rows[h.rows.length-1]?=some h.rows[h.rows.length-1]:=List.getElem?_eq_getElem hlt
          simp only[rsE,psR]
          have hgd2:h.rows.getD (h.rows.length-1) default=h.rows[h.rows.length-1]:=by simp[List.getD,hgd]
          rw[hgd2]
          generalize hk:h.rows.length-1=k at *
          simp[x_recombine_parser_line,startA,rsB,psR,h1,hll,c1,hkl,hrl,hat,hu,c2t,c3,w0,nz,w1,hlt,hla,hla2,h2,show (h.rows[k]).text.length≤9223372036854775807 by omega]
          have hund:=rwset_under h.rows k h.rows[k].lost h.rows[k].marks (Lib.trimSuffix h.rows[k].text [10]) 3
          refine⟨by omega,FinR.done (by simp) (by simp) rfl (by simp[resOf,resE]) ?_ (by simp)⟩
          simp only[List.length_cons,List.length_nil,List.all_cons,List.all_nil,Ob.under,Bool.and_true,Nat.zero_add,hund,hkCR_under]
          simp
      · rw[if_neg c2] at hL hS
        simp only[F_recombine_line,hL,hS]
        have c4:¬line=[92,32,78,111,32,110,101,119,108,105,110,101,32,97,116,32,101,110,100,32,111,102,32,102,105,108,101]:=c2
        have hap:=rwC_app h.rows (rowRd (line++[10]) par).1
        have hset:=fun k=>hkCR_set 2 done h.at_ h.at_ h.rows.length k
        generalize hR:rowRd (line++[10]) par=R at *
        obtain⟨r,ok⟩:=R
        simp only at hap
        simp[x_recombine_parser_line,startA,rsB,psR,h1,hll,c1,hkl,hrl,hat,c4,w0,nz,h3,show line.length≤999999999 by omega,hR,hap,hset]
        have hok:(if ok=true then some (⟨path,dense,par,done,some ⟨h.at_,h.rows++[r]⟩⟩:RsT) else none).isSome=ok:=by cases ok <;> rfl
        rw[hok]
        refine⟨by omega,by omega,by unfold room;omega,FinR.done (by simp) (by simp) rfl (by simp[resOf,resE]) (by simp) (by simp)⟩
def hkRA (h:CHunkT):A:=.agg [.d (.sl 1 (h.at_.map Rep.to)),.d (.sl 3 (h.rows.map Rep.to))]
theorem hkR_fits (l:List CHunkT):∀x,x∈l.map hkR→x.fits 2=true:=by
  intro x hx
  obtain⟨h,_,rfl⟩:=List.mem_map.1 hx
  rfl
theorem rw_toD (l:List RowT):((((rwC l).drop 0).take l.length).map A.toD)=l.map Rep.to:=by
  rw[List.drop_zero,List.take_of_length_le (by simp[rwC])]
  unfold rwC
  rw[List.map_map]
  rfl
theorem rw_isD (l:List RowT):(((rwC l).drop 0).take l.length).all A.isD=true:=by
  rw[List.drop_zero,List.take_of_length_le (by simp[rwC])]
  simp[rwC,rwD,A.isD]
theorem hkR_freeze (L:Nat) (done:List CHunkT) (h:CHunkT):FzE L h.rows.length 3 (rwC h.rows) 2 (hkCR L done h.at_ h.rows.length) (done.map hkR++[hkRA h]):=by
  unfold hkCR
  refine FzE.app (FzE.refl (hkR_fits done)) (FzE.one rfl ⟨Fz.refl _ _ _ _ _,?_,trivial⟩)
  have:=Fz.own L h.rows.length 3 0 h.rows.length (rwC h.rows) (rw_isD h.rows)
  rw[rw_toD] at this
  exact this
theorem hkRs_toD (l:List CHunkT) (h:CHunkT):(l.map hkR++[hkRA h]).map A.toD=(l++[h]).map Rep.to:=by
  simp only[List.map_append,List.map_map,List.map_cons,List.map_nil]
  rfl
theorem hkRs_isD (l:List CHunkT) (h:CHunkT):(l.map hkR++[hkRA h]).all A.isD=true:=by
  simp[hkR,hkRA,A.isD,A.allD]
theorem endRow_set:∀l:List RowT,l≠[]→endRow l=l.set (l.length-1) ⟨(l.getD (l.length-1) default).lost,(l.getD (l.length-1) default).marks,Lib.trimSuffix (l.getD (l.length-1) default).text [10]⟩
  | [],h=>absurd rfl h
  | [x],_=>rfl
  | x::y::r,_=>by
    have ih:=endRow_set (y::r) (by simp)
    simp only[endRow,ih]
    simp
theorem rw_set (l:List RowT) (k:Nat) (x:RowT):rwC (l.set k x)=(rwC l).set k (rwD x):=by simp[rwC]
theorem rwC_fits (l:List RowT):∀x,x∈rwC l→x.fits 3=true:=by
  intro x hx
  obtain⟨h,_,rfl⟩:=List.mem_map.1 hx
  rfl
theorem wk_lastR (n v:Nat) (k:List Ob) (l:List RowT) (h:l≠[]):WkO n k (.cells v 3 ((rwC l).set (l.length-1) (.agg [.d (.bool (l.getD (l.length-1) default).lost),.d (.int .u32 (l.getD (l.length-1) default).marks),.d (.str (Lib.trimSuffix (l.getD (l.length-1) default).text [10]))]))) (.cells v 3 (rwC (endRow l))):=by
  rw[endRow_set l h,rw_set]
  exact .cells (WkE.setset (rwC_fits l) rfl ⟨Wk.refl _ _ _,Wk.refl _ _ _,Wk.refl _ _ _,trivial⟩)
def parseRD (l:List Str):D:=match parseR l with
  | none=>.tup [Rep.to noC,.bool false]
  | some p=>.tup [Rep.to p,.bool true]
structure PrcX where
  i:Nat
  x:RsT
def pcI (R:List Str) (x0:RsT) (y:PrcX):Prop:=y.i≤R.length∧foldR y.x (R.drop y.i)=foldR x0 R∧RsOk y.x (63 * y.i+47 * flen (R.take y.i))
def resC:Ob:=.cells 0 4 [.d (.agg [.str [],.bool false,.int .i64 0,.nilsl])]
@[simp] def S_recombine_parse:List D→Prop × D:=spec1 (α:=List Str) (fun l=>flen l≤1048576∧l.length≤1048577) (fun l=>parseRD l)
theorem ct_recombine_parse {P:Program} {f g1 g2:Nat} {G:Gam} (h:CodeOf P f 1 11 [42001,2] (x_recombine_parse g1 g2)) (hG:GamOk P G) (h1:G.findR g1=some R_recombine_parser_title) (h2:G.findR g2=some R_recombine_parser_line):Has P f S_recombine_parse:=h.has1 hG fun l hp=>by
  obtain⟨p1,p2⟩:=hp
  by_cases c:l.length<2
  · have e:parseRD l=.tup [Rep.to noC,.bool false]:=by unfold parseRD parseR;rw[if_pos c]
    rw[e]
    simp[x_recombine_parse,show (l.length:Int)<2 by omega,noC]
  · have hl0:0<l.length:=by omega
    have hl1:1<l.length:=by omega
    have b0:=mem_flat_le hl0
    have b1:=mem_flat_le hl1
    have bf:l.flatten.length=flen l:=rfl
    have q0:l[0].length≤1048576:=by omega
    have q1:l[1].length≤1048576:=by omega
    have ep:parseR l=if (titV l[0] l[1]).2=true then
      (match foldR (titV l[0] l[1]).1 (l.drop 2) with
      | none=>none
      | some x=>some ⟨x.path,x.dense,x.par,x.hunks⟩) else none:=by
      unfold parseR
      rw[if_neg c,show l.getD 0 []=l[0] by simp[List.getD,hl0],show l.getD 1 []=l[1] by simp[List.getD,hl1]] <;> rfl
    cases ca:(titV l[0] l[1]).2 with
    | false =>
      have e:parseRD l=.tup [Rep.to noC,.bool false]:=by unfold parseRD;rw[ep,if_neg (by rw[ca];simp)]
      rw[e]
      simp[x_recombine_parse,show ¬(l.length:Int)<2 by omega,show (1:Int)<l.length by omega,hl0,hl1,eRCall,h1,psT,q0,q1,ca,noC]
    | true =>
      rw[if_pos ca] at ep
      have hx0:=titV_ok ca q0
      have hfr:flen (l.drop 2)≤1048576:=by have:=flen_take l 2;omega
      have hlr:(l.drop 2).length=l.length-2:=by simp
      have hd2:List.take (l.length-2) (l.drop 2)=l.drop 2:=List.take_of_length_le (by simp)
      have hst:(titV l[0] l[1]).1.done=[]∧(titV l[0] l[1]).1.cur=none:=by
        unfold titV titR
        split
        · exact⟨rfl,rfl⟩
        · split <;> exact⟨rfl,rfl⟩
      have hst:(titV l[0] l[1]).1.done=[]∧(titV l[0] l[1]).1.cur=none:=by
        unfold titV titR
        split
        · exact⟨rfl,rfl⟩
        · split <;> exact⟨rfl,rfl⟩
      have hst:(titV l[0] l[1]).1.done=[]∧(titV l[0] l[1]).1.cur=none:=by
        unfold titV titR
        split
        · exact⟨rfl,rfl⟩
        · split <;> exact⟨rfl,rfl⟩
      simp[x_recombine_parse,show ¬(l.length:Int)<2 by omega,show (1:Int)<l.length by omega,hl0,hl1,eRCall,h1,psT,q0,q1,ca,show 2≤l.length by omega,hd2]
      refine⟨by omega,?_⟩
      have hR:List.take (l.length-2) (List.drop 2 (l.map Rep.to))=(l.drop 2).map Rep.to:=by rw[← List.map_drop];exact List.take_of_length_le (by simp)
      rw[hR,show l.length-2=(l.drop 2).length by simp]
      generalize (titV l[0] l[1]).1=x0 at *
      have epd:parseRD l=match foldR x0 (l.drop 2) with
        | none=>.tup [Rep.to noC,.bool false]
        | some x=>.tup [Rep.to (⟨x.path,x.dense,x.par,x.hunks⟩:CombT),.bool true]:=by
        unfold parseRD
        rw[ep]
        cases foldR x0 (l.drop 2) <;> rfl
      generalize l.drop 2=R at *
      rw[epd]
      have hx0:RsOk x0 (63 * 0+47 * flen (R.take 0)):=by simpa [flen] using hx0
      refine vc_lpR (σ:=PrcX) (pcI R x0) (fun y=>R.length-y.i)
        (fun y=>[.any,.ref 0 0 0 0,.any,.ref 1 0 0 0,.any,.any,.d (.sl 1 (R.map Rep.to)),.d (.int .i64 R.length),.d (.int .i64 y.i),.any,.any])
        (fun y=>resC::rsB 1 y.x) ⟨0,x0⟩ ?_ ⟨by simp,by simp,hx0⟩ ?_
      · refine Re.wn (s':=[resC,psR 2 x0 0]) [false,true,false,true,false,false,true,true,true] [.cells 0 2 []] (by simp) (by simp) ?_ ?_ (by simp[rsB,hst.2])
        · simp
        · refine⟨.inl rfl,.cellsL ?_,trivial⟩
          simp
          exact Wk.freshO _ _ _ 0 rfl
      clear hx0 hst ca ep
      rintro⟨i,x⟩ ⟨i1,i2,i3⟩
      simp only at i1 i2 i3
      by_cases hi:i<R.length
      · have w1:IntKind.i64.wrap ((i:Int)+1)=(i:Int)+1:=wrap_in (by omega) (by omega)
        rw[List.drop_eq_getElem_cons hi,foldR] at i2
        have hfs:=flen_succ hi
        have hft:=flen_take R (i+1)
        have hgi:R[i]?=some R[i]:=List.getElem?_eq_getElem hi
        have hll:R[i].length≤1048576:=by omega
        have bad:lineR x R[i]=none→foldR x0 R=none:=fun e=>by rw[← i2,e]
        have good:∀y,lineR x R[i]=some y→pcI R x0 ⟨i+1,y⟩:=fun y e=>by
          refine⟨hi,by rw[← i2,e],?_⟩
          have:=i3.step e hll
          rw[show 63 * i+47 * flen (R.take i)+63+47 * R[i].length=63 * (i+1)+47 * flen (R.take (i+1)) by omega] at this
          exact this
        clear i2
        have hdl:x.done.length≤1000000000:=by
          have h1:=i3.m
          have h2:=chunks_leM x.par.toNat x.hunks
          simp only[RsT.M,RsT.hunks,List.length_append] at h1 h2
          omega
        have hcl:∀h,x.cur=some h→h.rows.length≤1000000000∧RowsOk h.rows:=fun h e=>by
          have hm:h∈x.hunks:=by simp[RsT.hunks,e]
          have h1:=i3.m
          have h2:=chunk_leM x.par.toNat hm
          have h3:=rows_leM h.rows
          have h4:=i3.oks h hm
          unfold chunkM at h2
          simp only[RsT.M] at h1
          exact⟨by omega,h4.2⟩
        have i4:=i3.none
        have i5:=i3.p1
        have i6:=i3.p2
        have hv:=rsV_rsS i4
        generalize hg:R[i]=line at *
        obtain⟨path,dense,par,done,cur⟩:=x
        simp only at hdl i4 i5 i6 hcl
        cases cur with
        | none =>
          have hdn:=i4 rfl
          subst hdn
          simp only[rsB,psR] at hv
          by_cases c1:Lib.hasPrefix line [64]=true
          · have hL:lineR ⟨path,dense,par,[],none⟩ line=(match headR par.toNat line with
              | none=>none
              | some a=>if (a.length:Int)=par+1 then some ⟨path,dense,par,[],some ⟨a,[]⟩⟩ else none):=by unfold lineR;rw[if_pos c1] <;> rfl
            have hS:lineS ⟨path,dense,par,[],none⟩ line=(match headR par.toNat line with
              | none=>rsS ⟨path,dense,par,[],none⟩
              | some a=>rsH ⟨path,dense,par,[],none⟩ a):=by unfold lineS;rw[if_pos c1] <;> rfl
            cases hh:headR par.toNat line with
            | none =>
              rw[hh] at hL hS
              rw[bad hL]
              simp only at hL hS
              simp only[rsB,psR] at hS
              simp[hi,hgi,hg,hll,eRCall,h2,psR,resC,rsB,hv,i5,i6,hL,hS,noC]
            | some a =>
              rw[hh] at hL hS
              simp only at hL hS
              simp only[rsH,psR,newR] at hS
              by_cases c2:(a.length:Int)=par+1
              · rw[if_pos c2] at hL
                have hgd:=good _ hL
                simp[hi,hgi,hg,hll,eRCall,h2,psR,resC,rsB,hv,i5,i6,hL,hS,w1]
                refine Nxt.re ⟨i+1,⟨path,dense,par,[],some ⟨a,[]⟩⟩⟩ (by simp only;omega) ?_ (by simpa using hgd)
                refine Re.wn (s':=[resC,psR 2 ⟨path,dense,par,[],none⟩ 1,.cells 1 2 [.agg [.d (.sl 1 (a.map Rep.to)),.own 3 0 0 0]]]) [false,true,false,true,false,false,true,true,true] [.cells 0 3 []] (by simp) (by simp) ?_ ?_ (by simp[rsB,psR,hkCR,rwC,resC])
                · simp
                · refine⟨.inl rfl,.inl rfl,.cellsL ?_,trivial⟩
                  simp
                  exact Wk.freshO _ _ _ 0 rfl
              · rw[if_neg c2] at hL
                rw[bad hL]
                simp[hi,hgi,hg,hll,eRCall,h2,psR,resC,rsB,hv,i5,i6,hL,hS,noC]
          · have hL:lineR ⟨path,dense,par,[],none⟩ line=none:=by unfold lineR;rw[if_neg c1]
            have hS:lineS ⟨path,dense,par,[],none⟩ line=rsS ⟨path,dense,par,[],none⟩:=by unfold lineS;rw[if_neg c1]
            simp only[rsB,psR] at hS
            rw[bad hL]
            simp[hi,hgi,hg,hll,eRCall,h2,psR,resC,rsB,hv,i5,i6,hL,hS,noC]
        | some hk =>
          obtain⟨hk1,hk2⟩:=hcl hk rfl
          simp only[rsB,psR] at hv
          by_cases c1:Lib.hasPrefix line [64]=true
          · have hL:lineR ⟨path,dense,par,done,some hk⟩ line=(match headR par.toNat line with
              | none=>none
              | some a=>if (a.length:Int)=par+1 then some ⟨path,dense,par,done++[hk],some ⟨a,[]⟩⟩ else none):=by unfold lineR;rw[if_pos c1] <;> rfl
            have hS:lineS ⟨path,dense,par,done,some hk⟩ line=(match headR par.toNat line with
              | none=>rsS ⟨path,dense,par,done,some hk⟩
              | some a=>rsH ⟨path,dense,par,done,some hk⟩ a):=by unfold lineS;rw[if_pos c1] <;> rfl
            cases hh:headR par.toNat line with
            | none =>
              rw[hh] at hL hS
              rw[bad hL]
              simp only at hL hS
              simp only[rsB,psR] at hS
              simp[hi,hgi,hg,hll,eRCall,h2,psR,resC,rsB,hv,hdl,hk1,hk2,i5,i6,hL,hS,noC]
            | some a =>
              rw[hh] at hL hS
              simp only at hL hS
              simp only[rsH,psR,newR] at hS
              by_cases c2:(a.length:Int)=par+1
              · rw[if_pos c2] at hL
                have hgd:=good _ hL
                simp[hi,hgi,hg,hll,eRCall,h2,psR,resC,rsB,hv,hdl,hk1,hk2,i5,i6,hL,hS,w1]
                refine Nxt.re ⟨i+1,⟨path,dense,par,done++[hk],some ⟨a,[]⟩⟩⟩ (by simp only;omega) ?_ (by simpa using hgd)
                have r1:Re 0 [A.any,A.ref 0 0 0 0,A.any,A.ref 1 0 0 0,A.d (D.str line),A.any,A.d (D.sl 1 (List.map Rep.to R)),A.d (D.int IntKind.i64 ↑R.length),A.d (D.int IntKind.i64 (↑i+1)),A.d (D.bool true),A.d (D.bool false)]
                    [resC,psR 2 ⟨path,dense,par,done,some hk⟩ (done.length+1+1),.cells (done.length+1+1) 2 (hkCR 3 done hk.at_ hk.rows.length++[newR a]),.cells hk.rows.length 3 (rwC hk.rows)]
                    [A.any,A.ref 0 0 0 0,A.any,A.ref 1 0 0 0,A.any,A.any,A.d (D.sl 1 (List.map Rep.to R)),A.d (D.int IntKind.i64 ↑R.length),A.d (D.int IntKind.i64 (↑i+1)),A.any,A.any]
                    [resC,psR 2 ⟨path,dense,par,done,some hk⟩ (done.length+1+1),.cells (done.length+1+1) 2 (done.map hkR++[hkRA hk]++[newR a]),.dead]:=by
                  refine Re.freeze 3 hk.rows.length 3 (rwC hk.rows) rfl (by simp) ⟨rfl,?_⟩ rfl
                  intro k hkk hkk2
                  have:k=0∨k=1∨k=2:=by simp at hkk;omega
                  rcases this with rfl | rfl | rfl
                  · exact .inl rfl
                  · exact .inl rfl
                  · exact FzE.ob (FzE.app (hkR_freeze 3 done hk) (FzE.refl (fun x hx=>by simp at hx;subst hx;rfl)))
                have r2:Re 0 [A.any,A.ref 0 0 0 0,A.any,A.ref 1 0 0 0,A.any,A.any,A.d (D.sl 1 (List.map Rep.to R)),A.d (D.int IntKind.i64 ↑R.length),A.d (D.int IntKind.i64 (↑i+1)),A.any,A.any]
                    [resC,psR 2 ⟨path,dense,par,done,some hk⟩ (done.length+1+1),.cells (done.length+1+1) 2 (done.map hkR++[hkRA hk]++[newR a]),.dead]
                    [A.any,A.ref 0 0 0 0,A.any,A.ref 1 0 0 0,A.any,A.any,A.d (D.sl 1 (List.map Rep.to R)),A.d (D.int IntKind.i64 ↑R.length),A.d (D.int IntKind.i64 (↑i+1)),A.any,A.any]
                    [resC,psR 2 ⟨path,dense,par,done,some hk⟩ (done.length+1+1),.cells (done.length+1+1) 2 (hkCR 4 (done++[hk]) a 0),.dead,.cells 0 3 []]:=by
                  refine Re.weak (k:=[.cells 0 3 []]) (s':=[resC,psR 2 ⟨path,dense,par,done,some hk⟩ (done.length+1+1),.cells (done.length+1+1) 2 (hkCR 4 (done++[hk]) a 0),.dead]) (by simp) (by simp) (WkL.refl _ _ _) ⟨.inl rfl,.inl rfl,.cells ?_,.inl rfl,trivial⟩
                  unfold hkCR
                  rw[List.map_append]
                  refine WkE.app (WkE.app (WkE.refl (hkR_fits done)) (WkEL.toE ⟨⟨rfl,?_⟩,trivial⟩)) (WkEL.toE ⟨⟨rfl,?_⟩,trivial⟩)
                  · exact⟨Wk.refl _ _ _,Wk.refl _ _ _,trivial⟩
                  · exact⟨Wk.refl _ _ _,Wk.freshO _ _ _ 0 rfl,trivial⟩
                have r3:=Re.pick (lo:=0) (T:=[A.any,A.ref 0 0 0 0,A.any,A.ref 1 0 0 0,A.any,A.any,A.d (D.sl 1 (List.map Rep.to R)),A.d (D.int IntKind.i64 ↑R.length),A.d (D.int IntKind.i64 (↑i+1)),A.any,A.any])
                  (s:=[resC,psR 2 ⟨path,dense,par,done,some hk⟩ (done.length+1+1),.cells (done.length+1+1) 2 (hkCR 4 (done++[hk]) a 0),.dead,.cells 0 3 []]) [0,1,2,4] ⟨by simp,by simp,by simp[pickS,resC,psR,idxIn4]⟩ (by simp) (by intro k hk;omega) (by simp[idxIn4])
                have r4:=Re.trans r1 (Re.trans r2 r3)
                simp only[resC,psR,newR] at r4
                simp[pickS,idxIn4,psR,resC] at r4
                simpa [rsB,psR,rwC,resC] using r4
              · rw[if_neg c2] at hL
                rw[bad hL]
                simp[hi,hgi,hg,hll,eRCall,h2,psR,resC,rsB,hv,hdl,hk1,hk2,i5,i6,hL,hS,noC]
          · have hL:lineR ⟨path,dense,par,done,some hk⟩ line=if line=unendL then (if hk.rows=[] then none else some ⟨path,dense,par,done,some ⟨hk.at_,endRow hk.rows⟩⟩) else
              if (rowRd (line++[10]) par).2=true then some ⟨path,dense,par,done,some ⟨hk.at_,hk.rows++[(rowRd (line++[10]) par).1]⟩⟩ else none:=by unfold lineR;rw[if_neg c1]
            have hS:lineS ⟨path,dense,par,done,some hk⟩ line=if line=unendL then (if hk.rows=[] then rsS ⟨path,dense,par,done,some hk⟩ else rsE ⟨path,dense,par,done,some hk⟩ hk) else rsS ⟨path,dense,par,done,some ⟨hk.at_,hk.rows++[(rowRd (line++[10]) par).1]⟩⟩:=by unfold lineS;rw[if_neg c1]
            by_cases c2:line=unendL
            · rw[if_pos c2] at hL hS
              by_cases c3:hk.rows=[]
              · rw[if_pos c3] at hL hS
                rw[bad hL]
                simp only[rsB,psR] at hS
                simp[hi,hgi,hg,hll,eRCall,h2,psR,resC,rsB,hv,hdl,hk1,hk2,i5,i6,hL,hS,noC]
              · rw[if_neg c3] at hL hS
                have hgd:=good _ hL
                have hwk:=wk_lastR 4 hk.rows.length [] hk.rows c3
                have hel:=(endRow_spec hk.rows).2.1
                simp only[rsE,psR] at hS
                generalize hZ:(rwC hk.rows).set (hk.rows.length-1) (.agg [.d (.bool (hk.rows.getD (hk.rows.length-1) default).lost),.d (.int .u32 (hk.rows.getD (hk.rows.length-1) default).marks),.d (.str (Lib.trimSuffix (hk.rows.getD (hk.rows.length-1) default).text [10]))])=Z at *
                have hZl:Z.length=hk.rows.length:=by rw[← hZ];simp[rwC]
                have hZr:∀q:Nat→Nat,Z.map (A.ren q)=Z:=fun q=>by
                  rw[← hZ,List.map_set,ren_rw]
                  rfl
                have hZu:∀n x,x∈Z→A.under n x=true:=by
                  have:=rwset_under hk.rows (hk.rows.length-1) (hk.rows.getD (hk.rows.length-1) default).lost (hk.rows.getD (hk.rows.length-1) default).marks (Lib.trimSuffix (hk.rows.getD (hk.rows.length-1) default).text [10])
                  intro n x hx
                  rw[← hZ] at hx
                  exact List.all_eq_true.1 (this n) x hx
                simp[hi,hgi,hg,hll,eRCall,h2,psR,resC,rsB,hv,hdl,hk1,hk2,i5,i6,hL,hS,w1,hZr]
                refine⟨hZu 3,Nxt.re ⟨i+1,⟨path,dense,par,done,some ⟨hk.at_,endRow hk.rows⟩⟩⟩ (by simp only;omega) ?_ hgd⟩
                simp only[hel]
                refine Re.wn (s':=[resC,psR 2 ⟨path,dense,par,done,some hk⟩ (done.length+1),.cells (done.length+1) 2 (hkCR 3 done hk.at_ hk.rows.length),.cells hk.rows.length 3 (rwC (endRow hk.rows))]) [false,true,false,true,false,false,true,true,true] [] (by simp) (by simp) ?_ ?_ (by simp[psR,resC])
                · simp
                · exact⟨.inl rfl,.inl rfl,.inl rfl,hwk,trivial⟩
            · rw[if_neg c2] at hL hS
              simp only[rsB,psR] at hS
              generalize hRR:rowRd (line++[10]) par=RR at *
              obtain⟨r,ok⟩:=RR
              cases ok with
              | true =>
                rw[if_pos rfl] at hL
                have hgd:=good _ hL
                simp[hi,hgi,hg,hll,eRCall,h2,psR,resC,rsB,hv,hdl,hk1,hk2,i5,i6,hL,hS,w1]
                exact Nxt.mk (⟨i+1,⟨path,dense,par,done,some ⟨hk.at_,hk.rows++[r]⟩⟩⟩:PrcX) (by simp only;omega) (by simp) (by simp) hgd
              | false =>
                rw[if_neg (by simp)] at hL
                rw[bad hL]
                simp[hi,hgi,hg,hll,eRCall,h2,psR,resC,rsB,hv,hdl,hk1,hk2,i5,i6,hL,hS,noC]
      · rw[List.drop_of_length_le (by omega),foldR] at i2
        rw[← i2]
        simp[hi]
        obtain⟨path,dense,par,done,cur⟩:=x
        cases cur with
        | none =>
          have hdn:=i3.none rfl
          simp only at hdn
          subst hdn
          refine Hint.of (T':=[.any,.ref 0 0 0 0,.any,.ref 1 0 0 0,.any,.any,.any,.any,.any,.any,.any]) (s':=[resC,.cells 0 4 [.agg [.d (.str path),.d (.bool dense),.d (.int .i64 par),.d (.sl 2 [])]],.dead]) (Re.freeze 2 0 2 [] rfl (by simp) ⟨rfl,?_⟩ rfl) ?_
          · intro k hk hk2
            have:k=0∨k=1:=by simp[rsB] at hk;omega
            rcases this with rfl | rfl
            · exact .inl rfl
            · exact FzE.ob (FzE.one rfl ⟨Fz.refl _ _ _ _ _,Fz.refl _ _ _ _ _,Fz.refl _ _ _ _ _,Fz.own 2 0 2 0 0 [] rfl,trivial⟩)
          · simp[resC,RsT.hunks]
        | some hk =>
          have hl2:(hkCR 3 done hk.at_ hk.rows.length).length=done.length+1:=hkCR_len _ _ _ _
          refine Hint.of (T':=[.any,.ref 0 0 0 0,.any,.ref 1 0 0 0,.any,.any,.any,.any,.any,.any,.any]) (s':=[resC,.cells 0 4 [.agg [.d (.str path),.d (.bool dense),.d (.int .i64 par),.d (.sl 2 ((done++[hk]).map Rep.to))]],.dead,.dead])
            (Re.trans (T':=[.any,.ref 0 0 0 0,.any,.ref 1 0 0 0,.any,.any,.any,.any,.any,.any,.any]) (s':=[resC,psR 2 ⟨path,dense,par,done,some hk⟩ (done.length+1),.cells (done.length+1) 2 (done.map hkR++[hkRA hk]),.dead])
              (Re.freeze 3 hk.rows.length 3 (rwC hk.rows) rfl (by simp) ⟨rfl,?_⟩ rfl) (Re.freeze 2 (done.length+1) 2 (done.map hkR++[hkRA hk]) rfl (by simp) ⟨rfl,?_⟩ rfl)) ?_
          · intro k hkk hk2
            have:k=0∨k=1∨k=2:=by simp[rsB] at hkk;omega
            rcases this with rfl | rfl | rfl
            · exact .inl rfl
            · exact .inl rfl
            · exact FzE.ob (hkR_freeze 3 done hk)
          · intro k hkk hk2
            have:k=0∨k=1∨k=3:=by simp at hkk;omega
            rcases this with rfl | rfl | rfl
            · exact .inl rfl
            · refine FzE.ob (FzE.one rfl ⟨Fz.refl _ _ _ _ _,Fz.refl _ _ _ _ _,Fz.refl _ _ _ _ _,?_,trivial⟩)
              have hle:(done.map hkR++[hkRA hk]).length=done.length+1:=by simp
              have:=Fz.own 2 (done.length+1) 2 0 (done.length+1) (done.map hkR++[hkRA hk]) (by rw[List.drop_zero,List.take_of_length_le (by omega)];exact hkRs_isD done hk)
              rw[List.drop_zero,List.take_of_length_le (by omega),hkRs_toD] at this
              exact this
            · exact .inl rfl
          · simp[resC,RsT.hunks]
def readCD (s:Str):D:=.tup [Rep.to (readC s).1,.int .i64 (readC s).2]
@[simp] def S_recombine_Parse:List D→Prop × D:=spec1 (α:=Str) (fun s=>s.length≤1048576) (fun s=>readCD s)
theorem ct_recombine_Parse {P:Program} {f g1 g2 g3:Nat} {G:Gam} (h:CodeOf P f 1 12 [42001,2] (x_recombine_Parse g1 g2 g3)) (hG:GamOk P G) (h1:G.find g1=some S_strict_Lines) (h2:G.find g2=some S_recombine_parse) (h3:G.find g3=some S_combined_Format):Has P f S_recombine_Parse:=h.has1 hG fun s hp=>by
  have n1:¬(16777216:Int)<s.length:=by omega
  have hll:=linesS_len s
  have er:readC s=if (linesS s).2=false then (noC,(4:Int)) else
    match parseR (linesS s).1 with
    | none=>(noC,4)
    | some c=>if chkC c=0∧writC c=s then (c,0) else (noC,4):=by
    unfold readC
    rw[if_neg (by omega)] <;> rfl
  have el:((linesS s).2=true∧∃d,linesSD s=.tup [d,.bool true]∧Rep.of (α:=List Str) d=some (linesS s).1)∨((linesS s).2=false∧linesSD s=.tup [.nilsl,.bool false]):=by
    unfold linesSD
    by_cases c:s=[]
    · left
      subst c
      exact⟨rfl,.nilsl,by simp,rfl⟩
    · by_cases c2:Lib.hasSuffix s [10]=true
      · left
        refine⟨by unfold linesS;rw[if_neg c,if_pos c2],Rep.to (linesS s).1,by rw[if_neg c,if_pos c2],Rep.of_to _⟩
      · right
        refine⟨by unfold linesS;rw[if_neg c,if_neg c2],by rw[if_neg c,if_neg c2]⟩
  have e0:Rep.to noC=D.agg [.str [],.bool false,.int .i64 0,.sl 2 []]:=rfl
  rcases el with ⟨e1,d,e2,e3⟩ | ⟨e1,e2⟩
  · rw[if_neg (by rw[e1];simp)] at er
    generalize linesS s=ls at *
    obtain⟨l,ok⟩:=ls
    simp only at *
    have hfl:flen l≤1048576:=by omega
    have hln:l.length≤1048577:=by omega
    cases hpv:parseR l with
    | none =>
      rw[hpv] at er
      have ed:parseRD l=.tup [Rep.to noC,.bool false]:=by unfold parseRD;rw[hpv]
      simp only[readCD,er]
      simp[x_recombine_Parse,n1,h1,show s.length≤16777216 by omega,e2,h2,e3,hfl,hln,ed,noC]
    | some p =>
      rw[hpv] at er
      simp only at er
      have ed:parseRD l=.tup [Rep.to p,.bool true]:=by unfold parseRD;rw[hpv]
      have pk:CombOk ⟨p.path,p.dense,p.parents,p.hunks⟩:=parseR_ok hpv hfl hln
      have ef:fmtC ⟨p.path,p.dense,p.parents,p.hunks⟩=fmtC p:=rfl
      by_cases c1:chkC p=0
      · have efp:fmtC p=.tup [.str (writC p),.int .i64 0]:=if_pos c1
        by_cases c2:writC p=s
        · rw[if_pos ⟨c1,c2⟩] at er
          simp only[readCD,er]
          simp[x_recombine_Parse,n1,h1,show s.length≤16777216 by omega,e2,h2,e3,hfl,hln,ed,h3,pk,ef,efp,c2]
        · rw[if_neg (fun h=>c2 h.2)] at er
          simp only[readCD,er]
          simp[x_recombine_Parse,n1,h1,show s.length≤16777216 by omega,e2,h2,e3,hfl,hln,ed,h3,pk,ef,efp,c2,noC]
      · have efp:fmtC p=.tup [.str [],.int .i64 (chkC p)]:=if_neg c1
        rw[if_neg (fun h=>c1 h.1)] at er
        simp only[readCD,er]
        simp[x_recombine_Parse,n1,h1,show s.length≤16777216 by omega,e2,h2,e3,hfl,hln,ed,h3,pk,ef,efp,c1,noC]
  · rw[if_pos e1] at er
    simp only[readCD,er]
    simp[x_recombine_Parse,n1,h1,show s.length≤16777216 by omega,e2,noC]
theorem smlC_of {r:Str} {ps:List Str} (h1:r.length≤24) (h2:∀p,p∈ps→p.length≤24) (h3:1≤ps.length) (h4:ps.length≤32):SmlC r ps 24 25 where
  small:=⟨h1,h2,h3,h4,by omega,by omega⟩
  l0:=by omega
  l1:=linesV_leB h1
  l2 p hp:=linesV_leB (h2 p hp)
  b:=by omega
structure FullL (r:Str) (ps:List Str) (c:CombT) (t:TableT):Prop where
  g:FullG [120] r ps
  fc:fullC [120] r ps=c
  comb:CombOk c
  fmt:fmtC c=.tup [.str (writC c),.int .i64 0]
  len:(writC c).length≤800000
  back:readC (writC c)=(c,0)
  tab:tableR c=(t,0)
  ok:tabOk t
  par:t.parents=ps.length
  res:columnD t (-1)=.tup [.str r,.int .i64 0]
  col:∀k (hk:k<ps.length),columnD t k=.tup [.str ps[k],.int .i64 0]
theorem full_law {r:Str} {ps:List Str} (h:SmlC r ps 24 25):∃c t,FullL r ps c t:=by
  have hn:namedB [120]=true:=by decide
  obtain⟨h1,h2⟩:=h.full (path:=[120]) hn (by simp)
  obtain⟨k1,k2⟩:=column_full h
  exact⟨fullC [120] r ps,makeV r ps,⟨hn,by simp,h⟩,rfl,h1.comb,if_pos h1.chk,h2,read_back h.tab (by unfold fullC at h2;omega),table_full h.tab,h.tab.ok,rfl,k1,k2⟩
@[simp] def S_top_arise:List D→Prop × D:=spec0 True (.bool true)
theorem ct_top_arise {P:Program} {f g1 g2 g3:Nat} {G:Gam} (h:CodeOf P f 0 7 [0] (x_top_arise g1 g2 g3)) (hG:GamOk P G) (h1:G.find g1=some S_combined_Full) (h2:G.find g2=some S_project_Table) (h3:G.find g3=some S_project_Column):Has P f S_top_arise:=h.has0 hG fun _=>by
  obtain⟨c,t,k1,k2,k3,k4,k5,k6,k7,k8,k9,k10,k11⟩:=full_law (r:=[97]) (ps:=[[]]) (smlC_of (by simp) (by simp) (by simp) (by simp))
  have hce:CombOk ⟨c.path,c.dense,c.parents,c.hunks⟩:=k3
  have hte:tableR ⟨c.path,c.dense,c.parents,c.hunks⟩=(t,0):=k7
  have htk:tabOk ⟨t.parents,t.rows⟩:=k8
  have hcd:columnD ⟨t.parents,t.rows⟩ (-1)=.tup [.str [97],.int .i64 0]:=k10
  have e2:ofAll (Rep.of (α:=Str)) [.str []]=some [[]]:=rfl
  simp[x_top_arise,h1,e2,k1,k2,h2,hce,hte,h3,htk,hcd]
end Go.AE
namespace Go.AE
end Go.AE
namespace Go.AE
end Go.AE
namespace Go.AE
def splitB:List UInt8→List (List UInt8)
  | []=>[[]]
  | c::r=>if c=47 then []::splitB r else match splitB r with
    | x::xs=>(c::x)::xs
    | []=>[[c]]
open Go
end Go.AE
namespace Go.AE
def Ob.es:Ob→List (D × D)
  | .map es=>es
  | _=>[]
attribute [simp] Ob.es
def consH (name:Str):List Str→List Str
  | x::xs=>(name++x)::xs
  | []=>[name]
end Go.AE
namespace Go.AE
end Go.AE
namespace Go.AE
end Go.AE
namespace Go.AE
def A.qg:A→List CommitT
  | .fn _ [x] _=>x.gl CommitT
  | _=>[]
@[simp] theorem A.qg_fn (f:Fn) (x:A) (c:List A):A.qg (.fn f [x] c)=x.gl CommitT:=rfl
end Go.AE
namespace Go.AE
end Go.AE
namespace Go.AE
end Go.AE
namespace Go.AE
end Go.AE
namespace Go.AE
end Go.AE
namespace Go.AE
end Go.AE
namespace Go.AE
end Go.AE
namespace Go.AE
end Go.AE
namespace Go.AE
end Go.AE
namespace Go.AE
end Go.AE
namespace Go.AE
/-! ### files of a tree -/
def inB:List FileT→Str→Bool
  | [],_=>false
  | f::l,p=>decide (f.path=p) || inB l p
def blobF:List FileT→Str→Str
  | [],_=>[]
  | f::l,p=>if f.path=p then f.blob else blobF l p
def ids2 (a b:Str):List (List Int):=idsV [linesV a,linesV b]
def pairsS (a b:Str):List SpanT:=walkV ((ids2 a b).getD 0 []) ((ids2 a b).getD 1 []) 0 0
def partL:List SpanT→Int→Int
  | [],_=>-1
  | s::p,j=>if s.to=j then s.fr else partL p j
def partV (a b:Str) (j:Int):Int:=partL (pairsS a b) j
def hasF (g:List CommitT) (path:Str) (c:Nat):Bool:=inB (g.getD c default).files path
def blobG (g:List CommitT) (path:Str) (c:Nat):Str:=blobF (g.getD c default).files path
structure SrcT where
  parent:Int
  lines:List Int
def fromL (g:List CommitT) (path now:Str):List Int→Int→Option OriginT
  | [],_=>none
  | p::ps,j=>if hasF g path p.toNat=true∧0≤partV (blobG g path p.toNat) now j then some ⟨p,partV (blobG g path p.toNat) now j⟩ else fromL g path now ps j
def fromV (g:List CommitT) (path:Str) (c:Nat) (j:Int):Option OriginT:=fromL g path (blobG g path c) (g.getD c default).parents j
def bl (g:List CommitT) (path:Str):Nat→OriginT→OriginT
  | 0,o=>o
  | k+1,o=>match fromV g path o.commit.toNat o.line with
    | some x=>bl g path k x
    | none=>o
structure VisitT where
  commit:Int
  lines:SpanT
  deriving DecidableEq,Inhabited
def z0:SpanT:=⟨0,0⟩
end Go.AE
namespace Go.AE
end Go.AE
namespace Go.AE
/-! ### sources and visits as data -/
deriving instance DecidableEq,Inhabited for SrcT
instance:Rep SrcT where
  size:=2
  to x:=.agg [.int .i64 x.parent,Rep.to x.lines]
  of
    | .agg [.int .i64 a,b]=>(Rep.of (α:=List Int) b).map fun r=>⟨a,r⟩
    | _=>none
  of_to x:=by simp only[Rep.of_to];rfl
  rep d x h w I v r:=by
    split at h
    · rename_i a b
      simp only[Option.map_eq_some_iff] at h
      obtain⟨rows,h1,rfl⟩:=h
      cases r with
      | agg cs vs hl ho hr =>
        refine .agg _ _ (by simpa using hl) rfl (fun k hk=>?_)
        have hk':k<2:=by simpa using hk
        match k,hk' with
        | 0,_=>exact hr 0 (by simp)
        | 1,_=>exact Rep.rep _ _ h1 _ _ _ (hr 1 (by simp))
    · simp at h
  fits x:=rfl
@[simp] theorem to_Src (x:SrcT):Rep.to x=D.agg [.int .i64 x.parent,.sl 1 (x.lines.map Rep.to)]:=rfl
@[simp] theorem size_Src:Rep.size SrcT=2:=rfl
@[simp] theorem of_Src (a:Int) (b:D):Rep.of (α:=SrcT) (.agg [.int .i64 a,b])=(Rep.of (α:=List Int) b).map fun r=>⟨a,r⟩:=rfl
instance:Rep VisitT where
  size:=3
  to x:=.agg [.int .i64 x.commit,.int .i64 x.lines.fr,.int .i64 x.lines.to]
  of
    | .agg [.int .i64 a,.int .i64 b,.int .i64 c]=>some ⟨a,⟨b,c⟩⟩
    | _=>none
  of_to x:=rfl
  rep d x h w I v r:=by
    split at h
    · simp at h;subst h;exact r
    · simp at h
  fits x:=rfl
@[simp] theorem to_Visit (x:VisitT):Rep.to x=D.agg [.int .i64 x.commit,.int .i64 x.lines.fr,.int .i64 x.lines.to]:=rfl
@[simp] theorem size_Visit:Rep.size VisitT=3:=rfl
@[simp] theorem of_Visit (a b c:Int):Rep.of (α:=VisitT) (.agg [.int .i64 a,.int .i64 b,.int .i64 c])=some ⟨a,⟨b,c⟩⟩:=rfl
/-! ### files found -/
end Go.AE
namespace Go.AE
end Go.AE
namespace Go.AE
/-! ### the pairs of a script -/
end Go.AE
namespace Go.AE
end Go.AE
namespace Go.AE
def spoilB (c:Int):UInt8:=UInt8.ofNat (IntKind.u8.wrap c).toNat
def spoilI (s:Str) (at':Int):Nat:=(modV at' (s.length+1)).toNat
def spoilV (s:Str) (what at' c:Int):Str :=
  if modV what 4=0 then s.take (spoilI s at')++(spoilB c::s.drop (spoilI s at')) else
    if modV what 4=1 then s.take (spoilI s at')++s.drop (min (spoilI s at'+1) s.length) else
      if modV what 4=2 then s.take (spoilI s at')++(spoilB c::s.drop (min (spoilI s at'+1) s.length)) else s
theorem spoil_len (s:Str) (what at' c:Int):(spoilV s what at' c).length≤s.length+1:=by
  unfold spoilV
  split
  · simp;omega
  · split
    · simp;omega
    · split
      · simp;omega
      · omega
@[simp] def S_gen_Spoiled:List D→Prop × D:=spec4 (α:=Str) (β:=Int) (γ:=Int) (δ:=Int) (fun s _ _ _=>s.length≤1048576) (fun s w a c=>.str (spoilV s w a c))
theorem ct_gen_Spoiled {P:Program} {f g1:Nat} {G:Gam} (h:CodeOf P f 4 10 [4] (x_gen_Spoiled g1)) (hG:GamOk P G) (h1:G.find g1=some S_gen_Mod):Has P f S_gen_Spoiled:=h.has4 hG fun s w a c hp=>by
  have w1:IntKind.i64.wrap ((s.length:Int)+1)=(s.length:Int)+1:=wrap_in (by omega) (by omega)
  obtain⟨m1,m2⟩:=modV_lt a (n:=(s.length:Int)+1) (by omega)
  obtain⟨k1,k2⟩:=modV_lt w (n:=4) (by omega)
  obtain⟨i,hi⟩:=Int.eq_ofNat_of_zero_le m1
  have hI:spoilI s a=i:=by unfold spoilI;rw[hi];rfl
  have hil:i≤s.length:=by omega
  have w2:IntKind.i64.wrap ((i:Int)+1)=(i:Int)+1:=wrap_in (by omega) (by omega)
  have hmin:min ((i:Int)+1) (s.length:Int)=((min (i+1) s.length:Nat):Int):=by omega
  have hb:spoilB c=UInt8.ofNat (IntKind.u8.wrap c).toNat:=rfl
  generalize hsv:spoilV s w a c=R
  unfold spoilV at hsv
  rw[hI,hb] at hsv
  generalize hk:modV w 4=k at *
  have hb2:eB2s [] (.d (.sl 1 [.int .u8 (IntKind.u8.wrap c)]))=⟨True,[],.d (.str [UInt8.ofNat (IntKind.u8.wrap c).toNat])⟩:=by
    simp[eB2s,A.notStr,src,allU8,u8s,borFp]
  have htk:s.drop i=List.take (s.length-i) (s.drop i):=by rw[List.take_of_length_le (by simp)]
  by_cases c0:k=0
  · rw[if_pos c0] at hsv
    subst c0
    simp[x_gen_Spoiled,h1,w1,hk,hi,hil,hb2]
    refine⟨by omega,by omega,by omega,?_⟩
    rw[← htk]
    exact hsv
  · rw[if_neg c0] at hsv
    generalize hm:min (i+1) s.length=m at *
    have hmn:(min ((i:Int)+1) (s.length:Int))=(m:Int):=by omega
    have hml:m≤s.length:=by omega
    have htm:s.drop m=List.take (s.length-m) (s.drop m):=by rw[List.take_of_length_le (by simp)]
    by_cases c1:k=1
    · rw[if_pos c1] at hsv
      subst c1
      simp[x_gen_Spoiled,h1,w1,hk,hi,hil,hb2,w2,hmn,hml]
      refine⟨⟨by omega,by omega⟩,by omega,?_⟩
      rw[← htm]
      exact hsv
    · rw[if_neg c1] at hsv
      by_cases c2:k=2
      · rw[if_pos c2] at hsv
        subst c2
        simp[x_gen_Spoiled,h1,w1,hk,hi,hil,hb2,w2,hmn,hml]
        refine⟨⟨by omega,by omega⟩,by omega,by omega,?_⟩
        rw[← htm]
        exact hsv
      · rw[if_neg c2] at hsv
        simp[x_gen_Spoiled,h1,w1,hk,hi,hil,hb2,w2,hmn,hml,c0,c1,c2]
        exact⟨⟨by omega,by omega⟩,hsv⟩
end Go.AE
namespace Go.AE
theorem blobOne_cnt (raw:List Int) {lines:Int} (hl:0≤lines) (p:Nat):(blobOne raw lines p).count 10≤2 * lines.toNat+1:=by
  unfold blobOne
  split
  · have:=(blobV_good raw (600+50 * p) 4 hl).2;omega
  · split
    · have:=(blobV_good raw 0 5 hl).2;omega
    · have h1:=(nearV_good (blobV raw 0 lines 5) raw (600+50 * p)).2
      have h2:=(blobV_good raw 0 5 hl).2
      have h3:=lines_blob raw 0 5 hl
      omega
def SmlB (s:Str):Prop:=checkT s=0∧(linesV s).length≤20∧s.length≤100
theorem sml_of {s:Str} (h1:s.length≤100) (h2:s.count 10≤19):SmlB s :=
  ⟨check_of (by omega) (by omega),by rw[linesV_len];split <;> omega,h1⟩
structure MadeL (r:Str) (ps:List Str) (c:CombT):Prop where
  g:MadeG [120] r ps 1
  mc:madeC [120] r ps 1 false=c
  comb:CombOk c
  fmt:fmtC c=.tup [.str (writC c),.int .i64 0]
  len:(writC c).length≤800000
theorem made_lawC {r:Str} {ps:List Str} (h1:SmlB r) (h2:∀p,p∈ps→SmlB p) (h3:1≤ps.length) (h4:ps.length≤3):∃c,MadeL r ps c:=by
  have hs:SmlC r ps 100 20:=⟨⟨h1.2.2,fun p hp=>(h2 p hp).2.2,h3,by omega,by omega,by omega⟩,by omega,h1.2.1,fun p hp=>(h2 p hp).2.1,by omega⟩
  have hn:namedB [120]=true:=by decide
  obtain⟨k1,k2⟩:=hs.made (path:=[120]) hn (by simp) 1 false (by omega)
  exact⟨madeC [120] r ps 1 false,⟨hn,by simp,hs,by omega,by omega,by omega⟩,rfl,k1.comb,if_pos k1.chk,k2⟩
theorem readC_law {s:Str} (hs:s.length≤1048576):((readC s).2=0∧CombOk (readC s).1∧fmtC (readC s).1=.tup [.str s,.int .i64 0])∨((readC s).2≠0∧(readC s).1=noC):=by
  by_cases h:(readC s).2=0
  · left
    obtain⟨h1,h2⟩:=readC_ok h
    refine⟨h,?_,?_⟩
    · have h3:=linesS_len s
      unfold readC at *
      rw[if_neg (by omega)] at *
      by_cases c2:(linesS s).2=false
      · rw[if_pos c2] at h;simp at h
      · rw[if_neg c2] at *
        cases hp:parseR (linesS s).1 with
        | none=>rw[hp] at h;simp at h
        | some p =>
          have:=parseR_ok hp (by omega) (by omega)
          simp only
          split
          · exact this
          · rw[hp] at h
            rename_i c3
            simp only at h
            rw[if_neg c3] at h
            simp at h
    · unfold fmtC
      rw[if_pos h1,h2]
  · exact .inr ⟨h,readC_bad h⟩
@[simp] def S_top_TopReads:List D→Prop × D:=spec6 (α:=Str) (β:=List Int) (γ:=Int) (δ:=Int) (ε:=Int) (ζ:=Int) (fun _ raw _ _ _ _=>raw.length≤9223372036854775807) (fun _ _ _ _ _ _=>.bool true)
theorem ct_top_TopReads {P:Program} {f g1 g2 g3 g4 g5 g6 g7:Nat} {G:Gam} (h:CodeOf P f 6 24 [6] (x_top_TopReads g1 g2 g3 g4 g5 g6 g7)) (hG:GamOk P G) (h1:G.find g1=some S_top_arise) (h2:G.find g2=some S_gen_Mod) (h3:G.find g3=some S_gen_Blobs) (h4:G.find g4=some S_combined_Make) (h5:G.find g5=some S_combined_Format) (h6:G.find g6=some S_gen_Spoiled) (h7:G.find g7=some S_recombine_Parse):Has P f S_top_TopReads:=h.has6 hG fun s raw n what at' c p1=>by
  by_cases c1:120<(s.length:Int)
  · simp[x_top_TopReads,h1,c1]
  obtain⟨n1,n2⟩:=modV_lt n (n:=3) (by omega)
  obtain⟨u,hu⟩:=Int.eq_ofNat_of_zero_le n1
  have w0:IntKind.i64.wrap (2+(u:Int))=((u+2:Nat):Int):=by rw[wrap_in (by omega) (by omega)];omega
  have hL:∀b,b∈blobsV raw (u+2) 5→SmlB b:=fun b hb=>by
    obtain⟨p,_,rfl⟩:=List.mem_map.1 hb
    have h1:=blobOne_len raw (lines:=5) (by omega) p
    have h2:=blobOne_cnt raw (lines:=5) (by omega) p
    exact sml_of (by omega) (by omega)
  have hLl:(blobsV raw (u+2) 5).length=u+2:=by simp[blobsV]
  generalize hB:blobsV raw (u+2) 5=L at *
  obtain⟨b,bs,rfl⟩:∃b bs,L=b::bs:=by
    cases L with
    | nil=>simp at hLl
    | cons b bs=>exact⟨b,bs,rfl⟩
  have hbl:bs.length=u+1:=by simpa using hLl
  obtain⟨x,k1,k2,k3,k4,k5⟩:=made_lawC (r:=b) (ps:=bs) (hL b (by simp)) (fun p hp=>hL p (by simp[hp])) (by omega) (by omega)
  have hce:CombOk ⟨x.path,x.dense,x.parents,x.hunks⟩:=k3
  have hfe:fmtC ⟨x.path,x.dense,x.parents,x.hunks⟩=.tup [.str (writC x),.int .i64 0]:=k4
  generalize hT:writC x=T at *
  have hSp:=spoil_len T what at' c
  generalize hS:spoilV T what at' c=S at *
  simp only[Int.natCast_add] at w0
  have e1:((u:Int)+2).toNat=u+2:=by omega
  have htk:List.take bs.length (List.map (Rep.to (α:=Str)) bs)=List.map Rep.to bs:=List.take_of_length_le (by simp)
  obtain⟨A1,hA1⟩:∃A1:Str,[100,105,102,102,32,45,45,99,99,32,97,10,112,97,114,101,110,116,115,32,50,10,64,64,64,32,45,49,32,45,49,32,43,49,32,64,64,64,10]=A1:=⟨_,rfl⟩
  obtain⟨A2,hA2⟩:∃A2:Str,[100,105,102,102,32,45,45,99,111,109,98,105,110,101,100,32,97,10,112,97,114,101,110,116,115,32,49,10]=A2:=⟨_,rfl⟩
  have hl1:A1.length=39:=by rw[← hA1];rfl
  have hl2:A2.length=28:=by rw[← hA2];rfl
  obtain⟨TX,hTX⟩:∃TX,TX=[s,T,S,A1++s,A2++s]:=⟨_,rfl⟩
  have hTd:D.sl 1 (TX.map Rep.to)=D.sl 1 [.str s,.str T,.str S,.str (A1++s),.str (A2++s)]:=by rw[hTX];rfl
  have hTl:TX.length=5:=by rw[hTX];rfl
  have hTs:∀t,t∈TX→t.length≤1048576:=by
    rw[hTX]
    intro t ht
    simp at ht
    rcases ht with rfl | rfl | rfl | rfl | rfl
    · omega
    · omega
    · omega
    · simp;omega
    · simp;omega
  simp[x_top_TopReads,c1,h2,hu,w0,e1,h3,p1,hB,htk,h4,k1,k2,h5,hce,hfe,h6,hS,pairsOk,hA1,hA2,hl1,hl2]
  refine⟨by omega,by omega,by omega,by omega,by omega,?_⟩
  refine vc_lp (σ:=Nat) (fun i=>i≤5) (fun i=>5-i)
    (fun i=>[.any,.any,.any,.any,.any,.any,.any,.any,.any,.any,.any,.any,.d (.sl 1 (TX.map Rep.to)),.d (.int .i64 i),.any,.any,.any,.any,.any,.any,.any,.any,.any,.any]) (fun _=>[]) 0 (by rw[hTd];simp) (by simp) (by simp) ?_
  intro i i1
  clear hTd
  by_cases hi:i<5
  · have w1:IntKind.i64.wrap ((i:Int)+1)=(i:Int)+1:=wrap_in (by omega) (by omega)
    have hiT:i<TX.length:=by omega
    have ht:=hTs _ (List.getElem_mem hiT)
    have hg:TX[i]?=some TX[i]:=List.getElem?_eq_getElem hiT
    generalize hge:TX[i]=t at *
    have hr:readCD t=.tup [Rep.to (readC t).1,.int .i64 (readC t).2]:=rfl
    have hlaw:=readC_law ht
    generalize (readC t).1=q at *
    generalize (readC t).2=e at *
    rcases hlaw with ⟨he,hq1,hq2⟩ | ⟨he,hq⟩
    · subst he
      have hqe:CombOk ⟨q.path,q.dense,q.parents,q.hunks⟩:=hq1
      have hqf:fmtC ⟨q.path,q.dense,q.parents,q.hunks⟩=.tup [.str t,.int .i64 0]:=hq2
      simp[show (i:Int)<5 by omega,hi,hiT,hTl,hg,hge,h7,ht,hr,h5,hqe,hqf,w1]
      exact Nxt.mk (i+1) (by omega) (by simp) (by simp) (by omega)
    · subst hq
      simp[show (i:Int)<5 by omega,hi,hiT,hTl,hg,hge,h7,ht,hr,he,noC,w1]
      exact Nxt.mk (i+1) (by omega) (by simp) (by simp) (by omega)
  · simp[hTl,show ¬(i:Int)<5 by omega,hi,h1]
theorem top_TopReads_pre (s:Str) (raw:List Int) (n:Int) (what:Int) (at':Int) (c:Int) (w0:Arg.wf s) (w1:Arg.wf raw) (w2:Arg.wf n) (w3:Arg.wf what) (w4:Arg.wf at') (w5:Arg.wf c):raw.length≤9223372036854775807:=by
  have:=str_wf w0
  have:=len_wf w1
  omega
end Go.AE
