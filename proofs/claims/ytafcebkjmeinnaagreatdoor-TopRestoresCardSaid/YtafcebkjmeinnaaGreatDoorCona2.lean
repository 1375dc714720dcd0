/-
  The table of a result and its parents,projected on its columns,plainly.
-/
import Derived.Test.YtafcebkjmeinnaaGreatDoorCona1
import Derived.Test.YtafcebkjmeinnaaGreatDoorCode1
import Derived.Test.YtafcebkjmeinnaaGreatDoorAe3
import Derived.Lib.Repeat

set_option linter.unusedSimpArgs false
set_option linter.unusedVariables false
set_option linter.unnecessarySimpa false
set_option maxRecDepth 20000
set_option maxHeartbeats 4000000
namespace Go.AE
def totF {α:Type} (f:Nat→List α):Nat→Nat→List α
  | _,0=>[]
  | j,d+1=>f j++totF f (j+1) d
theorem totF_succ {α:Type} (f:Nat→List α) (j d:Nat):totF f j (d+1)=f j++totF f (j+1) d:=rfl
theorem totF_add {α:Type} (f:Nat→List α):∀(a b j:Nat),totF f j (a+b)=totF f j a++totF f (j+a) b
  | 0,b,j=>by simp[totF]
  | a+1,b,j=>by
    rw[Nat.add_right_comm,totF,totF,totF_add f a b (j+1),List.append_assoc,show j+1+a=j+(a+1) by omega]
theorem totF_congr {α:Type} {f g:Nat→List α}:∀(d j:Nat),(∀k,j≤k→k<j+d→f k=g k)→totF f j d=totF g j d
  | 0,_,_=>rfl
  | d+1,j,h=>by
    rw[totF,totF,h j (by omega) (by omega),totF_congr d (j+1) fun k h1 h2=>h k (by omega) (by omega)]
theorem totF_range {α:Type} (f:Nat→List α):∀m,(List.range m).flatMap f=totF f 0 m
  | 0=>by simp[totF]
  | m+1=>by
    rw[List.range_succ,List.flatMap_append,totF_range f m,totF_add f m 1 0]
    simp[totF]
theorem totF_nil {α:Type} {f:Nat→List α} (d j:Nat) (h:∀k,j≤k→k<j+d→f k=[]):totF f j d=[]:=by
  rw[totF_congr (g:=fun _=>[]) d j h]
  have:∀(d j:Nat),totF (fun _=>([]:List α)) j d=[]:=by
    intro d
    induction d with
    | zero=>intro j;rfl
    | succ d ih=>intro j;rw[totF,ih];rfl
  exact this d j
theorem drop_cons {x:List Int} {i:Nat} (h:i<x.length):x.drop i=x.getD i 0::x.drop (i+1):=by
  rw[List.drop_eq_getElem_cons h]
  simp[List.getD,h]
theorem run_ok (x y:List Int):∀(d i j:Nat),i+d≤x.length→(∀t,t<d→x.getD (i+t) 0=y.getD (j+t) 0)→totF (fun k=>[y.getD k 0]) j d=(x.drop i).take d
  | 0,i,j,_,_=>by simp[totF]
  | d+1,i,j,h,ht=>by
    have h0:=ht 0 (by omega)
    simp only[Nat.add_zero] at h0
    rw[totF,run_ok x y d (i+1) (j+1) (by omega) fun t htd=>by rw[Nat.add_right_comm,Nat.add_right_comm j,Nat.add_assoc,Nat.add_assoc j];exact ht (t+1) (by omega),drop_cons (i:=i) (by omega),List.take_succ_cons,h0]
    rfl
theorem gapS_fold_none (x:List Int) (k:Nat):∀(l:List ChangeT) (acc:List Int),(∀d,d∈l→d.new≠(k:Int))→l.foldl (fun acc c=>if c.new=(k:Int) then (x.drop c.old.toNat).take c.oldLen.toNat else acc) acc=acc
  | [],_,_=>rfl
  | c::l,acc,h=>by
    rw[List.foldl_cons,if_neg (h c (by simp))]
    exact gapS_fold_none x k l acc fun d hd=>h d (by simp[hd])
theorem gapS_none {x:List Int} {l:List ChangeT} {k:Nat} (h:∀d,d∈l→d.new≠(k:Int)):gapS x l k=[]:=gapS_fold_none x k l [] h
theorem gapS_hit {x:List Int} {c:ChangeT} {l:List ChangeT} {k:Nat} (hc:c.new=(k:Int)) (h:∀d,d∈l→d.new≠(k:Int)):gapS x (c::l) k=(x.drop c.old.toNat).take c.oldLen.toNat:=by
  unfold gapS
  rw[List.foldl_cons,if_pos hc,gapS_fold_none x k l _ h]
theorem gapS_miss {x:List Int} {c:ChangeT} {l:List ChangeT} {k:Nat} (hc:c.new≠(k:Int)):gapS x (c::l) k=gapS x l k:=by
  unfold gapS
  rw[List.foldl_cons,if_neg hc]
theorem okV_lt {l:List ChangeT} {i j m n:Int} (h:okV l i j false m n=true):∀c,c∈l→j<c.new:=by
  cases l with
  | nil=>simp
  | cons c l =>
    simp only[okV,Bool.and_eq_true] at h
    have h2:=stepV_true h.1
    have h3:=okV_new _ _ _ _ _ _ h.2
    intro d hd
    have:=h2.2.2.2.2.2.2.2 rfl
    rcases List.mem_cons.1 hd with rfl | hd
    · omega
    · have:=h3.2 d hd
      omega
def pieceK (x y:List Int) (s:List ChangeT) (k:Nat):List Int:=gapS x s k++if k<y.length∧insB s k=false then [y.getD k 0] else []
theorem proj_ok (x y:List Int):∀(l:List ChangeT) (i j:Nat) (fst:Bool),okV l i j fst x.length y.length=true→(∀s,s∈matV l i j x.length→x.getD s.fr.toNat 0=y.getD s.to.toNat 0) →
    totF (pieceK x y l) j (y.length+1-j)=x.drop i
  | [],i,j,fst,h,hm=>by
    simp only[okV,Bool.and_eq_true,decide_eq_true_eq] at h
    have hd:y.length+1-j=(x.length-i)+1:=by omega
    rw[hd,totF_add,totF_nil (f:=pieceK x y []) 1 (j+(x.length-i)),List.append_nil,
      totF_congr (g:=fun k=>[y.getD k 0]),run_ok x y (x.length-i) i j (by omega),List.take_of_length_le (by simp)]
    · intro t ht
      have:=hm ⟨(i:Int)+t,(j:Int)+t⟩ ((runN_mem _ _ _ _).2 ⟨t,by omega,rfl⟩)
      simp only at this
      rw[show ((i:Int)+t).toNat=i+t by omega,show ((j:Int)+t).toNat=j+t by omega] at this
      exact this
    · intro k h1 h2
      unfold pieceK
      rw[if_pos ⟨by omega,rfl⟩]
      rfl
    · intro k h1 h2
      unfold pieceK
      rw[if_neg (by omega)]
      rfl
  | c::l,i,j,fst,h,hm=>by
    simp only[okV,Bool.and_eq_true] at h
    have h2:=stepV_true h.1
    have hn:=okV_new _ _ _ _ _ _ h.2
    have hlt:=okV_lt h.2
    obtain⟨o,ho⟩:=Int.eq_ofNat_of_zero_le h2.1.1
    obtain⟨ol,hol⟩:=Int.eq_ofNat_of_zero_le h2.2.1.1
    obtain⟨nw,hnw⟩:=Int.eq_ofNat_of_zero_le h2.2.2.1.1
    obtain⟨nl,hnl⟩:=Int.eq_ofNat_of_zero_le h2.2.2.2.1.1
    have hle:=okV_le _ _ _ _ _ _ h.2
    rw[hnw,hnl] at hlt
    rw[ho,hol,hnw,hnl] at h hn hle
    have hoi:i≤o:=by omega
    have hji:j≤nw:=by omega
    have hlen:o-i=nw-j:=by omega
    have ih:=proj_ok x y l (o+ol) (nw+nl) false (by push_cast;exact h.2) fun s hs=>hm s (by
      rw[matV,List.mem_append,ho,hol,hnw,hnl]
      right
      push_cast at hs
      exact hs)
    have hins:∀k,insB (c::l) k=(decide (c.new≤(k:Int)∧(k:Int)<c.new+c.newLen) || insB l k):=fun k=>by simp[insB]
    have hlow:∀k:Nat,(k:Int)<(nw+nl:Nat)→insB l k=false:=fun k hk=>insB_low h.2 (by push_cast at hk;exact hk)
    have hge:∀k,nw+nl≤k→k≠nw→pieceK x y (c::l) k=pieceK x y l k:=fun k hk hne=>by
      unfold pieceK
      rw[gapS_miss (by rw[hnw];omega),hins k]
      have:decide (c.new≤(k:Int)∧(k:Int)<c.new+c.newLen)=false:=by rw[hnw,hnl,decide_eq_false_iff_not];omega
      rw[this,Bool.false_or]
    have hgl:∀k:Nat,k≤nw+nl→∀d,d∈l→d.new≠(k:Int):=fun k hk d hd=>by
      have:=hlt d hd
      omega
    have hfirst:totF (pieceK x y (c::l)) j (nw-j)=(x.drop i).take (o-i):=by
      rw[totF_congr (g:=fun k=>[y.getD k 0]),← hlen,run_ok x y (o-i) i j (by omega)]
      · intro t ht
        have:=hm ⟨(i:Int)+t,(j:Int)+t⟩ (by
          rw[matV,List.mem_append,ho]
          exact .inl ((runN_mem _ _ _ _).2 ⟨t,by omega,rfl⟩))
        simp only at this
        rw[show ((i:Int)+t).toNat=i+t by omega,show ((j:Int)+t).toNat=j+t by omega] at this
        exact this
      · intro k h3 h4
        unfold pieceK
        rw[gapS_miss (by rw[hnw];omega),gapS_none (hgl k (by omega)),hins k,hlow k (by push_cast;omega)]
        have:decide (c.new≤(k:Int)∧(k:Int)<c.new+c.newLen)=false:=by rw[hnw,decide_eq_false_iff_not];omega
        rw[this,if_pos ⟨by omega,rfl⟩]
        rfl
    have hhit:gapS x (c::l) nw=(x.drop o).take ol:=by
      rw[gapS_hit hnw (hgl nw (by omega)),ho,hol]
      simp
    have hsecond:totF (pieceK x y (c::l)) nw (y.length+1-nw)=(x.drop o).take ol++x.drop (o+ol):=by
      rw[← ih]
      rcases Nat.eq_zero_or_pos nl with h0 | h0
      · subst h0
        show _=_++totF (pieceK x y l) nw (y.length+1-nw)
        rw[show y.length+1-nw=(y.length-nw)+1 by omega,totF_succ (pieceK x y (c::l)),totF_succ (pieceK x y l),totF_congr (g:=pieceK x y l) _ _ fun k h3 h4=>hge k (by omega) (by omega),← List.append_assoc]
        congr 1
        unfold pieceK
        rw[hhit,gapS_none (hgl nw (by omega)),hins nw]
        have:decide (c.new≤(nw:Int)∧(nw:Int)<c.new+c.newLen)=false:=by rw[hnw,hnl,decide_eq_false_iff_not];omega
        rw[this,Bool.false_or,List.nil_append]
      · rw[show y.length+1-nw=1+((nl-1)+(y.length+1-(nw+nl))) by omega,totF_add,totF_add,show nw+1+(nl-1)=nw+nl by omega]
        rw[totF_congr (g:=pieceK x y l) _ (nw+nl) fun k h3 h4=>hge k (by omega) (by omega)]
        rw[totF_nil (nl-1) (nw+1),List.nil_append]
        · congr 1
          rw[totF,totF,List.append_nil]
          unfold pieceK
          rw[hhit,hins nw]
          have:decide (c.new≤(nw:Int)∧(nw:Int)<c.new+c.newLen)=true:=by rw[hnw,hnl,decide_eq_true_eq];omega
          rw[this,if_neg (by simp),List.append_nil]
        · intro k h3 h4
          unfold pieceK
          rw[gapS_miss (by rw[hnw];omega),gapS_none (hgl k (by omega)),hins k]
          have:decide (c.new≤(k:Int)∧(k:Int)<c.new+c.newLen)=true:=by rw[hnw,hnl,decide_eq_true_eq];omega
          rw[this,if_neg (by simp)]
          rfl
    rw[show y.length+1-j=(nw-j)+(y.length+1-nw) by omega,totF_add,hfirst,show j+(nw-j)=nw by omega,hsecond]
    have e1:(x.drop o).take ol++x.drop (o+ol)=x.drop o:=by rw[← List.drop_drop,List.take_append_drop]
    have e2:x.drop o=(x.drop i).drop (o-i):=by rw[List.drop_drop];congr 1;omega
    rw[e1,e2,List.take_append_drop]
theorem proj_all {x y:List Int} (hx:x.length≤4096) (hy:y.length≤4096):(List.range (y.length+1)).flatMap (pieceK x y (scriptV x y))=x:=by
  have hf:=script_fits hx hy
  simp only[fitsV,checkV,Bool.and_eq_true,List.all_eq_true,decide_eq_true_eq] at hf
  have:=proj_ok x y (scriptV x y) 0 0 true hf.1.2 fun s hs=>hf.2 s hs
  rw[totF_range]
  simpa using this
/-! ### the columns -/
theorem markN_bit (I:List (List Int)) (k:Nat):∀(n p:Nat),(markN I k n).testBit p=(decide (p<n) && insB (scrV I p) k)
  | 0,p=>by simp[markN]
  | n+1,p=>by
    unfold markN
    have ih:=markN_bit I k n p
    cases hb:insB (scrV I n) k with
    | true =>
      rw[if_pos rfl,Nat.testBit_or,Nat.testBit_two_pow,ih]
      by_cases e:p=n
      · subst e;simp[hb]
      · have:decide (n=p)=false:=by simpa using fun h=>e h.symm
        have h2:decide (p<n+1)=decide (p<n):=by rw[decide_eq_decide];omega
        rw[this,h2,Bool.or_false]
    | false =>
      rw[if_neg (by simp),ih]
      by_cases e:p=n
      · subst e;simp[hb]
      · have h2:decide (p<n+1)=decide (p<n):=by rw[decide_eq_decide];omega
        rw[h2]
def nmV (N:List Str) (x:Int):Str:=N.getD x.toNat []
theorem vis_lost (N:List Str) (m:MergedT) {p:Nat} (hp:p<32):visB (lostRow N m) p=hasV p m:=by
  unfold visB hasV lostRow
  rw[if_neg (by omega),if_neg (by omega)]
  simp
theorem vis_kept (N:List Str) (I:List (List Int)) {n p:Nat} (hn:n≤32) (hp:p<n) (k:Nat):visB (keptRow N I n k) p=!insB (scrV I p) k:=by
  unfold visB keptRow
  rw[if_neg (by omega),if_neg (by omega)]
  have hlt:markN I k n<4294967296:=Nat.lt_of_lt_of_le (markN_lt I k n) (pow_le hn)
  simp only[getU_nat hlt (show p<32 by omega),markN_bit]
  cases insB (scrV I p) k <;> simp[hp]
theorem col_app (a b:List RowT) (c:Int):colV (a++b) c=colV a c++colV b c:=by simp[colV]
theorem col_lost (N:List Str) (ml:List MergedT) {p:Nat} (hp:p<32):colV (ml.map (lostRow N)) p=(prB p ml).map (nmV N):=by
  unfold colV prB mlinesV
  rw[List.filter_map,List.map_map,List.map_map]
  have e:((fun r=>visB r (p:Int)) ∘ lostRow N)=hasV p:=funext fun m=>vis_lost N m hp
  rw[e]
  rfl
theorem col_gap {N:List Str} {I:List (List Int)} {n B p:Nat} (h:∀p,p<n→(I.getD (p+1) []).length≤B) (hn:n≤32) (hB:B * n≤4096) (hp:p<n) (k:Nat) :
    colV (gapRows N I n k) p=(pieceK (I.getD (p+1) []) (I.getD 0 []) (scrV I p) k).map (nmV N):=by
  have h1:=sumL_gap h k
  obtain⟨_,h2⟩:=merged_ok (xs:=gapV I n k) (by rw[gapV_len];exact hn) (by omega)
  have h3:=h2.pr p (by rw[gapV_len];exact hp)
  have h4:(gapV I n k)[p]'(by rw[gapV_len];exact hp)=gapS (I.getD (p+1) []) (scrV I p) k:=by simp[gapV]
  rw[h4] at h3
  unfold gapRows pieceK
  rw[col_app,col_lost N _ (by omega),h3,List.map_append]
  congr 1
  by_cases hk:k<(I.getD 0 []).length
  · rw[if_pos hk]
    have hv:=vis_kept N I hn hp k
    unfold colV
    cases hb:insB (scrV I p) k with
    | true=>rw[hb] at hv;rw[if_neg (by simp)];simp[hv]
    | false =>
      rw[hb] at hv
      rw[if_pos ⟨hk,rfl⟩,List.filter_cons,hv]
      rfl
  · rw[if_neg hk,if_neg (by omega)]
    rfl
theorem col_flat (c:Int) (f:Nat→List RowT):∀l:List Nat,colV (l.flatMap f) c=l.flatMap fun k=>colV (f k) c
  | []=>rfl
  | a::l=>by rw[List.flatMap_cons,List.flatMap_cons,col_app,col_flat c f l]
theorem map_flat {α β:Type} (g:α→β) (f:Nat→List α):∀l:List Nat,(l.flatMap f).map g=l.flatMap fun k=>(f k).map g
  | []=>rfl
  | a::l=>by rw[List.flatMap_cons,List.flatMap_cons,List.map_append,map_flat g f l]
theorem col_parent {N:List Str} {I:List (List Int)} {n B p:Nat} (h:∀p,p<n→(I.getD (p+1) []).length≤B) (hn:n≤32) (hB:B * n≤4096) (hp:p<n) (h0:(I.getD 0 []).length≤4096) :
    colV (rowsTo N I n ((I.getD 0 []).length+1)) p=(I.getD (p+1) []).map (nmV N):=by
  have hx:=h p hp
  have hB2:(I.getD (p+1) []).length≤4096:=by
    have:B≤B * n:=Nat.le_mul_of_pos_right B (by omega)
    omega
  have:=proj_all hB2 h0
  unfold rowsTo
  rw[col_flat]
  have e:(fun k=>colV (gapRows N I n k) (p:Int))=fun k=>(pieceK (I.getD (p+1) []) (I.getD 0 []) (scrV I p) k).map (nmV N):=funext fun k=>col_gap h hn hB hp k
  rw[e,← map_flat]
  congr 1
theorem col_res0 (N:List Str) (I:List (List Int)) (n k:Nat):colV (gapRows N I n k) (-1)=if k<(I.getD 0 []).length then [nmV N ((I.getD 0 []).getD k 0)] else []:=by
  unfold gapRows
  rw[col_app]
  have e1:colV ((mergedV (gapV I n k)).map (lostRow N)) (-1)=[]:=by
    unfold colV
    rw[List.filter_eq_nil_iff.2]
    · rfl
    · intro r hr
      obtain⟨m,_,rfl⟩:=List.mem_map.1 hr
      simp[vis_res,lostRow]
  rw[e1,List.nil_append]
  by_cases hk:k<(I.getD 0 []).length
  · rw[if_pos hk,if_pos hk]
    simp[colV,vis_res,keptRow,nmV]
  · rw[if_neg hk,if_neg hk]
    rfl
theorem col_res (N:List Str) (I:List (List Int)) (n:Nat):colV (rowsTo N I n ((I.getD 0 []).length+1)) (-1)=(I.getD 0 []).map (nmV N):=by
  unfold rowsTo
  rw[col_flat]
  generalize hy:I.getD 0 []=y
  have e:∀k,colV (gapRows N I n k) (-1)=if k<y.length then [nmV N (y.getD k 0)] else []:=fun k=>by rw[col_res0,hy]
  rw[funext e,totF_range,totF_add,totF_nil 1,List.append_nil,totF_congr (g:=fun k=>([y.getD k 0]).map (nmV N))]
  · have:∀(d j:Nat),totF (fun k=>([y.getD k 0]).map (nmV N)) j d=(totF (fun k=>[y.getD k 0]) j d).map (nmV N):=by
      intro d
      induction d with
      | zero=>intro j;rfl
      | succ d ih=>intro j;rw[totF,totF,ih,List.map_append]
    rw[this,run_ok y y y.length 0 0 (by omega) (fun _ _=>rfl)]
    simp
  · intro k _ hk
    rw[if_pos (by omega)]
    rfl
  · intro k hk _
    rw[if_neg (by omega)]
end Go.AE
namespace Go.AE
@[simp] theorem SbS_self:∀s:Store,SbS s s=True
  | []=>rfl
  | x::s=>by rw[SbS_cons,SbO_refl,SbS_self s];simp
end Go.AE
namespace Go.AE
theorem linesV_leB {s:Str} {B:Nat} (h:s.length≤B):(linesV s).length≤B+1:=by
  have hc:s.count 10≤s.length:=List.count_le_length
  rw[linesV_len]
  split <;> omega
structure Small (r:Str) (ps:List Str) (B:Nat):Prop where
  hr:r.length≤B
  hp:∀p,p∈ps→p.length≤B
  n1:1≤ps.length
  n2:ps.length≤32
  b1:B≤100
  b2:(B+1) * ps.length≤4096
theorem Small.ids {r:Str} {ps:List Str} {B:Nat} (h:Small r ps B):∀p,p<ps.length→((idsV (filesV r ps)).getD (p+1) []).length≤B+1:=fun p hp=>by
  rw[idsV_getD (by rw[filesV_len];omega),List.length_map,filesV_succ r ps hp]
  exact linesV_leB (h.hp _ (List.getElem_mem hp))
theorem Small.ids0 {r:Str} {ps:List Str} {B:Nat} (h:Small r ps B):((idsV (filesV r ps)).getD 0 []).length≤B+1:=by
  rw[ids0_len]
  exact linesV_leB h.hr
theorem nm_place {N:List Str} {y:Str} (h:y∈N):nmV N (placeV N y)=y:=by
  obtain⟨k,hk,h1,h2⟩:=placeV_mem h
  unfold nmV
  rw[h1]
  simp[List.getD,hk,h2]
theorem nm_ids {r:Str} {ps:List Str} {p:Nat} (hp:p<(filesV r ps).length):((idsV (filesV r ps)).getD p []).map (nmV (namesV (filesV r ps)))=(filesV r ps)[p]:=by
  rw[idsV_getD hp,List.map_map]
  have:∀l:List Str,(∀y,y∈l→y∈namesV (filesV r ps))→l.map (nmV (namesV (filesV r ps)) ∘ placeV (namesV (filesV r ps)))=l:=fun l hl=>by
    rw[List.map_congr_left fun y hy=>show (nmV (namesV (filesV r ps)) ∘ placeV (namesV (filesV r ps))) y=y from nm_place (hl y hy)]
    exact List.map_id' l
  exact this _ fun y hy=>mem_names.2 ⟨_,List.getElem_mem hp,hy⟩
theorem make_col {r:Str} {ps:List Str} {B:Nat} (h:Small r ps B) {p:Nat} (hp:p<ps.length):colV (makeV r ps).rows p=linesV ps[p]:=by
  have h0:=h.ids0
  have:=col_parent (N:=namesV (filesV r ps)) h.ids h.n2 h.b2 hp (by have:=h.b1;omega)
  unfold makeV
  simp only
  rw[← ids0_len r ps,this,nm_ids (by rw[filesV_len];omega),filesV_succ r ps hp]
theorem make_res {r:Str} {ps:List Str}:colV (makeV r ps).rows (-1)=linesV r:=by
  unfold makeV
  simp only
  rw[← ids0_len r ps,col_res,nm_ids (by rw[filesV_len];omega),filesV_zero]
theorem make_row {r:Str} {ps:List Str} {x:RowT} (hx:x∈(makeV r ps).rows) :
    (∃k m,m∈mergedV (gapV (idsV (filesV r ps)) ps.length k)∧x=lostRow (namesV (filesV r ps)) m)∨∃k,∃h:k<(linesV r).length,x=⟨false,markN (idsV (filesV r ps)) k ps.length,(linesV r)[k]⟩:=by
  unfold makeV rowsTo at hx
  simp only[List.mem_flatMap,List.mem_range] at hx
  obtain⟨k,hk,hx⟩:=hx
  unfold gapRows at hx
  rcases List.mem_append.1 hx with hx | hx
  · obtain⟨m,hm,rfl⟩:=List.mem_map.1 hx
    exact .inl ⟨k,m,hm,rfl⟩
  · rw[ids0_len] at hx
    split at hx
    · rename_i hkl
      simp only[List.mem_singleton] at hx
      subst hx
      refine .inr ⟨k,hkl,?_⟩
      unfold keptRow
      rw[(kept_text r ps hkl).1]
    · cases hx
theorem listV_okL {l:List Str} (h:listV l=true) {x:Str} (hx:x∈l):okL x=true:=by
  rw[listV_last,Bool.and_eq_true,List.all_eq_true] at h
  exact h.1 x hx
theorem lost_text {r:Str} {ps:List Str} {B:Nat} (h:Small r ps B) {k:Nat} {m:MergedT} (hm:m∈mergedV (gapV (idsV (filesV r ps)) ps.length k)):∃p,p∈ps∧(lostRow (namesV (filesV r ps)) m).text∈linesV p:=by
  obtain⟨p,hp,hl⟩:=merged_line h.ids h.n2 h.b2 hm
  have hp1:p+1<(filesV r ps).length:=by rw[filesV_len];omega
  obtain⟨j,h1,h2,y,h3,h4,h5⟩:=id_name hp1 hl
  refine⟨ps[p],List.getElem_mem hp,?_⟩
  rw[filesV_succ r ps hp] at h3
  have:(lostRow (namesV (filesV r ps)) m).text=y:=by
    unfold lostRow
    rw[h1,Int.toNat_natCast]
    exact h4
  rw[this]
  exact h3
theorem lines_ok {s x:Str} (h:x∈linesV s):okL x=true∧x.length≤s.length:=by
  have h1:listV (linesV s)=true:=listV_lines s [] (by simp)
  refine⟨listV_okL h1 h,?_⟩
  obtain⟨i,hi,rfl⟩:=List.mem_iff_getElem.1 h
  have h2:=mem_flat_le hi
  have h3:(linesV s).flatten.length=s.length:=by rw[lines_flat]
  omega
theorem make_marks {r:Str} {ps:List Str} {B:Nat} (h:Small r ps B) {x:RowT} (hx:x∈(makeV r ps).rows):∃k:Nat,x.marks=k∧k<2 ^ ps.length∧(x.lost=true→0<k):=by
  rcases make_row hx with ⟨k,m,hm,rfl⟩ | ⟨k,hk,rfl⟩
  · obtain⟨_,h2⟩:=merged_ok (xs:=gapV (idsV (filesV r ps)) ps.length k) (by rw[gapV_len];exact h.n2) (by have:=sumL_gap h.ids k;have:=h.b2;omega)
    obtain⟨q,q1,q2,q3⟩:=h2.ok m hm
    rw[gapV_len] at q3
    exact⟨q,q1,q3,fun _=>q2⟩
  · exact⟨_,rfl,markN_lt _ _ _,fun h=>by cases h⟩
theorem make_text {r:Str} {ps:List Str} {B:Nat} (h:Small r ps B) {x:RowT} (hx:x∈(makeV r ps).rows):okL x.text=true∧x.text.length≤B:=by
  rcases make_row hx with ⟨k,m,hm,rfl⟩ | ⟨k,hk,rfl⟩
  · obtain⟨p,hp,h2⟩:=lost_text h hm
    obtain⟨h3,h4⟩:=lines_ok h2
    exact⟨h3,Nat.le_trans h4 (h.hp p hp)⟩
  · obtain⟨h3,h4⟩:=lines_ok (List.getElem_mem hk)
    exact⟨h3,Nat.le_trans h4 h.hr⟩
theorem make_valid {r:Str} {ps:List Str} {B:Nat} (h:Small r ps B):checkTab (makeV r ps)=0:=by
  have hn1:=h.n1
  have hn2:=h.n2
  have hp:(makeV r ps).parents=(ps.length:Int):=rfl
  have hm:marksB (makeV r ps).rows (makeV r ps).parents.toNat=true:=by
    rw[hp,Int.toNat_natCast,marksB_all,List.all_eq_true]
    intro x hx
    obtain⟨k,h1,h2,h3⟩:=make_marks h hx
    unfold markB
    rw[h1]
    cases hl:x.lost with
    | false=>simp[h2]
    | true =>
      have:=h3 hl
      simp[h2]
      omega
  have ht:textsB (makeV r ps).rows (makeV r ps).parents.toNat=true:=by
    rw[hp,Int.toNat_natCast]
    unfold textsB
    rw[Bool.and_eq_true,List.all_eq_true,List.all_eq_true]
    refine⟨fun x hx=>(make_text h hx).1,fun c hc=>?_⟩
    rw[List.mem_range] at hc
    rcases Nat.eq_zero_or_pos c with h0 | h0
    · subst h0
      rw[show ((0:Nat):Int)-1=-1 from rfl,make_res]
      exact listV_lines r [] (by simp)
    · rw[show (c:Int)-1=((c-1:Nat):Int) by omega,make_col h (by omega)]
      exact listV_lines _ [] (by simp)
  unfold checkTab
  rw[if_neg (by rw[hp];omega),if_pos hm,if_pos ht]
theorem rows_len2 {N:List Str} {I:List (List Int)} {n B:Nat} (h:∀p,p<n→(I.getD (p+1) []).length≤B) (hn:n≤32) (hB:B * n≤4096):∀k,(rowsTo N I n k).length≤(B * n+1) * k
  | 0=>by simp[rowsTo]
  | k+1=>by
    rw[rowsTo_succ,List.length_append,Nat.mul_succ]
    have h0:=rows_len2 (N:=N) h hn hB k
    have h1:=sumL_gap h k
    obtain⟨_,h2⟩:=merged_ok (xs:=gapV I n k) (by rw[gapV_len];exact hn) (by omega)
    have h3:=h2.len
    have h4:(gapRows N I n k).length≤B * n+1:=by
      unfold gapRows
      rw[List.length_append,List.length_map]
      split <;> simp <;> omega
    omega
theorem flen_leB {B:Nat}:∀rows:List RowT,(∀x,x∈rows→x.text.length≤B)→flen (rows.map RowT.text)≤B * rows.length
  | [],_=>by simp[flen]
  | x::r,h=>by
    have h1:=flen_leB r fun y hy=>h y (by simp[hy])
    have h2:=h x (by simp)
    unfold flen at *
    rw[List.map_cons,List.flatten_cons,List.length_append,List.length_cons,Nat.mul_succ]
    omega
theorem make_len {r:Str} {ps:List Str} {B:Nat} (h:Small r ps B):(makeV r ps).rows.length≤((B+1) * ps.length+1) * (B+2):=by
  have h1:=rows_len2 (N:=namesV (filesV r ps)) h.ids h.n2 h.b2 ((linesV r).length+1)
  have h2:=linesV_leB h.hr
  exact Nat.le_trans h1 (Nat.mul_le_mul_left _ (by omega))
theorem make_tabOk {r:Str} {ps:List Str} {B:Nat} (h:Small r ps B) (hB:B * (((B+1) * ps.length+1) * (B+2))≤4194304):tabOk (makeV r ps):=by
  have hl:=make_len h
  refine⟨?_,fun x hx=>?_,?_⟩
  · have h1:(B+1) * ps.length+1≤4097:=by have:=h.b2;omega
    have h2:B+2≤102:=by have:=h.b1;omega
    have:=Nat.mul_le_mul h1 h2
    omega
  · obtain⟨k,h1,h2,_⟩:=make_marks h hx
    have h3:=pow_le h.n2
    unfold rowOk
    rw[h1]
    omega
  · have h1:=flen_leB (B:=B) (makeV r ps).rows fun x hx=>(make_text h hx).2
    exact Nat.le_trans h1 (Nat.le_trans (Nat.mul_le_mul_left _ hl) hB)
/-! ### free tables -/
structure HunkT where
  first:Int
  last:Int
  ofr:Int
  oto:Int
  nfr:Int
  nto:Int
  deriving DecidableEq,Inhabited
open Go.ChangeShapes Go.WideShapes Go.RowKit Go.Deep
instance:Rep PLineT where
  size:=2
  to x:=.agg [.int .u8 x.kind,.str x.text]
  of
    | .agg [.int .u8 a,.str b]=>some ⟨a,b⟩
    | _=>none
  of_to x:=rfl
  rep d x h w I v r:=by
    split at h
    · simp at h;subst h;exact r
    · simp at h
  fits x:=rfl
@[simp] theorem to_PLine (x:PLineT):Rep.to x=D.agg [.int .u8 x.kind,.str x.text]:=rfl
@[simp] theorem size_PLine:Rep.size PLineT=2:=rfl
@[simp] theorem of_PLine (a:Int) (b:Str):Rep.of (α:=PLineT) (.agg [.int .u8 a,.str b])=some ⟨a,b⟩:=rfl
instance:Rep PHunkT where
  size:=3
  to x:=.agg [.int .i64 x.old,.int .i64 x.new,Rep.to x.lines]
  of
    | .agg [.int .i64 a,.int .i64 b,c]=>(Rep.of (α:=List PLineT) c).map fun r=>⟨a,b,r⟩
    | _=>none
  of_to x:=by simp only[Rep.of_to];rfl
  rep d x h w I v r:=by
    split at h
    · rename_i a b c
      simp only[Option.map_eq_some_iff] at h
      obtain⟨rows,h1,rfl⟩:=h
      cases r with
      | agg cs vs hl ho hr =>
        refine .agg _ _ (by simpa using hl) rfl (fun k hk=>?_)
        have hk':k<3:=by simpa using hk
        match k,hk' with
        | 0,_=>exact hr 0 (by simp)
        | 1,_=>exact hr 1 (by simp)
        | 2,_=>exact Rep.rep _ _ h1 _ _ _ (hr 2 (by simp))
    · simp at h
  fits x:=rfl
@[simp] theorem to_PHunk (x:PHunkT):Rep.to x=D.agg [.int .i64 x.old,.int .i64 x.new,.sl 2 (x.lines.map Rep.to)]:=rfl
@[simp] theorem size_PHunk:Rep.size PHunkT=3:=rfl
@[simp] theorem of_PHunk (a b:Int) (c:D):Rep.of (α:=PHunkT) (.agg [.int .i64 a,.int .i64 b,c])=(Rep.of (α:=List PLineT) c).map fun r=>⟨a,b,r⟩:=rfl
instance:Rep PatchT where
  size:=3
  to x:=.agg [.str x.oldName,.str x.newName,Rep.to x.hunks]
  of
    | .agg [.str a,.str b,c]=>(Rep.of (α:=List PHunkT) c).map fun r=>⟨a,b,r⟩
    | _=>none
  of_to x:=by simp only[Rep.of_to];rfl
  rep d x h w I v r:=by
    split at h
    · rename_i a b c
      simp only[Option.map_eq_some_iff] at h
      obtain⟨rows,h1,rfl⟩:=h
      cases r with
      | agg cs vs hl ho hr =>
        refine .agg _ _ (by simpa using hl) rfl (fun k hk=>?_)
        have hk':k<3:=by simpa using hk
        match k,hk' with
        | 0,_=>exact hr 0 (by simp)
        | 1,_=>exact hr 1 (by simp)
        | 2,_=>exact Rep.rep _ _ h1 _ _ _ (hr 2 (by simp))
    · simp at h
  fits x:=rfl
@[simp] theorem to_Patch (x:PatchT):Rep.to x=D.agg [.str x.oldName,.str x.newName,.sl 3 (x.hunks.map Rep.to)]:=rfl
@[simp] theorem size_Patch:Rep.size PatchT=3:=rfl
@[simp] theorem of_Patch (a b:Str) (c:D):Rep.of (α:=PatchT) (.agg [.str a,.str b,c])=(Rep.of (α:=List PHunkT) c).map fun r=>⟨a,b,r⟩:=rfl
instance:Rep HunkT where
  size:=6
  to x:=.agg [.int .i64 x.first,.int .i64 x.last,.int .i64 x.ofr,.int .i64 x.oto,.int .i64 x.nfr,.int .i64 x.nto]
  of
    | .agg [.int .i64 a,.int .i64 b,.int .i64 c,.int .i64 d,.int .i64 e,.int .i64 f]=>some ⟨a,b,c,d,e,f⟩
    | _=>none
  of_to x:=rfl
  rep d x h w I v r:=by
    split at h
    · simp at h;subst h;exact r
    · simp at h
  fits x:=rfl
@[simp] theorem to_Hunk (x:HunkT):Rep.to x=D.agg [.int .i64 x.first,.int .i64 x.last,.int .i64 x.ofr,.int .i64 x.oto,.int .i64 x.nfr,.int .i64 x.nto]:=rfl
@[simp] theorem size_Hunk:Rep.size HunkT=6:=rfl
@[simp] theorem of_Hunk (a b c d e f:Int):Rep.of (α:=HunkT) (.agg [.int .i64 a,.int .i64 b,.int .i64 c,.int .i64 d,.int .i64 e,.int .i64 f])=some ⟨a,b,c,d,e,f⟩:=rfl
end Go.AE
namespace Go.AE
theorem frange_len (s c:Int):(frangeV s c).length≤43:=by
  have h1:=fmt_len s
  have h2:=fmt_len (s+1)
  have h3:=fmt_len c
  unfold frangeV
  split
  · simp
  · split
    · simp only[List.length_append,List.length_cons,List.length_nil];omega
    · split
      · omega
      · simp only[List.length_append,List.length_cons,List.length_nil];omega
@[simp] def buW (k:Nat) (bs:Str):Store:=[.cells 0 2 [.agg [.tref k 0 106,.bgr (k+1) 5 bs]],.tip bs.length]
theorem prefix_take (s p:Str):Lib.hasPrefix s p=decide (s.take p.length=p):=by
  unfold Lib.hasPrefix
  rw[Bool.eq_iff_iff,List.isPrefixOf_iff_prefix,List.prefix_iff_eq_take,decide_eq_true_eq]
  exact eq_comm
theorem suffix_drop (s p:Str):Lib.hasSuffix s p=decide (s.drop (s.length-p.length)=p):=by
  unfold Lib.hasSuffix
  rw[Bool.eq_iff_iff,List.isSuffixOf_iff_suffix,List.suffix_iff_eq_drop,decide_eq_true_eq]
  exact eq_comm
theorem prefix_le {s p:Str} (h:Lib.hasPrefix s p=true):p.length≤s.length:=by
  rw[prefix_take,decide_eq_true_eq] at h
  have:=congrArg List.length h
  simp at this
  omega
theorem suffix_le {s p:Str} (h:Lib.hasSuffix s p=true):p.length≤s.length:=by
  rw[suffix_drop,decide_eq_true_eq] at h
  have:=congrArg List.length h
  simp at this
  omega
@[simp] def S_strings_HasPrefix:List D→Prop × D:=spec2 (α:=Str) (β:=Str) (fun s _=>s.length≤9223372036854775807) (fun s p=>.bool (Lib.hasPrefix s p))
abbrev S_internal_stringslite_HasPrefix:=S_strings_HasPrefix
abbrev S_internal_stringslite_HasSuffix:=S_strings_HasSuffix
abbrev S_internal_stringslite_TrimSuffix:=S_strings_TrimSuffix
theorem ct_internal_stringslite_HasPrefix {P:Program} {f:Nat} {G:Gam} (h:CodeOf P f 2 3 [2] x_internal_stringslite_HasPrefix) (hG:GamOk P G):Has P f S_internal_stringslite_HasPrefix:=h.has2 hG fun s p hp=>by
  rw[prefix_take]
  by_cases hl:p.length≤s.length
  · simp[x_internal_stringslite_HasPrefix,hl]
  · have e:¬s.take p.length=p:=fun e=>by have:=congrArg List.length e;simp at this;omega
    simp[x_internal_stringslite_HasPrefix,hl,e]
theorem ct_strings_HasPrefix {P:Program} {f g1:Nat} {G:Gam} (h:CodeOf P f 2 3 [2] (x_strings_HasPrefix g1)) (hG:GamOk P G) (h1:G.find g1=some S_internal_stringslite_HasPrefix):Has P f S_strings_HasPrefix:=h.has2 hG fun s p hp=>by
  simp[x_strings_HasPrefix,h1,hp]
theorem ct_internal_stringslite_HasSuffix {P:Program} {f:Nat} {G:Gam} (h:CodeOf P f 2 3 [2] x_internal_stringslite_HasSuffix) (hG:GamOk P G):Has P f S_internal_stringslite_HasSuffix:=h.has2 hG fun s p hp=>by
  rw[suffix_drop]
  by_cases hl:p.length≤s.length
  · have w:IntKind.i64.wrap ((s.length:Int)-p.length)=((s.length-p.length:Nat):Int):=by rw[wrap_in (by omega) (by omega)];omega
    have hd:List.take (s.length-(s.length-p.length)) (s.drop (s.length-p.length))=s.drop (s.length-p.length):=List.take_of_length_le (by simp)
    simp[x_internal_stringslite_HasSuffix,hl,w,hd]
  · have e:¬s.drop (s.length-p.length)=p:=fun e=>by have:=congrArg List.length e;simp at this;omega
    simp[x_internal_stringslite_HasSuffix,hl,e]
theorem ct_strings_HasSuffix {P:Program} {f g1:Nat} {G:Gam} (h:CodeOf P f 2 3 [2] (x_strings_HasSuffix g1)) (hG:GamOk P G) (h1:G.find g1=some S_internal_stringslite_HasSuffix):Has P f S_strings_HasSuffix:=h.has2 hG fun s p hp=>by
  simp[x_strings_HasSuffix,h1,hp]
theorem ct_internal_stringslite_TrimSuffix {P:Program} {f g1:Nat} {G:Gam} (h:CodeOf P f 2 4 [2] (x_internal_stringslite_TrimSuffix g1)) (hG:GamOk P G) (h1:G.find g1=some S_internal_stringslite_HasSuffix):Has P f S_internal_stringslite_TrimSuffix:=h.has2 hG fun s p hp=>by
  cases c:Lib.hasSuffix s p with
  | true =>
    have hl:=suffix_le c
    have w:IntKind.i64.wrap ((s.length:Int)-p.length)=((s.length-p.length:Nat):Int):=by rw[wrap_in (by omega) (by omega)];omega
    have e:Lib.trimSuffix s p=s.take (s.length-p.length):=by unfold Lib.trimSuffix;rw[if_pos c]
    rw[e]
    simp[x_internal_stringslite_TrimSuffix,h1,hp,c,w]
  | false =>
    have e:Lib.trimSuffix s p=s:=by unfold Lib.trimSuffix;rw[if_neg (by rw[c];simp)]
    rw[e]
    simp[x_internal_stringslite_TrimSuffix,h1,hp,c]
theorem ct_strings_TrimSuffix {P:Program} {f g1:Nat} {G:Gam} (h:CodeOf P f 2 3 [2] (x_strings_TrimSuffix g1)) (hG:GamOk P G) (h1:G.find g1=some S_internal_stringslite_TrimSuffix):Has P f S_strings_TrimSuffix:=h.has2 hG fun s p hp=>by
  simp[x_strings_TrimSuffix,h1,hp]
def cutPre (s p:Str):Str:=if Lib.hasPrefix s p=true then s.drop p.length else s
def cutSuf (s p:Str):Str:=if Lib.hasSuffix s p=true then s.take (s.length-p.length) else s
@[simp] def S_strings_CutPrefix:List D→Prop × D:=spec2 (α:=Str) (β:=Str) (fun s _=>s.length≤9223372036854775807) (fun s p=>.tup [.str (cutPre s p),.bool (Lib.hasPrefix s p)])
abbrev S_internal_stringslite_CutPrefix:=S_strings_CutPrefix
@[simp] def S_strings_CutSuffix:List D→Prop × D:=spec2 (α:=Str) (β:=Str) (fun s _=>s.length≤9223372036854775807) (fun s p=>.tup [.str (cutSuf s p),.bool (Lib.hasSuffix s p)])
abbrev S_internal_stringslite_CutSuffix:=S_strings_CutSuffix
theorem ct_internal_stringslite_CutPrefix {P:Program} {f g1:Nat} {G:Gam} (h:CodeOf P f 2 5 [2,3] (x_internal_stringslite_CutPrefix g1)) (hG:GamOk P G) (h1:G.find g1=some S_internal_stringslite_HasPrefix):Has P f S_internal_stringslite_CutPrefix:=h.has2 hG fun s p hp=>by
  cases c:Lib.hasPrefix s p with
  | true =>
    have hl:=prefix_le c
    have e:cutPre s p=s.drop p.length:=by unfold cutPre;rw[if_pos c]
    have hd:List.take (s.length-p.length) (s.drop p.length)=s.drop p.length:=List.take_of_length_le (by simp)
    rw[e]
    simp[x_internal_stringslite_CutPrefix,h1,hp,c,hl,hd]
  | false =>
    have e:cutPre s p=s:=by unfold cutPre;rw[if_neg (by rw[c];simp)]
    rw[e]
    simp[x_internal_stringslite_CutPrefix,h1,hp,c]
theorem ct_strings_CutPrefix {P:Program} {f g1:Nat} {G:Gam} (h:CodeOf P f 2 4 [2,3] (x_strings_CutPrefix g1)) (hG:GamOk P G) (h1:G.find g1=some S_internal_stringslite_CutPrefix):Has P f S_strings_CutPrefix:=h.has2 hG fun s p hp=>by
  simp[x_strings_CutPrefix,h1,hp]
theorem ct_internal_stringslite_CutSuffix {P:Program} {f g1:Nat} {G:Gam} (h:CodeOf P f 2 5 [2,3] (x_internal_stringslite_CutSuffix g1)) (hG:GamOk P G) (h1:G.find g1=some S_internal_stringslite_HasSuffix):Has P f S_internal_stringslite_CutSuffix:=h.has2 hG fun s p hp=>by
  cases c:Lib.hasSuffix s p with
  | true =>
    have hl:=suffix_le c
    have w:IntKind.i64.wrap ((s.length:Int)-p.length)=((s.length-p.length:Nat):Int):=by rw[wrap_in (by omega) (by omega)];omega
    have e:cutSuf s p=s.take (s.length-p.length):=by unfold cutSuf;rw[if_pos c]
    rw[e]
    simp[x_internal_stringslite_CutSuffix,h1,hp,c,w]
  | false =>
    have e:cutSuf s p=s:=by unfold cutSuf;rw[if_neg (by rw[c];simp)]
    rw[e]
    simp[x_internal_stringslite_CutSuffix,h1,hp,c]
theorem ct_strings_CutSuffix {P:Program} {f g1:Nat} {G:Gam} (h:CodeOf P f 2 4 [2,3] (x_strings_CutSuffix g1)) (hG:GamOk P G) (h1:G.find g1=some S_internal_stringslite_CutSuffix):Has P f S_strings_CutSuffix:=h.has2 hG fun s p hp=>by
  simp[x_strings_CutSuffix,h1,hp]
@[simp] def S_strings_Split:List D→Prop × D:=spec2 (α:=Str) (β:=Str) (fun s sep=>sep.length=1∧s.length<4294967281) (fun s sep=>Rep.to (Lib.splitK sep 0 (Lib.count s sep) s))
theorem ct_strings_Split {P:Program} {f g:Nat} {G:Gam} (h:CodeOf P f 2 3 [2] (x_strings_Split g)) (hG:GamOk P G) (hg:G.find g=some S_strings_genSplit):Has P f S_strings_Split:=h.has2 hG fun s sep hp=>by
  obtain⟨h1,h2⟩:=hp
  simp[x_strings_Split,hg,h1,h2]
@[simp] def S_strings_Repeat:List D→Prop × D:=spec2 (α:=Str) (β:=Int) (fun s c=>0≤c∧s.length * c.toNat≤140737488355328∧c≤9223372036854775807) (fun s c=>.str (Lib.repeatL s c.toNat))
def linesS (s:Str):List Str × Bool :=
  if s=[] then ([],true) else if Lib.hasSuffix s [10]=true then (Lib.splitK [10] 0 (Lib.count (cutSuf s [10]) [10]) (cutSuf s [10]),true) else ([],false)
def unendL:Str:=[92,32,78,111,32,110,101,119,108,105,110,101,32,97,116,32,101,110,100,32,111,102,32,102,105,108,101]
structure CHunkT where
  at_:List Int
  rows:List RowT
  deriving DecidableEq,Inhabited
structure CombT where
  path:Str
  dense:Bool
  parents:Int
  hunks:List CHunkT
  deriving DecidableEq,Inhabited
def ctsV (rows:List RowT) (n:Nat):List Int:=((List.range n).map fun (p:Nat)=>((rows.countP fun r=>visB r p:Nat):Int))++[((rows.countP fun r=>!r.lost:Nat):Int)]
theorem ctsV_len (rows:List RowT) (n:Nat):(ctsV rows n).length=n+1:=by simp[ctsV]
def markC (c:CombT):Bool:=c.hunks.all fun h=>h.rows.all (markB c.parents.toNat)
def atOk:List Int→List Int→Bool
  | a::as,e::es=>!(decide (a<e) || decide (4096<a)) && atOk as es
  | _,_=>true
def folV (h:CHunkT) (n:Nat) (ends:List Int):Option (List Int) :=
  if h.at_.length≠n+1∨h.rows=[] then none else if atOk h.at_ ends=true then some ((ctsV h.rows n).zipWith (·+·) h.at_) else none
def adsV:Bool→Nat→List RowT→Option (Bool × Nat)
  | res,par,[]=>some (res,par)
  | res,par,r::rs=>if (lineB r.text && endsOk res par r)=true then adsV (endsRes res r) (endsPar par r) rs else none
def wellC (n:Nat):Bool→Nat→List Int→List CHunkT→Option (List Int)
  | _,_,ends,[]=>some ends
  | res,par,ends,h::hs=>match folV h n ends with
    | none=>none
    | some nx=>match adsV res par h.rows with
      | none=>none
      | some (res',par')=>wellC n res' par' nx hs
def maxV (l:List Int):Int:=l.tail.foldl max (l.headD 0)
def formB (c:CombT):Bool:=match wellC c.parents.toNat false 0 (List.replicate (c.parents.toNat+1) 0) c.hunks with
  | none=>false
  | some ends=>decide (maxV ends≤4096)
/-! ### the written form -/
def titleW (c:CombT):Str:=[100,105,102,102,32,45,45]++((if c.dense then [99,99] else [99,111,109,98,105,110,101,100])++(32::(quoteV c.path++([10,112,97,114,101,110,116,115,32]++(fmtV c.parents++[10])))))
def atsW (n:Nat):Str:=List.replicate (n+1) 64
def rangesW (at_ ns:List Int):Nat→Str
  | 0=>[]
  | p+1=>rangesW at_ ns p++([32,45]++frangeV (at_.getD p 0) (ns.getD p 0))
def headC (h:CHunkT) (n:Nat):Str:=atsW n++(rangesW h.at_ (ctsV h.rows n) n++([32,43]++(frangeV (h.at_.getD n 0) ((ctsV h.rows n).getD n 0)++(32::(atsW n++[10])))))
def markW (r:RowT):Nat→Str
  | 0=>[]
  | p+1=>markW r p++[if getU r.marks p=1 then (if r.lost then 45 else 43) else 32]
def rowW (r:RowT) (n:Nat):Str:=markW r n++(r.text++if endedV r.text=true then [] else unendS)
def hunkC (n:Nat) (h:CHunkT):Str:=headC h n++h.rows.flatMap fun r=>rowW r n
def writC (c:CombT):Str:=titleW c++c.hunks.flatMap (hunkC c.parents.toNat)
def chkC (c:CombT):Int :=
  if namedB c.path=false then 120 else if c.parents<1∨32<c.parents then 2 else if markC c=false then 180 else if formB c=false then 121 else if 16777216<(writC c).length then 1 else 0
open Go.ChangeShapes Go.WideShapes Go.RowKit Go.Deep
instance:Rep CHunkT where
  size:=2
  to x:=.agg [Rep.to x.at_,Rep.to x.rows]
  of
    | .agg [a,b]=>match Rep.of (α:=List Int) a,Rep.of (α:=List RowT) b with
      | some l,some r=>some ⟨l,r⟩
      | _,_=>none
    | _=>none
  of_to x:=by simp only[Rep.of_to]
  rep d x h w I v r:=by
    split at h
    · rename_i a b
      split at h
      · rename_i l rs h1 h2
        simp at h
        subst h
        cases r with
        | agg cs vs hl ho hr =>
          refine .agg _ _ (by simpa using hl) rfl (fun k hk=>?_)
          have hk':k<2:=by simpa using hk
          match k,hk' with
          | 0,_=>exact Rep.rep _ _ h1 _ _ _ (hr 0 (by simp))
          | 1,_=>exact Rep.rep _ _ h2 _ _ _ (hr 1 (by simp))
      · simp at h
    · simp at h
  fits x:=rfl
@[simp] theorem to_CHunk (x:CHunkT):Rep.to x=D.agg [.sl 1 (x.at_.map Rep.to),.sl 3 (x.rows.map Rep.to)]:=rfl
@[simp] theorem size_CHunk:Rep.size CHunkT=2:=rfl
@[simp] theorem of_CHunk (a b:D):Rep.of (α:=CHunkT) (.agg [a,b])=(match Rep.of (α:=List Int) a,Rep.of (α:=List RowT) b with
      | some l,some r=>some ⟨l,r⟩
      | _,_=>none):=rfl
instance:Rep CombT where
  size:=4
  to x:=.agg [.str x.path,.bool x.dense,.int .i64 x.parents,Rep.to x.hunks]
  of
    | .agg [.str a,.bool b,.int .i64 c,d]=>(Rep.of (α:=List CHunkT) d).map fun r=>⟨a,b,c,r⟩
    | _=>none
  of_to x:=by simp only[Rep.of_to];rfl
  rep d x h w I v r:=by
    split at h
    · rename_i a b c e
      simp only[Option.map_eq_some_iff] at h
      obtain⟨rows,h1,rfl⟩:=h
      cases r with
      | agg cs vs hl ho hr =>
        refine .agg _ _ (by simpa using hl) rfl (fun k hk=>?_)
        have hk':k<4:=by simpa using hk
        match k,hk' with
        | 0,_=>exact hr 0 (by simp)
        | 1,_=>exact hr 1 (by simp)
        | 2,_=>exact hr 2 (by simp)
        | 3,_=>exact Rep.rep _ _ h1 _ _ _ (hr 3 (by simp))
    · simp at h
  fits x:=rfl
@[simp] theorem to_Comb (x:CombT):Rep.to x=D.agg [.str x.path,.bool x.dense,.int .i64 x.parents,.sl 2 (x.hunks.map Rep.to)]:=rfl
@[simp] theorem size_Comb:Rep.size CombT=4:=rfl
@[simp] theorem of_Comb (a:Str) (b:Bool) (c:Int) (d:D):Rep.of (α:=CombT) (.agg [.str a,.bool b,.int .i64 c,d])=(Rep.of (α:=List CHunkT) d).map fun r=>⟨a,b,c,r⟩:=rfl
end Go.AE
namespace Go.AE
structure LoomX where
  names:List Str
  i0:List Int
  n:Nat
  L:Nat
  q:Nat→Nat
  d:Nat→Nat→D
  vg:Nat
  p:Nat
  x:List Int
  pn:Nat
def boxO:Ob:=.cells 0 2 [.d (.agg [.int .i64 0,.nilsl])]
def loomO (names:List Str) (i0:List Int) (L vg pn:Nat):Ob:=.cells 0 6 [.agg [.d (Rep.to names),.d (Rep.to i0),.own 2 0 0 L,.own 3 vg 0 (L+1),.d (.int .i64 pn),.d .nilsl]]
def addQ (s:List ChangeT) (p:Nat) (q:Nat→Nat) (k:Nat):Nat:=if insB s k=true then q k ||| 2 ^ p else q k
def addD (x:List Int) (s:List ChangeT) (p:Nat) (d:Nat→Nat→D) (r k:Nat):D:=if r=p then gapD x s k else d r k
def Ob.len:Ob→Nat
  | .cells _ _ xs=>xs.length
  | _=>0
def Ob.agn:Ob→Nat→A
  | .cells _ _ (.agg cs::_),j=>cs.getD j .any
  | _,_=>.any
def loomS (names:List Str) (i0:List Int) (n L:Nat) (q:Nat→Nat) (d:Nat→Nat→D) (vg pn:Nat):Store :=
  boxO::loomO names i0 L vg pn::.cells 0 1 (marksC L q)::.cells vg 1 (gapC n (L+1) (L+1))::rowsO n d (L+1)
@[simp] theorem loomS_len (names:List Str) (i0:List Int) (n L:Nat) (q:Nat→Nat) (d:Nat→Nat→D) (vg pn:Nat):(loomS names i0 n L q d vg pn).length=L+5:=by simp[loomS,rowsO_len]
def F_weave_loom_add:RF LoomX where
  new:=0
  view a s:=⟨((s.getD 1 .dead).agn 0).gl Str,((s.getD 1 .dead).agn 1).gl Int,(s.getD 4 .dead).len,(s.getD 2 .dead).len,fun k=>((s.getD 2 .dead).el k).gi.toNat,fun r k=>((s.getD (k+4) .dead).el r).toD,(s.getD 3 .dead).ver,(a.getD 1 .any).gi.toNat,(a.getD 2 .any).gl Int,((s.getD 1 .dead).agn 4).gi.toNat⟩
  args x:=[.ref 1 0 0 0,.d (.int .i64 x.p),.d (Rep.to x.x)]
  st x:=loomS x.names x.i0 x.n x.L x.q x.d x.vg x.pn
  pre x:=x.x.length≤4096∧x.i0.length=x.L∧x.L≤4096∧x.p<x.n∧x.n≤32∧(∀k,k<x.L→x.q k<4294967296)∧∀k,k<x.L+1→x.d x.p k=.nilsl
  res _:=.d (.int .i64 0)
  st' x:=loomS x.names x.i0 x.n x.L (addQ (scriptV x.x x.i0) x.p x.q) (addD x.x (scriptV x.x x.i0) x.p x.d) x.vg x.pn
abbrev R_weave_loom_add:RSpec:=F_weave_loom_add.specW
theorem pow32 {p:Nat} (h:p<32):2 ^ p<4294967296:=by
  have:(4294967296:Nat)=2 ^ 32:=rfl
  rw[this]
  exact Nat.pow_lt_pow_right (by omega) h
theorem or_lt32 {a p:Nat} (h:a<4294967296) (hp:p<32):a ||| 2 ^ p<4294967296:=by
  have:(4294967296:Nat)=2 ^ 32:=rfl
  have h2:=pow32 hp
  rw[this] at *
  exact Nat.or_lt_two_pow h h2
theorem or_idem (a b:Nat):a ||| b ||| b=a ||| b:=by rw[Nat.or_assoc,Nat.or_self]
theorem rowsO_congr2 {n m:Nat} {d e:Nat→Nat→D} (h:∀q k,q<n→k<m→d q k=e q k):rowsO n d m=rowsO n e m:=by
  unfold rowsO rowG
  exact List.map_congr_left fun k hk=>by
    congr 1
    exact List.map_congr_left fun q hq=>by rw[h q k (by simpa using hq) (by simpa using hk)]
theorem insB_snoc {s:List ChangeT} {c:Nat} (h:c<s.length) (k:Nat):insB (s.take (c+1)) k=(insB (s.take c) k || decide (s[c].new≤(k:Int)∧(k:Int)<s[c].new+s[c].newLen)):=by
  unfold insB
  rw[List.take_succ_eq_append_getElem h,List.any_append]
  simp
theorem SbS_app:∀s t:Store,SbS (s++t) s=True
  | [],t=>by simp
  | x::s,t=>by rw[List.cons_append,SbS_cons,SbO_refl,SbS_app s t];simp
theorem marksC_under (L:Nat) (q:Nat→Nat) (N:Nat):(marksC L q).all (A.under N)=true:=by
  rw[List.all_eq_true]
  intro x hx
  obtain⟨k,_,rfl⟩:=List.mem_map.1 hx
  rfl
theorem gapC_under (n m k:Nat) {N:Nat} (h:m+4≤N):(gapC n m k).all (A.under N)=true:=by
  rw[List.all_eq_true]
  intro x hx
  obtain⟨j,hj,rfl⟩:=List.mem_map.1 hx
  have hj:j<m:=by simpa using hj
  split
  · simp only[A.under,decide_eq_true_eq];omega
  · rfl
theorem rowsO_under (n:Nat) (d:Nat→Nat→D) (m N:Nat):(rowsO n d m).all (Ob.under N)=true:=by
  rw[List.all_eq_true]
  intro x hx
  obtain⟨j,hj,rfl⟩:=List.mem_map.1 hx
  show (rowG n d j).all (A.under N)=true
  rw[List.all_eq_true]
  intro y hy
  obtain⟨k,_,rfl⟩:=List.mem_map.1 hy
  rfl
theorem loomS_under (names:List Str) (i0:List Int) (n L:Nat) (q:Nat→Nat) (d:Nat→Nat→D) (vg pn:Nat):(loomS names i0 n L q d vg pn).all (Ob.under (L+5))=true:=by
  have h1:=marksC_under L q (L+5)
  have h2:=gapC_under n (L+1) (L+1) (N:=L+5) (by omega)
  have h3:=rowsO_under n d (L+1) (L+5)
  unfold loomS
  rw[List.all_cons,List.all_cons,List.all_cons,List.all_cons,h3]
  simp only[Ob.under,h1,h2,Bool.and_true]
  simp[boxO,loomO]
theorem get_snoc {α:Type} {l:List α} {n:Nat} (h:l.length=n) (x:α):(l++[x])[n]?=some x:=by subst h;simp
theorem get_snoc_lt {α:Type} {l:List α} {k:Nat} (h:k<l.length) (x:α):(l++[x])[k]?=l[k]?:=by rw[List.getElem?_append_left h]
theorem set_snoc_lt {α:Type} {l:List α} {k:Nat} (h:k<l.length) (x y:α):(l++[x]).set k y=l.set k y++[x]:=List.set_append_left _ _ h
def stepQ (s:List ChangeT) (p:Nat) (q:Nat→Nat) (c a j:Nat) (k:Nat):Nat:=if (insB (s.take c) k || decide (a≤k∧k<j))=true then q k ||| 2 ^ p else q k
theorem ct_weave_loom_add {P:Program} {f g1:Nat} {G:Gam} (hc:CodeOf P f 3 14 [3] (x_weave_loom_add g1)) (hG:GamOk P G) (h1:G.find g1=some S_shortest_Script):RSpec.Ok P f R_weave_loom_add:=by
  refine RF.okW hc.call fun x hx=>hc.rcalls hG rfl ?_
  obtain⟨names,i0,n,L,q,d,vg,p,x,pn⟩:=x
  obtain⟨p1,p2,p3,p4,p5,p6,p7⟩:=hx
  simp only at p1 p2 p3 p4 p5 p6 p7
  have hso:=script_ok (a:=x) (b:=i0) (by omega) (by omega)
  obtain⟨hck,_,_⟩:=hso
  simp only[checkV,Bool.and_eq_true] at hck
  obtain⟨_,hok⟩:=hck
  have hsl:=scriptV_len x i0
  have hlg:¬longV x i0:=by unfold longV;omega
  obtain⟨_,hnw⟩:=okV_new _ _ _ _ _ _ hok
  simp[F_weave_loom_add,x_weave_loom_add,startA,h1,loomS,loomO,boxO,hlg,show x.length≤1048576 by omega,show i0.length≤1048576 by omega]
  have hsl2:(scriptV x i0).length≤4097:=by omega
  generalize scriptV x i0=s at *
  have hA0:addQ (s.take 0) p q=q:=by funext k;simp[addQ,insB]
  have hD0:rowsO n (addD x (s.take 0) p d) (L+1)=rowsO n d (L+1):=rowsO_congr2 fun r k _ hk=>by
    unfold addD
    by_cases h:r=p
    · subst h;rw[if_pos rfl,p7 k hk];rfl
    · rw[if_neg h]
  refine vc_lp (σ:=Nat) (fun c=>c≤s.length) (fun c=>s.length-c)
    (fun c=>[.ref 1 0 0 0,.d (.int .i64 p),.d (Rep.to x),.any,.any,.any,.any,.any,.any,.d (Rep.to s),.d (.int .i64 s.length),.d (.int .i64 c),.any,.any])
    (fun c=>boxO::loomO names i0 L vg pn::.cells 0 1 (marksC L (addQ (s.take c) p q))::.cells vg 1 (gapC n (L+1) (L+1))::rowsO n (addD x (s.take c) p d) (L+1)) 0 (by simp) ?_ (by simp) ?_ (h0:=by simp[rowsO_len]) (hc:=.inl (by simp[rowsO_len]))
  · rw[hA0,hD0]
    simp[boxO,loomO]
  intro c hc
  by_cases hcl:c<s.length
  · have w1:IntKind.i64.wrap ((c:Int)+1)=(c:Int)+1:=wrap_in (by omega) (by omega)
    obtain⟨m3,m4,m5,m6,m7,m8⟩:=hnw _ (List.getElem_mem hcl)
    obtain⟨j,hj⟩:=Int.eq_ofNat_of_zero_le m3
    obtain⟨jl,hjl⟩:=Int.eq_ofNat_of_zero_le m4
    obtain⟨o,ho⟩:=Int.eq_ofNat_of_zero_le m6
    obtain⟨ol,hol⟩:=Int.eq_ofNat_of_zero_le m7
    have hrl:=rowsO_len n (addD x (s.take c) p d) (L+1)
    have hins:=fun k=>insB_snoc hcl k
    rw[hj,hjl] at hins
    have hq0:marksC L (addQ (s.take c) p q)=marksC L (stepQ s p q c j j):=marksC_congr fun k _=>by
      unfold addQ stepQ
      have:decide (j≤k∧k<j)=false:=by rw[decide_eq_false_iff_not];omega
      rw[this,Bool.or_false]
    rw[hq0]
    simp[hcl,getD_map,hrl,boxO,loomO,hj,hjl,ho,hol]
    have hgx:∀(l:List Ob) (y:Ob),l.length=L+1→(l++[y])[L+1]?=some y:=fun l y h=>get_snoc h y
    have hsy:∀(l:List Ob) (y z:Ob),l.length=L+1→(l++[y]).set (L+1) z=l++[z]:=fun l y z h=>by rw[List.set_append_right _ _ (by omega),h,Nat.sub_self];rfl
    have hgx2:∀(l:List Ob) (y:Ob),l.length=L+1→j<L+1→(l++[y])[j]?=l[j]?:=fun l y h1 h2=>get_snoc_lt (by omega) y
    have hsx:∀(l:List Ob) (y z:Ob),l.length=L+1→j<L+1→(l++[y]).set j z=l.set j z++[y]:=fun l y z h1 h2=>set_snoc_lt (by omega) _ _
    refine vc_lp (σ:=Nat) (fun k=>j≤k∧k≤j+jl) (fun k=>j+jl-k)
      (fun k=>[.ref 1 0 0 0,.d (.int .i64 p),.d (Rep.to x),.any,.any,.any,.ref (L+5) 0 0 0,.d (.int .i64 k),.any,.d (Rep.to s),.d (.int .i64 s.length),.d (.int .i64 c),.any,.any])
      (fun k=>boxO::.cells 0 6 [.agg [.d (Rep.to names),.d (Rep.to i0),.own 2 0 0 L,.own 3 vg 0 (L+1),.d (.int .i64 pn),.d .nilsl]]::.cells 0 1 (marksC L (stepQ s p q c j k))::.cells vg 1 (gapC n (L+1) (L+1))::(rowsO n (addD x (s.take c) p d) (L+1)++[.cells 0 4 [.d (.agg [.int .i64 o,.int .i64 ol,.int .i64 j,.int .i64 jl])]])) j (by simp) (by simp[boxO]) (by simp) ?_ (h0:=by simp[rowsO_len]) (hc:=.inl (by simp))
    rintro k ⟨k1,k2⟩
    by_cases hkj:k<j+jl
    · have w2:IntKind.i64.wrap ((k:Int)+1)=(k:Int)+1:=wrap_in (by omega) (by omega)
      have w3:IntKind.i64.wrap ((j:Int)+jl)=(j:Int)+jl:=wrap_in (by omega) (by omega)
      have hkL:k<L:=by omega
      have hmg:=marksC_get (q:=stepQ s p q c j k) hkL
      have hml:=marksC_len L (stepQ s p q c j k)
      have hv:stepQ s p q c j k k ||| 2 ^ p=q k ||| 2 ^ p:=by
        unfold stepQ
        split
        · exact or_idem _ _
        · rfl
      have hvl:stepQ s p q c j k k<4294967296:=by
        unfold stepQ
        split
        · exact or_lt32 (p6 k hkL) (by omega)
        · exact p6 k hkL
      have hms:∀y:Int,y=((q k ||| 2 ^ p:Nat):Int)→(marksC L (stepQ s p q c j k)).set k (.d (.int .u32 y))=marksC L (stepQ s p q c j (k+1)):=fun y hy =>
        marksC_set (by
          rw[hy]
          unfold stepQ
          have:decide (j≤k∧k<k+1)=true:=by rw[decide_eq_true_eq];omega
          rw[this,Bool.or_true,if_pos rfl]) fun i _ hi=>by
          unfold stepQ
          have:decide (j≤i∧i<k+1)=decide (j≤i∧i<k):=by rw[decide_eq_decide];omega
          rw[this]
      obtain⟨v,hvv⟩:∃v,stepQ s p q c j k k=v:=⟨_,rfl⟩
      rw[hvv] at hmg hv hvl
      have hor:IntKind.u32.wrap ((v % 2 ^ IntKind.u32.bits ||| (IntKind.u32.wrap (2 ^ min p IntKind.u32.bits) % 2 ^ IntKind.u32.bits).toNat:Nat):Int)=((q k ||| 2 ^ p:Nat):Int):=by
        have:=orU_nat (a:=v) (b:=2 ^ p) hvl (pow32 (by omega))
        rw[← bitV_nat (by omega),hv] at this
        rw[← this]
        unfold orU
        congr 2
      have hmg2:∀h:k<(marksC L (stepQ s p q c j k)).length,(marksC L (stepQ s p q c j k))[k]'h=.d (.int .u32 v):=fun h=>by obtain⟨_,h9⟩:=List.getElem?_eq_some_iff.1 hmg;exact h9
      simp[hgx,hsy,hrl,show (k:Int)<j+jl by omega,w3,hml,hkL,hmg,hmg2,hor,hms _ rfl,w2]
      exact Nxt.mk (k+1) (by omega) (by simp) (by simp) (by omega) (by simp[rowsO_len]) (.inl (by simp))
    · have h9:k=j+jl:=by omega
      subst h9
      have w3:IntKind.i64.wrap ((j:Int)+jl)=(j:Int)+jl:=wrap_in (by omega) (by omega)
      have w4:IntKind.i64.wrap ((o:Int)+ol)=(o:Int)+ol:=wrap_in (by omega) (by omega)
      have hq1:marksC L (stepQ s p q c j (j+jl))=marksC L (addQ (s.take (c+1)) p q):=marksC_congr fun k _=>by
        unfold addQ stepQ
        rw[hins k]
        have:decide ((j:Int)≤k∧(k:Int)<j+jl)=decide (j≤k∧k<j+jl):=by rw[decide_eq_decide];omega
        rw[this]
      have hjL:j<L+1:=by omega
      have hgg:=gapC_get (n:=n) (m:=L+1) (k:=L+1) (j:=j) (by omega) (by omega)
      have hgl:=gapC_len n (L+1) (L+1)
      have hrg:=rowsO_get (n:=n) (d:=addD x (s.take c) p d) (m:=L+1) (k:=j) (by omega)
      have hrw:=rowG_len n (addD x (s.take c) p d) j
      have hrs:=rowsO_set (n:=n) (m:=L+1) (d:=addD x (s.take c) p d) (e:=addD x (s.take (c+1)) p d) (p:=p) (k:=j) (x:=.sl 1 (((x.drop o).take ol).map Rep.to)) p4 (by
        unfold addD
        rw[if_pos rfl,gapD_snoc _ hcl,if_pos hj,ho,hol]
        simp) fun r i _ hri=>by
          unfold addD
          by_cases h:r=p
          · subst h
            rw[if_pos rfl,if_pos rfl,gapD_snoc _ hcl,if_neg (by rw[hj];omega)]
          · rw[if_neg h,if_neg h]
      simp at hrs
      have hgg2:∀h:j<(gapC n (L+1) (L+1)).length,(gapC n (L+1) (L+1))[j]'h=.own (j+4) 0 0 n:=fun h=>by obtain⟨_,h9⟩:=List.getElem?_eq_some_iff.1 hgg;exact h9
      have hrg2:∀h:j<(rowsO n (addD x (s.take c) p d) (L+1)).length,(rowsO n (addD x (s.take c) p d) (L+1))[j]'h=.cells 0 1 (rowG n (addD x (s.take c) p d) j):=fun h=>by obtain⟨_,h9⟩:=List.getElem?_eq_some_iff.1 hrg;exact h9
      rw[hq1]
      simp[hgx,hrg2,hsy,hgx2,hsx,hrl,hrg,w1,w3,w4,hjL,hgg,hgg2,hgl,hrw,p4,hrs,show ((o:Int)+ol).toNat-o=ol by omega]
      refine⟨by omega,by omega,Nxt.mk (c+1) (by omega) (by simp) ?_ (by omega) (by simp[rowsO_len]) (.inr ⟨by simp[rowsO_len],?_⟩)⟩
      · rw[SbS_cons,SbS_cons,SbS_cons,SbS_cons,SbS_app]
        simp[boxO]
      · have hl:∀s':Store,s'=loomS names i0 n L (addQ (s.take (c+1)) p q) (addD x (s.take (c+1)) p d) vg pn→s'.all (Ob.under s'.length)=true:=fun s' h=>by
          subst h
          rw[loomS_len]
          exact loomS_under _ _ _ _ _ _ _ _
        exact hl _ rfl
  · have h9:c=s.length:=by omega
    subst h9
    rw[List.take_length]
    simp
    refine FinR.done (by simp) (by simp[boxO,loomO]) (by simp[rowsO_len]) rfl ?_ (by simp)
    have hl:∀s':Store,s'=loomS names i0 n L (addQ s p q) (addD x s p d) vg pn→s'.all (Ob.under s'.length)=true:=fun s' h=>by
      subst h
      rw[loomS_len]
      exact loomS_under _ _ _ _ _ _ _ _
    exact hl _ rfl
def A.dl:A→List D
  | .d (.sl _ xs)=>xs
  | _=>[]
attribute [simp] A.dl Ob.agn
def ofDD (d:D):List (List Int):=(Rep.of (α:=List (List Int)) d).getD []
structure WeaveX where
  names:List Str
  i0:List Int
  marks:List U32T
  gaps:List D
  pn:Nat
  v:Nat
def weaveRow (names:List Str) (i0:List Int) (marks:List U32T) (gaps:List D) (k:Nat):List RowT :=
  (mergedV (ofDD (gaps.getD k .nilsl))).map (lostRow names)++if k<i0.length then [⟨false,(marks.getD k default).n,names.getD (i0.getD k 0).toNat []⟩] else []
def weaveTo (names:List Str) (i0:List Int) (marks:List U32T) (gaps:List D) (k:Nat):List RowT:=(List.range k).flatMap (weaveRow names i0 marks gaps)
theorem weaveTo_succ (names:List Str) (i0:List Int) (marks:List U32T) (gaps:List D) (k:Nat):weaveTo names i0 marks gaps (k+1)=weaveTo names i0 marks gaps k++weaveRow names i0 marks gaps k:=by simp[weaveTo,List.range_succ]
structure WeaveOk (x:WeaveX):Prop where
  l1:x.gaps.length=x.i0.length+1
  l2:x.marks.length=x.i0.length
  l3:x.i0.length≤101
  gp:∀k (h:k<x.gaps.length),∃ds xs,x.gaps[k]=.sl 1 ds∧ofAll (Rep.of (α:=List Int)) ds=some xs∧xs.length≤32∧sumL xs≤4096∧∀m,m∈mergedV xs→∃j:Nat,m.line=j∧j<x.names.length
  nm:∀k (h:k<x.i0.length),∃j:Nat,x.i0[k]=j∧j<x.names.length
@[simp] def F_weave_loom_weave:RF WeaveX where
  new:=1
  view a s:=⟨((s.getD 0 .dead).agn 0).gl Str,((s.getD 0 .dead).agn 1).gl Int,((s.getD 0 .dead).agn 2).gl U32T,((s.getD 0 .dead).agn 3).dl,((s.getD 0 .dead).agn 4).gi.toNat,(s.getD 0 .dead).ver⟩
  args x:=[.ref 0 x.v 0 0]
  st x:=[.cells x.v 6 [.agg [.d (Rep.to x.names),.d (Rep.to x.i0),.d (Rep.to x.marks),.d (.sl 1 x.gaps),.d (.int .i64 x.pn),.d .nilsl]],.res]
  pre x:=WeaveOk x
  res _:=.d (.int .i64 0)
  st' x:=[.cells x.v 6 [.agg [.d (Rep.to x.names),.d (Rep.to x.i0),.d (Rep.to x.marks),.d (.sl 1 x.gaps),.d (.int .i64 x.pn),.gr 1 3 ((weaveTo x.names x.i0 x.marks x.gaps (x.i0.length+1)).map Rep.to)]],.tip (weaveTo x.names x.i0 x.marks x.gaps (x.i0.length+1)).length]
abbrev R_weave_loom_weave:RSpec:=F_weave_loom_weave.spec
def weaveIn (names:List Str) (i0:List Int) (marks:List U32T) (gaps:List D) (k:Nat) (ml:List MergedT) (i:Nat):List RowT:=weaveTo names i0 marks gaps k++(ml.take i).map (lostRow names)
theorem weaveIn_zero (names:List Str) (i0:List Int) (marks:List U32T) (gaps:List D) (k:Nat) (ml:List MergedT):weaveIn names i0 marks gaps k ml 0=weaveTo names i0 marks gaps k:=by simp[weaveIn]
theorem weaveIn_succ (names:List Str) (i0:List Int) (marks:List U32T) (gaps:List D) (k:Nat) {ml:List MergedT} {i:Nat} (h:i<ml.length):weaveIn names i0 marks gaps k ml (i+1)=weaveIn names i0 marks gaps k ml i++[lostRow names ml[i]]:=by
  unfold weaveIn
  rw[List.take_succ_eq_append_getElem h,List.map_append,List.append_assoc]
  rfl
theorem weaveIn_len (names:List Str) (i0:List Int) (marks:List U32T) (gaps:List D) (k:Nat) {ml:List MergedT} {i:Nat} (h:i≤ml.length):(weaveIn names i0 marks gaps k ml i).length=(weaveTo names i0 marks gaps k).length+i:=by
  simp[weaveIn];omega
theorem FinR.pick2 {rs:List Nat} {o:Ob} {a:Nat} {res:A} {v e:Nat} {xs ys:List A} {T:List A} (h:resOf rs T [.cells v e xs,.res,.tip a]=res) (hu:∃y,res=.d y)
    (h1:xs.map (A.ren (idxIn [0,2]))=ys) (h2:ys.all (A.under 2)=true) (hp:resPre rs T [.cells v e xs,.res,.tip a]):FinR rs [o,.res] res [.cells v e ys,.tip a] .ret T [.cells v e xs,.res,.tip a]:=by
  refine⟨hp,[0,2],rfl,⟨by decide,by simp,?_⟩,fun k hk=>?_,?_,?_,?_⟩
  · simp[pickS,Ob.ren,h1]
    simpa using h2
  · match k,hk with
    | 0,_=>exact .inl rfl
    | 1,_=>exact .inr rfl
  · simp[pickS,Ob.ren,h1]
  · rw[h]
    obtain⟨y,rfl⟩:=hu
    rfl
  · obtain⟨y,rfl⟩:=hu
    rfl
theorem ct_weave_loom_weave {P:Program} {f g1:Nat} {G:Gam} (hc:CodeOf P f 1 17 [1] (x_weave_loom_weave g1)) (hG:GamOk P G) (h1:G.find g1=some S_lost_Coalesce):RSpec.Ok P f R_weave_loom_weave:=by
  refine RF.ok hc.call fun x hx=>hc.rcalls hG rfl ?_
  obtain⟨names,i0,marks,gaps,pn,v⟩:=x
  obtain⟨l1,l2,l3,gp,nm⟩:=hx
  simp only at l1 l2 l3 gp nm
  obtain⟨L,hL⟩:∃L,i0.length=L:=⟨_,rfl⟩
  rw[hL] at l1 l2 l3
  simp[x_weave_loom_weave,startA,hL,l1]
  refine vc_lpR (σ:=Nat) (fun k=>k≤L+1∧(weaveTo names i0 marks gaps k).length≤4097 * k) (fun k=>L+1-k)
    (fun k=>[.ref 0 v 0 0,.any,.any,.any,.any,.any,.any,.d (.sl 1 gaps),.d (.int .i64 ((L:Int)+1)),.d (.int .i64 k),.any,.any,.any,.any,.any,.any,.any])
    (fun k=>[.cells v 6 [.agg [.d (Rep.to names),.d (Rep.to i0),.d (Rep.to marks),.d (.sl 1 gaps),.d (.int .i64 pn),.gr 2 3 ((weaveTo names i0 marks gaps k).map Rep.to)]],.res,.tip (weaveTo names i0 marks gaps k).length]) 0 ?_ (by simp[weaveTo]) ?_
  · refine Re.weak (k:=[.tip 0]) (s':=[.cells v 6 [.agg [.d (Rep.to names),.d (Rep.to i0),.d (Rep.to marks),.d (.sl 1 gaps),.d (.int .i64 pn),.gr 2 3 []]],.res]) (by simp) (by simp) (by simp) ⟨.cellsL ?_,.inl rfl,trivial⟩
    simp
    exact Wk.fresh 2 [.tip 0] 3 0 rfl
  rintro k ⟨hk,hkl⟩
  by_cases hkL:k<L+1
  · have w1:IntKind.i64.wrap ((k:Int)+1)=(k:Int)+1:=wrap_in (by omega) (by omega)
    obtain⟨ds,xs,hds,hof,x1,x2,x3⟩:=gp k (by omega)
    obtain⟨hco,hcok⟩:=merged_ok (xs:=xs) x1 x2
    have hml:=hcok.len
    have hkg:k<gaps.length:=by omega
    have hofd:ofDD (gaps.getD k .nilsl)=xs:=by
      unfold ofDD
      have:gaps.getD k .nilsl=gaps[k]:=by simp[List.getD,hkg]
      rw[this,hds]
      show (if 1=1 then ofAll (Rep.of (α:=List Int)) ds else none).getD []=xs
      rw[if_pos rfl,hof]
      rfl
    have hrs:=weaveTo_succ names i0 marks gaps k
    unfold weaveRow at hrs
    rw[hofd,hL] at hrs
    have hxl:∀x,x∈xs→x.length≤1048576:=fun x hx=>by
      have:x.length≤sumL xs:=by
        unfold sumL
        obtain⟨i,hi,rfl⟩:=List.mem_iff_getElem.1 hx
        have e:=sumL_drop (xs:=xs.drop 0) (k:=i) (by simpa using hi)
        have:∀(l:List (List Int)) (i:Nat) (h:i<l.length),l[i].length≤(l.map List.length).sum:=by
          intro l
          induction l with
          | nil=>intro i h;simp at h
          | cons a l ih =>
            intro i h
            cases i with
            | zero=>simp
            | succ i =>
              have:=ih i (by simpa using h)
              simp only[List.getElem_cons_succ,List.map_cons,List.sum_cons]
              omega
        exact this xs i hi
      omega
    simp[hkL,show (k:Int)<(L:Int)+1 by omega,hkg,h1,hds,hof,hco,hxl,show xs.length≤1048576 by omega]
    refine⟨hxl,?_⟩
    have hmm:∀m,m∈mergedV xs→∃j:Nat,m.line=j∧j<names.length:=x3
    generalize mergedV xs=ml at *
    have hk101:(weaveTo names i0 marks gaps k).length≤4097 * 101:=by omega
    have hmll:ml.length≤4096:=by omega
    rw[← weaveIn_zero names i0 marks gaps k ml]
    refine vc_lp (σ:=Nat) (fun i=>i≤ml.length) (fun i=>ml.length-i)
      (fun i=>[.ref 0 v 0 0,.any,.d (.int .i64 k),.any,.any,.any,.any,.d (.sl 1 gaps),.d (.int .i64 ((L:Int)+1)),.d (.int .i64 k),.any,.any,.d (Rep.to ml),.d (.int .i64 ml.length),.d (.int .i64 i),.any,.any])
      (fun i=>[.cells v 6 [.agg [.d (Rep.to names),.d (Rep.to i0),.d (Rep.to marks),.d (.sl 1 gaps),.d (.int .i64 pn),.gr 2 3 ((weaveIn names i0 marks gaps k ml i).map Rep.to)]],.res,.tip (weaveIn names i0 marks gaps k ml i).length]) 0 (by simp) (by simp) (by simp) ?_
    intro i hi
    by_cases hil:i<ml.length
    · have w2:IntKind.i64.wrap ((i:Int)+1)=(i:Int)+1:=wrap_in (by omega) (by omega)
      obtain⟨j,hj,hjN⟩:=hmm _ (List.getElem_mem hil)
      have hst:=weaveIn_succ names i0 marks gaps k hil
      have hsl:=weaveIn_len names i0 marks gaps k hi
      have hlr:lostRow names ml[i]=⟨true,ml[i].parents,names[j]⟩:=by unfold lostRow;rw[hj];simp[List.getD,hjN]
      rw[hlr] at hst
      simp[hil,getD_map,hj,hjN,w2,hsl]
      exact⟨by unfold room;omega,Nxt.mk (i+1) (by omega) (by simp) (by simp[hst,hsl]) (by omega)⟩
    · have h9:i=ml.length:=by omega
      subst h9
      have hsl:=weaveIn_len names i0 marks gaps k (Nat.le_refl ml.length)
      have hre:weaveIn names i0 marks gaps k ml ml.length=weaveTo names i0 marks gaps k++ml.map (lostRow names):=by unfold weaveIn;rw[List.take_length]
      by_cases hkl2:k<L
      · obtain⟨j,hj,hjN⟩:=nm k (by omega)
        have hki:k<i0.length:=by omega
        have hkm:k<marks.length:=by omega
        have e1:marks.getD k default=marks[k]:=by simp[List.getD,hkm]
        have e2:i0.getD k 0=i0[k]:=by simp[List.getD,hki]
        have e3:names.getD (i0[k]).toNat []=names[j]:=by rw[hj];simp[List.getD,hjN]
        have hrs2:weaveTo names i0 marks gaps (k+1)=weaveIn names i0 marks gaps k ml ml.length++[⟨false,marks[k].n,names[j]⟩]:=by rw[hrs,if_pos hkl2,hre,List.append_assoc,e1,e2,e3]
        have hl2:(weaveTo names i0 marks gaps (k+1)).length=(weaveTo names i0 marks gaps k).length+ml.length+1:=by rw[hrs2];simp[hsl]
        simp[hkl2,hL,hki,hkm,getD_map,w1,hj,hjN,hsl]
        exact⟨by unfold room;omega,Nxt.mk (k+1) (by omega) (by simp) (by simp[hrs2,hsl]) ⟨by omega,by omega⟩⟩
      · have hrs2:weaveTo names i0 marks gaps (k+1)=weaveIn names i0 marks gaps k ml ml.length:=by rw[hrs,if_neg hkl2,hre,List.append_nil]
        have hl2:(weaveTo names i0 marks gaps (k+1)).length=(weaveTo names i0 marks gaps k).length+ml.length:=by rw[hrs2];simp[hsl]
        simp[w1,hL,show ¬k<L by omega]
        exact Nxt.mk (k+1) (by omega) (by simp) (by simp[hrs2]) ⟨by omega,by omega⟩
  · have h9:k=L+1:=by omega
    subst h9
    simp
    exact FinR.pick2 (by simp[resOf,resE]) ⟨_,rfl⟩ (by simp[idxIn] <;> rfl) (by simp) (by simp[resPre,resE])
theorem loomS_congr {names:List Str} {i0:List Int} {n L:Nat} {q q':Nat→Nat} {d d':Nat→Nat→D} {vg pn:Nat} (h1:∀k,k<L→q k=q' k) (h2:∀r k,r<n→k<L+1→d r k=d' r k):loomS names i0 n L q d vg pn=loomS names i0 n L q' d' vg pn:=by
  unfold loomS
  rw[marksC_congr h1,rowsO_congr2 h2]
theorem eR_loom_add {G:Gam} {f:Nat} (hf:G.findR f=some R_weave_loom_add) {names:List Str} {i0:List Int} {n L:Nat} {q:Nat→Nat} {d:Nat→Nat→D} {vg pn p:Nat} {x:List Int}
    (p1:x.length≤4096) (p2:i0.length=L) (p3:L≤4096) (p4:p<n) (p5:n≤32) (p6:∀k,k<L→q k<4294967296) (p7:∀k,k<L+1→d p k=.nilsl) :
    eRCall G (loomS names i0 n L q d vg pn) (L+5) f [.ref 1 0 0 0,.d (.int .i64 p),.d (.sl 1 (x.map Rep.to))]=⟨True,wholeFp (L+5) (loomS names i0 n L (addQ (scriptV x i0) p q) (addD x (scriptV x i0) p d) vg pn),.d (.int .i64 0)⟩:=by
  have hv:∃q' d',F_weave_loom_add.view [.ref 1 0 0 0,.d (.int .i64 p),.d (.sl 1 (x.map Rep.to))] (loomS names i0 n L q d vg pn)=⟨names,i0,n,L,q',d',vg,p,x,pn⟩∧(∀k,k<L→q' k=q k)∧∀r k,r<n→k<L+1→d' r k=d r k:=by
    refine⟨fun k=>(((loomS names i0 n L q d vg pn).getD 2 .dead).el k).gi.toNat,fun r k=>(((loomS names i0 n L q d vg pn).getD (k+4) .dead).el r).toD,?_,fun k hk=>?_,fun r k hr hk=>?_⟩
    · have h4:(loomS names i0 n L q d vg pn).getD 4 .dead=.cells 0 1 (rowG n d 0):=by
        simp[loomS,List.getD,rowsO_get (n:=n) (d:=d) (m:=L+1) (k:=0) (by omega)]
      unfold F_weave_loom_add
      simp only[h4,LoomX.mk.injEq]
      refine⟨?_,?_,by simp[Ob.len,rowG_len],?_,by first | rfl | trivial,by first | rfl | trivial,rfl,by simp,by simp[ofAll_to],?_⟩
      · simp[loomS,loomO,ofAll_to]
      · simp[loomS,loomO,ofAll_to]
      · simp[loomS,Ob.len,marksC_len]
      · simp[loomS,loomO]
    · simp[loomS,List.getD,marksC_get hk]
    · simp[loomS,List.getD,rowsO_get (n:=n) (d:=d) hk,rowG,hr] <;> rfl
  obtain⟨q',d',hv,hq,hd⟩:=hv
  have e1:loomS names i0 n L q d vg pn=loomS names i0 n L q' d' vg pn:=loomS_congr (fun k hk=>(hq k hk).symm) fun r k hr hk=>(hd r k hr hk).symm
  have hst:F_weave_loom_add.st ⟨names,i0,n,L,q',d',vg,p,x,pn⟩=loomS names i0 n L q' d' vg pn:=rfl
  have hst':F_weave_loom_add.st' ⟨names,i0,n,L,q',d',vg,p,x,pn⟩=loomS names i0 n L (addQ (scriptV x i0) p q) (addD x (scriptV x i0) p d) vg pn:=by
    show loomS names i0 n L (addQ (scriptV x i0) p q') (addD x (scriptV x i0) p d') vg pn=_
    exact loomS_congr (fun k hk=>by unfold addQ;rw[hq k hk]) fun r k hr hk=>by unfold addD;rw[hd r k hr hk]
  have key:=eR_whole (r:=F_weave_loom_add) hf (s:=loomS names i0 n L q d vg pn) (nw:=L+5) (args:=[.ref 1 0 0 0,.d (.int .i64 p),.d (.sl 1 (x.map Rep.to))]) (loomS_len _ _ _ _ _ _ _ _) (loomS_under _ _ _ _ _ _ _ _) (by simp)
    (by rw[hv];rfl) (by rw[hv,hst];exact e1) (by
      rw[hv]
      exact⟨p1,p2,p3,p4,p5,fun k hk=>by simp only at hk ⊢;rw[hq k hk];exact p6 k hk,fun k hk=>by simp only at hk ⊢;rw[hd p k p4 hk];exact p7 k hk⟩)
    (by rw[hv,hst'];exact loomS_len _ _ _ _ _ _ _ _) (by rw[hv,hst'];exact loomS_under _ _ _ _ _ _ _ _) (by rw[hv];rfl)
  rw[key,hv,hst']
  rfl
theorem freezeRowsV {lo:Nat} {T:List A} (b0 b1:Ob) (mk:List A) (n m vg:Nat) (d:Nat→Nat→D):∀k,k≤m→Re lo T (b0::b1::.cells 0 1 mk::.cells vg 1 (gapC n m m)::rowsO n d m) T (b0::b1::.cells 0 1 mk::.cells vg 1 (gapF n m d k)::rowsF n d m k)
  | 0,_=>by
    have e1:gapC n m m=gapF n m d 0:=by
      unfold gapC gapF
      exact List.map_congr_left fun j hj=>by simp at hj;simp[hj]
    have e2:rowsO n d m=rowsF n d m 0:=by
      unfold rowsO rowsF
      exact List.map_congr_left fun j hj=>by simp
    rw[e1,e2]
    exact Re.refl _ _ _
  | k+1,h=>by
    refine Re.trans (freezeRowsV b0 b1 mk n m vg d k (by omega)) ?_
    have hlf:(rowsF n d m k).length=m:=by simp[rowsF]
    have hlg:(rowsF n d m (k+1)).length=m:=by simp[rowsF]
    refine Re.freeze (k+4) 0 1 (rowG n d k) ?_ (FzL.refl _ _ _ _ _) ⟨by simp[hlf,hlg],?_⟩ ?_
    · simp[rowsF,List.getD,show k<m by omega]
    · intro j hj hne
      match j,hj,hne with
      | 0,_,_=>exact .inl rfl
      | 1,_,_=>exact .inl rfl
      | 2,_,_=>exact .inl rfl
      | 3,_,_ =>
        refine .inr ⟨vg,1,_,_,rfl,rfl,by simp[gapF],fun i hi=>?_⟩
        have hi:i<m:=by simpa [gapF] using hi
        have g1:(gapF n m d k).getD i .any=if i<k then .d (.sl 1 (rowD n d i)) else .own (i+4) 0 0 n:=by simp[gapF,List.getD,hi]
        have g2:(gapF n m d (k+1)).getD i .any=if i<k+1 then .d (.sl 1 (rowD n d i)) else .own (i+4) 0 0 n:=by simp[gapF,List.getD,hi]
        rw[g1,g2]
        by_cases c:i<k
        · rw[if_pos c,if_pos (by omega)]
          exact⟨rfl,FzL.refl _ _ _ _ _⟩
        · rw[if_neg c]
          by_cases c2:i<k+1
          · rw[if_pos c2]
            obtain rfl:i=k:=by omega
            refine⟨rfl,?_,trivial⟩
            have hf:=Fz.own (i+4) 0 1 0 n (rowG n d i) (by rw[List.drop_zero,List.take_of_length_le (by rw[rowG_len];omega)];exact rowG_isD _ _ _)
            rw[List.drop_zero,List.take_of_length_le (by rw[rowG_len];omega),rowG_toD] at hf
            exact hf
          · rw[if_neg c2]
            exact⟨rfl,FzL.refl _ _ _ _ _⟩
      | j+4,hj,hne =>
        refine .inl ?_
        have hjm:j<m:=by simp[hlf] at hj;omega
        have hjk:j≠k:=by omega
        have e:(j<k+1)=(j<k):=by rw[eq_iff_iff];omega
        simp[rowsF,List.getD,hjm,e]
    · simp[rowsF,List.getD,show k<m by omega]
def loomD (names:List Str) (i0:List Int) (marks:List U32T) (gaps:List D) (pn:Nat):Ob:=.cells 0 6 [.agg [.d (Rep.to names),.d (Rep.to i0),.d (Rep.to marks),.d (.sl 1 gaps),.d (.int .i64 pn),.d .nilsl]]
def marksT (L:Nat) (q:Nat→Nat):List U32T:=(List.range L).map fun k=>⟨q k⟩
theorem fz_gapsV (n m vg:Nat) (d:Nat→Nat→D):Fz 3 vg 1 (gapF n m d m) (.own 3 vg 0 m) (.d (.sl 1 (rowsD n d m))):=by
  have hg:gapF n m d m=(rowsD n d m).map .d:=by
    unfold gapF rowsD
    rw[List.map_map]
    exact List.map_congr_left fun j hj=>by simp at hj;simp[hj]
  have hl:(gapF n m d m).length=m:=by simp[gapF]
  have hf:=Fz.own 3 vg 1 0 m (gapF n m d m) (by rw[List.drop_zero,List.take_of_length_le (by omega),hg];simp[A.isD])
  rw[List.drop_zero,List.take_of_length_le (by omega)] at hf
  rw[show (gapF n m d m).map A.toD=rowsD n d m by rw[hg,List.map_map];exact List.map_id' _] at hf
  exact hf
theorem freezeLoom {lo:Nat} (hlo:lo≤2) {T:List A} (hT:T.all (A.under 2)=true) (names:List Str) (i0:List Int) (n L:Nat) (q:Nat→Nat) (d:Nat→Nat→D) (vg pn:Nat) :
    Re lo T (loomS names i0 n L q d vg pn) T [boxO,loomD names i0 (marksT L q) (rowsD n d (L+1)) pn]:=by
  refine Re.trans (freezeRowsV boxO (loomO names i0 L vg pn) (marksC L q) n (L+1) vg d (L+1) (Nat.le_refl _)) ?_
  refine Re.trans (Re.freeze (T':=T) (s':=boxO::.cells 0 6 [.agg [.d (Rep.to names),.d (Rep.to i0),.own 2 0 0 L,.d (.sl 1 (rowsD n d (L+1))),.d (.int .i64 pn),.d .nilsl]]::.cells 0 1 (marksC L q)::.dead::rowsF n d (L+1) (L+1)) 3 vg 1 (gapF n (L+1) d (L+1)) rfl (FzL.refl _ _ _ _ _) ⟨by simp,?_⟩ rfl) ?_
  · intro j hj hne
    match j,hj,hne with
    | 0,_,_=>exact .inl rfl
    | 1,_,_ =>
      refine .inr ⟨0,6,_,_,rfl,rfl,rfl,fun i hi=>?_⟩
      simp at hi
      subst hi
      exact⟨rfl,Fz.refl _ _ _ _ _,Fz.refl _ _ _ _ _,Fz.refl _ _ _ _ _,fz_gapsV n (L+1) vg d,Fz.refl _ _ _ _ _,Fz.refl _ _ _ _ _,trivial⟩
    | 2,_,_=>exact .inl rfl
    | j+4,_,_=>exact .inl rfl
  refine Re.trans (Re.freeze (T':=T) (s':=boxO::loomD names i0 (marksT L q) (rowsD n d (L+1)) pn::.dead::.dead::rowsF n d (L+1) (L+1)) 2 0 1 (marksC L q) rfl (FzL.refl _ _ _ _ _) ⟨by simp,?_⟩ rfl) ?_
  · intro j hj hne
    match j,hj,hne with
    | 0,_,_=>exact .inl rfl
    | 1,_,_ =>
      refine .inr ⟨0,6,_,_,rfl,rfl,rfl,fun i hi=>?_⟩
      simp at hi
      subst hi
      exact⟨rfl,Fz.refl _ _ _ _ _,Fz.refl _ _ _ _ _,fz_marks L q,Fz.refl _ _ _ _ _,Fz.refl _ _ _ _ _,Fz.refl _ _ _ _ _,trivial⟩
    | 3,_,_=>exact .inl rfl
    | j+4,_,_=>exact .inl rfl
  refine Sub.re ⟨by simpa using hlo,?_,by simp,.inr ⟨by simpa using hT,rfl⟩⟩
  have:∀T:List A,SbL T T:=by
    intro T
    induction T with
    | nil=>trivial
    | cons x T ih=>exact⟨.inr (.inl rfl),ih⟩
  exact this T
theorem gapC_snoc (n k:Nat):gapC n k k++[.own (k+4) 0 0 n]=gapC n (k+1) (k+1):=by
  unfold gapC
  rw[List.range_succ,List.map_append]
  congr 1
  · exact List.map_congr_left fun j hj=>by
      have hj:j<k:=by simpa using hj
      rw[if_pos hj,if_pos (by omega)]
  · simp
theorem split_small {s:Str} (h:s.length≤100):splitD s=.tup [Rep.to (linesV s),.int .i64 0]:=by
  have ck:checkT s=0:=check_of (by omega) (by have:s.count 10≤s.length:=List.count_le_length;omega)
  unfold splitD
  rw[if_pos ck]
theorem marksC_ren (L:Nat) (q:Nat→Nat) (f:Nat→Nat):(marksC L q).map (A.ren f)=marksC L q:=by
  unfold marksC
  rw[List.map_map]
  rfl
def tkF (F:List (List Str)) (i:Nat):List (List Str):=F.take i
theorem tkF_succ {F:List (List Str)} {i:Nat} (h:i<F.length):tkF F (i+1)=tkF F i++[F[i]]:=List.take_succ_eq_append_getElem h
theorem tkF_len {F:List (List Str)} {i:Nat} (h:i≤F.length):(tkF F i).length=i:=by simp[tkF];omega
def allC (l:List Str):List A:=l.map fun x=>.d (.str x)
theorem allC_len (l:List Str):(allC l).length=l.length:=by simp[allC]
theorem allC_under (l:List Str) (n:Nat):∀x,x∈allC l→A.under n x=true:=by
  intro x hx
  obtain⟨y,_,rfl⟩:=List.mem_map.1 hx
  rfl
theorem allC_get {l:List Str} {i:Nat} (h:i<l.length):(allC l)[i]?=some (.d (.str l[i])):=by simp[allC,h]
def loomK (N:List Str) (i0:List Int) (n L k:Nat):Store :=
  boxO::.cells 0 6 [.agg [.d (Rep.to N),.d (Rep.to i0),.own 2 0 0 L,.own 3 k 0 k,.d (.int .i64 n),.d .nilsl]]::.cells 0 1 (marksC L fun _=>0)::.cells k 1 (gapC n k k)::rowsO n (fun _ _=>.nilsl) k
theorem loomK_len (N:List Str) (i0:List Int) (n L k:Nat):(loomK N i0 n L k).length=k+4:=by simp[loomK,rowsO_len]
theorem loomK_under (N:List Str) (i0:List Int) (n L k:Nat):(loomK N i0 n L k).all (Ob.under (k+4))=true:=by
  have h1:=marksC_under L (fun _=>0) (k+4)
  have h2:=gapC_under n k k (N:=k+4) (by omega)
  have h3:=rowsO_under n (fun _ _=>.nilsl) k (k+4)
  unfold loomK
  rw[List.all_cons,List.all_cons,List.all_cons,List.all_cons,h3]
  simp only[Ob.under,h1,h2,Bool.and_true]
  simp[boxO]
theorem flat_congr {α:Type} {f g:Nat→List α}:∀l:List Nat,(∀k,k∈l→f k=g k)→l.flatMap f=l.flatMap g
  | [],_=>rfl
  | a::l,h=>by rw[List.flatMap_cons,List.flatMap_cons,h a (by simp),flat_congr l fun k hk=>h k (by simp[hk])]
@[simp] def S_weave_Make:List D→Prop × D:=spec2 (α:=Str) (β:=List Str) (fun r ps=>r.length≤100∧∀p,p∈ps→p.length≤100) (fun r ps=>makeD r ps)
theorem ct_weave_Make {P:Program} {f g1 g2 g3 g4 g5:Nat} {G:Gam} (h:CodeOf P f 2 28 [22002,3] (x_weave_Make g1 g2 g3 g4 g5)) (hG:GamOk P G) (h1:G.find g1=some S_text_Split) (h2:G.find g2=some S_intern_Ids) (h3:G.find g3=some S_intern_Names) (h4:G.findR g4=some R_weave_loom_add) (h5:G.findR g5=some R_weave_loom_weave):Has P f S_weave_Make:=h.has2 hG fun r ps hp=>by
  obtain⟨p1,p2⟩:=hp
  by_cases c1:(ps.length:Int)<1
  · have:makeD r ps=.tup [Rep.to (⟨0,[]⟩:TableT),.int .i64 2]:=by unfold makeD;rw[if_pos (by omega)]
    simp[x_weave_Make,c1,this]
  by_cases c2:32<(ps.length:Int)
  · have:makeD r ps=.tup [Rep.to (⟨0,[]⟩:TableT),.int .i64 2]:=by unfold makeD;rw[if_pos (by omega)]
    simp[x_weave_Make,c1,c2,this]
  have hmk:makeD r ps=.tup [Rep.to (makeV r ps),.int .i64 0]:=by unfold makeD;rw[if_neg (by omega)]
  rw[hmk]
  have hsmall:Small r ps 100:=⟨p1,p2,by omega,by omega,by omega,by omega⟩
  have hIl:=hsmall.ids
  have hI0l:=hsmall.ids0
  have hFl:=filesV_len r ps
  have hIlen:(idsV (filesV r ps)).length=(filesV r ps).length:=by simp[idsV]
  have hall:∀p,p∈r::ps→p.length≤100:=fun p hp=>by
    rcases List.mem_cons.1 hp with rfl | hp
    · exact p1
    · exact p2 p hp
  have hsm:smallL (filesV r ps):=by
    refine⟨by omega,?_⟩
    have key:∀l:List (List Str),(∀x,x∈l→x.length≤101)→l.flatten.length≤101 * l.length:=by
      intro l
      induction l with
      | nil=>simp
      | cons x r ih =>
        intro hx
        have:=hx x (by simp)
        have:=ih fun y hy=>hx y (by simp[hy])
        simp
        simp at this
        omega
    have:=key (filesV r ps) fun x hx=>by
      obtain⟨y,hy,rfl⟩:=List.mem_map.1 hx
      exact linesV_leB (hall y hy)
    omega
  have hps:ps≠[]:=by rintro rfl;simp at c1
  simp[x_weave_Make,c1,c2,hps]
  have hn1:0<ps.length:=by omega
  refine⟨by unfold room;omega,?_⟩
  refine vc_lp (σ:=Nat) (fun i=>i≤ps.length+1) (fun i=>ps.length+1-i)
    (fun i=>[.any,.any,.ref 0 0 0 0,.any,.d (.int .i64 ps.length),.gr 1 1 ((tkF (filesV r ps) i).map Rep.to),.any,.any,.any,.any,.any,.any,.any,.any,.any,.own 2 1 0 (ps.length+1),.d (.int .i64 ((ps.length:Int)+1)),.d (.int .i64 i),.any,.any,.any,.any,.any,.any,.any,.any,.any,.any])
    (fun i=>[.cells 0 2 [.d (.agg [.int .i64 0,.nilsl])],.tip i,.cells 1 1 (allC (r::ps))]) 0 (by simp[tkF];omega) (by simp[allC]) (by simp) ?_ (hc:=.inr ⟨by simp,by simpa using allC_under _ _⟩)
  intro i hi
  by_cases hk:i<ps.length+1
  · have w1:IntKind.i64.wrap ((i:Int)+1)=(i:Int)+1:=wrap_in (by omega) (by omega)
    have hil:i<(r::ps).length:=by simpa using hk
    have hpi:=hall _ (List.getElem_mem hil)
    have hsp:=split_small hpi
    have hag:=allC_get hil
    have hal:(allC (r::ps)).length=ps.length+1:=by simp[allC_len]
    have hiF:i<(filesV r ps).length:=by omega
    have hs:=tkF_succ hiF
    have hFi:(filesV r ps)[i]=linesV (r::ps)[i]:=List.getElem_map _
    rw[hFi] at hs
    clear hFi
    generalize hx:(r::ps)[i]=x at *
    have hag2:∀h:i<(allC (r::ps)).length,(allC (r::ps))[i]'h=.d (.str x):=fun h=>by obtain⟨_,h9⟩:=List.getElem?_eq_some_iff.1 hag;exact h9
    have hfl:(tkF (filesV r ps) i).length=i:=tkF_len (by omega)
    simp[show (i:Int)<(ps.length:Int)+1 by omega,hag,hag2,hal,hk,h1,hsp,w1,hfl,show x.length≤4194304 by omega]
    exact⟨by unfold room;omega,Nxt.mk (i+1) (by omega) (by simp[hs]) (by simp) (by omega) (by simp) (.inr ⟨by simp,by simpa using allC_under _ _⟩)⟩
  · have h9:i=ps.length+1:=by omega
    subst h9
    have htk:tkF (filesV r ps) (ps.length+1)=filesV r ps:=List.take_of_length_le (by omega)
    rw[htk]
    have hkt:=fun k hk=>kept_text r ps (k:=k) hk
    have hL:((idsV (filesV r ps)).getD 0 []).length=(linesV r).length:=ids0_len r ps
    have hIm:∀p,p<ps.length→∀x,x∈(idsV (filesV r ps)).getD (p+1) []→∃k:Nat,x=k∧k<(namesV (filesV r ps)).length:=fun p hp x hx=>by
      obtain⟨k,e1,e2,_⟩:=id_name (files:=filesV r ps) (p:=p+1) (by rw[hFl];omega) hx
      exact⟨k,e1,e2⟩
    have hIm0:∀x,x∈(idsV (filesV r ps)).getD 0 []→∃k:Nat,x=k∧k<(namesV (filesV r ps)).length:=fun x hx=>by
      obtain⟨k,e1,e2,_⟩:=id_name (files:=filesV r ps) (p:=0) (by rw[hFl];omega) hx
      exact⟨k,e1,e2⟩
    clear hkt
    have hmv:makeV r ps=⟨ps.length,rowsTo (namesV (filesV r ps)) (idsV (filesV r ps)) ps.length ((linesV r).length+1)⟩:=rfl
    rw[hmv,← hL]
    generalize hI:idsV (filesV r ps)=I at *
    generalize hN:namesV (filesV r ps)=N at *
    generalize filesV r ps=F at *
    generalize hn:ps.length=n at *
    have hI0:0<I.length:=by omega
    have hgI:I.getD 0 []=I[0]:=by simp[List.getD,hI0]
    rw[hgI] at hI0l hIm0 ⊢
    obtain⟨i0,hi0⟩:∃i0,I[0]=i0:=⟨_,rfl⟩
    rw[hi0] at hI0l hIm0 ⊢
    obtain⟨L,hLL⟩:∃L,i0.length=L:=⟨_,rfl⟩
    rw[hLL] at hI0l ⊢
    have wL:IntKind.i64.wrap ((L:Int)+1)=(L:Int)+1:=wrap_in (by omega) (by omega)
    simp[h2,h3,hsm,hI,hN,hI0,getD_map,hi0,hLL,wL]
    refine⟨⟨by unfold room;omega,by omega⟩,?_⟩
    refine vc_lpR (σ:=Nat) (fun k=>k≤L+1) (fun k=>L+1-k)
      (fun k=>[.any,.any,.ref 0 0 0 0,.any,.d (.int .i64 n),.any,.any,.any,.any,.d (Rep.to I),.ref 1 0 0 0,.any,.any,.any,.any,.any,.any,.any,.any,.any,.d (.int .i64 ((L:Int)+1)),.d (.int .i64 k),.any,.any,.any,.any,.any,.any])
      (fun k=>boxO::.cells 0 6 [.agg [.d (Rep.to N),.d (Rep.to i0),.own 2 0 0 L,.own 3 k 0 k,.d (.int .i64 n),.d .nilsl]]::.cells 0 1 (marksC L fun _=>0)::.cells k 1 (gapC n k k)::rowsO n (fun _ _=>.nilsl) k) 0 ?_ (by simp) ?_
    · have e1:List.replicate L (A.d (D.int .u32 0))=marksC L fun _=>0:=by
        apply List.ext_getElem
        · simp[marksC]
        · intro a b c;simp[marksC]
      rw[e1]
      refine Re.norm (s':=[boxO,.cells 0 6 [.agg [.d (Rep.to N),.d (Rep.to i0),.own 2 0 0 L,.own 3 0 0 0,.d (.int .i64 n),.d .nilsl]],.cells 0 1 (marksC L fun _=>0)]) [false,false,true,false,true,false,false,false,false,true,true,false,false,false,false,false,false,false,false,false,true,true] [0,4,3] [.cells 0 1 []] (by simp) ⟨by decide,by simp,?_⟩ (by decide) (by simp) ?_ ?_ ?_ ?_
      · simp[pickS]
        intro x hx
        obtain⟨k,_,rfl⟩:=List.mem_map.1 hx
        rfl
      · simp
      · simp
      · simp[pickS]
        rw[marksC_ren]
        refine⟨.inl rfl,.cellsL ?_,.inl rfl⟩
        simp
        exact Wk.freshO 3 [.cells 0 1 []] 1 0 rfl
      · simp[rowsO,gapC]
    intro k hk
    by_cases hkl:k<L+1
    · have w1:IntKind.i64.wrap ((k:Int)+1)=(k:Int)+1:=wrap_in (by omega) (by omega)
      have hgl:=gapC_len n k k
      have hrl:=rowsO_len n (fun _ _=>.nilsl) k
      have hgs:=gapC_snoc n k
      have hrs:=rowsO_succ n (fun _ _=>.nilsl) k
      have hrg:rowG n (fun _ _=>.nilsl) k=List.replicate n (A.d D.nilsl):=by
        apply List.ext_getElem
        · simp[rowG]
        · intro a b c;simp[rowG]
      rw[hrg] at hrs
      simp[show (k:Int)<(L:Int)+1 by omega,w1,hgl,hrl,hgs,boxO]
      refine⟨⟨by unfold room;omega,by omega⟩,by unfold room;omega,Nxt.mk (k+1) (by omega) (by simp) ?_ (by omega) (by simp) (.inr ⟨by simp,?_⟩)⟩
      · have e:∀x y z:Ob,rowsO n (fun _ _=>.nilsl) k++[x,y,z]=(rowsO n (fun _ _=>.nilsl) k++[x])++[y,z]:=fun x y z=>by simp
        rw[e,← hrs]
        simp[SbS_app,boxO]
      · have hl:∀s':Store,s'=loomK N i0 n L (k+1)→s'.all (Ob.under s'.length)=true:=fun s' h=>by
          subst h
          rw[loomK_len]
          exact loomK_under _ _ _ _ _
        exact hl _ rfl
    · have h9:k=L+1:=by omega
      subst h9
      have hls:∀s',s'=loomS N i0 n L (fun k=>markN I k 0) (dAt I 0 0) (L+1) n→(boxO::.cells 0 6 [.agg [.d (Rep.to N),.d (Rep.to i0),.own 2 0 0 L,.own 3 (L+1) 0 (L+1),.d (.int .i64 n),.d .nilsl]]::.cells 0 1 (marksC L fun _=>0)::.cells (L+1) 1 (gapC n (L+1) (L+1))::rowsO n (fun _ _=>.nilsl) (L+1))=s':=fun s' h=>by
        subst h
        unfold loomS loomO
        rw[marksC_congr (q:=fun k=>markN I k 0) (r:=fun _=>0) fun k _=>rfl,rowsO_congr2 (d:=dAt I 0 0) (e:=fun _ _=>.nilsl) fun q j _ _=>dAt_start I q j]
      rw[hls _ rfl]
      simp
      refine vc_lp (σ:=Nat) (fun p=>p≤n) (fun p=>n-p)
        (fun p=>[.any,.any,.ref 0 0 0 0,.any,.d (.int .i64 n),.any,.any,.any,.any,.d (Rep.to I),.ref 1 0 0 0,.any,.any,.any,.any,.any,.any,.any,.any,.any,.any,.any,.any,.d (.int .i64 n),.d (.int .i64 p),.any,.any,.any])
        (fun p=>loomS N i0 n L (fun k=>markN I k p) (dAt I p 0) (L+1) n) 0 (by simp) (by simp) (by simp) ?_ (hc:=.inl (by simp))
      intro p hp
      by_cases hpn:p<n
      · have w1:IntKind.i64.wrap ((p:Int)+1)=(p:Int)+1:=wrap_in (by omega) (by omega)
        have hpI:p+1<I.length:=by omega
        have hgp:I.getD (p+1) []=I[p+1]:=by simp[List.getD,hpI]
        have hxl:I[p+1].length≤4096:=by
          have:=hIl p hpn
          rw[hgp] at this
          omega
        have hscr:scriptV I[p+1] i0=scrV I p:=by unfold scrV;rw[hgp,hgI,hi0]
        have hcall:=eR_loom_add (f:=g4) h4 (names:=N) (i0:=i0) (n:=n) (L:=L) (q:=fun k=>markN I k p) (d:=dAt I p 0) (vg:=L+1) (pn:=n) (p:=p) (x:=I[p+1]) hxl hLL (by omega) hpn (by omega) (fun k _=>Nat.lt_of_lt_of_le (markN_lt I k p) (pow_le (by omega))) fun k _=>by
          unfold dAt
          rw[if_neg (by omega),if_pos rfl,List.take_zero]
          rfl
        have hnext:loomS N i0 n L (addQ (scriptV I[p+1] i0) p fun k=>markN I k p) (addD I[p+1] (scriptV I[p+1] i0) p (dAt I p 0)) (L+1) n=loomS N i0 n L (fun k=>markN I k (p+1)) (dAt I (p+1) 0) (L+1) n:=by
          rw[hscr]
          refine loomS_congr (fun k _=>?_) fun r k _ _=>?_
          · unfold addQ
            rw[markN]
          · unfold addD dAt
            by_cases h:r=p
            · subst h
              rw[if_pos rfl,if_pos (by omega),hgp]
            · rw[if_neg h]
              by_cases h2:r<p
              · rw[if_pos h2,if_pos (by omega)]
              · rw[if_neg h2,if_neg h,if_neg (by omega)]
                split <;> rfl
        rw[hnext] at hcall
        simp[show (p:Int)<n by omega,w1,hpI,getD_map,hcall]
        exact⟨by omega,Nxt.mk (p+1) (by omega) (by simp) (by simp) (by omega) (by simp) (.inl (by simp))⟩
      · have h9:p=n:=by omega
        subst h9
        simp
        refine Hint.of (T':=[.any,.any,.ref 0 0 0 0,.any,.d (.int .i64 p),.any,.any,.any,.any,.d (Rep.to I),.ref 1 0 0 0,.any,.any,.any,.any,.any,.any,.any,.any,.any,.any,.any,.any,.any,.any,.any,.any,.any]) (s':=[boxO,loomD N i0 (marksT L fun k=>markN I k p) (rowsD p (dAt I p 0) (L+1)) p]) (Re.trans (Sub.re (T':=[.any,.any,.ref 0 0 0 0,.any,.d (.int .i64 p),.any,.any,.any,.any,.d (Rep.to I),.ref 1 0 0 0,.any,.any,.any,.any,.any,.any,.any,.any,.any,.any,.any,.any,.any,.any,.any,.any,.any]) ⟨by simp,by simp,by simp,.inl rfl⟩) (freezeLoom (by omega) (by simp) N i0 p L (fun k=>markN I k p) (dAt I p 0) (L+1) p)) ?_
        have hBn:(100+1) * p≤4096:=by omega
        have hp32:p≤32:=by omega
        have hof:=fun k=>rowD_of I p k
        have hwv:weaveTo N i0 (marksT L fun k=>markN I k p) (rowsD p (dAt I p 0) (L+1)) (L+1)=rowsTo N I p (L+1):=by
          unfold weaveTo rowsTo
          refine flat_congr _ fun k hk=>?_
          have hk:k<L+1:=by simpa using hk
          have hgd:(rowsD p (dAt I p 0) (L+1)).getD k .nilsl=.sl 1 (rowD p (dAt I p 0) k):=by
            have:=rowsD_get (n:=p) (d:=dAt I p 0) (m:=L+1) (k:=k) hk
            simp[List.getD,this]
          have hdd:ofDD (.sl 1 (rowD p (dAt I p 0) k))=gapV I p k:=by
            show (if 1=1 then ofAll (Rep.of (α:=List Int)) (rowD p (dAt I p 0) k) else none).getD []=_
            rw[if_pos rfl,hof k]
            rfl
          unfold weaveRow gapRows
          rw[hgd,hdd,hgI,hi0,hLL]
          congr 1
          by_cases hkL:k<L
          · rw[if_pos hkL,if_pos hkL]
            unfold keptRow
            have:(marksT L fun k=>markN I k p).getD k default=⟨markN I k p⟩:=by simp[marksT,List.getD,hkL]
            rw[this,hgI,hi0]
          · rw[if_neg hkL,if_neg hkL]
        have hok:WeaveOk ⟨N,i0,marksT L fun k=>markN I k p,rowsD p (dAt I p 0) (L+1),p,0⟩:=by
          refine⟨by simp[rowsD,hLL],by simp[marksT,hLL],by simp only;omega,fun k hk=>?_,fun k hk=>?_⟩
          · simp only[rowsD,List.length_map,List.length_range] at hk
            refine⟨rowD p (dAt I p 0) k,gapV I p k,by simp[rowsD],hof k,by rw[gapV_len];exact hp32,Nat.le_trans (sumL_gap hIl k) hBn,fun m hm=>?_⟩
            obtain⟨b,hb,hbm⟩:=merged_line hIl hp32 hBn hm
            exact hIm b hb _ hbm
          · exact hIm0 _ (List.getElem_mem _)
        have hml:(marksT L fun k=>markN I k p).length=L:=by simp[marksT]
        generalize (marksT L fun k=>markN I k p)=mt at *
        generalize rowsD p (dAt I p 0) (L+1)=gd at *
        simp[loomD,boxO,h5,eRCall,hLL,hok,hwv]
@[simp] def S_weave_Visible:List D→Prop × D:=spec2 (α:=RowT) (β:=Int) (fun _ _=>True) (fun r c=>.bool (visB r c))
theorem ct_weave_Visible {P:Program} {f:Nat} {G:Gam} (h:CodeOf P f 2 6 [3] x_weave_Visible) (hG:GamOk P G):Has P f S_weave_Visible:=h.has2 hG fun r c _=>by
  by_cases c1:c < -1
  · have:visB r c=false:=by unfold visB;rw[if_neg (by omega),if_pos (by omega)]
    simp[x_weave_Visible,c1,this]
  by_cases c2:32≤c
  · have:visB r c=false:=by unfold visB;rw[if_neg (by omega),if_pos (by omega)]
    simp[x_weave_Visible,c1,c2,this]
  by_cases c3:c<0
  · have:visB r c=!r.lost:=by unfold visB;rw[if_pos (by omega)]
    simp[x_weave_Visible,c1,c2,c3,this]
  · obtain⟨n,rfl⟩:=Int.eq_ofNat_of_zero_le (show 0≤c by omega)
    have:visB r n=(decide (getU r.marks n=1) == r.lost):=by unfold visB;rw[if_neg (by omega),if_neg (by omega)]
    have e:getU r.marks n=IntKind.u32.wrap ↑((r.marks.fdiv (2 ^ min n IntKind.u32.bits) % 2 ^ IntKind.u32.bits).toNat &&& 1 % 2 ^ IntKind.u32.bits):=rfl
    simp[x_weave_Visible,c1,c2,c3,this,← e]
    cases r.lost <;> simp
@[simp] def S_combined_named:List D→Prop × D:=spec1 (α:=Str) (fun _=>True) (fun s=>.bool (namedB s))
theorem ct_combined_named {P:Program} {f:Nat} {G:Gam} (h:CodeOf P f 1 2 [1] x_combined_named) (hG:GamOk P G):Has P f S_combined_named:=h.has1 hG fun s _=>by
  by_cases c:1≤s.length
  · have c2:(1:Int)≤(s.length:Int):=by omega
    simp[x_combined_named,namedB,c,c2]
    omega
  · have c2:¬(1:Int)≤(s.length:Int):=by omega
    simp[x_combined_named,namedB,c,c2]
def RowsOk (l:List RowT):Prop:=∀r,r∈l→rowOk r∧r.text.length≤4194304
def CombOk (c:CombT):Prop:=c.hunks.length≤1000000000∧c.path.length≤1048576∧(∀h,h∈c.hunks→h.rows.length≤1000000000∧h.at_.length≤1000000000∧RowsOk h.rows)∧(writC c).length≤1000000000
@[simp] def S_combined_marked:List D→Prop × D:=spec1 (α:=CombT) (fun c=>CombOk c∧1≤c.parents∧c.parents≤32) (fun c=>.bool (markC c))
theorem ct_combined_marked {P:Program} {f g1:Nat} {G:Gam} (h:CodeOf P f 1 14 [2] (x_combined_marked g1)) (hG:GamOk P G) (h1:G.find g1=some S_weave_Marked):Has P f S_combined_marked:=h.has1 hG fun c hp=>by
  obtain⟨⟨p1,p2,p3,_⟩,p4,p5⟩:=hp
  obtain⟨path,dense,par,hs⟩:=c
  simp only at p1 p2 p3 p4 p5
  have hm:markC ⟨path,dense,par,hs⟩=hs.all fun h=>h.rows.all (markB par.toNat):=rfl
  rw[hm]
  simp[x_combined_marked]
  refine vc_lp (σ:=Nat) (fun i=>i≤hs.length∧(hs.all fun h=>h.rows.all (markB par.toNat))=((hs.drop i).all fun h=>h.rows.all (markB par.toNat))) (fun i=>hs.length-i)
    (fun i=>[.any,.ref 0 0 0 0,.any,.any,.any,.d (.sl 2 (hs.map Rep.to)),.d (.int .i64 hs.length),.d (.int .i64 i),.any,.any,.any,.any,.any,.any])
    (fun i=>[.cells 0 4 [.d (Rep.to (⟨path,dense,par,hs⟩:CombT))]]) 0 (by simp) (by simp) ⟨by simp,by simp⟩ ?_
  rintro i ⟨i1,i2⟩
  by_cases hi:i<hs.length
  · have w1:IntKind.i64.wrap ((i:Int)+1)=(i:Int)+1:=wrap_in (by omega) (by omega)
    obtain⟨q1,q2,q3⟩:=p3 _ (List.getElem_mem hi)
    rw[List.drop_eq_getElem_cons hi,List.all_cons] at i2
    simp[hi,getD_map]
    generalize hs[i].at_=at_ at *
    generalize hs[i].rows=rows at *
    refine vc_lp (σ:=Nat) (fun k=>k≤rows.length∧rows.all (markB par.toNat)=(rows.drop k).all (markB par.toNat)) (fun k=>rows.length-k)
      (fun k=>[.any,.ref 0 0 0 0,.any,.any,.any,.d (.sl 2 (hs.map Rep.to)),.d (.int .i64 hs.length),.d (.int .i64 i),.any,.d (.sl 3 (rows.map Rep.to)),.d (.int .i64 rows.length),.d (.int .i64 k),.any,.any])
      (fun k=>[.cells 0 4 [.d (Rep.to (⟨path,dense,par,hs⟩:CombT))]]) 0 (by simp) (by simp) ⟨by simp,by simp⟩ ?_
    rintro k ⟨k1,k2⟩
    by_cases hk:k<rows.length
    · have w2:IntKind.i64.wrap ((k:Int)+1)=(k:Int)+1:=wrap_in (by omega) (by omega)
      have hr:=(q3 _ (List.getElem_mem hk)).1
      have hre:rowOk ⟨rows[k].lost,rows[k].marks,rows[k].text⟩:=hr
      have hbe:markB par.toNat ⟨rows[k].lost,rows[k].marks,rows[k].text⟩=markB par.toNat rows[k]:=rfl
      rw[List.drop_eq_getElem_cons hk,List.all_cons] at k2
      cases hb:markB par.toNat rows[k] with
      | true =>
        rw[hb,Bool.true_and] at k2
        simp[hk,getD_map,h1,hre,hbe,hb,p4,p5,w2]
        exact Nxt.mk (k+1) (by omega) (by simp) (by simp) ⟨by omega,k2⟩
      | false =>
        rw[hb,Bool.false_and] at k2
        rw[k2,Bool.false_and] at i2
        rw[i2]
        simp[hk,getD_map,h1,hre,hbe,hb,p4,p5]
    · rw[List.drop_of_length_le (by omega),List.all_nil] at k2
      rw[k2,Bool.true_and] at i2
      simp[hk,w1]
      exact Nxt.mk (i+1) (by omega) (by simp) (by simp) ⟨by omega,i2⟩
  · rw[List.drop_of_length_le (by omega),List.all_nil] at i2
    rw[i2]
    simp[hi]
/-! ### the numbers of the visible rows -/
def visN (n:Nat) (r:RowT) (p:Nat):Bool:=if p<n then visB r p else !r.lost
def cfV (rows:List RowT) (n p:Nat):Nat:=rows.countP fun r=>visN n r p
theorem cfV_succ {rows:List RowT} {i:Nat} (hi:i<rows.length) (n p:Nat):cfV (rows.take (i+1)) n p=cfV (rows.take i) n p+(if visN n rows[i] p=true then 1 else 0):=by
  unfold cfV
  rw[List.take_succ_eq_append_getElem hi,List.countP_append,List.countP_singleton]
theorem ctsV_eq (rows:List RowT) (n:Nat):ctsV rows n=(List.range (n+1)).map fun p=>((cfV rows n p:Nat):Int):=by
  rw[List.range_succ,List.map_append]
  unfold ctsV
  congr 1
  · apply List.map_congr_left
    intro p hp
    have hp:=List.mem_range.1 hp
    unfold cfV visN
    simp only[if_pos hp]
  · simp[cfV,visN]
def cellN (f:Nat→Nat) (n:Nat):List A:=(List.range (n+1)).map fun p=>A.d (.int .i64 (f p))
@[simp] theorem cellN_len (f:Nat→Nat) (n:Nat):(cellN f n).length=n+1:=by simp[cellN]
theorem cellN_get (f:Nat→Nat) {n p:Nat} (hp:p≤n):(cellN f n)[p]?=some (A.d (.int .i64 (f p))):=by
  simp[cellN,List.getElem?_range (show p<n+1 by omega)]
@[simp] theorem cellN_at (f:Nat→Nat) (n p:Nat) (h:p<(cellN f n).length):(cellN f n)[p]=A.d (.int .i64 (f p)):=by
  have h1:=cellN_get f (n:=n) (p:=p) (by simp at h;omega)
  rw[List.getElem?_eq_getElem h] at h1
  exact Option.some.inj h1
theorem cellN_congr {f g:Nat→Nat} {n:Nat} (h:∀p,p≤n→f p=g p):cellN f n=cellN g n:=by
  unfold cellN
  apply List.map_congr_left
  intro p hp
  rw[h p (by have:=List.mem_range.1 hp;omega)]
theorem cellN_set (f:Nat→Nat) {n p:Nat} (hp:p≤n) (v:Nat):(cellN f n).set p (A.d (.int .i64 (v:Nat)))=cellN (fun q=>if q=p then v else f q) n:=by
  apply List.ext_getElem?
  intro q
  by_cases hq:q≤n
  · rw[cellN_get _ hq]
    by_cases hqp:q=p
    · subst hqp
      rw[List.getElem?_set_self (by simp;omega),if_pos rfl]
    · rw[List.getElem?_set_ne (Ne.symm hqp),cellN_get _ hq,if_neg hqp]
  · rw[List.getElem?_eq_none (by simp;omega),List.getElem?_eq_none (by simp;omega)]
@[simp] theorem cellN_under (f:Nat→Nat) (n m:Nat):(cellN f n).all (A.under m)=true:=by
  rw[List.all_eq_true]
  intro x hx
  obtain⟨p,_,rfl⟩:=List.mem_map.1 hx
  rfl
@[simp] theorem cellN_ren (f:Nat→Nat) (n:Nat) (r:Nat→Nat):(cellN f n).map (A.ren r)=cellN f n:=by
  unfold cellN
  rw[List.map_map]
  rfl
theorem cellN_zero (n:Nat):List.replicate (n+1) (A.d (.int .i64 0))=cellN (fun _=>0) n:=by
  unfold cellN
  rw[List.map_const']
  simp
structure CtsX where
  rows:List RowT
  n:Nat
@[simp] def F_combined_counts:RF CtsX where
  new:=1
  view a _:=⟨(a.getD 0 .any).gl RowT,(a.getD 1 .any).gi.toNat⟩
  args x:=[.d (.sl 3 (x.rows.map Rep.to)),.d (.int .i64 x.n)]
  st _:=[.res]
  pre x:=x.n≤32∧x.rows.length≤1000000000
  res x:=.own 0 0 0 (x.n+1)
  st' x:=[.cells 0 1 (cellN (cfV x.rows x.n) x.n)]
abbrev R_combined_counts:RSpec:=F_combined_counts.spec
theorem ct_combined_counts {P:Program} {f g1:Nat} {G:Gam} (hc:CodeOf P f 2 15 [2] (x_combined_counts g1)) (hG:GamOk P G) (h1:G.find g1=some S_weave_Visible):RSpec.Ok P f R_combined_counts:=by
  refine RF.ok hc.call fun x hx=>hc.rcalls hG rfl ?_
  obtain⟨rows,n⟩:=x
  obtain⟨p1,p2⟩:=hx
  simp only at p1 p2
  have w0:IntKind.i64.wrap ((n:Int)+1)=(n:Int)+1:=wrap_in (by omega) (by omega)
  have e0:((n:Int)+1).toNat=n+1:=by omega
  simp[x_combined_counts,startA,w0,e0,cellN_zero]
  have hz:cellN (fun _=>0) n=cellN (cfV (rows.take 0) n) n:=cellN_congr fun p _=>by simp[cfV]
  rw[hz]
  refine⟨⟨by omega,by unfold room;omega,by omega⟩,?_⟩
  refine vc_lp (σ:=Nat) (fun i=>i≤rows.length) (fun i=>rows.length-i)
    (fun i=>[.any,.d (.int .i64 n),.any,.own 1 0 0 (n+1),.any,.any,.d (.sl 3 (rows.map Rep.to)),.d (.int .i64 rows.length),.d (.int .i64 i),.any,.any,.any,.any,.any,.any])
    (fun i=>[.res,.cells 0 1 (cellN (cfV (rows.take i) n) n)]) 0 (by simp) (by simp) (by simp) ?_
  intro i i1
  by_cases hi:i<rows.length
  · have w1:IntKind.i64.wrap ((i:Int)+1)=(i:Int)+1:=wrap_in (by omega) (by omega)
    have hs:=cfV_succ hi n
    have hle:∀p,cfV (rows.take i) n p≤rows.length:=fun p=>by
      unfold cfV
      have:=List.countP_le_length (p:=fun r=>visN n r p) (l:=rows.take i)
      simp at this
      omega
    simp[hi,getD_map]
    generalize hr:rows[i]=r at *
    obtain⟨F,hF⟩:∃F:Nat→Nat→Nat,F=fun k p=>if p<k then cfV (rows.take (i+1)) n p else cfV (rows.take i) n p:=⟨_,rfl⟩
    have hF0:cellN (cfV (rows.take i) n) n=cellN (F 0) n:=cellN_congr fun p _=>by rw[hF];simp
    rw[hF0]
    refine vc_lp (σ:=Nat) (fun k=>k≤n) (fun k=>n-k)
      (fun k=>[.any,.d (.int .i64 n),.any,.own 1 0 0 (n+1),.ref 2 0 0 0,.any,.d (.sl 3 (rows.map Rep.to)),.d (.int .i64 rows.length),.d (.int .i64 i),.any,.d (.int .i64 n),.d (.int .i64 k),.any,.any,.any])
      (fun k=>[.res,.cells 0 1 (cellN (F k) n),.cells 0 3 [.d (Rep.to r)]]) 0 (by simp) (by simp) (by simp) ?_
    intro k k1
    have hFk:F k k=cfV (rows.take i) n k:=by rw[hF];simp
    have hg:=cellN_get (F k) k1
    rw[hFk] at hg
    have hb:=hle k
    have w3:IntKind.i64.wrap ((cfV (rows.take i) n k:Int)+1)=((cfV (rows.take i) n k+1:Nat):Int):=by rw[wrap_in (by omega) (by omega)];omega
    have hset:=cellN_set (F k) k1 (cfV (rows.take i) n k+1)
    by_cases hk:k<n
    · have w2:IntKind.i64.wrap ((k:Int)+1)=(k:Int)+1:=wrap_in (by omega) (by omega)
      have hvn:visN n r k=visB r k:=by unfold visN;rw[if_pos hk]
      have hsk:=hs k
      rw[hvn] at hsk
      have hve:visB ⟨r.lost,r.marks,r.text⟩ k=visB r k:=rfl
      cases hv:visB r k with
      | true =>
        rw[hv,if_pos rfl] at hsk
        have hn:cellN (fun q=>if q=k then cfV (rows.take i) n k+1 else F k q) n=cellN (F (k+1)) n:=cellN_congr fun q _=>by
          rw[hF]
          simp only
          by_cases e:q=k
          · subst e
            rw[if_pos rfl,if_pos (by omega),hsk]
          · rw[if_neg e]
            by_cases e2:q<k
            · rw[if_pos e2,if_pos (by omega)]
            · rw[if_neg e2,if_neg (by omega)]
        rw[hn] at hset
        simp only[Int.natCast_add,Int.natCast_one] at hset w3
        simp[hk,h1,hve,hv,w2,hg,hFk,w3,hset]
        refine⟨by omega,by omega,by omega,by omega,Nxt.mk (k+1) (by omega) (by simp) (by simp) (by omega)⟩
      | false =>
        rw[hv] at hsk
        simp at hsk
        have hn:cellN (F k) n=cellN (F (k+1)) n:=cellN_congr fun q _=>by
          rw[hF]
          simp only
          by_cases e:q=k
          · subst e
            rw[if_neg (by omega),if_pos (by omega),hsk]
          · by_cases e2:q<k
            · rw[if_pos e2,if_pos (by omega)]
            · rw[if_neg e2,if_neg (by omega)]
        rw[hn]
        simp[hk,h1,hve,hv,w2]
        exact Nxt.mk (k+1) (by omega) (by simp) (by simp) (by omega)
    · obtain rfl:k=n:=by omega
      have hvn:visN k r k=!r.lost:=by unfold visN;rw[if_neg (by omega)]
      have hsk:=hs k
      rw[hvn] at hsk
      cases hv:r.lost with
      | true =>
        rw[hv] at hsk
        simp at hsk
        have hn:cellN (F k) k=cellN (cfV (rows.take (i+1)) k) k:=cellN_congr fun q hq=>by
          rw[hF]
          simp only
          by_cases e:q=k
          · subst e
            rw[if_neg (by omega),hsk]
          · rw[if_pos (by omega)]
        rw[hn]
        simp[hv,w1]
        exact Nxt.mk (i+1) (by omega) (by simp) (by simp) (by omega)
      | false =>
        rw[hv] at hsk
        simp at hsk
        have hn:cellN (fun q=>if q=k then cfV (rows.take i) k k+1 else F k q) k=cellN (cfV (rows.take (i+1)) k) k:=cellN_congr fun q hq=>by
          rw[hF]
          simp only
          by_cases e:q=k
          · subst e
            rw[if_pos rfl,hsk]
          · rw[if_neg e,if_pos (by omega)]
        rw[hn] at hset
        simp only[Int.natCast_add,Int.natCast_one] at hset w3
        simp[hv,w1,hg,hFk,w3,hset]
        refine⟨by omega,Nxt.mk (i+1) (by omega) (by simp) (by simp) (by omega)⟩
  · rw[List.take_of_length_le (by omega)]
    simp[hi]
    refine⟨by simp[resPre,resE],[1],rfl,⟨by decide,by simp,?_⟩,fun k hk=>?_,?_,?_,by simp[A.under,A.unders]⟩
    · simp[pickS,Ob.ren]
    · match k,hk with
      | 0,_=>exact .inr rfl
    · simp[pickS,Ob.ren]
    · simp[resOf,resE,A.ren,A.rens,idxIn]
theorem maxV_succ {l:List Int} {i:Nat} (h1:1≤i) (hi:i<l.length):maxV (l.take (i+1))=max (maxV (l.take i)) l[i]:=by
  unfold maxV
  obtain⟨a,r,rfl⟩:∃a r,l=a::r:=by cases l with
    | nil=>simp at hi
    | cons a r=>exact⟨a,r,rfl⟩
  obtain⟨i,rfl⟩:∃j,i=j+1:=⟨i-1,by omega⟩
  have hr:i<r.length:=by simpa using hi
  show List.foldl max a (r.take (i+1))=max (List.foldl max a (r.take i)) r[i]
  rw[List.take_succ_eq_append_getElem hr,List.foldl_append]
  rfl
@[simp] def S_slices_Max_int_int:List D→Prop × D:=spec1 (α:=List Int) (fun l=>0<l.length∧l.length≤1000000000) (fun l=>.int .i64 (maxV l))
theorem ct_slices_Max_int_int {P:Program} {f:Nat} {G:Gam} (h:CodeOf P f 1 6 [1] x_slices_Max_int_int) (hG:GamOk P G):Has P f S_slices_Max_int_int:=h.has1 hG fun l hp=>by
  obtain⟨p1,p2⟩:=hp
  have c1:¬(l.length:Int)<1:=by omega
  have hm1:maxV (l.take 1)=l[0]:=by
    cases l with
    | nil=>simp at p1
    | cons a r=>simp[maxV]
  have g0:l[0]?=some l[0]:=List.getElem?_eq_getElem p1
  simp[x_slices_Max_int_int,c1,p1]
  refine vc_lp (σ:=Nat) (fun i=>1≤i∧i≤l.length) (fun i=>l.length-i) (fun i=>[.d (.sl 1 (l.map Rep.to)),.any,.d (.int .i64 (maxV (l.take i))),.d (.int .i64 i),.any,.any]) (fun _=>[]) 1 (by simp[hm1]) (by simp) ⟨by omega,by omega⟩ ?_
  rintro i ⟨i1,i2⟩
  by_cases hi:i<l.length
  · have w1:IntKind.i64.wrap ((i:Int)+1)=(i:Int)+1:=wrap_in (by omega) (by omega)
    have hs:=maxV_succ i1 hi
    simp[hi,getD_map,w1]
    exact Nxt.mk (i+1) (by omega) (by simp[hs]) (by simp) ⟨by omega,by omega⟩
  · rw[List.take_of_length_le (by omega)]
    simp[hi]
@[simp] def S_slices_Clone_Row_Row:List D→Prop × D:=spec1 (α:=List RowT) (fun l=>l≠[]∧l.length≤1000000000) (fun l=>Rep.to l)
theorem ct_slices_Clone_Row_Row {P:Program} {f:Nat} {G:Gam} (h:CodeOf P f 1 3 [1] x_slices_Clone_Row_Row) (hG:GamOk P G):Has P f S_slices_Clone_Row_Row:=h.has1 hG fun l hp=>by
  obtain⟨p1,p2⟩:=hp
  simp[x_slices_Clone_Row_Row,p1]
  unfold room
  omega
theorem RCalls.wk {P:Program} {f:FuncId} {args:List A} {s0:Store} {res res':A} {s1:Store} (h:RCalls P f args s0 res s1) (hw:Wk 0 [] res res'):RCalls P f args s0 res' s1:=by
  intro w M vs hW hN g hl ha
  refine (h w M vs hW hN g hl ha).mono ?_
  rintro e w' ⟨v,M',rfl,h1,h2,h3⟩
  exact⟨v,M',rfl,h1,h2,hw w' M' s1 v (fun i hi=>by simp at hi) h3⟩
@[simp] def S_combined_title:List D→Prop × D:=spec1 (α:=CombT) (fun c=>c.path.length≤1048576∧1≤c.parents∧c.parents≤32) (fun c=>.str (titleW c))
theorem ct_combined_title {P:Program} {f g1 g2:Nat} {G:Gam} (h:CodeOf P f 1 5 [2] (x_combined_title g1 g2)) (hG:GamOk P G) (h1:G.find g1=some S_scan_Quote) (h2:G.find g2=some S_scan_Format):Has P f S_combined_title:=h.has1 hG fun c hp=>by
  obtain⟨path,dense,par,hs⟩:=c
  obtain⟨p1,p2,p3⟩:=hp
  simp only at p1 p2 p3
  have q1:=quote_len path
  have q2:=fmt_len par
  cases dense with
  | true =>
    simp[x_combined_title,h1,h2,p1,titleW]
    omega
  | false =>
    simp[x_combined_title,h1,h2,p1,titleW]
    omega
theorem markW_len (r:RowT) (n:Nat):(markW r n).length=n:=by
  induction n with
  | zero=>rfl
  | succ n ih=>simp[markW,ih]
theorem rowW_len (r:RowT) (n:Nat):(rowW r n).length=n+r.text.length+(if endedV r.text=true then 0 else 29):=by
  have:unendS.length=29:=rfl
  unfold rowW
  rw[List.length_append,List.length_append,markW_len]
  split <;> simp[this] <;> omega
@[simp] def S_combined_row:List D→Prop × D:=spec2 (α:=RowT) (β:=Int) (fun r n=>r.text.length≤4194304∧0≤n∧n≤32) (fun r n=>.str (rowW r n.toNat))
theorem ct_combined_row {P:Program} {f g1:Nat} {G:Gam} (h:CodeOf P f 2 13 [3] (x_combined_row g1)) (hG:GamOk P G) (h1:G.find g1=some S_text_Ended):Has P f S_combined_row:=h.has2 hG fun r n hp=>by
  obtain⟨lost,marks,text⟩:=r
  obtain⟨p1,p2,p3⟩:=hp
  simp only at p1
  obtain⟨n,rfl⟩:=Int.eq_ofNat_of_zero_le p2
  have w0:IntKind.i64.wrap ((n:Int)+text.length)=(n:Int)+text.length:=wrap_in (by omega) (by omega)
  have w1:IntKind.i64.wrap ((n:Int)+text.length+29)=(n:Int)+text.length+29:=wrap_in (by omega) (by omega)
  have e0:((n:Int)+text.length+29).toNat=n+text.length+29:=by omega
  simp only[Int.toNat_natCast]
  have main:vc G 0 (x_combined_row g1) (Fin [3] (D.str (rowW ⟨lost,marks,text⟩ n))) (start [Rep.to (⟨lost,marks,text⟩:RowT),Rep.to (n:Int)] 13) []:=by
    cases lost
    case' false =>
      simp[x_combined_row,w0,w1,e0]
      refine⟨⟨by omega,by unfold room;omega,by omega⟩,?_⟩
      obtain⟨R,hR⟩:∃R,R=(⟨false,marks,text⟩:RowT):=⟨_,rfl⟩
      have hlost:R.lost=false:=by rw[hR]
      rw[← hR]
    case' true =>
      simp[x_combined_row,w0,w1,e0]
      refine⟨⟨by omega,by unfold room;omega,by omega⟩,?_⟩
      obtain⟨R,hR⟩:∃R,R=(⟨true,marks,text⟩:RowT):=⟨_,rfl⟩
      have hlost:R.lost=true:=by rw[hR]
      rw[← hR]
    all_goals
      have hmarks:R.marks=marks:=by rw[hR]
      have htext:R.text=text:=by rw[hR]
      have b0:(bytesD [])=[]:=rfl
      refine vc_lp (σ:=Nat) (fun k=>k≤n) (fun k=>n-k)
        (fun k=>[.any,.d (.int .i64 n),.ref 0 0 0 0,.any,.d (.int .u8 (if R.lost then 45 else 43)),.gr 1 1 (bytesD (markW R k)),.any,.any,.d (.int .i64 n),.d (.int .i64 k),.any,.any,.any])
        (fun k=>[.cells 0 3 [.d (.agg [.bool R.lost,.int .u32 marks,.str text])],.tip k]) 0 (by simp[hlost,markW,b0]) (by simp[hlost]) (by simp) ?_
      intro k k1
      by_cases hk:k<n
      · have w2:IntKind.i64.wrap ((k:Int)+1)=(k:Int)+1:=wrap_in (by omega) (by omega)
        have e:getU marks k=IntKind.u32.wrap ↑((marks.fdiv (2 ^ min k IntKind.u32.bits) % 2 ^ IntKind.u32.bits).toNat &&& 1 % 2 ^ IntKind.u32.bits):=rfl
        have hml:(bytesD (markW R k)).length=k:=by rw[bytesD_len,markW_len]
        by_cases c:getU marks k=1
        · have hb:bytesD (markW R k)++[.int .u8 (if R.lost then 45 else 43)]=bytesD (markW R (k+1)):=by
            rw[markW,hmarks,if_pos c,← bytesD_app]
            cases R.lost <;> rfl
          simp[hk,← e,c,hml,w2]
          rw[hb]
          exact⟨by unfold room;omega,Nxt.mk (k+1) (by omega) (by simp) (by simp) (by omega)⟩
        · have hb:bytesD (markW R k)++[.int .u8 32]=bytesD (markW R (k+1)):=by
            rw[markW,hmarks,if_neg c,← bytesD_app]
            rfl
          simp[hk,← e,c,hml,w2,hb]
          exact⟨by unfold room;omega,Nxt.mk (k+1) (by omega) (by simp) (by simp) (by omega)⟩
      · obtain rfl:k=n:=by omega
        have hml:(bytesD (markW R k)).length=k:=by rw[bytesD_len,markW_len]
        cases he:endedV text with
        | true =>
          have hrow:rowW R k=markW R k++text:=by unfold rowW;rw[htext,he];simp
          rw[hrow]
          simp[h1,p1,he,hml,bytesD_app]
          have hb:=bytesD_len text
          exact⟨by unfold room;omega,by omega⟩
        | false =>
          have hrow:rowW R k=markW R k++(text++unendS):=by unfold rowW;rw[htext,he];simp
          rw[hrow]
          simp[h1,p1,he,hml,bytesD_app]
          have hb:=bytesD_len text
          have hb2:(bytesD (markW R k++text)).length=k+text.length:=by rw[bytesD_len,List.length_append,markW_len]
          refine⟨by unfold room;omega,by omega,⟨by omega,?_⟩,rfl⟩
          rw[hb2,bytesD_len]
          unfold room
          simp
          omega
  exact main
def AtsOk (c:CombT):Prop:=∀h,h∈c.hunks→h.at_.length=c.parents.toNat+1
@[simp] def S_combined_header:List D→Prop × D:=spec2 (α:=CHunkT) (β:=Int) (fun h n=>h.rows.length≤1000000000∧0≤n∧n≤32∧h.at_.length=n.toNat+1) (fun h n=>.str (headC h n.toNat))
def lenH (n:Nat) (hs:List CHunkT) (i:Nat):Nat:=((hs.take i).flatMap (hunkC n)).length
theorem lenH_succ (n:Nat) {hs:List CHunkT} {i:Nat} (hi:i<hs.length):lenH n hs (i+1)=lenH n hs i+(headC hs[i] n).length+(hs[i].rows.flatMap fun r=>rowW r n).length:=by
  unfold lenH
  rw[List.take_succ_eq_append_getElem hi,List.flatMap_append,List.length_append,List.flatMap_singleton,hunkC,List.length_append]
  omega
theorem lenH_le (n:Nat) (hs:List CHunkT) (i:Nat):lenH n hs i≤(hs.flatMap (hunkC n)).length:=by
  unfold lenH
  conv=>rhs;rw[← List.take_append_drop i hs,List.flatMap_append,List.length_append]
  omega
def lenR (n:Nat) (rs:List RowT) (k:Nat):Nat:=((rs.take k).flatMap fun r=>rowW r n).length
theorem lenR_succ (n:Nat) {rs:List RowT} {k:Nat} (hk:k<rs.length):lenR n rs (k+1)=lenR n rs k+(n+rs[k].text.length+(if endedV rs[k].text=true then 0 else 29)):=by
  unfold lenR
  rw[List.take_succ_eq_append_getElem hk,List.flatMap_append,List.length_append,List.flatMap_singleton,rowW_len]
theorem lenR_le (n:Nat) (rs:List RowT) (k:Nat):lenR n rs k≤(rs.flatMap fun r=>rowW r n).length:=by
  unfold lenR
  conv=>rhs;rw[← List.take_append_drop k rs,List.flatMap_append,List.length_append]
  omega
@[simp] def S_combined_size:List D→Prop × D:=spec1 (α:=CombT) (fun c=>CombOk c∧1≤c.parents∧c.parents≤32∧AtsOk c) (fun c=>.int .i64 (writC c).length)
theorem ct_combined_size {P:Program} {f g1 g2 g3:Nat} {G:Gam} (h:CodeOf P f 1 15 [2] (x_combined_size g1 g2 g3)) (hG:GamOk P G) (h1:G.find g1=some S_combined_title) (h2:G.find g2=some S_combined_header) (h3:G.find g3=some S_text_Ended):Has P f S_combined_size:=h.has1 hG fun c hp=>by
  obtain⟨⟨p1,p2,p3,p4⟩,p5,p6,p7⟩:=hp
  obtain⟨path,dense,par,hs⟩:=c
  simp only[AtsOk] at p1 p2 p3 p5 p6 p7
  obtain⟨n,rfl⟩:=Int.eq_ofNat_of_zero_le (show 0≤par by omega)
  simp only[Int.toNat_natCast] at p7
  have hw:(writC ⟨path,dense,n,hs⟩).length=(titleW ⟨path,dense,n,hs⟩).length+(hs.flatMap (hunkC n)).length:=by unfold writC;rw[List.length_append];rfl
  rw[hw] at p4 ⊢
  have hte:titleW ⟨path,dense,n,hs⟩=titleW ⟨path,dense,n,hs⟩:=rfl
  generalize hT:titleW ⟨path,dense,n,hs⟩=T at *
  have hfin:lenH n hs hs.length=(hs.flatMap (hunkC n)).length:=by unfold lenH;rw[List.take_length]
  have hlle:=lenH_le n hs
  generalize hW:(hs.flatMap (hunkC n)).length=W at *
  simp[x_combined_size,h1,p2,p5,p6,hT]
  refine vc_lp (σ:=Nat) (fun i=>i≤hs.length) (fun i=>hs.length-i)
    (fun i=>[.any,.ref 0 0 0 0,.any,.d (.int .i64 ((T.length+lenH n hs i:Nat):Int)),.any,.any,.d (.sl 2 (hs.map Rep.to)),.d (.int .i64 hs.length),.d (.int .i64 i),.any,.any,.any,.any,.any,.any])
    (fun i=>[.cells 0 4 [.d (Rep.to (⟨path,dense,n,hs⟩:CombT))]]) 0 (by simp[lenH]) (by simp) (by simp) ?_
  intro i i1
  have hli:=hlle i
  by_cases hi:i<hs.length
  · have w1:IntKind.i64.wrap ((i:Int)+1)=(i:Int)+1:=wrap_in (by omega) (by omega)
    obtain⟨q1,q2,q3⟩:=p3 _ (List.getElem_mem hi)
    have q4:=p7 _ (List.getElem_mem hi)
    have hls:=lenH_succ n hi
    have hli2:=hlle (i+1)
    have hhe:headC ⟨hs[i].at_,hs[i].rows⟩ n=headC hs[i] n:=rfl
    have hw1:IntKind.i64.wrap (((T.length:Int)+(lenH n hs i:Int))+(headC hs[i] n).length)=(T.length:Int)+(lenH n hs i:Int)+(headC hs[i] n).length:=wrap_in (by omega) (by omega)
    simp[hi,getD_map,h2,q1,q4,p6,hhe,hw1]
    have hrl:=lenR_le n hs[i].rows
    generalize hs[i].at_=at_ at *
    generalize hH:(headC hs[i] n).length=H at *
    generalize hs[i].rows=rows at *
    have hfr:lenR n rows rows.length=(rows.flatMap fun r=>rowW r n).length:=by unfold lenR;rw[List.take_length]
    generalize hRW:(rows.flatMap fun r=>rowW r n).length=RW at *
    refine vc_lp (σ:=Nat) (fun k=>k≤rows.length) (fun k=>rows.length-k)
      (fun k=>[.any,.ref 0 0 0 0,.any,.d (.int .i64 ((T.length+lenH n hs i+H+lenR n rows k:Nat):Int)),.any,.any,.d (.sl 2 (hs.map Rep.to)),.d (.int .i64 hs.length),.d (.int .i64 i),.any,.d (.sl 3 (rows.map Rep.to)),.d (.int .i64 rows.length),.d (.int .i64 k),.any,.any])
      (fun k=>[.cells 0 4 [.d (Rep.to (⟨path,dense,n,hs⟩:CombT))]]) 0 (by simp[lenR]) (by simp) (by simp) ?_
    intro k k1
    have hrk:=hrl k
    by_cases hk:k<rows.length
    · have w2:IntKind.i64.wrap ((k:Int)+1)=(k:Int)+1:=wrap_in (by omega) (by omega)
      have hrs:=lenR_succ n hk
      have hrk2:=hrl (k+1)
      have ht:=(q3 _ (List.getElem_mem hk)).2
      have ht2:rows[k].text.length≤9223372036854775807:=by omega
      have w3:IntKind.i64.wrap ((n:Int)+rows[k].text.length)=(n:Int)+rows[k].text.length:=wrap_in (by omega) (by omega)
      have w4:IntKind.i64.wrap ((T.length:Int)+(lenH n hs i:Int)+(H:Int)+(lenR n rows k:Int)+((n:Int)+rows[k].text.length))=(T.length:Int)+(lenH n hs i:Int)+(H:Int)+(lenR n rows k:Int)+((n:Int)+rows[k].text.length):=wrap_in (by omega) (by omega)
      cases he:endedV rows[k].text with
      | true =>
        rw[he,if_pos rfl] at hrs
        simp[hk,getD_map,h3,ht2,he,w2,w3,w4]
        exact Nxt.mk (k+1) (by omega) (by simp[hrs];omega) (by simp) (by omega)
      | false =>
        rw[he,if_neg (by simp)] at hrs
        have w5:IntKind.i64.wrap ((T.length:Int)+(lenH n hs i:Int)+(H:Int)+(lenR n rows k:Int)+((n:Int)+rows[k].text.length)+29)=(T.length:Int)+(lenH n hs i:Int)+(H:Int)+(lenR n rows k:Int)+((n:Int)+rows[k].text.length)+29:=wrap_in (by omega) (by omega)
        simp[hk,getD_map,h3,ht2,he,w2,w3,w4,w5]
        exact Nxt.mk (k+1) (by omega) (by simp[hrs];omega) (by simp) (by omega)
    · obtain rfl:k=rows.length:=by omega
      rw[hfr]
      simp[w1]
      exact Nxt.mk (i+1) (by omega) (by simp[hls];omega) (by simp) (by omega)
  · obtain rfl:i=hs.length:=by omega
    rw[hfin]
    simp
@[simp] def S_combined_wellFormed:List D→Prop × D:=spec1 (α:=CombT) (fun c=>CombOk c∧1≤c.parents∧c.parents≤32) (fun c=>.bool (formB c))
theorem fol_len {h:CHunkT} {n:Nat} {ends nx:List Int} (e:folV h n ends=some nx):h.at_.length=n+1∧h.rows≠[]:=by
  unfold folV at e
  split at e
  · cases e
  · rename_i c
    simp only[not_or,Classical.not_not] at c
    exact c
theorem well_ats:∀(hs:List CHunkT) (n:Nat) (res:Bool) (par:Nat) (ends fin:List Int),wellC n res par ends hs=some fin→∀h,h∈hs→h.at_.length=n+1
  | [],_,_,_,_,_,_,h,hh=>by simp at hh
  | u::hs,n,res,par,ends,fin,e,h,hh=>by
    rw[wellC] at e
    cases hf:folV u n ends with
    | none=>rw[hf] at e;cases e
    | some nx =>
      rw[hf] at e
      cases ha:adsV res par u.rows with
      | none=>simp only[ha] at e;cases e
      | some x =>
        obtain⟨r',p'⟩:=x
        simp only[ha] at e
        rcases List.mem_cons.1 hh with rfl | hh
        · exact (fol_len hf).1
        · exact well_ats hs n r' p' nx fin e h hh
theorem form_ats {c:CombT} (h:formB c=true):AtsOk c:=by
  unfold formB at h
  split at h
  · cases h
  · rename_i fin e
    exact well_ats _ _ _ _ _ _ e
@[simp] def S_combined_Check:List D→Prop × D:=spec1 (α:=CombT) CombOk (fun c=>.int .i64 (chkC c))
theorem ct_combined_Check {P:Program} {f g1 g2 g3 g4:Nat} {G:Gam} (h:CodeOf P f 1 8 [2] (x_combined_Check g1 g2 g3 g4)) (hG:GamOk P G) (h1:G.find g1=some S_combined_named) (h2:G.find g2=some S_combined_marked) (h3:G.find g3=some S_combined_wellFormed) (h4:G.find g4=some S_combined_size):Has P f S_combined_Check:=h.has1 hG fun c hp=>by
  have hce:CombOk ⟨c.path,c.dense,c.parents,c.hunks⟩:=hp
  have hm:markC ⟨c.path,c.dense,c.parents,c.hunks⟩=markC c:=rfl
  have hfm:formB ⟨c.path,c.dense,c.parents,c.hunks⟩=formB c:=rfl
  have hw:writC ⟨c.path,c.dense,c.parents,c.hunks⟩=writC c:=rfl
  have hk:chkC c=if namedB c.path=false then 120 else if c.parents<1∨32<c.parents then 2 else if markC c=false then 180 else if formB c=false then 121 else if 16777216<(writC c).length then 1 else 0:=rfl
  cases c1:namedB c.path with
  | false =>
    rw[hk,c1,if_pos rfl]
    simp[x_combined_Check,h1,c1]
  | true =>
    rw[c1,if_neg (by simp)] at hk
    by_cases c2:c.parents<1
    · rw[hk,if_pos (.inl c2)]
      simp[x_combined_Check,h1,c1,c2]
    by_cases c3:32<c.parents
    · rw[hk,if_pos (.inr c3)]
      simp[x_combined_Check,h1,c1,c2,c3]
    rw[if_neg (by omega)] at hk
    have n1:1≤c.parents:=by omega
    have n2:c.parents≤32:=by omega
    cases c4:markC c with
    | false =>
      rw[hk,c4,if_pos rfl]
      simp[x_combined_Check,h1,c1,c2,c3,h2,hce,n1,n2,hm,c4]
    | true =>
      rw[c4,if_neg (by simp)] at hk
      cases c5:formB c with
      | false =>
        rw[hk,c5,if_pos rfl]
        simp[x_combined_Check,h1,c1,c2,c3,h2,hce,n1,n2,hm,c4,h3,hfm,c5]
      | true =>
        rw[c5,if_neg (by simp)] at hk
        have ha:AtsOk ⟨c.path,c.dense,c.parents,c.hunks⟩:=form_ats c5
        by_cases c6:16777216<(writC c).length
        · rw[hk,if_pos c6]
          simp[x_combined_Check,h1,c1,c2,c3,h2,hce,n1,n2,hm,c4,h3,hfm,c5,h4,ha,hw,show (16777216:Int)<(writC c).length by omega]
        · rw[hk,if_neg c6]
          simp[x_combined_Check,h1,c1,c2,c3,h2,hce,n1,n2,hm,c4,h3,hfm,c5,h4,ha,hw,show ¬(16777216:Int)<(writC c).length by omega]
theorem chkC_zero {c:CombT} (h:chkC c=0):namedB c.path=true∧1≤c.parents∧c.parents≤32∧markC c=true∧formB c=true∧(writC c).length≤16777216:=by
  unfold chkC at h
  split at h
  · cases h
  · rename_i c1
    split at h
    · cases h
    · rename_i c2
      split at h
      · cases h
      · rename_i c3
        split at h
        · cases h
        · rename_i c4
          split at h
          · cases h
          · exact⟨by simpa using c1,by omega,by omega,by simpa using c3,by simpa using c4,by omega⟩
def prefC (c:CombT) (i:Nat):Str:=titleW c++(c.hunks.take i).flatMap (hunkC c.parents.toNat)
theorem prefC_succ {c:CombT} {i:Nat} (hi:i<c.hunks.length):prefC c (i+1)=prefC c i++(headC c.hunks[i] c.parents.toNat++c.hunks[i].rows.flatMap fun r=>rowW r c.parents.toNat):=by
  unfold prefC
  rw[List.take_succ_eq_append_getElem hi,List.flatMap_append,List.flatMap_singleton,List.append_assoc]
  rfl
theorem prefC_all (c:CombT):prefC c c.hunks.length=writC c:=by unfold prefC;rw[List.take_length];rfl
theorem prefC_le (c:CombT) (i:Nat):(prefC c i).length≤(writC c).length:=by
  have:=lenH_le c.parents.toNat c.hunks i
  unfold lenH at this
  unfold prefC writC
  rw[List.length_append,List.length_append]
  omega
def prefR (n:Nat) (rs:List RowT) (k:Nat):Str:=(rs.take k).flatMap fun r=>rowW r n
theorem prefR_succ (n:Nat) {rs:List RowT} {k:Nat} (hk:k<rs.length):prefR n rs (k+1)=prefR n rs k++rowW rs[k] n:=by
  unfold prefR
  rw[List.take_succ_eq_append_getElem hk,List.flatMap_append,List.flatMap_singleton]
def fmtC (c:CombT):D:=if chkC c=0 then .tup [.str (writC c),.int .i64 0] else .tup [.str [],.int .i64 (chkC c)]
@[simp] def S_combined_Format:List D→Prop × D:=spec1 (α:=CombT) CombOk (fun c=>fmtC c)
theorem ct_combined_Format {P:Program} {f g1 g2 g3 g4 g5 g6:Nat} {G:Gam} (h:CodeOf P f 1 17 [2,3] (x_combined_Format g1 g2 g3 g4 g5 g6)) (hG:GamOk P G) (h1:G.find g1=some S_combined_Check) (h2:G.find g2=some S_combined_title) (h3:G.find g3=some S_combined_header) (h4:G.find g4=some S_combined_row)
    (h5:G.findR g5=some R___strings_Builder__WriteString) (h6:G.findR g6=some R___strings_Builder__String):Has P f S_combined_Format:=h.has1 hG fun c hp=>by
  have hce:CombOk ⟨c.path,c.dense,c.parents,c.hunks⟩:=hp
  have hke:chkC ⟨c.path,c.dense,c.parents,c.hunks⟩=chkC c:=rfl
  have hte:titleW ⟨c.path,c.dense,c.parents,c.hunks⟩=titleW c:=rfl
  by_cases c0:chkC c=0
  · have e:fmtC c=.tup [.str (writC c),.int .i64 0]:=if_pos c0
    rw[e]
    obtain⟨z1,z2,z3,z4,z5,z6⟩:=chkC_zero c0
    have hat:=form_ats z5
    obtain⟨p1,p2,p3,p4⟩:=hp
    have ht0:titleW c=prefC c 0:=by simp[prefC]
    have hle:=prefC_le c
    have hl0:=hle 0
    have hte:titleW ⟨c.path,c.dense,c.parents,c.hunks⟩=prefC c 0:=ht0
    obtain⟨n,hn⟩:=Int.eq_ofNat_of_zero_le (show 0≤c.parents by omega)
    have hnn:c.parents.toNat=n:=by omega
    simp[x_combined_Format,h1,hce,hke,c0,h2,p2,z2,z3,eRCall,h5,hte]
    refine⟨by omega,?_⟩
    refine vc_lp (σ:=Nat) (fun i=>i≤c.hunks.length) (fun i=>c.hunks.length-i)
      (fun i=>[.any,.ref 0 0 0 0,.any,.any,.any,.ref 1 0 0 0,.any,.any,.any,.d (.sl 2 (c.hunks.map Rep.to)),.d (.int .i64 c.hunks.length),.d (.int .i64 i),.any,.any,.any,.any,.any])
      (fun i=>.cells 0 4 [.d (Rep.to c)]::buW 1 (prefC c i)) 0 (by simp) (by simp) (by simp) ?_
    intro i i1
    by_cases hi:i<c.hunks.length
    · have w1:IntKind.i64.wrap ((i:Int)+1)=(i:Int)+1:=wrap_in (by omega) (by omega)
      obtain⟨q1,q2,q3⟩:=p3 _ (List.getElem_mem hi)
      have q4:=hat _ (List.getElem_mem hi)
      have hs:=prefC_succ hi
      have hsl:=hle (i+1)
      rw[hs,List.length_append,List.length_append] at hsl
      have hhe:headC ⟨c.hunks[i].at_,c.hunks[i].rows⟩ c.parents.toNat=headC c.hunks[i] c.parents.toNat:=rfl
      simp[hi,getD_map,h3,q1,q4,show 0≤c.parents by omega,z3,hhe,eRCall,h5]
      refine⟨by omega,?_⟩
      generalize hB:prefC c i++headC c.hunks[i] c.parents.toNat=B at *
      have hBl:B.length=(prefC c i).length+(headC c.hunks[i] c.parents.toNat).length:=by rw[← hB,List.length_append]
      rw[← List.append_assoc,hB] at hs
      generalize c.hunks[i].at_=at_ at *
      generalize c.hunks[i].rows=rows at *
      have hrl:∀k,(prefR c.parents.toNat rows k).length≤(rows.flatMap fun r=>rowW r c.parents.toNat).length:=fun k=>lenR_le c.parents.toNat rows k
      have hra:prefR c.parents.toNat rows rows.length=rows.flatMap fun r=>rowW r c.parents.toNat:=by unfold prefR;rw[List.take_length]
      generalize (rows.flatMap fun r=>rowW r c.parents.toNat)=RW at *
      refine vc_lp (σ:=Nat) (fun k=>k≤rows.length) (fun k=>rows.length-k)
        (fun k=>[.any,.ref 0 0 0 0,.any,.any,.any,.ref 1 0 0 0,.any,.any,.any,.d (.sl 2 (c.hunks.map Rep.to)),.d (.int .i64 c.hunks.length),.d (.int .i64 i),.any,.d (.sl 3 (rows.map Rep.to)),.d (.int .i64 rows.length),.d (.int .i64 k),.any])
        (fun k=>.cells 0 4 [.d (Rep.to c)]::buW 1 (B++prefR c.parents.toNat rows k)) 0 (by simp) (by simp[prefR];omega) (by simp) ?_
      intro k k1
      by_cases hk:k<rows.length
      · have w2:IntKind.i64.wrap ((k:Int)+1)=(k:Int)+1:=wrap_in (by omega) (by omega)
        have ht:=(q3 _ (List.getElem_mem hk)).2
        have hps:=prefR_succ c.parents.toNat hk
        have hpl:=hrl (k+1)
        rw[hps,List.length_append] at hpl
        have hre:rowW ⟨rows[k].lost,rows[k].marks,rows[k].text⟩ c.parents.toNat=rowW rows[k] c.parents.toNat:=rfl
        simp[hk,getD_map,h4,ht,show 0≤c.parents by omega,z3,hre,eRCall,h5,w2]
        refine⟨by omega,Nxt.mk (k+1) (by omega) (by simp) (by simp[hps];omega) (by omega)⟩
      · obtain rfl:k=rows.length:=by omega
        rw[hra,← hs]
        simp[w1]
        exact Nxt.mk (i+1) (by omega) (by simp) (by simp) (by omega)
    · obtain rfl:i=c.hunks.length:=by omega
      have hne:writC c≠[]:=by simp[writC,titleW]
      rw[prefC_all]
      simp[eRCall,h6,hne]
      omega
  · have e:fmtC c=.tup [.str [],.int .i64 (chkC c)]:=if_neg c0
    rw[e]
    simp[x_combined_Format,h1,hce,hke,c0]
def folD (h:CHunkT) (n:Nat) (ends:List Int):D:=match folV h n ends with
  | none=>.tup [.nilsl,.bool false]
  | some nx=>.tup [.sl 1 (nx.map Rep.to),.bool true]
def cellI (f:Nat→Int) (n:Nat):List A:=(List.range (n+1)).map fun p=>A.d (.int .i64 (f p))
theorem cellN_I (f:Nat→Nat) (n:Nat):cellN f n=cellI (fun p=>(f p:Int)) n:=rfl
@[simp] theorem cellI_len (f:Nat→Int) (n:Nat):(cellI f n).length=n+1:=by simp[cellI]
theorem cellI_get (f:Nat→Int) {n p:Nat} (hp:p≤n):(cellI f n)[p]?=some (A.d (.int .i64 (f p))):=by
  simp[cellI,List.getElem?_range (show p<n+1 by omega)]
@[simp] theorem cellI_at (f:Nat→Int) (n p:Nat) (h:p<(cellI f n).length):(cellI f n)[p]=A.d (.int .i64 (f p)):=by
  have h1:=cellI_get f (n:=n) (p:=p) (by simp at h;omega)
  rw[List.getElem?_eq_getElem h] at h1
  exact Option.some.inj h1
theorem cellI_congr {f g:Nat→Int} {n:Nat} (h:∀p,p≤n→f p=g p):cellI f n=cellI g n:=by
  unfold cellI
  apply List.map_congr_left
  intro p hp
  rw[h p (by have:=List.mem_range.1 hp;omega)]
theorem cellI_set (f:Nat→Int) {n p:Nat} (hp:p≤n) (v:Int):(cellI f n).set p (A.d (.int .i64 v))=cellI (fun q=>if q=p then v else f q) n:=by
  apply List.ext_getElem?
  intro q
  by_cases hq:q≤n
  · rw[cellI_get _ hq]
    by_cases hqp:q=p
    · subst hqp
      rw[List.getElem?_set_self (by simp;omega),if_pos rfl]
    · rw[List.getElem?_set_ne (Ne.symm hqp),cellI_get _ hq,if_neg hqp]
  · rw[List.getElem?_eq_none (by simp;omega),List.getElem?_eq_none (by simp;omega)]
theorem cellI_un (f:Nat→Int) (n m:Nat):∀x,x∈cellI f n→A.under m x=true:=fun x hx=>by
  obtain⟨p,_,rfl⟩:=List.mem_map.1 hx
  rfl
@[simp] theorem cellI_und (f:Nat→Int) (n m:Nat):(∀x,x∈cellI f n→A.under m x=true)↔True:=iff_true_intro (cellI_un f n m)
@[simp] theorem cellI_ren (f:Nat→Int) (n:Nat) (r:Nat→Nat):(cellI f n).map (A.ren r)=cellI f n:=by
  unfold cellI
  rw[List.map_map]
  rfl
theorem cellI_isD (f:Nat→Int) (n:Nat):(cellI f n).all A.isD=true:=by
  rw[List.all_eq_true]
  intro x hx
  obtain⟨p,_,rfl⟩:=List.mem_map.1 hx
  rfl
theorem bor_cellI (s:Store) (j v n:Nat) (f:Nat→Int) (h:s.getD j .dead=.cells v 1 (cellI f n)):bor s (.own j v 0 (n+1))=(True,.sl 1 (((List.range (n+1)).map f).map Rep.to)):=by
  unfold bor
  simp only[h,List.drop_zero]
  rw[List.take_of_length_le (by simp),cellI_isD]
  simp[cellI,Function.comp_def,A.toD]
theorem ats_get:∀(as es:List Int),as.length=es.length→(atOk as es=true↔∀k,k<as.length→es.getD k 0≤as.getD k 0∧as.getD k 0≤4096)
  | [],[],_=>by simp[atOk]
  | a::as,e::es,h=>by
    have ih:=ats_get as es (by simpa using h)
    simp only[atOk,Bool.and_eq_true,Bool.not_eq_true',Bool.or_eq_false_iff,decide_eq_false_iff_not,ih]
    constructor
    · rintro⟨h1,h2⟩ k hk
      cases k with
      | zero=>simp;omega
      | succ k=>simpa using h2 k (by simpa using hk)
    · intro h2
      refine⟨?_,fun k hk=>?_⟩
      · have:=h2 0 (by simp)
        simp at this
        omega
      · simpa using h2 (k+1) (by simpa using hk)
def EndsB (ends:List Int):Prop:=∀e,e∈ends→0≤e∧e≤2000000000
@[simp] def S_combined_follows:List D→Prop × D:=spec3 (α:=CHunkT) (β:=Int) (γ:=List Int) (fun h n ends=>h.rows.length≤1000000000∧h.at_.length≤1000000000∧1≤n∧n≤32∧ends.length=n.toNat+1∧EndsB ends) (fun h n ends=>folD h n.toNat ends)
theorem ct_combined_follows {P:Program} {f g1:Nat} {G:Gam} (h:CodeOf P f 3 15 [4,5] (x_combined_follows g1)) (hG:GamOk P G) (h1:G.findR g1=some R_combined_counts):Has P f S_combined_follows:=h.has3 hG fun u n ends hp=>by
  obtain⟨p1,p2,p3,p4,p5,p6⟩:=hp
  obtain⟨at_,rows⟩:=u
  simp only at p1 p2
  obtain⟨n,rfl⟩:=Int.eq_ofNat_of_zero_le (show 0≤n by omega)
  simp only[Int.toNat_natCast] at p5 ⊢
  have w0:IntKind.i64.wrap ((n:Int)+1)=(n:Int)+1:=wrap_in (by omega) (by omega)
  have hfd:folD ⟨at_,rows⟩ n ends=if at_.length≠n+1∨rows=[] then .tup [.nilsl,.bool false] else if atOk at_ ends=true then .tup [.sl 1 (((ctsV rows n).zipWith (·+·) at_).map Rep.to),.bool true] else .tup [.nilsl,.bool false]:=by
    unfold folD folV
    by_cases k:at_.length≠n+1∨rows=[]
    · rw[if_pos k,if_pos k]
    · rw[if_neg k,if_neg k]
      by_cases k2:atOk at_ ends=true
      · rw[if_pos k2,if_pos k2]
      · rw[if_neg k2,if_neg k2]
  rw[hfd]
  by_cases c1:at_.length=n+1
  · by_cases c2:rows=[]
    · subst c2
      rw[if_pos (.inr rfl)]
      simp[x_combined_follows,w0,c1]
    · rw[if_neg (by simp[c1,c2])]
      have c2l:¬(rows.length:Int)=0:=by have:=List.length_pos_iff.2 c2;omega
      have hag:=ats_get at_ ends (by omega)
      have hz:(ctsV rows n).zipWith (·+·) at_=(List.range (n+1)).map fun p=>(cfV rows n p:Int)+at_.getD p 0:=by
        apply List.ext_getElem?
        intro q
        rw[ctsV_eq]
        by_cases hq:q<n+1
        · simp[List.getElem?_zipWith,List.getElem?_range hq,List.getElem?_eq_getElem (show q<at_.length by omega)]
        · rw[List.getElem?_eq_none (by simp;omega),List.getElem?_eq_none (by simp;omega)]
      rw[hz]
      obtain⟨F,hF⟩:∃F:Nat→Nat→Int,F=fun k p=>if p<k then (cfV rows n p:Int)+at_.getD p 0 else cfV rows n p:=⟨_,rfl⟩
      have hF0:cellN (cfV rows n) n=cellI (F 0) n:=by rw[cellN_I];exact cellI_congr fun p _=>by rw[hF];simp
      have hcb:∀p,cfV rows n p≤rows.length:=fun p=>List.countP_le_length
      generalize hV:(if atOk at_ ends=true then D.tup [.sl 1 (((List.range (n+1)).map fun p=>(cfV rows n p:Int)+at_.getD p 0).map Rep.to),.bool true] else D.tup [.nilsl,.bool false])=V
      simp[x_combined_follows,w0,c1,c2,c2l,eRCall,h1,p1,show n≤32 by omega,hF0]
      refine vc_lp (σ:=Nat) (fun k=>k≤n+1∧∀j,j<k→ends.getD j 0≤at_.getD j 0∧at_.getD j 0≤4096) (fun k=>n+1-k)
        (fun k=>[.any,.any,.d (.sl 1 (ends.map Rep.to)),.any,.any,.any,.own 1 0 0 (n+1),.any,.any,.any,.d (.sl 1 (at_.map Rep.to)),.d (.int .i64 ((n:Int)+1)),.d (.int .i64 k),.any,.any])
        (fun k=>[.cells 0 2 [.d (.agg [.sl 1 (at_.map Rep.to),.sl 3 (rows.map Rep.to)])],.cells 0 1 (cellI (F k) n)]) 0 (by simp) (by simp) ⟨by simp,by simp⟩ ?_
      rintro k ⟨k1,k2⟩
      by_cases hk:k<n+1
      · have w1:IntKind.i64.wrap ((k:Int)+1)=(k:Int)+1:=wrap_in (by omega) (by omega)
        have ga:at_[k]?=some (at_.getD k 0):=by rw[List.getD_eq_getElem?_getD,List.getElem?_eq_getElem (by omega)];rfl
        have ge:ends[k]?=some (ends.getD k 0):=by rw[List.getD_eq_getElem?_getD,List.getElem?_eq_getElem (by omega)];rfl
        have gb:0≤ends.getD k 0:=by
          rw[List.getD_eq_getElem?_getD,List.getElem?_eq_getElem (by omega)]
          exact (p6 _ (List.getElem_mem _)).1
        have hFk:F k k=cfV rows n k:=by rw[hF];simp
        have hg:=cellI_get (F k) (n:=n) (p:=k) (by omega)
        rw[hFk] at hg
        have hcn:cellI (fun q=>if q=k then (cfV rows n k:Int)+at_.getD k 0 else F k q) n=cellI (F (k+1)) n:=cellI_congr fun q hq=>by
          rw[hF]
          simp only
          by_cases e:q=k
          · subst e;rw[if_pos rfl,if_pos (by omega)]
          · rw[if_neg e]
            by_cases e2:q<k
            · rw[if_pos e2,if_pos (by omega)]
            · rw[if_neg e2,if_neg (by omega)]
        have hset:=cellI_set (F k) (n:=n) (p:=k) (by omega) ((cfV rows n k:Int)+at_.getD k 0)
        rw[hcn] at hset
        have hc:=hcb k
        have hbad:¬(ends.getD k 0≤at_.getD k 0∧at_.getD k 0≤4096)→V=D.tup [.nilsl,.bool false]:=fun hb=>by
          rw[← hV,if_neg]
          rw[hag]
          exact fun hh=>hb (hh k (by omega))
        have hnx:(ends.getD k 0≤at_.getD k 0∧at_.getD k 0≤4096)→∀j,j<k+1→ends.getD j 0≤at_.getD j 0∧at_.getD j 0≤4096:=fun hb j hj=>by
          by_cases e:j=k
          · subst e;exact hb
          · exact k2 j (by omega)
        clear k2 hag
        have ge2:ends[k]'(by omega)=ends.getD k 0:=by rw[List.getElem?_eq_getElem (by omega)] at ge;exact Option.some.inj ge
        have ga2:at_[k]'(by omega)=at_.getD k 0:=by rw[List.getElem?_eq_getElem (by omega)] at ga;exact Option.some.inj ga
        generalize at_.getD k 0=a at *
        generalize ends.getD k 0=e at *
        by_cases b1:a<e
        · rw[hbad (by omega)]
          simp[show (k:Int)<(n:Int)+1 by omega,hk,c1,p5,ga,ge,ga2,ge2,b1]
        · by_cases b2:4096<a
          · rw[hbad (by omega)]
            simp[show (k:Int)<(n:Int)+1 by omega,hk,c1,p5,ga,ge,ga2,ge2,b1,b2]
          · have w3:IntKind.i64.wrap ((cfV rows n k:Int)+a)=(cfV rows n k:Int)+a:=wrap_in (by omega) (by omega)
            simp[show (k:Int)<(n:Int)+1 by omega,hk,c1,p5,ga,ge,ga2,ge2,b1,b2,hg,hFk,w3,hset,w1]
            have hn:=hnx ⟨by omega,by omega⟩
            exact Nxt.mk (k+1) (by omega) (by simp) (by simp) ⟨by omega,by simpa using hn⟩
      · obtain rfl:k=n+1:=by omega
        have hb:=bor_cellI [.cells 0 2 [.d (.agg [.sl 1 (at_.map Rep.to),.sl 3 (rows.map Rep.to)])],.cells 0 1 (cellI (F (n+1)) n)] 1 0 n (F (n+1)) rfl
        have hv:V=D.tup [.sl 1 (((List.range (n+1)).map (F (n+1))).map Rep.to),.bool true]:=by
          rw[← hV,if_pos (by rw[hag];intro j hj;exact k2 j (by omega))]
          congr 4
          apply List.map_congr_left
          intro p hp
          have:=List.mem_range.1 hp
          rw[hF]
          simp only
          rw[if_pos this]
        rw[hv]
        simp[hb]
  · rw[if_pos (.inl c1)]
    simp[x_combined_follows,w0,c1,show ¬(at_.length:Int)=(n:Int)+1 by omega]
structure WfcX where
  i:Nat
  res:Bool
  par:Nat
  ends:List Int
def wfI (n:Nat) (hs:List CHunkT) (z:WfcX):Prop:=z.i≤hs.length∧z.par<4294967296∧z.ends.length=n+1∧EndsB z.ends∧wellC n z.res z.par z.ends (hs.drop z.i)=wellC n false 0 (List.replicate (n+1) 0) hs
theorem fol_ends {h:CHunkT} {n:Nat} {ends nx:List Int} (hl:ends.length=n+1) (hr:h.rows.length≤1000000000) (e:folV h n ends=some nx) (hb:EndsB ends):nx.length=n+1∧EndsB nx:=by
  have h1:=fol_len e
  unfold folV at e
  rw[if_neg (by simp[h1.1,h1.2])] at e
  split at e
  · rename_i ha
    have ha:=(ats_get _ _ (by omega)).1 ha
    cases e
    have hlen:((ctsV h.rows n).zipWith (·+·) h.at_).length=n+1:=by simp[ctsV_len,h1.1]
    refine⟨hlen,fun x hx=>?_⟩
    obtain⟨q,hq,rfl⟩:=List.getElem_of_mem hx
    rw[hlen] at hq
    rw[List.getElem_zipWith]
    have hc:∃c:Nat,(ctsV h.rows n)[q]'(by rw[ctsV_len];omega)=(c:Int)∧c≤1000000000:=by
      have:(ctsV h.rows n)[q]'(by rw[ctsV_len];omega)=((cfV h.rows n q:Nat):Int):=by simp[ctsV_eq]
      exact⟨_,this,Nat.le_trans List.countP_le_length hr⟩
    obtain⟨c,hc,hcl⟩:=hc
    have hk:=ha q (by omega)
    have e1:h.at_.getD q 0=h.at_[q]'(by omega):=by simp[List.getD,show q<h.at_.length by omega]
    have e2:ends.getD q 0=ends[q]'(by omega):=by simp[List.getD,show q<ends.length by omega]
    have h0:=(hb (ends[q]'(by omega)) (List.getElem_mem _)).1
    rw[e1,e2] at hk
    rw[hc]
    omega
  · cases e
theorem ct_combined_wellFormed {P:Program} {f g1 g2 g3 g4:Nat} {G:Gam} (h:CodeOf P f 1 18 [2] (x_combined_wellFormed g1 g2 g3 g4)) (hG:GamOk P G) (h1:G.find g1=some S_combined_follows) (h2:G.find g2=some S_weave_Single) (h3:G.find g3=some S_slices_Max_int_int) (h4:G.findR g4=some R_weave_Ends_Add):Has P f S_combined_wellFormed:=h.has1 hG fun c hp=>by
  obtain⟨⟨p1,p2,p3,_⟩,p5,p6⟩:=hp
  obtain⟨path,dense,par,hs⟩:=c
  simp only at p1 p2 p3 p5 p6
  obtain⟨n,rfl⟩:=Int.eq_ofNat_of_zero_le (show 0≤par by omega)
  have w0:IntKind.i64.wrap ((n:Int)+1)=(n:Int)+1:=wrap_in (by omega) (by omega)
  have e0:((n:Int)+1).toNat=n+1:=by omega
  obtain⟨V,hV⟩:∃V,V=formB ⟨path,dense,n,hs⟩:=⟨_,rfl⟩
  rw[← hV]
  have hz:List.replicate (n+1) (A.d (.int .i64 0))=cellI (fun _=>0) n:=by rw[cellN_zero,cellN_I];rfl
  simp[x_combined_wellFormed,w0,e0,hz]
  refine⟨⟨by omega,by unfold room;omega,by omega⟩,?_⟩
  have hfz:=Fz.own 2 0 1 0 (n+1) (cellI (fun _=>0) n) (by rw[List.drop_zero,List.take_of_length_le (by simp)];exact cellI_isD _ _)
  have hzl:((((cellI (fun _=>0) n).drop 0).take (n+1)).map A.toD)=(List.replicate (n+1) (0:Int)).map Rep.to:=by
    rw[List.drop_zero,List.take_of_length_le (by simp)]
    simp only[cellI,List.map_map,List.map_replicate]
    have e:(A.toD ∘ fun (p:Nat)=>A.d (.int .i64 0))=fun _=>D.int .i64 0:=rfl
    rw[e,List.map_const']
    simp
  rw[hzl] at hfz
  refine vc_lpR (σ:=WfcX) (wfI n hs) (fun z=>hs.length-z.i)
    (fun z=>[.any,.ref 0 0 0 0,.any,.ref 1 0 0 0,.d (.sl 1 (z.ends.map Rep.to)),.any,.any,.any,.d (.sl 2 (hs.map Rep.to)),.d (.int .i64 hs.length),.d (.int .i64 z.i),.any,.any,.any,.any,.any,.any,.any])
    (fun z=>[.cells 0 4 [.d (Rep.to (⟨path,dense,n,hs⟩:CombT))],.cells 0 2 [.agg [.d (.bool z.res),.d (.int .u32 z.par)]],.dead]) ⟨0,false,0,List.replicate (n+1) 0⟩ ?_ ⟨by simp,by simp,by simp,fun e he=>by have:=List.eq_of_mem_replicate he;omega,by simp⟩ ?_
  · refine Re.trans (T':=[A.d (D.agg [D.str path,D.bool dense,D.int IntKind.i64 ↑n,D.sl 2 (List.map Rep.to hs)]),A.ref 0 0 0 0,A.d (D.bool false),A.ref 1 0 0 0,.d (.sl 1 ((List.replicate (n+1) (0:Int)).map Rep.to)),A.any,A.any,A.any,A.d (D.sl 2 (List.map Rep.to hs)),A.d (D.int IntKind.i64 ↑hs.length),A.d (D.int IntKind.i64 0),A.any,A.any,A.any,A.any,A.any,A.any,A.any])
      (s':=[Ob.cells 0 4 [A.d (D.agg [D.str path,D.bool dense,D.int IntKind.i64 ↑n,D.sl 2 (List.map Rep.to hs)])],Ob.cells 0 2 [A.d (D.agg [D.bool false,D.int IntKind.u32 0])],.dead]) (Re.freeze 2 0 1 (cellI (fun _=>0) n) rfl ?_ ⟨rfl,?_⟩ rfl) ?_
    · simp
      simpa using hfz
    · intro k hk h0
      have:k=0∨k=1:=by simp at hk;omega
      rcases this with rfl | rfl
      · exact .inl rfl
      · exact .inl rfl
    · refine Re.wn (s':=[.cells 0 4 [.d (Rep.to (⟨path,dense,n,hs⟩:CombT))],.cells 0 2 [.agg [.d (.bool false),.d (.int .u32 0)]],.dead]) [false,true,false,true,true,false,false,false,true,true,true] [] (by simp) (by simp) ?_ ?_ ?_
      · simp
      · exact⟨.inl rfl,WkO.agg1 _ _ 0 2 [.bool false,.int .u32 0] rfl,.inl rfl,trivial⟩
      · rfl
  rintro⟨i,res,par,ends⟩ ⟨i1,i2,i3,i4,i5⟩
  simp only at i1 i2 i3 i4 i5
  by_cases hi:i<hs.length
  · have w1:IntKind.i64.wrap ((i:Int)+1)=(i:Int)+1:=wrap_in (by omega) (by omega)
    obtain⟨q1,q2,q3⟩:=p3 _ (List.getElem_mem hi)
    rw[List.drop_eq_getElem_cons hi,wellC] at i5
    have hfe:folD ⟨hs[i].at_,hs[i].rows⟩ n ends=folD hs[i] n ends:=rfl
    have hfn:∀nx,folV hs[i] n ends=some nx→nx.length=n+1∧EndsB nx:=fun nx e=>fol_ends i3 q1 e i4
    have hfb:formB ⟨path,dense,n,hs⟩=match wellC n false 0 (List.replicate (n+1) 0) hs with
      | none=>false
      | some ends=>decide (maxV ends≤4096):=rfl
    cases hf:folV hs[i] n ends with
    | none =>
      have hd:folD hs[i] n ends=.tup [.nilsl,.bool false]:=by unfold folD;rw[hf]
      rw[hf] at i5
      rw[hfb,← i5] at hV
      have hV:V=false:=hV
      subst hV
      simp[hi,getD_map,h1,q1,q2,p5,p6,i3,i4,hfe,hd,show n≤32 by omega]
    | some nx =>
      have hd:folD hs[i] n ends=.tup [.sl 1 (nx.map Rep.to),.bool true]:=by unfold folD;rw[hf]
      rw[hf] at i5
      obtain⟨nl,nb⟩:=hfn nx hf
      simp[hi,getD_map,h1,q1,q2,p5,p6,i3,i4,hfe,hd,show n≤32 by omega]
      have i5:(match adsV res par hs[i].rows with
        | none=>none
        | some (res',par')=>wellC n res' par' nx (hs.drop (i+1)))=wellC n false 0 (List.replicate (n+1) 0) hs:=i5
      have hbad:adsV res par hs[i].rows=none→V=false:=fun e=>by
        rw[e] at i5
        rw[hV,hfb,← i5]
      generalize hs[i].rows=rows at *
      generalize hs[i].at_=at_ at *
      refine vc_lp (σ:=Nat × Bool × Nat) (fun x=>x.1≤rows.length∧x.2.2<4294967296∧adsV x.2.1 x.2.2 (rows.drop x.1)=adsV res par rows) (fun x=>rows.length-x.1)
        (fun x=>[.any,.ref 0 0 0 0,.any,.ref 1 0 0 0,.d (.sl 1 (nx.map Rep.to)),.any,.any,.any,.d (.sl 2 (hs.map Rep.to)),.d (.int .i64 hs.length),.d (.int .i64 i),.any,.any,.d (.sl 3 (rows.map Rep.to)),.d (.int .i64 rows.length),.d (.int .i64 x.1),.any,.any])
        (fun x=>[.cells 0 4 [.d (Rep.to (⟨path,dense,n,hs⟩:CombT))],.cells 0 2 [.agg [.d (.bool x.2.1),.d (.int .u32 x.2.2)]],.dead]) (0,res,par) (by simp) (by simp) ⟨by simp,i2,by simp⟩ ?_
      rintro⟨k,r,p⟩ ⟨k1,k3,k4⟩
      simp only at k1 k3 k4
      by_cases hk:k<rows.length
      · have w2:IntKind.i64.wrap ((k:Int)+1)=(k:Int)+1:=wrap_in (by omega) (by omega)
        obtain⟨hr,ht⟩:=q3 _ (List.getElem_mem hk)
        have ht:=Nat.le_trans ht (show 4194304≤9223372036854775807 by omega)
        have hre:rowOk ⟨rows[k].lost,rows[k].marks,rows[k].text⟩:=hr
        rw[List.drop_eq_getElem_cons hk,adsV] at k4
        have q:=endsPar_lt k3 hr
        have o1:endsOk r p ⟨rows[k].lost,rows[k].marks,rows[k].text⟩=endsOk r p rows[k]:=rfl
        have o2:endsRes r ⟨rows[k].lost,rows[k].marks,rows[k].text⟩=endsRes r rows[k]:=rfl
        have o3:endsPar p ⟨rows[k].lost,rows[k].marks,rows[k].text⟩=endsPar p rows[k]:=rfl
        cases hb:lineB rows[k].text with
        | false =>
          rw[hb,Bool.false_and,if_neg (by simp)] at k4
          rw[hbad k4.symm]
          simp[hk,getD_map,h2,ht,hb]
        | true =>
          cases ho:endsOk r p rows[k] with
          | false =>
            rw[hb,ho,Bool.and_false,if_neg (by simp)] at k4
            rw[hbad k4.symm]
            simp[hk,getD_map,h2,ht,hb,eRCall,h4,k3,hre,o1,ho]
          | true =>
            rw[hb,ho,Bool.and_true,if_pos rfl] at k4
            simp[hk,getD_map,h2,ht,hb,eRCall,h4,k3,hre,o1,o2,o3,ho,w2]
            exact Nxt.mk (k+1,endsRes r rows[k],endsPar p rows[k]) (by simp;omega) (by simp) (by simp) ⟨by simp;omega,q,k4⟩
      · obtain rfl:k=rows.length:=by omega
        rw[List.drop_length,adsV] at k4
        rw[← k4] at i5
        simp[w1]
        exact Nxt.mk ⟨i+1,r,p,nx⟩ (by simp only;omega) (by simp) (by simp) ⟨by simp only;omega,k3,nl,nb,i5⟩
  · obtain rfl:i=hs.length:=by omega
    rw[List.drop_length,wellC] at i5
    have hv:V=decide (maxV ends≤4096):=by
      rw[hV]
      show (match wellC n false 0 (List.replicate (n+1) 0) hs with
        | none=>false
        | some ends=>decide (maxV ends≤4096))=_
      rw[← i5]
    rw[hv]
    simp[h3,i3,show n+1≤1000000000 by omega]
theorem ctsV_get (rows:List RowT) {n p:Nat} (hp:p≤n):(ctsV rows n).getD p 0=(cfV rows n p:Int):=by
  rw[ctsV_eq]
  simp[List.getD,List.getElem?_range (show p<n+1 by omega)]
theorem repeat_at (k:Nat):Lib.repeatL [64] k=List.replicate k 64:=by
  induction k with
  | zero=>rfl
  | succ k ih =>
    rw[List.replicate_succ,← ih]
    rfl
theorem ranges_len (at_ ns:List Int):∀p,(rangesW at_ ns p).length≤45 * p
  | 0=>by simp[rangesW]
  | p+1=>by
    have h1:=ranges_len at_ ns p
    have h2:=frange_len (at_.getD p 0) (ns.getD p 0)
    simp only[rangesW,List.length_append,List.length_cons,List.length_nil]
    omega
theorem ct_combined_header {P:Program} {f g1 g2 g3 g4 g5:Nat} {G:Gam} (h:CodeOf P f 2 11 [3] (x_combined_header g1 g2 g3 g4 g5)) (hG:GamOk P G) (h1:G.find g1=some S_strings_Repeat) (h2:G.find g2=some S_scan_FormatRange) (h3:G.findR g3=some R_combined_counts) (h4:G.findR g4=some R___strings_Builder__WriteString) (h5:G.findR g5=some R___strings_Builder__String):Has P f S_combined_header:=h.has2 hG fun u n hp=>by
  obtain⟨p1,p2,p3,p4⟩:=hp
  obtain⟨at_,rows⟩:=u
  simp only at p1 p4
  obtain⟨n,rfl⟩:=Int.eq_ofNat_of_zero_le p2
  simp only[Int.toNat_natCast] at p4 ⊢
  have w0:IntKind.i64.wrap ((n:Int)+1)=(n:Int)+1:=wrap_in (by omega) (by omega)
  have e0:((n:Int)+1).toNat=n+1:=by omega
  have hr:Lib.repeatL [64] (n+1)=atsW n:=repeat_at (n+1)
  have hal:(atsW n).length=n+1:=by simp[atsW]
  have hh:headC ⟨at_,rows⟩ n=atsW n++(rangesW at_ (ctsV rows n) n++([32,43]++(frangeV (at_.getD n 0) ((ctsV rows n).getD n 0)++(32::(atsW n++[10]))))):=rfl
  rw[hh]
  simp[x_combined_header,eRCall,h3,p1,show n≤32 by omega,w0,e0,h1,hr,h4,hal]
  refine⟨⟨by omega,by omega,by omega⟩,by omega,?_⟩
  have hrl:=ranges_len at_ (ctsV rows n)
  have hga:∀p,p≤n→at_[p]?=some (at_.getD p 0):=fun p hp=>by rw[List.getD_eq_getElem?_getD,List.getElem?_eq_getElem (by omega)];rfl
  have hgc:∀p,p≤n→(ctsV rows n).getD p 0=(cfV rows n p:Int):=fun p hp=>ctsV_get rows hp
  refine vc_lp (σ:=Nat) (fun p=>p≤n) (fun p=>n-p)
    (fun p=>[.any,.d (.int .i64 n),.ref 0 0 0 0,.any,.own 1 0 0 (n+1),.d (.str (atsW n)),.ref 2 0 0 0,.any,.d (.int .i64 n),.d (.int .i64 p),.any])
    (fun p=>.cells 0 2 [.d (.agg [.sl 1 (at_.map Rep.to),.sl 3 (rows.map Rep.to)])]::.cells 0 1 (cellN (cfV rows n) n)::buW 2 (atsW n++rangesW at_ (ctsV rows n) p)) 0 (by simp[rangesW]) (by simp[rangesW,hal]) (by simp) ?_
  intro p k1
  have hpl:=hrl p
  have ga:=hga p k1
  have gc:=cellN_get (cfV rows n) (n:=n) (p:=p) k1
  have fl:=frange_len (at_.getD p 0) (cfV rows n p)
  have hgp:=hgc p k1
  by_cases hk:p<n
  · have w2:IntKind.i64.wrap ((p:Int)+1)=(p:Int)+1:=wrap_in (by omega) (by omega)
    have hs:rangesW at_ (ctsV rows n) (p+1)=rangesW at_ (ctsV rows n) p++([32,45]++frangeV (at_.getD p 0) (cfV rows n p)):=by rw[rangesW,hgp]
    have ga2:at_[p]'(by omega)=at_.getD p 0:=by rw[List.getElem?_eq_getElem (by omega)] at ga;exact Option.some.inj ga
    generalize at_.getD p 0=a at *
    simp[hk,show p<at_.length by omega,ga,ga2,gc,h2,eRCall,h4,hal,w2]
    refine⟨by omega,by omega,by omega,by omega,Nxt.mk (p+1) (by omega) (by simp) (by simp[hs,hal];omega) (by omega)⟩
  · obtain rfl:p=n:=by omega
    have ga2:at_[p]'(by omega)=at_.getD p 0:=by rw[List.getElem?_eq_getElem (by omega)] at ga;exact Option.some.inj ga
    generalize at_.getD p 0=a at *
    simp[show p<at_.length by omega,ga,ga2,gc,h2,eRCall,h4,h5,hal]
    have hgp2:(ctsV rows p)[p]?.getD 0=(cfV rows p p:Int):=by rw[← List.getD_eq_getElem?_getD];exact hgp
    refine⟨by omega,by omega,by omega,by omega,by omega,by omega,⟨by omega,by omega⟩,by rw[hgp2]⟩
def ordC (n:Int):Int→List SpanT→Bool
  | _,[]=>true
  | e,s::r=>!(decide (s.fr<e) || decide (s.to≤s.fr) || decide (n<s.to)) && ordC n s.to r
structure OrcX where
  i:Nat
  e:Int
@[simp] def S_combined_ordered:List D→Prop × D:=spec2 (α:=List SpanT) (β:=Int) (fun l _=>l.length≤1000000000) (fun l n=>.bool (ordC n 0 l))
theorem ct_combined_ordered {P:Program} {f:Nat} {G:Gam} (h:CodeOf P f 2 10 [2] x_combined_ordered) (hG:GamOk P G):Has P f S_combined_ordered:=h.has2 hG fun l n p1=>by
  obtain⟨V,hV⟩:∃V,ordC n 0 l=V:=⟨_,rfl⟩
  rw[hV]
  simp[x_combined_ordered]
  refine vc_lp (σ:=OrcX) (fun z=>z.i≤l.length∧ordC n z.e (l.drop z.i)=V) (fun z=>l.length-z.i)
    (fun z=>[.any,.d (.int .i64 n),.any,.d (.int .i64 z.e),.any,.d (.sl 2 (l.map Rep.to)),.d (.int .i64 l.length),.d (.int .i64 z.i),.any,.any]) (fun _=>[]) ⟨0,0⟩ (by simp) (by simp) ⟨by simp,by simpa using hV⟩ ?_
  rintro⟨i,e⟩ ⟨i1,i2⟩
  simp only at i1 i2
  by_cases hi:i<l.length
  · have w1:IntKind.i64.wrap ((i:Int)+1)=(i:Int)+1:=wrap_in (by omega) (by omega)
    rw[List.drop_eq_getElem_cons hi,ordC] at i2
    by_cases b1:l[i].fr<e
    · have hv:V=false:=by rw[← i2];simp[b1]
      rw[hv]
      simp[hi,getD_map,b1]
    · by_cases b2:l[i].to≤l[i].fr
      · have hv:V=false:=by rw[← i2];simp[b2]
        rw[hv]
        simp[hi,getD_map,b1,b2]
      · by_cases b3:n<l[i].to
        · have hv:V=false:=by rw[← i2];simp[b3]
          rw[hv]
          simp[hi,getD_map,b1,b2,b3]
        · have hv:ordC n l[i].to (l.drop (i+1))=V:=by rw[← i2];simp[b1,b2,b3]
          simp[hi,getD_map,b1,b2,b3,w1]
          exact Nxt.mk ⟨i+1,l[i].to⟩ (by simp only;omega) (by simp) (by simp) ⟨by simp only;omega,hv⟩
  · rw[List.drop_of_length_le (by omega),ordC] at i2
    rw[← i2]
    simp[hi]
def lstI (l:List Int):List A:=l.map fun z=>A.d (.int .i64 z)
theorem cellI_l (f:Nat→Int) (n:Nat):cellI f n=lstI ((List.range (n+1)).map f):=by simp[cellI,lstI,Function.comp_def]
def Ob.intsA:Ob→List Int
  | .cells _ _ xs=>xs.map A.gi
  | _=>[]
@[simp] theorem ints_l (v e:Nat) (l:List Int):Ob.intsA (.cells v e (lstI l))=l:=by
  show (lstI l).map A.gi=l
  unfold lstI
  rw[List.map_map]
  exact (List.map_congr_left fun z _=>rfl).trans (List.map_id l)
@[simp] theorem lstI_len (l:List Int):(lstI l).length=l.length:=by simp[lstI]
@[simp] theorem lstI_ren (l:List Int) (r:Nat→Nat):(lstI l).map (A.ren r)=lstI l:=by simp[lstI,Function.comp_def,A.ren]
theorem lstI_under (l:List Int) (m:Nat):∀x,x∈lstI l→A.under m x=true:=fun x hx=>by
  obtain⟨p,_,rfl⟩:=List.mem_map.1 hx
  rfl
@[simp] theorem lstI_und (l:List Int) (m:Nat):(∀x,x∈lstI l→A.under m x=true)↔True:=iff_true_intro (lstI_under l m)
theorem lstI_isD (l:List Int):(lstI l).all A.isD=true:=by simp[lstI,A.isD]
theorem lstI_toD (l:List Int):(lstI l).map A.toD=l.map Rep.to:=by simp[lstI,Function.comp_def,A.toD]
structure CliX where
  l:List Int
  v:Nat
@[simp] def F_slices_Clone_int_int:RF CliX where
  new:=1
  view a s:=⟨(s.getD 0 .dead).intsA,(s.getD 0 .dead).ver⟩
  args x:=[.own 0 x.v 0 x.l.length]
  st x:=[.cells x.v 1 (lstI x.l),.res]
  pre x:=0<x.l.length∧x.l.length≤1000000000
  res x:=.d (.sl 1 (x.l.map Rep.to))
  st' x:=[.cells x.v 1 (lstI x.l),.tip x.l.length]
abbrev R_slices_Clone_int_int:RSpec:=F_slices_Clone_int_int.spec
theorem ct_slices_Clone_int_int {P:Program} {f:Nat} {G:Gam} (hc:CodeOf P f 1 3 [1] x_slices_Clone_int_int) (hG:GamOk P G):RSpec.Ok P f R_slices_Clone_int_int:=by
  refine RF.ok hc.call fun x hx=>?_
  obtain⟨l,v⟩:=x
  obtain⟨p1,p2⟩:=hx
  simp only at p1 p2
  refine RCalls.wk (res:=.gr 1 1 (l.map Rep.to)) (hc.rcalls hG rfl ?_) (Wk.gr _ _ _ _ _)
  have hs:src [Ob.cells v 1 (lstI l),Ob.res,Ob.tip 0,Ob.res] 1 (A.own 0 v 0 l.length)=(True,l.map Rep.to):=by
    simp only[src,List.getD_cons_zero,List.drop_zero]
    rw[List.take_of_length_le (by simp),lstI_isD,lstI_toD]
    simp
  have hb:borFp [Ob.cells v 1 (lstI l),Ob.res,Ob.tip 0,Ob.res] (A.own 0 v 0 l.length)=[(0,Ob.cells v 1 (lstI l))]:=by
    simp[borFp]
  simp[x_slices_Clone_int_int,startA,p1,hs,hb]
  refine⟨by unfold room;omega,by simp[resPre,resE],[0,2],rfl,⟨by decide,by simp,?_⟩,fun k hk=>?_,?_,?_,by simp[A.under,A.unders]⟩
  · simp[pickS,Ob.ren]
  · match k,hk with
    | 0,_=>exact .inl rfl
    | 1,_=>exact .inr rfl
  · simp[pickS,Ob.ren]
  · simp[resOf,resE,A.ren,A.rens,idxIn] <;> rfl
def rdM (s:Str):Nat→Option (Nat × Nat)
  | 0=>some (0,0)
  | p+1=>match rdM s p with
    | none=>none
    | some (a,b)=>if s.getD p 0=43 then some (a ||| 2 ^ p,b) else if s.getD p 0=45 then some (a,b ||| 2 ^ p) else if s.getD p 0=32 then some (a,b) else none
theorem rdM_lt {s:Str}:∀{p:Nat} {a b:Nat},rdM s p=some (a,b)→a<2 ^ p∧b<2 ^ p
  | 0,a,b,h=>by simp[rdM] at h;omega
  | p+1,a,b,h=>by
    rw[rdM] at h
    cases hm:rdM s p with
    | none=>rw[hm] at h;cases h
    | some x =>
      obtain⟨c,d⟩:=x
      rw[hm] at h
      obtain⟨h1,h2⟩:=rdM_lt hm
      have e:(2:Nat) ^ (p+1)=2 ^ p * 2:=Nat.pow_succ ..
      have hp:(2:Nat) ^ p<2 ^ (p+1):=by have:=Nat.two_pow_pos p;omega
      simp only at h
      split at h
      · cases h
        exact⟨Nat.or_lt_two_pow (by omega) hp,by omega⟩
      · split at h
        · cases h
          exact⟨by omega,Nat.or_lt_two_pow (by omega) hp⟩
        · split at h
          · cases h
            omega
          · cases h
theorem rdM_none {s:Str} {p:Nat} (h:rdM s p=none):∀q,p≤q→rdM s q=none:=by
  intro q hq
  induction q with
  | zero =>
    obtain rfl:p=0:=by omega
    exact h
  | succ q ih =>
    by_cases e:p=q+1
    · subst e;exact h
    · rw[rdM,ih (by omega)]
def noRow:RowT:=⟨false,0,[]⟩
def rowRd (s:Str) (n:Int):RowT × Bool :=
  if n<1∨32<n∨(s.length:Int)<n then (noRow,false) else match rdM s n.toNat with
    | none=>(noRow,false)
    | some (a,b)=>if a≠0∧b≠0 then (noRow,false) else (⟨decide (b≠0),((a ||| b:Nat):Int),s.drop n.toNat⟩,true)
theorem shl_one {p:Nat} (h:p<32):IntKind.u32.wrap ((2:Int) ^ min p IntKind.u32.bits)=((2 ^ p:Nat):Int):=by
  have e:min p IntKind.u32.bits=p:=Nat.min_eq_left (by show p≤32;omega)
  rw[e,show (2:Int) ^ p=((2 ^ p:Nat):Int) by push_cast;rfl,u32_wrap]
  exact Nat.lt_of_lt_of_le (Nat.pow_lt_pow_right (by omega) h) (Nat.le_refl _)
structure RowX where
  p:Nat
  a:Nat
  b:Nat
@[simp] def S_recombine_Row:List D→Prop × D:=spec2 (α:=Str) (β:=Int) (fun s _=>s.length≤1000000000) (fun s n=>.tup [Rep.to (rowRd s n).1,.bool (rowRd s n).2])
theorem ct_recombine_Row {P:Program} {f:Nat} {G:Gam} (h:CodeOf P f 2 16 [32002,3] x_recombine_Row) (hG:GamOk P G):Has P f S_recombine_Row:=h.has2 hG fun s n p1=>by
  obtain⟨R,hR⟩:∃R,rowRd s n=R:=⟨_,rfl⟩
  rw[hR]
  by_cases c1:n<1
  · have:R=(noRow,false):=by rw[← hR];unfold rowRd;rw[if_pos (.inl c1)]
    subst this
    simp[x_recombine_Row,c1,noRow]
  by_cases c2:32<n
  · have:R=(noRow,false):=by rw[← hR];unfold rowRd;rw[if_pos (.inr (.inl c2))]
    subst this
    simp[x_recombine_Row,c1,c2,noRow]
  by_cases c3:(s.length:Int)<n
  · have:R=(noRow,false):=by rw[← hR];unfold rowRd;rw[if_pos (.inr (.inr c3))]
    subst this
    simp[x_recombine_Row,c1,c2,c3,noRow]
  unfold rowRd at hR
  rw[if_neg (by omega)] at hR
  obtain⟨n,rfl⟩:=Int.eq_ofNat_of_zero_le (show 0≤n by omega)
  simp only[Int.toNat_natCast] at hR
  simp[x_recombine_Row,c1,c2,c3]
  refine vc_lp (σ:=RowX) (fun z=>z.p≤n∧rdM s z.p=some (z.a,z.b)) (fun z=>n-z.p)
    (fun z=>[.d (.str s),.d (.int .i64 n),.ref 0 0 0 0,.any,.d (.int .u32 z.a),.d (.int .u32 z.b),.any,.any,.d (.int .i64 n),.d (.int .i64 z.p),.any,.any,.any,.any,.any,.any])
    (fun z=>[.cells 0 3 [.d (.agg [.bool false,.int .u32 0,.str []])]]) ⟨0,0,0⟩ (by simp) (by simp) ⟨by simp,rfl⟩ ?_
  rintro⟨p,a,b⟩ ⟨i1,i2⟩
  simp only at i1 i2
  by_cases hk:p<n
  · have w1:IntKind.i64.wrap ((p:Int)+1)=(p:Int)+1:=wrap_in (by omega) (by omega)
    have hps:p<s.length:=by omega
    have hlt:=rdM_lt i2
    have h32:(2:Nat) ^ p≤2 ^ 31:=Nat.pow_le_pow_right (by omega) (by omega)
    have h31:(2:Nat) ^ 31=2147483648:=rfl
    have hsh:=shl_one (p:=p) (by omega)
    have hp2:((2:Int) ^ p % 2 ^ IntKind.u32.bits).toNat=2 ^ p % 2 ^ IntKind.u32.bits:=by
      rw[show (2:Int) ^ p=((2 ^ p:Nat):Int) by push_cast;rfl,show (2:Int) ^ IntKind.u32.bits=((2 ^ IntKind.u32.bits:Nat):Int) by push_cast;rfl,← Int.natCast_emod,Int.toNat_natCast]
    have o1:=orU2 (a:=a) (b:=2 ^ p) (by omega) (by omega)
    have o2:=orU2 (a:=b) (b:=2 ^ p) (by omega) (by omega)
    rw[← hp2] at o1 o2
    have hg:s[p]?=some s[p]:=List.getElem?_eq_getElem hps
    have hd:s.getD p 0=s[p]:=by simp[List.getD,hps]
    have hst:rdM s (p+1)=if s[p]=43 then some (a ||| 2 ^ p,b) else if s[p]=45 then some (a,b ||| 2 ^ p) else if s[p]=32 then some (a,b) else none:=by
      rw[rdM,i2,hd]
    have u8:∀x y:UInt8,x≠y→¬(x.toNat:Int)=(y.toNat:Int):=fun x y hne e=>hne (UInt8.toNat_inj.1 (by omega))
    have hnone:rdM s (p+1)=none→R=(noRow,false):=fun e=>by
      rw[rdM_none e n (by omega)] at hR
      exact hR.symm
    generalize hc:s[p]=c at *
    by_cases e1:c=43
    · subst e1
      rw[if_pos rfl] at hst
      simp[hk,hps,hg,hc,w1,hsh,o1]
      exact Nxt.mk ⟨p+1,a ||| 2 ^ p,b⟩ (by simp only;omega) (by simp) (by simp) ⟨by simp only;omega,hst⟩
    · have f1:=u8 c 43 e1
      rw[if_neg e1] at hst
      by_cases e2:c=45
      · subst e2
        rw[if_pos rfl] at hst
        simp[hk,hps,hg,hc,w1,hsh,o2]
        exact Nxt.mk ⟨p+1,a,b ||| 2 ^ p⟩ (by simp only;omega) (by simp) (by simp) ⟨by simp only;omega,hst⟩
      · have f2:=u8 c 45 e2
        rw[if_neg e2] at hst
        by_cases e3:c=32
        · subst e3
          rw[if_pos rfl] at hst
          simp[hk,hps,hg,hc,w1]
          exact Nxt.mk ⟨p+1,a,b⟩ (by simp only;omega) (by simp) (by simp) ⟨by simp only;omega,hst⟩
        · have f3:=u8 c 32 e3
          rw[if_neg e3] at hst
          rw[hnone hst]
          simp at f1 f2 f3
          simp[hk,hps,hg,hc,f1,f2,f3,noRow]
  · obtain rfl:p=n:=by omega
    rw[i2] at hR
    simp only at hR
    have hlt:=rdM_lt i2
    have h32:(2:Nat) ^ p≤2 ^ 32:=Nat.pow_le_pow_right (by omega) (by omega)
    have h31:(2:Nat) ^ 32=4294967296:=rfl
    have o1:=orU2 (a:=a) (b:=b) (by omega) (by omega)
    have hps:p≤s.length:=by omega
    have htk:List.take (s.length-p) (s.drop p)=s.drop p:=List.take_of_length_le (by simp)
    by_cases b1:a=0
    · rw[if_neg (by simp[b1])] at hR
      subst hR
      by_cases b2:b=0
      · subst b1 b2
        simp at o1
        simp[hps,htk,o1]
      · subst b1
        simp at o1
        simp[hps,htk,o1,b2]
    · by_cases b2:b=0
      · rw[if_neg (by simp[b2])] at hR
        subst hR
        subst b2
        simp at o1
        simp[hps,htk,o1,b1]
      · rw[if_pos ⟨b1,b2⟩] at hR
        subst hR
        simp[b1,b2,noRow]
def linesSD (s:Str):D:=if s=[] then .tup [.nilsl,.bool true] else if Lib.hasSuffix s [10]=true then .tup [Rep.to (linesS s).1,.bool true] else .tup [.nilsl,.bool false]
@[simp] def S_strict_Lines:List D→Prop × D:=spec1 (α:=Str) (fun s=>s.length≤16777216) (fun s=>linesSD s)
theorem ct_strict_Lines {P:Program} {f g1 g2:Nat} {G:Gam} (h:CodeOf P f 1 6 [1,2] (x_strict_Lines g1 g2)) (hG:GamOk P G) (h1:G.find g1=some S_strings_CutSuffix) (h2:G.find g2=some S_strings_Split):Has P f S_strict_Lines:=h.has1 hG fun s hp=>by
  by_cases c:s=[]
  · subst c
    have e:linesSD []=.tup [.nilsl,.bool true]:=rfl
    rw[e]
    simp[x_strict_Lines]
  · cases c2:Lib.hasSuffix s [10] with
    | true =>
      have hl:(cutSuf s [10]).length≤s.length:=by unfold cutSuf;split <;> simp
      have e:linesSD s=.tup [Rep.to (Lib.splitK [10] 0 (Lib.count (cutSuf s [10]) [10]) (cutSuf s [10])),.bool true]:=by
        unfold linesSD linesS
        rw[if_neg c,if_pos c2,if_neg c,if_pos c2]
      rw[e]
      simp[x_strict_Lines,c,h1,c2,h2,show s.length≤9223372036854775807 by omega,show (cutSuf s [10]).length<4294967281 by omega]
    | false =>
      have e:linesSD s=.tup [.nilsl,.bool false]:=by
        unfold linesSD
        rw[if_neg c,if_neg (by rw[c2];simp)]
      rw[e]
      simp[x_strict_Lines,c,h1,c2,show s.length≤9223372036854775807 by omega]
theorem objsL_app:∀a b:List A,A.objsL (a++b)=A.objsL a++A.objsL b
  | [],b=>by simp[A.objsL]
  | x::a,b=>by simp only[List.cons_append,A.objsL,objsL_app a b,List.append_assoc]
theorem objsL_d {α:Type} (f:α→D):∀l:List α,A.objsL (l.map fun x=>.d (f x))=[]
  | []=>rfl
  | x::l=>by simp only[List.map_cons,A.objsL,A.objs,objsL_d f l,List.nil_append]
end Go.AE
namespace Go.AE
theorem WkE.app {n:Nat} {k:List Ob} {e:Nat} {xs ys us vs:List A} (h1:WkE n k e xs ys) (h2:WkE n k e us vs):WkE n k e (xs++us) (ys++vs):=by
  obtain⟨a1,a2⟩:=h1
  obtain⟨b1,b2⟩:=h2
  refine⟨by simp[a1,b1],fun i hi=>?_⟩
  by_cases c:i<xs.length
  · have:=a2 i c
    rw[show (xs++us).getD i .any=xs.getD i .any by simp[List.getD,List.getElem?_append,c],show (ys++vs).getD i .any=ys.getD i .any by simp[List.getD,List.getElem?_append,show i<ys.length by omega]]
    exact this
  · have:=b2 (i-xs.length) (by simp at hi;omega)
    rw[show (xs++us).getD i .any=us.getD (i-xs.length) .any by simp[List.getD,List.getElem?_append,c],show (ys++vs).getD i .any=vs.getD (i-xs.length) .any by simp[List.getD,List.getElem?_append,show ¬i<ys.length by omega,a1]]
    exact this
theorem idxIn4:idxIn [0,1,2,4] 0=0∧idxIn [0,1,2,4] 1=1∧idxIn [0,1,2,4] 2=2∧idxIn [0,1,2,4] 4=3:=by decide
def FzE (l ver esz:Nat) (zs:List A) (e:Nat) (xs ys:List A):Prop:=xs.length=ys.length∧∀i,i<xs.length→((ys.getD i .any).fits e=true∧FzL l ver esz zs (xs.getD i .any).cells (ys.getD i .any).cells)
theorem FzE.app {l ver esz:Nat} {zs:List A} {e:Nat} {xs ys us vs:List A} (h1:FzE l ver esz zs e xs ys) (h2:FzE l ver esz zs e us vs):FzE l ver esz zs e (xs++us) (ys++vs):=by
  obtain⟨a1,a2⟩:=h1
  obtain⟨b1,b2⟩:=h2
  refine⟨by simp[a1,b1],fun i hi=>?_⟩
  by_cases c:i<xs.length
  · have:=a2 i c
    rw[show (xs++us).getD i .any=xs.getD i .any by simp[List.getD,List.getElem?_append,c],show (ys++vs).getD i .any=ys.getD i .any by simp[List.getD,List.getElem?_append,show i<ys.length by omega]]
    exact this
  · have:=b2 (i-xs.length) (by simp at hi;omega)
    rw[show (xs++us).getD i .any=us.getD (i-xs.length) .any by simp[List.getD,List.getElem?_append,c],show (ys++vs).getD i .any=vs.getD (i-xs.length) .any by simp[List.getD,List.getElem?_append,show ¬i<ys.length by omega,a1]]
    exact this
theorem FzE.refl {l ver esz:Nat} {zs:List A} {e:Nat} {xs:List A} (h:∀x,x∈xs→x.fits e=true):FzE l ver esz zs e xs xs :=
  ⟨rfl,fun i hi=>⟨h _ (by simp[List.getD,hi]),FzL.refl _ _ _ _ _⟩⟩
theorem FzE.one {l ver esz:Nat} {zs:List A} {e:Nat} {x y:A} (h1:y.fits e=true) (h2:FzL l ver esz zs x.cells y.cells):FzE l ver esz zs e [x] [y] :=
  ⟨rfl,fun i hi=>by
    obtain rfl:i=0:=by simp at hi;omega
    exact⟨h1,h2⟩⟩
theorem FzE.ob {l ver esz v:Nat} {zs:List A} {e:Nat} {xs ys:List A} (h:FzE l ver esz zs e xs ys):FzO l ver esz zs (.cells v e xs) (.cells v e ys):=.inr ⟨v,e,xs,ys,rfl,rfl,h.1,h.2⟩
def splitC (c:UInt8) (cur:Str):Str→List Str
  | []=>[cur]
  | x::s=>if x=c then cur::splitC c [] s else splitC c (cur++[x]) s
theorem occC (c:UInt8) (s:Str) (j:Nat):Lib.occAt s [c] j=true↔s[j]?=some c:=by
  unfold Lib.occAt
  rw[List.isPrefixOf_iff_prefix]
  constructor
  · rintro⟨t,ht⟩
    have:(s.drop j)[0]?=some c:=by rw[← ht];rfl
    simpa using this
  · intro h
    obtain⟨h1,h2⟩:=List.getElem?_eq_some_iff.1 h
    exact⟨s.drop (j+1),by rw[List.drop_eq_getElem_cons h1,h2];rfl⟩
theorem splitC_none (c:UInt8):∀(s cur:Str),(∀j:Nat,s[j]?≠some c)→splitC c cur s=[cur++s]
  | [],cur,_=>by simp[splitC]
  | x::s,cur,h=>by
    have h0:x≠c:=fun e=>h 0 (by simp[e])
    simp only[splitC,if_neg h0]
    rw[splitC_none c s (cur++[x]) fun j=>h (j+1)]
    simp
theorem splitC_some (c:UInt8):∀(s cur:Str) (i:Nat),s[i]?=some c→(∀j:Nat,j<i→s[j]?≠some c)→splitC c cur s=(cur++s.take i)::splitC c [] (s.drop (i+1))
  | [],_,i,h,_=>by simp at h
  | x::s,cur,0,h,_=>by
    simp at h
    simp[splitC,h]
  | x::s,cur,i+1,h,h2=>by
    have h0:x≠c:=fun e=>h2 0 (by omega) (by simp[e])
    simp only[splitC,if_neg h0]
    rw[splitC_some c s (cur++[x]) i (by simpa using h) fun j hj=>h2 (j+1) (by omega)]
    simp
theorem firstC (c:UInt8) (s:Str):(∀j:Nat,s[j]?≠some c)∨∃i,s[i]?=some c∧∀j:Nat,j<i→s[j]?≠some c:=by
  induction s with
  | nil=>exact .inl (by simp)
  | cons x s ih =>
    by_cases h:x=c
    · exact .inr ⟨0,by simp[h],by omega⟩
    · rcases ih with ih | ⟨i,h1,h2⟩
      · refine .inl fun j=>?_
        cases j with
        | zero=>simpa using h
        | succ j=>simpa using ih j
      · refine .inr ⟨i+1,by simpa using h1,fun j hj=>?_⟩
        cases j with
        | zero=>simpa using h
        | succ j=>simpa using h2 j (by omega)
theorem splitK_C (c:UInt8):∀(k:Nat) (s:Str),Lib.count s [c]=k→Lib.splitK [c] 0 k s=splitC c [] s:=by
  intro k
  induction k with
  | zero =>
    intro s hk
    rcases firstC c s with h | ⟨i,h1,h2⟩
    · rw[splitC_none c s [] h];rfl
    · have hi:Lib.index s [c]=i:=Lib.index_first (by have:=List.getElem?_eq_some_iff.1 h1;obtain⟨h3,_⟩:=this;omega) ((occC c s i).2 h1) fun j hj=>by
        have:=h2 j hj
        cases h3:Lib.occAt s [c] j with
        | false=>rfl
        | true=>exact absurd ((occC c s j).1 h3) this
      have:=Lib.count_hit (by simp) hi
      omega
  | succ k ih =>
    intro s hk
    rcases firstC c s with h | ⟨i,h1,h2⟩
    · have hi:Lib.index s [c]=-1:=Lib.index_none fun j hj=>by
        cases h3:Lib.occAt s [c] j with
        | false=>rfl
        | true=>exact absurd ((occC c s j).1 h3) (h j)
      have:=Lib.count_miss hi
      omega
    · have hi:Lib.index s [c]=i:=Lib.index_first (by have:=List.getElem?_eq_some_iff.1 h1;obtain⟨h3,_⟩:=this;omega) ((occC c s i).2 h1) fun j hj=>by
        have:=h2 j hj
        cases h3:Lib.occAt s [c] j with
        | false=>rfl
        | true=>exact absurd ((occC c s j).1 h3) this
      have hc:=Lib.count_hit (by simp) hi
      have hn:¬((i:Int) == -1)=true:=by simp
      simp only[Lib.splitK,hi,hn,if_false,Int.toNat_natCast,List.length_singleton]
      simp only[List.length_singleton] at hc
      rw[ih _ (by omega),splitC_some c s [] i h1 h2]
      simp
theorem splitC_len (c:UInt8):∀(s cur:Str),flen (splitC c cur s)≤cur.length+s.length∧(splitC c cur s).length≤s.length+1
  | [],cur=>by simp[splitC,flen]
  | x::s,cur=>by
    have h1:=splitC_len c s []
    have h2:=splitC_len c s (cur++[x])
    simp only[splitC]
    split
    · simp only[flen,List.flatten_cons,List.length_append,List.length_cons,List.length_nil] at *
      omega
    · simp only[List.length_append,List.length_cons,List.length_nil] at *
      omega
theorem linesS_len (s:Str):flen (linesS s).1≤s.length∧(linesS s).1.length≤s.length+1:=by
  unfold linesS
  split
  · simp[flen]
  · split
    · simp only
      rw[splitK_C 10 _ _ rfl]
      have h1:=splitC_len 10 (cutSuf s [10]) []
      have h2:(cutSuf s [10]).length≤s.length:=by unfold cutSuf;split <;> simp
      simp only[List.length_nil] at h1
      omega
    · simp[flen]
structure RsT where
  path:Str
  dense:Bool
  par:Int
  done:List CHunkT
  cur:Option CHunkT
  deriving DecidableEq
def ccP:Str:=[100,105,102,102,32,45,45,99,99,32]
def cbP:Str:=[100,105,102,102,32,45,45,99,111,109,98,105,110,101,100,32]
def parP:Str:=[112,97,114,101,110,116,115,32]
def titR (dense:Bool) (r b:Str):RsT × Bool :=
  (⟨((unqV r 0).getD ([],0)).1,dense,((numV (cutPre b parP) 0).getD (0,0)).1,[],none⟩,
    Lib.hasPrefix b parP && (unqV r 0).isSome && decide (((unqV r 0).getD ([],0)).2=r.length) && (numV (cutPre b parP) 0).isSome && decide (((numV (cutPre b parP) 0).getD (0,0)).2=(cutPre b parP).length) && decide (1≤((numV (cutPre b parP) 0).getD (0,0)).1) && decide (((numV (cutPre b parP) 0).getD (0,0)).1≤32))
def titV (a b:Str):RsT × Bool :=
  if Lib.hasPrefix a ccP=true then titR true (a.drop 10) b else if Lib.hasPrefix a cbP=true then titR false (a.drop 16) b else (⟨[],false,0,[],none⟩,false)
def wordR (sg w:Str):Option Int :=
  if Lib.hasPrefix w sg=true then (match rangeV (w.drop 1) 0 with
    | none=>none
    | some x=>if x.2.2=(w.drop 1).length then some x.1 else none) else none
def wordsR (n:Int):List Int→List Str→Option (List Int)
  | acc,[]=>some acc
  | acc,w::ws=>match wordR (if (acc.length:Int)=n then [43] else [45]) w with
    | none=>none
    | some a=>wordsR n (acc++[a]) ws
def splS (s:Str):List Str:=Lib.splitK [32] 0 (Lib.count s [32]) s
def headR (n:Nat) (line:Str):Option (List Int) :=
  if Lib.hasPrefix line (atsW n++[32])=true then
    (if Lib.hasSuffix (line.drop (n+2)) (32::atsW n)=true then wordsR n [] (splS ((line.drop (n+2)).take ((line.drop (n+2)).length-(n+2)))) else none) else none
def endRow:List RowT→List RowT
  | []=>[]
  | [x]=>[⟨x.lost,x.marks,Lib.trimSuffix x.text [10]⟩]
  | x::y::r=>x::endRow (y::r)
def lineR (x:RsT) (line:Str):Option RsT :=
  if Lib.hasPrefix line [64]=true then (match headR x.par.toNat line with
    | none=>none
    | some a=>if (a.length:Int)=x.par+1 then some ⟨x.path,x.dense,x.par,x.done++x.cur.toList,some ⟨a,[]⟩⟩ else none)
  else match x.cur with
    | none=>none
    | some h=>if line=unendL then (if h.rows=[] then none else some ⟨x.path,x.dense,x.par,x.done,some ⟨h.at_,endRow h.rows⟩⟩) else
      if (rowRd (line++[10]) x.par).2=true then some ⟨x.path,x.dense,x.par,x.done,some ⟨h.at_,h.rows++[(rowRd (line++[10]) x.par).1]⟩⟩ else none
def foldR:RsT→List Str→Option RsT
  | x,[]=>some x
  | x,l::r=>match lineR x l with
    | none=>none
    | some y=>foldR y r
def RsT.hunks (x:RsT):List CHunkT:=x.done++x.cur.toList
def parseR (l:List Str):Option CombT :=
  if l.length<2 then none else
    if (titV (l.getD 0 []) (l.getD 1 [])).2=true then (match foldR (titV (l.getD 0 []) (l.getD 1 [])).1 (l.drop 2) with
      | none=>none
      | some x=>some ⟨x.path,x.dense,x.par,x.hunks⟩)
    else none
def noC:CombT:=⟨[],false,0,[]⟩
def readC (s:Str):CombT × Int :=
  if 16777216<s.length then (noC,1) else if (linesS s).2=false then (noC,4) else
    match parseR (linesS s).1 with
    | none=>(noC,4)
    | some c=>if chkC c=0∧writC c=s then (c,0) else (noC,4)
def rwM (x:RowT):Nat:=62+x.text.length
def chunkM (n:Nat) (h:CHunkT):Nat:=47 * (n+1)+10+(h.rows.map rwM).sum
def chunksM (n:Nat) (l:List CHunkT):Nat:=(l.map (chunkM n)).sum
theorem rowW_leM (x:RowT) {n:Nat} (hn:n≤32):(rowW x n).length≤rwM x:=by
  rw[rowW_len]
  unfold rwM
  split <;> omega
theorem rowsW_leM {n:Nat} (hn:n≤32):∀l:List RowT,(l.flatMap fun r=>rowW r n).length≤(l.map rwM).sum
  | []=>by simp
  | x::r=>by
    have:=rowsW_leM hn r
    have:=rowW_leM x hn
    simp only[List.flatMap_cons,List.length_append,List.map_cons,List.sum_cons]
    omega
theorem headC_leM (h:CHunkT) (n:Nat):(headC h n).length≤47 * (n+1)+10:=by
  have h1:=ranges_len h.at_ (ctsV h.rows n) n
  have h2:=frange_len (h.at_.getD n 0) ((ctsV h.rows n).getD n 0)
  have h3:(atsW n).length=n+1:=by simp[atsW]
  unfold headC
  simp only[List.length_append,List.length_cons,List.length_nil,h3]
  omega
theorem hunkC_leM (h:CHunkT) {n:Nat} (hn:n≤32):(hunkC n h).length≤chunkM n h:=by
  have h1:=headC_leM h n
  have h2:=rowsW_leM hn h.rows
  unfold hunkC chunkM
  rw[List.length_append]
  omega
theorem hunksC_leM {n:Nat} (hn:n≤32):∀l:List CHunkT,(l.flatMap (hunkC n)).length≤chunksM n l
  | []=>by simp
  | x::r=>by
    have:=hunksC_leM hn r
    have:=hunkC_leM x hn
    simp only[List.flatMap_cons,List.length_append,chunksM,List.map_cons,List.sum_cons] at *
    omega
theorem chunksM_app (n:Nat) (a b:List CHunkT):chunksM n (a++b)=chunksM n a+chunksM n b:=by simp[chunksM]
theorem rows_leM (l:List RowT):62 * l.length≤(l.map rwM).sum:=by
  induction l with
  | nil=>simp
  | cons x r ih=>simp only[List.length_cons,List.map_cons,List.sum_cons,rwM] at *;omega
theorem chunks_leM (n:Nat) (l:List CHunkT):57 * l.length≤chunksM n l:=by
  induction l with
  | nil=>simp
  | cons x r ih=>simp only[List.length_cons,chunksM,List.map_cons,List.sum_cons,chunkM] at *;omega
theorem chunk_leM (n:Nat) {l:List CHunkT} {h:CHunkT} (hh:h∈l):chunkM n h≤chunksM n l:=by
  induction l with
  | nil=>simp at hh
  | cons x r ih =>
    simp only[chunksM,List.map_cons,List.sum_cons] at *
    rcases List.mem_cons.1 hh with rfl | hh
    · omega
    · have:=ih hh;omega
theorem endRow_spec:∀l:List RowT,((endRow l).map rwM).sum≤(l.map rwM).sum∧(endRow l).length=l.length∧∀y,y∈endRow l→∃x,x∈l∧y.marks=x.marks∧y.text.length≤x.text.length
  | []=>⟨Nat.le_refl _,rfl,fun y hy=>by simp[endRow] at hy⟩
  | [x]=>by
    have:(Lib.trimSuffix x.text [10]).length≤x.text.length:=by unfold Lib.trimSuffix;split <;> simp
    refine⟨by simp[endRow,rwM];omega,rfl,fun y hy=>?_⟩
    simp[endRow] at hy
    subst hy
    exact⟨x,by simp,rfl,this⟩
  | x::y::r=>by
    obtain⟨h1,h2,h3⟩:=endRow_spec (y::r)
    refine⟨?_,by simp[endRow,h2],fun z hz=>?_⟩
    · simp only[endRow,List.map_cons,List.sum_cons] at *
      omega
    · rw[endRow] at hz
      rcases List.mem_cons.1 hz with rfl | hz
      · exact⟨z,by simp,rfl,Nat.le_refl _⟩
      · obtain⟨u,hu,h4,h5⟩:=h3 z hz
        exact⟨u,List.mem_cons_of_mem _ hu,h4,h5⟩
def RsT.M (x:RsT):Nat:=chunksM x.par.toNat x.hunks
structure RsOk (x:RsT) (N:Nat):Prop where
  m:x.M≤N
  none:x.cur=Option.none→x.done=[]
  oks:∀h,h∈x.hunks→h.at_.length≤33∧RowsOk h.rows
  path:x.path.length≤1048576
  p1:1≤x.par
  p2:x.par≤32
theorem rowRd_ok {s:Str} {n:Int} (hs:s.length≤4194304):rowOk (rowRd s n).1∧(rowRd s n).1.text.length≤s.length:=by
  have h0:rowOk noRow∧noRow.text.length≤s.length:=⟨⟨by simp[noRow],by simp[noRow]⟩,by simp[noRow]⟩
  unfold rowRd
  split
  · exact h0
  · rename_i c
    split
    · exact h0
    · rename_i a b hm
      split
      · exact h0
      · obtain⟨h1,h2⟩:=rdM_lt hm
        have h3:(2:Nat) ^ n.toNat≤2 ^ 32:=Nat.pow_le_pow_right (by omega) (by omega)
        have h4:a ||| b<2 ^ 32:=Nat.or_lt_two_pow (by omega) (by omega)
        refine⟨⟨by simp only;omega,by simp only;omega⟩,by simp⟩
theorem head_lenR {n:Nat} {line:Str} {a:List Int} (h:headR n line=some a):n+2≤line.length:=by
  unfold headR at h
  split at h
  · rename_i c
    unfold Lib.hasPrefix at c
    have:=(List.isPrefixOf_iff_prefix.1 c).length_le
    simp[atsW] at this
    omega
  · cases h
theorem RsOk.step {x y:RsT} {N:Nat} {line:Str} (h:RsOk x N) (hs:lineR x line=some y) (hl:line.length≤1048576):RsOk y (N+63+47 * line.length):=by
  unfold lineR at hs
  split at hs
  · split at hs
    · cases hs
    · rename_i a ha
      split at hs
      · rename_i hal
        cases hs
        refine⟨?_,by simp,fun g hg=>?_,h.path,h.p1,h.p2⟩
        · have:=h.m
          have:=head_lenR ha
          simp only[RsT.M,RsT.hunks,Option.toList_some,chunksM_app] at *
          simp[chunksM,chunkM] at *
          omega
        · simp only[RsT.hunks,Option.toList_some,List.mem_append,List.mem_singleton] at hg
          rcases hg with hg | rfl
          · exact h.oks g (by simpa [RsT.hunks] using hg)
          · have:=h.p2
            exact⟨by simp only;omega,fun r hr=>by simp at hr⟩
      · cases hs
  · cases hc:x.cur with
    | none=>rw[hc] at hs;cases hs
    | some c =>
      rw[hc] at hs
      simp only at hs
      have hm:=h.m
      have hco:=h.oks c (by simp[RsT.hunks,hc])
      split at hs
      · split at hs
        · cases hs
        · cases hs
          obtain⟨e1,e2,e3⟩:=endRow_spec c.rows
          refine⟨?_,by simp,fun g hg=>?_,h.path,h.p1,h.p2⟩
          · simp only[RsT.M,RsT.hunks,hc,Option.toList_some,chunksM_app] at *
            simp[chunksM,chunkM] at *
            omega
          · simp only[RsT.hunks,Option.toList_some,List.mem_append,List.mem_singleton] at hg
            rcases hg with hg | rfl
            · exact h.oks g (by simp[RsT.hunks,hg])
            · refine⟨hco.1,fun r hr=>?_⟩
              obtain⟨u,hu,h4,h5⟩:=e3 r hr
              have:=hco.2 u hu
              exact⟨by unfold rowOk;rw[h4];exact this.1,by omega⟩
      · split at hs
        · cases hs
          obtain⟨r1,r2⟩:=rowRd_ok (s:=line++[10]) (n:=x.par) (by simp;omega)
          rw[List.length_append,List.length_singleton] at r2
          generalize (rowRd (line++[10]) x.par).1=R at *
          refine⟨?_,by simp,fun g hg=>?_,h.path,h.p1,h.p2⟩
          · simp only[RsT.M,RsT.hunks,hc,Option.toList_some,chunksM_app] at *
            simp[chunksM,chunkM,rwM] at *
            omega
          · simp only[RsT.hunks,Option.toList_some,List.mem_append,List.mem_singleton] at hg
            rcases hg with hg | rfl
            · exact h.oks g (by simp[RsT.hunks,hg])
            · refine⟨hco.1,fun r hr=>?_⟩
              simp only[List.mem_append,List.mem_singleton] at hr
              rcases hr with hr | rfl
              · exact hco.2 r hr
              · exact⟨r1,by omega⟩
        · cases hs
theorem foldR_ok:∀(R:List Str) (x y:RsT) (N:Nat),RsOk x N→foldR x R=some y→flen R≤1048576→RsOk y (N+63 * R.length+47 * flen R)
  | [],x,y,N,h,hf,_=>by
    simp only[foldR,Option.some.injEq] at hf
    subst hf
    simpa [flen] using h
  | l::R,x,y,N,h,hf,hl=>by
    simp only[foldR] at hf
    have e:flen (l::R)=l.length+flen R:=by simp[flen]
    rw[e] at hl
    cases hs:lineR x l with
    | none=>rw[hs] at hf;cases hf
    | some z =>
      rw[hs] at hf
      have:=foldR_ok R z y _ (h.step hs (by omega)) hf (by omega)
      rw[e,List.length_cons]
      rw[show N+63 * (R.length+1)+47 * (l.length+flen R)=N+63+47 * l.length+63 * R.length+47 * flen R by omega]
      exact this
theorem unq_len {s:Str} {x:Str × Nat} (h:unqV s 0=some x):x.1.length≤s.length:=by
  unfold unqV at h
  split at h
  · cases h
  · split at h
    · cases h
      have:=(wordV_rng (s:=s) (i:=(0:Int).toNat) (by simp)).2.2
      simp at this ⊢
      omega
    · cases h
theorem titR_ok {dense:Bool} {r b:Str} (h:(titR dense r b).2=true) (hr:r.length≤1048576):RsOk (titR dense r b).1 0:=by
  unfold titR at *
  simp only[Bool.and_eq_true,decide_eq_true_eq] at h
  refine⟨by simp[RsT.M,RsT.hunks,chunksM],fun _=>rfl,fun g hg=>by simp[RsT.hunks] at hg,?_,h.1.2,h.2⟩
  cases hu:unqV r 0 with
  | none=>simp
  | some x =>
    have:=unq_len hu
    simp only[Option.getD_some]
    omega
theorem titV_ok {a b:Str} (h:(titV a b).2=true) (ha:a.length≤1048576):RsOk (titV a b).1 0:=by
  unfold titV at *
  split
  · rename_i c
    rw[if_pos c] at h
    exact titR_ok h (by simp;omega)
  · rename_i c
    rw[if_neg c] at h
    split
    · rename_i c2
      rw[if_pos c2] at h
      exact titR_ok h (by simp;omega)
    · rename_i c2
      rw[if_neg c2] at h
      cases h
theorem RsOk.comb {x:RsT} {N:Nat} (h:RsOk x N) (hN:N≤900000000):CombOk ⟨x.path,x.dense,x.par,x.hunks⟩:=by
  have hm:=h.m
  have hp:=h.path
  have h2:=h.p2
  have hw:=hunksC_leM (n:=x.par.toNat) (by omega) x.hunks
  have hn:=chunks_leM x.par.toNat x.hunks
  have hq:=quote_len x.path
  have hf:=fmt_len x.par
  simp only[RsT.M] at hm
  refine⟨by simp only;omega,hp,fun g hg=>?_,?_⟩
  · have hg:g∈x.hunks:=hg
    obtain⟨q1,q2⟩:=h.oks g hg
    have:=chunk_leM x.par.toNat hg
    have:=rows_leM g.rows
    unfold chunkM at *
    exact⟨by omega,by omega,q2⟩
  · have ht:(titleW ⟨x.path,x.dense,x.par,x.hunks⟩).length≤50+(quoteV x.path).length+(fmtV x.par).length:=by
      unfold titleW
      simp only[List.length_append,List.length_cons,List.length_nil]
      split <;> simp <;> omega
    unfold writC
    rw[List.length_append]
    simp only
    omega
theorem parseR_ok {l:List Str} {c:CombT} (h:parseR l=some c) (h1:flen l≤1048576) (h2:l.length≤1048577):CombOk c:=by
  unfold parseR at h
  split at h
  · cases h
  · rename_i hlen
    split at h
    · rename_i ht
      have g0:(l.getD 0 []).length≤flen l:=by
        have:=mem_flat_le (l:=l) (i:=0) (by omega)
        have e:l.getD 0 []=l[0]:=by simp[List.getD,show 0<l.length by omega]
        unfold flen
        rw[e]
        omega
      have hfr:flen (l.drop 2)≤1048576:=by have:=flen_take l 2;omega
      have hlr:(l.drop 2).length=l.length-2:=by simp
      have h0:=titV_ok ht (by omega)
      generalize titV (l.getD 0 []) (l.getD 1 [])=a at *
      split at h
      · cases h
      · rename_i x hx
        cases h
        exact (foldR_ok _ _ _ 0 h0 hx (by omega)).comb (by omega)
    · cases h
def cutRows (t:TableT) (s:SpanT):List RowT:=(t.rows.drop s.fr.toNat).take (s.to.toNat-s.fr.toNat)
def cutH (t:TableT) (s:SpanT):CHunkT:=⟨ctsV (t.rows.take s.fr.toNat) t.parents.toNat,cutRows t s⟩
def cutC (path:Str) (t:TableT) (l:List SpanT) (dense:Bool):CombT:=⟨path,dense,t.parents,l.map (cutH t)⟩
theorem cut_mem {t:TableT} {s:SpanT} {r:RowT} (h:r∈cutRows t s):r∈t.rows:=List.mem_of_mem_drop (List.mem_of_mem_take h)
theorem cfV_split (rows:List RowT) (n p:Nat) {a b:Nat} (h:a≤b):cfV (rows.take b) n p=cfV (rows.take a) n p+cfV ((rows.drop a).take (b-a)) n p:=by
  have:rows.take b=rows.take a++(rows.drop a).take (b-a):=by
    rw[show b=a+(b-a) by omega,List.take_add]
    simp
  rw[this]
  unfold cfV
  rw[List.countP_append]
theorem cfV_mono (rows:List RowT) (n p:Nat) {a b:Nat} (h:a≤b):cfV (rows.take a) n p≤cfV (rows.take b) n p:=by
  rw[cfV_split rows n p h]
  omega
theorem cfV_le (rows:List RowT) (n p a:Nat):cfV (rows.take a) n p≤cfV rows n p:=by
  unfold cfV
  conv=>rhs;rw[← List.take_append_drop a rows,List.countP_append]
  omega
theorem cts_zip (a b:List RowT) (n:Nat):(ctsV a n).zipWith (·+·) (ctsV b n)=(List.range (n+1)).map fun p=>((cfV b n p+cfV a n p:Nat):Int):=by
  rw[ctsV_eq,ctsV_eq,List.zipWith_map,List.zipWith_self]
  apply List.map_congr_left
  intro p _
  push_cast
  omega
theorem fol_cut {t:TableT} {s:SpanT} {e:Nat} (he:e≤s.fr.toNat) (hf:s.fr.toNat<s.to.toNat) (hl:s.to.toNat≤t.rows.length) (hc:∀p,cfV t.rows t.parents.toNat p≤4096) :
    folV (cutH t s) t.parents.toNat (ctsV (t.rows.take e) t.parents.toNat)=some (ctsV (t.rows.take s.to.toNat) t.parents.toNat):=by
  generalize hn:t.parents.toNat=n at *
  have hne:cutRows t s≠[]:=by
    intro h
    have:=congrArg List.length h
    unfold cutRows at this
    simp at this
    omega
  unfold folV
  rw[if_neg (by simp[cutH,ctsV_len,hn,hne])]
  have ha:atOk (cutH t s).at_ (ctsV (t.rows.take e) n)=true:=by
    rw[ats_get _ _ (by simp[cutH,ctsV_len,hn])]
    intro k hk
    simp only[cutH,hn,ctsV_len] at hk ⊢
    rw[ctsV_get _ (by omega),ctsV_get _ (by omega)]
    have h1:=cfV_mono t.rows n k he
    have h2:=cfV_le t.rows n k s.fr.toNat
    have h3:=hc k
    omega
  rw[if_pos ha]
  simp only[cutH,hn]
  rw[cts_zip,ctsV_eq]
  congr 1
  apply List.map_congr_left
  intro p _
  rw[cfV_split t.rows n p (Nat.le_of_lt hf)]
  rfl
/-! ### what may follow what -/
theorem ends_mono:∀(rows:List RowT) (res res':Bool) (par par':Nat),(res'=true→res=true)→(∀p,par'.testBit p=true→par.testBit p=true)→endsB res par rows=true→endsB res' par' rows=true
  | [],_,_,_,_,_,_,_=>rfl
  | r::rs,res,res',par,par',h1,h2,h=>by
    simp only[endsB,Bool.and_eq_true,decide_eq_true_eq] at h ⊢
    obtain⟨⟨a,b⟩,c⟩:=h
    refine⟨⟨?_,?_⟩,ends_mono rs _ _ _ _ ?_ ?_ c⟩
    · apply Nat.eq_of_testBit_eq
      intro p
      have:=congrArg (fun x=>Nat.testBit x p) a
      simp only[Nat.testBit_and,Nat.zero_testBit] at this ⊢
      cases hp:par'.testBit p with
      | false=>simp
      | true=>rw[h2 p hp] at this;simpa using this
    · cases hr:res' with
      | false=>simp
      | true=>rw[h1 hr] at b;simpa using b
    · intro hr
      rw[Bool.or_eq_true] at hr ⊢
      rcases hr with hr | hr
      · exact .inl (h1 hr)
      · exact .inr hr
    · intro p hp
      split at hp
      · rename_i he
        rw[if_pos he]
        exact h2 p hp
      · rename_i he
        rw[if_neg he,Nat.testBit_or,Bool.or_eq_true]
        rw[Nat.testBit_or,Bool.or_eq_true] at hp
        rcases hp with hp | hp
        · exact .inl (h2 p hp)
        · exact .inr hp
theorem ends_drop:∀(a b:List RowT) (res:Bool) (par:Nat),endsB res par (a++b)=true→endsB res par b=true
  | [],_,_,_,h=>h
  | r::a,b,res,par,h=>by
    simp only[List.cons_append,endsB,Bool.and_eq_true] at h
    refine ends_mono b _ _ _ _ ?_ ?_ (ends_drop a b _ _ h.2)
    · intro h;simp[h]
    · intro p hp
      split
      · exact hp
      · rw[Nat.testBit_or,hp];rfl
theorem ads_of:∀(a b:List RowT) (res:Bool) (par:Nat),(∀r,r∈a→lineB r.text=true)→endsB res par (a++b)=true→∃res' par',adsV res par a=some (res',par')∧endsB res' par' b=true
  | [],_,res,par,_,h=>⟨res,par,rfl,h⟩
  | r::a,b,res,par,hl,h=>by
    simp only[List.cons_append,endsB,Bool.and_eq_true] at h
    have h1:=ads_of a b _ _ (fun x hx=>hl x (by simp[hx])) h.2
    have ho:(lineB r.text && endsOk res par r)=true:=by
      rw[hl r (by simp)]
      simp only[endsOk,Bool.true_and,Bool.and_eq_true]
      exact h.1
    rw[adsV,if_pos ho]
    exact h1
theorem well_cut {t:TableT} (hc:∀p,cfV t.rows t.parents.toNat p≤4096) (hl:∀r,r∈t.rows→lineB r.text=true):∀(l:List SpanT) (e:Nat) (res:Bool) (par:Nat),ordC t.rows.length e l=true→endsB res par (t.rows.drop e)=true →
    ∃k,wellC t.parents.toNat res par (ctsV (t.rows.take e) t.parents.toNat) (l.map (cutH t))=some (ctsV (t.rows.take k) t.parents.toNat)
  | [],e,_,_,_,_=>⟨e,rfl⟩
  | s::l,e,res,par,ho,hb=>by
    simp only[ordC,Bool.and_eq_true,Bool.not_eq_true',Bool.or_eq_false_iff,decide_eq_false_iff_not] at ho
    obtain⟨⟨⟨o1,o2⟩,o3⟩,o4⟩:=ho
    rw[show s.to=((s.to.toNat:Nat):Int) by omega] at o4
    have hfol:=fol_cut (t:=t) (s:=s) (e:=e) (by omega) (by omega) (by omega) hc
    have e1:t.rows.drop e=(t.rows.drop e).take (s.fr.toNat-e)++t.rows.drop s.fr.toNat:=by
      conv=>lhs;rw[← List.take_append_drop (s.fr.toNat-e) (t.rows.drop e)]
      rw[List.drop_drop,show e+(s.fr.toNat-e)=s.fr.toNat by omega]
    have e2:t.rows.drop s.fr.toNat=cutRows t s++t.rows.drop s.to.toNat:=by
      conv=>lhs;rw[← List.take_append_drop (s.to.toNat-s.fr.toNat) (t.rows.drop s.fr.toNat)]
      rw[List.drop_drop,show s.fr.toNat+(s.to.toNat-s.fr.toNat)=s.to.toNat by omega]
      rfl
    rw[e1] at hb
    have hb:=ends_drop _ _ _ _ hb
    rw[e2] at hb
    obtain⟨res',par',h1,h2⟩:=ads_of _ _ _ _ (fun r hr=>hl r (cut_mem hr)) hb
    obtain⟨k,hk⟩:=well_cut hc hl l s.to.toNat res' par' o4 h2
    refine⟨k,?_⟩
    rw[List.map_cons,wellC,hfol]
    simp only
    have h1:adsV res par (cutH t s).rows=some (res',par'):=h1
    rw[h1]
    exact hk
theorem maxV_le {l:List Int} {m:Int} (h0:l≠[]) (h:∀x,x∈l→x≤m):maxV l≤m:=by
  have:∀(l:List Int) (a:Int),a≤m→(∀x,x∈l→x≤m)→l.foldl max a≤m:=by
    intro l
    induction l with
    | nil=>intro a ha _;exact ha
    | cons x r ih =>
      intro a ha hx
      have:=hx x (by simp)
      exact ih (max a x) (by omega) fun y hy=>hx y (by simp[hy])
  cases l with
  | nil=>exact absurd rfl h0
  | cons a r=>exact this r a (h a (by simp)) fun x hx=>h x (by simp[hx])
structure TabS (t:TableT) (n L B:Nat):Prop where
  par:t.parents=n
  n1:1≤n
  n2:n≤32
  valid:checkTab t=0
  ok:tabOk t
  cols:∀p,p≤n→cfV t.rows n p≤L
  texts:∀r,r∈t.rows→r.text.length≤B
  l1:L≤25
  b1:B≤100
theorem TabS.marks {t:TableT} {n L B:Nat} (h:TabS t n L B):t.rows.all (markB n)=true:=by
  have hv:=h.valid
  unfold checkTab at hv
  rw[h.par,Int.toNat_natCast] at hv
  split at hv
  · cases hv
  · split at hv
    · rename_i c;rwa [marksB_all] at c
    · cases hv
theorem TabS.ends {t:TableT} {n L B:Nat} (h:TabS t n L B):(∀r,r∈t.rows→lineB r.text=true)∧endsB false 0 t.rows=true:=by
  have hm:=h.marks
  have hv:=h.valid
  unfold checkTab at hv
  rw[h.par,Int.toNat_natCast] at hv
  split at hv
  · cases hv
  · split at hv
    · split at hv
      · rename_i c
        rw[texts_ends h.ok.2.1 hm h.n2,Bool.and_eq_true,List.all_eq_true] at c
        exact c
      · cases hv
    · cases hv
theorem cfV_far (rows:List RowT) {n p:Nat} (hp:n≤p):cfV rows n p=cfV rows n n:=by
  unfold cfV visN
  simp only[if_neg (show ¬p<n by omega),if_neg (show ¬n<n by omega)]
theorem TabS.cols' {t:TableT} {n L B:Nat} (h:TabS t n L B) (p:Nat):cfV t.rows t.parents.toNat p≤4096:=by
  have hl:=h.l1
  rw[h.par,Int.toNat_natCast]
  by_cases hp:p≤n
  · have:=h.cols p hp;omega
  · rw[cfV_far _ (show n≤p by omega)]
    have:=h.cols n (Nat.le_refl _);omega
theorem row_seen {r:RowT} {n:Nat} (ho:rowOk r) (h:markB n r=true) (hn:n≤32):∃p,p≤n∧visN n r p=true:=by
  cases hl:r.lost with
  | false=>exact⟨n,Nat.le_refl _,by unfold visN;rw[if_neg (by omega),hl];rfl⟩
  | true =>
    unfold markB at h
    rw[hl] at h
    simp only[Bool.not_true,Bool.false_or,Bool.and_eq_true,decide_eq_true_eq] at h
    obtain⟨h1,h2⟩:=h
    have h3:r.marks.toNat≠0:=by have:=ho.1;omega
    obtain⟨p,hp⟩:=Nat.exists_testBit_of_ne_zero h3
    have hpn:p<n:=by
      apply Classical.byContradiction
      intro hc
      rw[Nat.testBit_lt_two_pow (Nat.lt_of_lt_of_le h1 (Nat.pow_le_pow_right (by omega) (by omega)))] at hp
      cases hp
    refine⟨p,by omega,?_⟩
    unfold visN
    rw[if_pos hpn,← inN_bit ho (by omega)]
    unfold inN
    rw[hl,if_pos rfl]
    exact hp
def sumTo (f:Nat→Nat):Nat→Nat
  | 0=>0
  | k+1=>sumTo f k+f k
theorem sumTo_add (f g:Nat→Nat):∀k,sumTo (fun p=>f p+g p) k=sumTo f k+sumTo g k
  | 0=>rfl
  | k+1=>by simp only[sumTo,sumTo_add f g k];omega
theorem sumTo_le (f:Nat→Nat) {L:Nat}:∀k,(∀p,p<k→f p≤L)→sumTo f k≤L * k
  | 0,_=>Nat.le_refl _
  | k+1,h=>by
    have:=sumTo_le f k fun p hp=>h p (by omega)
    have:=h k (by omega)
    simp only[sumTo,Nat.mul_succ]
    omega
theorem sumTo_one (f:Nat→Nat) {p:Nat}:∀k,p<k→f p≤sumTo f k
  | 0,h=>by omega
  | k+1,h=>by
    by_cases e:p=k
    · subst e;simp only[sumTo];omega
    · have:=sumTo_one f k (p:=p) (by omega)
      simp only[sumTo]
      omega
theorem rows_seen:∀(rows:List RowT) (n:Nat),n≤32→(∀r,r∈rows→rowOk r)→rows.all (markB n)=true→rows.length≤sumTo (cfV rows n) (n+1)
  | [],_,_,_,_=>by simp
  | r::rs,n,hn,ho,hm=>by
    simp only[List.all_cons,Bool.and_eq_true] at hm
    have ih:=rows_seen rs n hn (fun x hx=>ho x (by simp[hx])) hm.2
    obtain⟨p,hp,hv⟩:=row_seen (ho r (by simp)) hm.1 hn
    have e:cfV (r::rs) n=fun q=>cfV rs n q+(if visN n r q=true then 1 else 0):=by
      funext q
      unfold cfV
      rw[List.countP_cons]
    rw[e,sumTo_add]
    have:=sumTo_one (fun q=>if visN n r q=true then 1 else 0) (n+1) (p:=p) (by omega)
    simp only[hv,if_true] at this
    rw[List.length_cons]
    omega
theorem TabS.len {t:TableT} {n L B:Nat} (h:TabS t n L B):t.rows.length≤L * (n+1) :=
  Nat.le_trans (rows_seen t.rows n h.n2 h.ok.2.1 h.marks) (sumTo_le _ _ fun p hp=>h.cols p (by omega))
/-! ### how great the diff is -/
theorem rowsM_le {B:Nat}:∀l:List RowT,(∀r,r∈l→r.text.length≤B)→(l.map rwM).sum≤(62+B) * l.length
  | [],_=>by simp
  | x::r,h=>by
    have:=rowsM_le r fun y hy=>h y (by simp[hy])
    have:=h x (by simp)
    simp only[List.map_cons,List.sum_cons,List.length_cons,rwM,Nat.mul_succ]
    omega
theorem ord_len {N:Nat}:∀(l:List SpanT) (e:Nat),ordC N e l=true→e≤N→l.length≤N-e∧(∀s,s∈l→(e:Int)≤s.fr∧s.fr<s.to∧s.to≤N)∧(l.map fun s=>s.to.toNat-s.fr.toNat).sum≤N-e
  | [],e,_,_=>by simp
  | s::l,e,h,he=>by
    simp only[ordC,Bool.and_eq_true,Bool.not_eq_true',Bool.or_eq_false_iff,decide_eq_false_iff_not] at h
    obtain⟨⟨⟨o1,o2⟩,o3⟩,o4⟩:=h
    rw[show s.to=((s.to.toNat:Nat):Int) by omega] at o4
    obtain⟨i1,i2,i3⟩:=ord_len l s.to.toNat o4 (by omega)
    refine⟨by simp;omega,fun x hx=>?_,by simp only[List.map_cons,List.sum_cons];omega⟩
    rcases List.mem_cons.1 hx with rfl | hx
    · omega
    · have:=i2 x hx;omega
theorem chunks_cut {t:TableT} {n B:Nat} (hB:∀r,r∈t.rows→r.text.length≤B):∀l:List SpanT,chunksM n (l.map (cutH t))≤(47 * (n+1)+10) * l.length+(62+B) * (l.map fun s=>s.to.toNat-s.fr.toNat).sum
  | []=>by simp[chunksM]
  | s::l=>by
    have h1:=chunks_cut (n:=n) hB l
    have h2:=rowsM_le (B:=B) (cutRows t s) fun r hr=>hB r (cut_mem hr)
    have h3:(cutRows t s).length≤s.to.toNat-s.fr.toNat:=by simp[cutRows];omega
    have h4:=Nat.mul_le_mul_left (62+B) h3
    simp only[chunksM,List.map_cons,List.sum_cons,chunkM,List.length_cons,Nat.mul_succ,Nat.mul_add] at *
    have h5:(cutH t s).rows=cutRows t s:=rfl
    rw[h5]
    omega
theorem title_len (c:CombT):(titleW c).length≤80+4 * c.path.length:=by
  have hq:=quote_len c.path
  have hf:=fmt_len c.parents
  unfold titleW
  simp only[List.length_append,List.length_cons,List.length_nil]
  split <;> simp <;> omega
structure CutG (path:Str) (t:TableT) (l:List SpanT) (dense:Bool):Prop where
  named:namedB path=true
  plen:path.length≤1000
  ok:tabOk t
  valid:checkTab t=0
  p1:1≤t.parents
  p2:t.parents≤32
  len:l.length≤1000000
  ord:ordC t.rows.length 0 l=true
  comb:CombOk (cutC path t l dense)
  chk:chkC (cutC path t l dense)=0
theorem TabS.cut {t:TableT} {n L B:Nat} (h:TabS t n L B) {path:Str} (hn:namedB path=true) (hp:path.length≤1000) {l:List SpanT} (ho:ordC t.rows.length 0 l=true) (dense:Bool) :
    CutG path t l dense∧(writC (cutC path t l dense)).length≤80+4 * path.length+(47 * (n+1)+10) * l.length+(62+B) * t.rows.length:=by
  have hlen:=h.len
  have hn1:=h.n1
  have hn2:=h.n2
  have hL:=h.l1
  have hB:=h.b1
  obtain⟨o1,o2,o3⟩:=ord_len (N:=t.rows.length) l 0 ho (by omega)
  have hrl:t.rows.length≤825:=Nat.le_trans hlen (Nat.mul_le_mul hL (show n+1≤33 by omega))
  have hw:(writC (cutC path t l dense)).length≤80+4 * path.length+(47 * (n+1)+10) * l.length+(62+B) * t.rows.length:=by
    have h1:=title_len (cutC path t l dense)
    have h2:=hunksC_leM (n:=n) hn2 (l.map (cutH t))
    have h3:=chunks_cut (n:=n) h.texts l
    have h4:=Nat.mul_le_mul_left (62+B) (show (l.map fun s=>s.to.toNat-s.fr.toNat).sum≤t.rows.length by omega)
    unfold writC
    rw[List.length_append]
    have e1:(cutC path t l dense).parents.toNat=n:=by show t.parents.toNat=n;rw[h.par];simp
    have e2:(cutC path t l dense).hunks=l.map (cutH t):=rfl
    have e3:(cutC path t l dense).path=path:=rfl
    rw[e1,e2]
    rw[e3] at h1
    omega
  have hsm:(writC (cutC path t l dense)).length≤2000000:=by
    have h1:=Nat.mul_le_mul (show 47 * (n+1)+10≤1561 by omega) (show l.length≤825 by omega)
    have h2:=Nat.mul_le_mul (show 62+B≤162 by omega) hrl
    omega
  obtain⟨e1,e2⟩:=h.ends
  have hpar:=h.par
  have hform:formB (cutC path t l dense)=true:=by
    obtain⟨k,hk⟩:=well_cut h.cols' e1 l 0 false 0 ho (by simpa using e2)
    have hz:ctsV (t.rows.take 0) t.parents.toNat=List.replicate (t.parents.toNat+1) 0:=by
      rw[ctsV_eq,List.take_zero]
      have:((fun p=>((cfV [] t.parents.toNat p:Nat):Int)):Nat→Int)=fun _=>0:=by funext p;simp[cfV]
      rw[this,List.map_const',List.length_range]
    rw[hz] at hk
    unfold formB
    have hk:wellC (cutC path t l dense).parents.toNat false 0 (List.replicate ((cutC path t l dense).parents.toNat+1) 0) (cutC path t l dense).hunks=some (ctsV (t.rows.take k) t.parents.toNat):=hk
    rw[hk]
    simp only[decide_eq_true_eq]
    refine maxV_le (by intro h;have:=congrArg List.length h;rw[ctsV_len] at this;simp at this) fun x hx=>?_
    rw[ctsV_eq] at hx
    obtain⟨p,_,rfl⟩:=List.mem_map.1 hx
    have h1:=cfV_le t.rows t.parents.toNat p k
    have h2:=h.cols' p
    omega
  have hmark:markC (cutC path t l dense)=true:=by
    have hm:=h.marks
    rw[List.all_eq_true] at hm
    unfold markC cutC
    simp only[List.all_eq_true]
    intro u hu r hr
    obtain⟨s,_,rfl⟩:=List.mem_map.1 hu
    rw[hpar,Int.toNat_natCast]
    exact hm r (cut_mem hr)
  refine⟨⟨hn,hp,h.ok,h.valid,by omega,by omega,by omega,ho,⟨by simp[cutC];omega,by show path.length≤1048576;omega,fun u hu=>?_,by omega⟩,?_⟩,hw⟩
  · obtain⟨s,_,rfl⟩:=List.mem_map.1 hu
    refine⟨?_,?_,fun r hr=>⟨h.ok.2.1 r (cut_mem hr),?_⟩⟩
    · simp only[cutH,cutRows,List.length_take,List.length_drop];omega
    · simp only[cutH,ctsV_len];omega
    · have:=h.texts r (cut_mem hr);omega
  · unfold chkC
    have hp1:(cutC path t l dense).parents=n:=hpar
    have hp2:(cutC path t l dense).path=path:=rfl
    rw[hp2,if_neg (by rw[hn];simp),if_neg (by rw[hp1];omega),if_neg (by rw[hmark];simp),if_neg (by rw[hform];simp),if_neg (by omega)]
structure CcX where
  t:TableT
  e:Nat
  to:Nat
  l:List Int
  v:Nat
def obTab:Ob→TableT
  | .cells _ _ (x::_)=>(Rep.of x.toD).getD ⟨0,[]⟩
  | _=>⟨0,[]⟩
@[simp] theorem obTab_to (t:TableT) (v e:Nat):obTab (.cells v e [.d (Rep.to t)])=t:=by
  simp only[obTab,A.toD,Rep.of_to,Option.getD_some]
@[simp] theorem obTab_agg (n:Int) (rows:List RowT) (v e:Nat):obTab (.cells v e [.d (.agg [.int .i64 n,.sl 3 (rows.map Rep.to)])])=⟨n,rows⟩:=obTab_to ⟨n,rows⟩ v e
def sliT (t:TableT) (a b:Nat):List RowT:=(t.rows.drop a).take (b-a)
def addL (l:List Int) (r:List RowT) (n:Nat):List Int:=(List.range (n+1)).map fun p=>l.getD p 0+(cfV r n p:Int)
@[simp] def F_combined_Cut_1:RF CcX where
  new:=0
  view a s:=⟨obTab (s.getD 0 .dead),((s.getD 1 .dead).at 0 0).gi.toNat,(a.getD 0 .any).gi.toNat,(s.getD 3 .dead).intsA,(s.getD 3 .dead).ver⟩
  args x:=[.d (.int .i64 x.to),.ref 0 0 0 0,.ref 1 0 0 0,.ref 2 0 0 0]
  st x:=[.cells 0 2 [.d (Rep.to x.t)],.cells 0 1 [.d (.int .i64 x.e)],.cells 0 1 [.own 3 x.v 0 x.l.length],.cells x.v 1 (lstI x.l)]
  pre x:=x.t.rows.length≤1048576∧x.e≤x.to∧x.to≤x.t.rows.length∧1≤x.t.parents∧x.t.parents≤32∧x.l.length=x.t.parents.toNat+1∧∀z,z∈x.l→0≤z∧z≤2000000000
  res x:=.tup []
  st' x:=[.cells 0 2 [.d (Rep.to x.t)],.cells 0 1 [.d (.int .i64 x.to)],.cells 0 1 [.own 3 x.v 0 x.l.length],.cells x.v 1 (lstI (addL x.l (sliT x.t x.e x.to) x.t.parents.toNat))]
abbrev R_combined_Cut_1:RSpec:=F_combined_Cut_1.spec
theorem lstI_cell {l:List Int} {n:Nat} (h:l.length=n+1):lstI l=cellI (fun p=>l.getD p 0) n:=by
  rw[cellI_l]
  congr 1
  apply List.ext_getElem (by simp[h])
  intro i h1 h2
  simp[List.getD,show i<l.length from h1]
theorem ct_combined_Cut_1 {P:Program} {f g1:Nat} {G:Gam} (hc:CodeOf P f 4 10 [] (x_combined_Cut_1 g1)) (hG:GamOk P G) (h1:G.findR g1=some R_combined_counts):RSpec.Ok P f R_combined_Cut_1:=by
  refine RF.ok hc.call fun x hx=>hc.rcalls hG rfl ?_
  obtain⟨⟨par,rows⟩,e,to,l,v⟩:=x
  obtain⟨p1,p2,p3,p4,p5,p6,p7⟩:=hx
  simp only at p1 p2 p3 p4 p5 p6 p7
  obtain⟨n,rfl⟩:=Int.eq_ofNat_of_zero_le (show 0≤par by omega)
  simp only[Int.toNat_natCast] at p6
  have hsl:(sliT ⟨n,rows⟩ e to).length=to-e:=by simp[sliT];omega
  have hcl:=lstI_cell p6
  have hsm:List.take (to-e) (List.drop e (rows.map Rep.to))=(sliT ⟨n,rows⟩ e to).map Rep.to:=by simp[sliT,List.map_take,List.map_drop]
  obtain⟨S,hS⟩:∃S,S=sliT ⟨n,rows⟩ e to:=⟨_,rfl⟩
  rw[← hS] at hsl hsm
  simp only[F_combined_Cut_1,← hS,Int.toNat_natCast]
  rw[hcl,p6]
  obtain⟨F,hF⟩:∃F:Nat→Nat→Int,F=fun k p=>if p<k then l.getD p 0+(cfV S n p:Int) else l.getD p 0:=⟨_,rfl⟩
  have hF0:cellI (fun p=>l.getD p 0) n=cellI (F 0) n:=cellI_congr fun p _=>by rw[hF];simp
  rw[hF0]
  simp[x_combined_Cut_1,startA,p2,p3,hsm,eRCall,h1,show n≤32 by omega,hsl,show to-e≤1000000000 by omega]
  have hcb:∀p,cfV S n p≤1048576:=fun p=>by
    have:cfV S n p≤S.length:=List.countP_le_length
    omega
  have hlb:∀p,p≤n→0≤l.getD p 0∧l.getD p 0≤2000000000:=fun p hp=>by
    have e:l.getD p 0=l[p]'(by omega):=by simp[List.getD,show p<l.length by omega]
    rw[e]
    exact p7 _ (List.getElem_mem _)
  refine vc_lp (σ:=Nat) (fun k=>k≤n+1) (fun k=>n+1-k)
    (fun k=>[.d (.int .i64 to),.ref 0 0 0 0,.ref 1 0 0 0,.ref 2 0 0 0,.any,.any,.own 4 0 0 (n+1),.d (.int .i64 (n+1)),.d (.int .i64 k),.any])
    (fun k=>[.cells 0 2 [.d (.agg [.int .i64 n,.sl 3 (rows.map Rep.to)])],.cells 0 1 [.d (.int .i64 e)],.cells 0 1 [.own 3 v 0 (n+1)],.cells v 1 (cellI (F k) n),.cells 0 1 (cellN (cfV S n) n)]) 0 (by simp) (by simp) (by simp) ?_
  intro k k1
  by_cases hk:k<n+1
  · have w1:IntKind.i64.wrap ((k:Int)+1)=(k:Int)+1:=wrap_in (by omega) (by omega)
    have hFk:F k k=l.getD k 0:=by rw[hF];simp
    have hg:=cellI_get (F k) (n:=n) (p:=k) (by omega)
    have hg2:=cellN_get (cfV S n) (n:=n) (p:=k) (by omega)
    have hb:=hlb k (by omega)
    have hc:=hcb k
    rw[hFk] at hg
    have hset:=cellI_set (F k) (n:=n) (p:=k) (by omega) (l.getD k 0+(cfV S n k:Int))
    have hcn:cellI (fun q=>if q=k then l.getD k 0+(cfV S n k:Int) else F k q) n=cellI (F (k+1)) n:=cellI_congr fun q hq=>by
      rw[hF]
      simp only
      by_cases e:q=k
      · subst e;rw[if_pos rfl,if_pos (by omega)]
      · rw[if_neg e]
        by_cases e2:q<k
        · rw[if_pos e2,if_pos (by omega)]
        · rw[if_neg e2,if_neg (by omega)]
    rw[hcn] at hset
    generalize l.getD k 0=z at *
    have w3:IntKind.i64.wrap (z+(cfV S n k:Int))=z+(cfV S n k:Int):=wrap_in (by omega) (by omega)
    simp[show (k:Int)<(n:Int)+1 by omega,hk,hg,hg2,hFk,w3,hset,w1]
    exact Nxt.mk (k+1) (by omega) (by simp) (by simp) (by omega)
  · obtain rfl:k=n+1:=by omega
    have hend:cellI (F (n+1)) n=lstI (addL l S n):=by
      rw[cellI_l]
      congr 1
      apply List.map_congr_left
      intro p hp
      have:=List.mem_range.1 hp
      rw[hF]
      simp only
      rw[if_pos this]
    rw[hend]
    simp
    exact FinR.done (by simp) (by simp) rfl (by simp[resOf,resE]) (by simp) (by simp)
@[simp] def S_combined_Cut:List D→Prop × D:=spec4 (α:=Str) (β:=TableT) (γ:=List SpanT) (δ:=Bool) (fun path t l dense=>CutG path t l dense) (fun path t l dense=>.tup [Rep.to (cutC path t l dense),.int .i64 0])
@[simp] theorem objsL_lstI (l:List Int):A.objsL (lstI l)=[]:=objsL_d (fun z=>D.int .i64 z) l
theorem addL_cts (rows:List RowT) (n:Nat) (t:TableT) (ht:t.rows=rows) {a b:Nat} (h:a≤b):addL (ctsV (rows.take a) n) (sliT t a b) n=ctsV (rows.take b) n:=by
  unfold addL sliT
  rw[ctsV_eq (rows.take b),ht]
  apply List.map_congr_left
  intro p hp
  have hp:=List.mem_range.1 hp
  rw[ctsV_get _ (by omega),cfV_split rows n p h]
  push_cast
  rfl
theorem cts_zero (n:Nat):List.replicate (n+1) (A.d (.int .i64 0))=lstI (ctsV [] n):=by
  rw[cellN_zero,cellN_I,cellI_l,ctsV_eq]
  rfl
theorem cts_rng (rows:List RowT) (n:Nat) (hr:rows.length≤1048576):∀z,z∈ctsV rows n→0≤z∧z≤2000000000:=by
  intro z hz
  rw[ctsV_eq] at hz
  obtain⟨p,_,rfl⟩:=List.mem_map.1 hz
  have:cfV rows n p≤rows.length:=List.countP_le_length
  omega
structure CutX where
  i:Nat
  e:Nat
theorem ct_combined_Cut {P:Program} {f g1 g2 g3 g4 g5 g6 g7:Nat} {G:Gam} (h:CodeOf P f 4 22 [42005,6] (x_combined_Cut g1 g2 g3 g4 g5 g6 g7)) (hG:GamOk P G) (h1:G.find g1=some S_combined_named) (h2:G.find g2=some S_weave_Check) (h3:G.find g3=some S_combined_ordered) (h4:G.find g4=some S_slices_Clone_Row_Row) (h5:G.find g5=some S_combined_Check)
    (h6:G.findR g6=some R_slices_Clone_int_int) (h7:G.findR g7=some R_combined_Cut_1):Has P f S_combined_Cut:=h.has4 hG fun path t l dense hp=>by
  obtain⟨c1,c2,c3,c4,c5,c6,c7,c8,c9,c10⟩:=hp
  obtain⟨par,rows⟩:=t
  simp only at c5 c6 c8
  obtain⟨n,hn⟩:=Int.eq_ofNat_of_zero_le (show 0≤par by omega)
  subst hn
  have w0:IntKind.i64.wrap ((n:Int)+1)=(n:Int)+1:=wrap_in (by omega) (by omega)
  have e0:((n:Int)+1).toNat=n+1:=by omega
  obtain⟨H,hH⟩:∃H,l.map (cutH ⟨n,rows⟩)=H:=⟨_,rfl⟩
  have hCe:cutC path ⟨n,rows⟩ l dense=⟨path,dense,n,H⟩:=by rw[← hH];rfl
  rw[hCe] at c9 c10 ⊢
  simp[x_combined_Cut,h1,c1,h2,c3,c4,h3,c8,c7,w0,e0]
  have hrl:rows.length≤1048576:=c3.1
  refine⟨by omega,⟨by omega,by unfold room;omega,by omega⟩,?_⟩
  rw[cts_zero]
  obtain⟨hsF,hhs⟩:∃hsF:Nat→List CHunkT,∀k,hsF k=(l.take k).map (cutH ⟨n,rows⟩):=⟨_,fun _=>rfl⟩
  have hsl:∀k,k≤l.length→(hsF k).length=k:=fun k hk=>by rw[hhs];simp;omega
  refine vc_lpR (σ:=CutX) (fun z=>z.i≤l.length∧z.e≤rows.length∧ordC rows.length z.e (l.drop z.i)=true) (fun z=>l.length-z.i)
    (fun z=>[.any,.any,.any,.any,.ref 0 0 0 0,.ref 1 0 0 0,.any,.any,.ref 2 0 0 0,.ref 4 0 0 0,.any,.fn (.func g7) [] [.ref 0 0 0 0,.ref 5 0 0 0,.ref 4 0 0 0],.any,.any,.any,.any,.any,.d (.sl 2 (l.map Rep.to)),.d (.int .i64 l.length),.d (.int .i64 z.i),.any,.any])
    (fun z=>[.cells 0 2 [.d (.agg [.int .i64 n,.sl 3 (rows.map Rep.to)])],.cells 0 4 [.d (.agg [.str [],.bool false,.int .i64 0,.nilsl])],.cells 0 4 [.agg [.d (.str path),.d (.bool dense),.d (.int .i64 n),.gr 6 2 ((hsF z.i).map Rep.to)]],.cells 0 1 (lstI (ctsV (rows.take z.e) n)),.cells 0 1 [.own 3 0 0 (n+1)],.cells 0 1 [.d (.int .i64 z.e)],.tip z.i]) ⟨0,0⟩ ?_ ⟨by simp,by simp,by simpa using c8⟩ ?_
  · refine Re.wn (s':=[.cells 0 2 [.d (.agg [.int .i64 n,.sl 3 (rows.map Rep.to)])],.cells 0 4 [.d (.agg [.str [],.bool false,.int .i64 0,.nilsl])],.cells 0 4 [.agg [.d (.str path),.d (.bool dense),.d (.int .i64 n),.gr 6 2 []]],.cells 0 1 (lstI (ctsV [] n)),.cells 0 1 [.own 3 0 0 (n+1)],.cells 0 1 [.d (.int .i64 0)]]) [false,false,false,false,true,true,false,false,true,true,false,true,false,false,false,false,false,true,true,true] [.tip 0] (by simp) (by simp) ?_ ?_ (by simp[hhs])
    · simp
    · exact⟨.inl rfl,.inl rfl,.cellsL ⟨⟨rfl,⟨Wk.refl _ _ _,Wk.refl _ _ _,Wk.refl _ _ _,Wk.fresh 6 [.tip 0] 2 0 rfl,trivial⟩⟩,trivial⟩,.inl rfl,.inl rfl,.inl rfl,trivial⟩
  rintro⟨i,e⟩ ⟨i1,i2,i3⟩
  simp only at i1 i2 i3
  by_cases hi:i<l.length
  · have w1:IntKind.i64.wrap ((i:Int)+1)=(i:Int)+1:=wrap_in (by omega) (by omega)
    have hgi:l[i]?=some l[i]:=List.getElem?_eq_getElem hi
    have hnx:hsF (i+1)=hsF i++[cutH ⟨n,rows⟩ l[i]]:=by rw[hhs,hhs,List.take_succ_eq_append_getElem hi,List.map_append];rfl
    rw[List.drop_eq_getElem_cons hi] at i3
    simp only[ordC,Bool.and_eq_true,Bool.not_eq_true',Bool.or_eq_false_iff,decide_eq_false_iff_not] at i3
    obtain⟨⟨⟨o1,o2⟩,o3⟩,o4⟩:=i3
    have hsi:=hsl i (by omega)
    generalize hs:l[i]=s at *
    obtain⟨fr,to⟩:=s
    simp only at o1 o2 o3 o4
    obtain⟨a,rfl⟩:=Int.eq_ofNat_of_zero_le (show 0≤fr by omega)
    obtain⟨b,rfl⟩:=Int.eq_ofNat_of_zero_le (show 0≤to by omega)
    have a1:=addL_cts rows n ⟨n,rows⟩ rfl (a:=e) (b:=a) (by omega)
    have a2:=addL_cts rows n ⟨n,rows⟩ rfl (a:=a) (b:=b) (by omega)
    have hr1:=cts_rng (rows.take e) n (by simp;omega)
    have hr2:=cts_rng (rows.take a) n (by simp;omega)
    have hl1:=ctsV_len (rows.take e) n
    have hl2:=ctsV_len (rows.take a) n
    have hcut:cutH ⟨n,rows⟩ ⟨a,b⟩=⟨ctsV (rows.take a) n,sliT ⟨n,rows⟩ a b⟩:=rfl
    rw[hcut] at hnx
    have hsll:(sliT ⟨n,rows⟩ a b).length=b-a:=by simp[sliT];omega
    have hsm:List.take (b-a) (List.drop a (rows.map Rep.to))=(sliT ⟨n,rows⟩ a b).map Rep.to:=by simp[sliT,List.map_take,List.map_drop]
    have hne:sliT ⟨n,rows⟩ a b≠[]:=fun h=>by rw[h] at hsll;simp at hsll;omega
    generalize hX:ctsV (rows.take e) n=X at *
    generalize hY:ctsV (rows.take a) n=Y at *
    generalize hS:sliT ⟨n,rows⟩ a b=S at *
    have d1:e≤a:=by omega
    have d2:a≤b:=by omega
    have d3:a≤rows.length:=by omega
    have d4:b≤rows.length:=by omega
    simp[hi,hgi,hs,eCallv,eRCall,h7,hrl,hl1,hl2,d1,d2,d3,d4,c5,c6,hr1,hr2,a1,a2,h6,h4,hne,hsm,hsll,hS,w1]
    refine⟨hr1,by omega,by omega,⟨by omega,by unfold room;omega⟩,hr2,Nxt.mk ⟨i+1,b⟩ (by simp only;omega) (by simp) (by simp[hnx]) ⟨by simp only;omega,by simp only;omega,o4⟩⟩
  · obtain rfl:i=l.length:=by omega
    have hall:hsF l.length=H:=by rw[hhs,List.take_length,hH]
    rw[hall]
    simp
    refine Hint.of (T':=[.any,.any,.any,.any,.any,.ref 1 0 0 0,.any,.any,.ref 2 0 0 0,.any,.any,.any,.any,.any,.any,.any,.any,.any,.any,.any,.any,.any])
      (s':=[.cells 0 2 [.d (.agg [.int .i64 n,.sl 3 (rows.map Rep.to)])],.cells 0 4 [.d (.agg [.str [],.bool false,.int .i64 0,.nilsl])],.cells 0 4 [.d (.agg [.str path,.bool dense,.int .i64 n,.sl 2 (H.map Rep.to)])],.cells 0 1 (lstI (ctsV (rows.take e) n)),.cells 0 1 [.own 3 0 0 (n+1)],.cells 0 1 [.d (.int .i64 e)],.tip l.length])
      (Re.wn (s':=[.cells 0 2 [.d (.agg [.int .i64 n,.sl 3 (rows.map Rep.to)])],.cells 0 4 [.d (.agg [.str [],.bool false,.int .i64 0,.nilsl])],.cells 0 4 [.d (.agg [.str path,.bool dense,.int .i64 n,.sl 2 (H.map Rep.to)])],.cells 0 1 (lstI (ctsV (rows.take e) n)),.cells 0 1 [.own 3 0 0 (n+1)],.cells 0 1 [.d (.int .i64 e)],.tip l.length]) [false,false,false,false,false,true,false,false,true] [] (by simp) (by simp) (by simp) ⟨.inl rfl,.inl rfl,.cellsL ⟨⟨rfl,⟨Wk.refl _ _ _,Wk.refl _ _ _,Wk.refl _ _ _,Wk.gr _ _ _ _ _,trivial⟩⟩,trivial⟩,.inl rfl,.inl rfl,.inl rfl,.inl rfl,trivial⟩ (by simp)) ?_
    simp[h5,c9,c10]
theorem cfV_col (rows:List RowT) {n p:Nat} (hp:p<n):cfV rows n p=(colV rows p).length:=by
  unfold cfV colV
  rw[List.length_map,List.countP_eq_length_filter]
  congr 1
  apply List.filter_congr
  intro r _
  unfold visN
  rw[if_pos hp]
theorem cfV_res (rows:List RowT) (n:Nat):cfV rows n n=(colV rows (-1)).length:=by
  unfold cfV colV
  rw[List.length_map,List.countP_eq_length_filter]
  congr 1
  apply List.filter_congr
  intro r _
  unfold visN
  rw[if_neg (by omega),vis_res]
theorem make_tabS {r:Str} {ps:List Str} {B L:Nat} (h:Small r ps B) (hL:L≤25) (h1:(linesV r).length≤L) (h2:∀p,p∈ps→(linesV p).length≤L) (hB:B * (((B+1) * ps.length+1) * (B+2))≤4194304):TabS (makeV r ps) ps.length L B where
  par:=rfl
  n1:=h.n1
  n2:=h.n2
  valid:=make_valid h
  ok:=make_tabOk h hB
  cols p hp:=by
    by_cases c:p<ps.length
    · rw[cfV_col _ c,make_col h c]
      exact h2 _ (List.getElem_mem c)
    · obtain rfl:p=ps.length:=by omega
      rw[cfV_res,make_res]
      exact h1
  texts x hx:=(make_text h hx).2
  l1:=hL
  b1:=h.b1
theorem ord_of {n:Int}:∀(l:List SpanT) (e:Int),(∀s,s∈l→e≤s.fr∧s.fr<s.to∧s.to≤n)→l.Pairwise (fun s t=>s.to<t.fr)→ordC n e l=true
  | [],_,_,_=>rfl
  | s::l,e,h,hp=>by
    obtain⟨h1,h2,h3⟩:=h s (by simp)
    obtain⟨p1,p2⟩:=List.pairwise_cons.1 hp
    have ih:=ord_of l s.to (fun t ht=>by
      have a:=p1 t ht
      have b:=h t (by simp[ht])
      exact⟨by omega,b.2.1,b.2.2⟩) p2
    simp only[ordC,ih,Bool.and_true,Bool.not_eq_true',Bool.or_eq_false_iff,decide_eq_false_iff_not]
    exact⟨⟨by omega,by omega⟩,by omega⟩
theorem hunks_ord (t:TableT) (c:Int) (all:Bool):ordC t.rows.length 0 (hunksV t c all)=true:=by
  have h:=spV_ok (nearB (intV t all) c) t.rows.length
  refine ord_of _ _ (fun s hs=>?_) h.asc
  obtain⟨h1,h2,h3,_⟩:=h.rng s hs
  exact⟨h1,h2,h3⟩
def fullSp (t:TableT):List SpanT:=if t.rows=[] then [] else [⟨0,t.rows.length⟩]
theorem full_ord (t:TableT):ordC t.rows.length 0 (fullSp t)=true:=by
  unfold fullSp
  split
  · rfl
  · rename_i c
    have:=List.length_pos_iff.2 c
    simp[ordC]
    omega
def fullC (path r:Str) (ps:List Str):CombT:=cutC path (makeV r ps) (fullSp (makeV r ps)) false
def madeC (path r:Str) (ps:List Str) (c:Int) (dense:Bool):CombT:=cutC path (makeV r ps) (hunksV (makeV r ps) c (!dense)) dense
structure SmlC (r:Str) (ps:List Str) (B L:Nat):Prop where
  small:Small r ps B
  l0:L≤25
  l1:(linesV r).length≤L
  l2:∀p,p∈ps→(linesV p).length≤L
  b:B * (((B+1) * ps.length+1) * (B+2))≤4194304
theorem SmlC.tab {r:Str} {ps:List Str} {B L:Nat} (h:SmlC r ps B L):TabS (makeV r ps) ps.length L B:=make_tabS h.small h.l0 h.l1 h.l2 h.b
theorem SmlC.full {r:Str} {ps:List Str} {B L:Nat} (h:SmlC r ps B L) {path:Str} (hn:namedB path=true) (hp:path.length≤1000):CutG path (makeV r ps) (fullSp (makeV r ps)) false∧(writC (fullC path r ps)).length≤800000:=by
  obtain⟨h1,h2⟩:=h.tab.cut hn hp (full_ord (makeV r ps)) false
  refine⟨h1,?_⟩
  have hl:=h.tab.len
  have hs:(fullSp (makeV r ps)).length≤1:=by unfold fullSp;split <;> simp
  have h3:=Nat.mul_le_mul h.l0 (show ps.length+1≤33 by have:=h.small.n2;omega)
  have h4:=Nat.mul_le_mul (show 62+B≤162 by have:=h.small.b1;omega) (show (makeV r ps).rows.length≤825 by omega)
  have h5:=Nat.mul_le_mul (show 47 * (ps.length+1)+10≤1561 by have:=h.small.n2;omega) hs
  unfold fullC
  omega
theorem SmlC.made {r:Str} {ps:List Str} {B L:Nat} (h:SmlC r ps B L) {path:Str} (hn:namedB path=true) (hp:path.length≤1000) (c:Int) (dense:Bool) (hps:ps.length≤5):CutG path (makeV r ps) (hunksV (makeV r ps) c (!dense)) dense∧(writC (madeC path r ps c dense)).length≤800000:=by
  have ho:=hunks_ord (makeV r ps) c (!dense)
  obtain⟨h1,h2⟩:=h.tab.cut hn hp ho dense
  refine⟨h1,?_⟩
  have hl:=h.tab.len
  obtain⟨o1,_,_⟩:=ord_len (N:=(makeV r ps).rows.length) _ 0 ho (by omega)
  have h3:=Nat.mul_le_mul h.l0 (show ps.length+1≤6 by omega)
  have h4:=Nat.mul_le_mul (show 62+B≤162 by have:=h.small.b1;omega) (show (makeV r ps).rows.length≤150 by omega)
  have h5:=Nat.mul_le_mul (show 47 * (ps.length+1)+10≤292 by omega) (show (hunksV (makeV r ps) c (!dense)).length≤150 by omega)
  unfold madeC
  omega
theorem small_make {r:Str} {ps:List Str} {B:Nat} (h:Small r ps B):makeD r ps=.tup [Rep.to (makeV r ps),.int .i64 0]:=by
  have:=h.n1
  have:=h.n2
  unfold makeD
  rw[if_neg (by omega)]
structure FullG (path r:Str) (ps:List Str):Prop where
  named:namedB path=true
  plen:path.length≤1000
  sml:SmlC r ps 24 25
@[simp] def S_combined_Full:List D→Prop × D:=spec3 (α:=Str) (β:=Str) (γ:=List Str) (fun path r ps=>FullG path r ps) (fun path r ps=>.tup [Rep.to (fullC path r ps),.int .i64 0])
theorem ct_combined_Full {P:Program} {f g1 g2 g3:Nat} {G:Gam} (h:CodeOf P f 3 11 [42003,4] (x_combined_Full g1 g2 g3)) (hG:GamOk P G) (h1:G.find g1=some S_combined_named) (h2:G.find g2=some S_weave_Make) (h3:G.find g3=some S_combined_Cut):Has P f S_combined_Full:=h.has3 hG fun path r ps hp=>by
  obtain⟨p1,p2,p3⟩:=hp
  have hm:=small_make p3.small
  have hc:=(p3.full p1 p2).1
  have q1:r.length≤100:=by have:=p3.small.hr;omega
  have q2:∀p,p∈ps→p.length≤100:=fun p hp=>by have:=p3.small.hp p hp;omega
  have hrl:=p3.tab.ok.1
  have hfc:fullC path r ps=cutC path (makeV r ps) (fullSp (makeV r ps)) false:=rfl
  have hfs:fullSp (makeV r ps)=if (makeV r ps).rows=[] then [] else [⟨0,(makeV r ps).rows.length⟩]:=rfl
  rw[hfc]
  generalize makeV r ps=t at *
  have hte:∀l d,CutG path ⟨t.parents,t.rows⟩ l d=CutG path t l d:=fun _ _=>rfl
  have hce:∀l d,cutC path ⟨t.parents,t.rows⟩ l d=cutC path t l d:=fun _ _=>rfl
  generalize hC:cutC path t (fullSp t) false=C at *
  by_cases c:t.rows=[]
  · rw[if_pos c] at hfs
    rw[hfs] at hC hc
    have he:(⟨t.parents,[]⟩:TableT)=t:=by rw[← c]
    have hte2:∀l d,CutG path ⟨t.parents,[]⟩ l d=CutG path t l d:=fun _ _=>by rw[he]
    have hce2:∀l d,cutC path ⟨t.parents,[]⟩ l d=cutC path t l d:=fun _ _=>by rw[he]
    simp[x_combined_Full,h1,p1,h2,q1,hm,c,h3,hte2,hce2,hc,hC]
    exact q2
  · rw[if_neg c] at hfs
    rw[hfs] at hC hc
    have hl:=List.length_pos_iff.2 c
    simp[x_combined_Full,h1,p1,h2,q1,q2,hm,c,hl,h3,hte,hc,hce,hC]
    exact q2
/-! ### a text and its lines -/
def joinC (c:UInt8):List Str→Str
  | []=>[]
  | [w]=>w
  | w::v::r=>w++c::joinC c (v::r)
theorem splitC_word (c:UInt8):∀(w cur s:Str),c ∉ w→splitC c cur (w++s)=splitC c (cur++w) s
  | [],cur,s,_=>by simp
  | x::w,cur,s,h=>by
    have h1:x≠c:=fun e=>h (by simp[e])
    have h2:c ∉ w:=fun e=>h (by simp[e])
    simp only[List.cons_append,splitC,if_neg h1]
    rw[splitC_word c w (cur++[x]) s h2]
    simp
theorem splitC_join (c:UInt8):∀(ws:List Str),ws≠[]→(∀w,w∈ws→c ∉ w)→splitC c [] (joinC c ws)=ws
  | [],h,_=>absurd rfl h
  | [w],_,h=>by
    have:=splitC_word c w [] [] (h w (by simp))
    simp only[List.append_nil,List.nil_append] at this
    rw[joinC,this]
    rfl
  | w::v::r,_,h=>by
    have h1:=splitC_word c w [] (c::joinC c (v::r)) (h w (by simp))
    have h2:=splitC_join c (v::r) (by simp) fun x hx=>h x (by simp at hx ⊢;exact .inr hx)
    rw[joinC,h1,splitC,if_pos rfl,h2]
    simp
theorem join_end (c:UInt8):∀ws:List Str,ws≠[]→ws.flatMap (fun w=>w++[c])=joinC c ws++[c]
  | [],h=>absurd rfl h
  | [w],_=>by simp[joinC]
  | w::v::r,_=>by
    have:=join_end c (v::r) (by simp)
    rw[List.flatMap_cons,this,joinC]
    simp
theorem join_begin (c:UInt8):∀ws:List Str,ws≠[]→ws.flatMap (fun w=>c::w)=c::joinC c ws
  | [],h=>absurd rfl h
  | [w],_=>by simp[joinC]
  | w::v::r,_=>by
    have:=join_begin c (v::r) (by simp)
    rw[List.flatMap_cons,this,joinC]
    simp
theorem splS_join {ws:List Str} (h0:ws≠[]) (h:∀w,w∈ws→(32:UInt8) ∉ w):splS (joinC 32 ws)=ws:=by
  unfold splS
  rw[splitK_C 32 _ _ rfl,splitC_join 32 ws h0 h]
theorem linesS_join {ws:List Str} (h0:ws≠[]) (h:∀w,w∈ws→(10:UInt8) ∉ w):linesS (ws.flatMap fun w=>w++[10])=(ws,true):=by
  rw[join_end 10 ws h0]
  have hs:Lib.hasSuffix (joinC 10 ws++[10]) [10]=true:=by
    rw[hasSuffix_ended]
    simp[endedV]
  have hc:cutSuf (joinC 10 ws++[10]) [10]=joinC 10 ws:=by
    unfold cutSuf
    rw[if_pos hs]
    simp
  unfold linesS
  rw[if_neg (by simp),if_pos hs,hc,splitK_C 10 _ _ rfl,splitC_join 10 ws h0 h]
/-! ### a row -/
def mkB (r:RowT) (p:Nat):UInt8:=if getU r.marks p=1 then (if r.lost then 45 else 43) else 32
theorem markW_get (r:RowT):∀(n p:Nat) (s:Str),p<n→(markW r n++s).getD p 0=mkB r p
  | 0,_,_,h=>by omega
  | n+1,p,s,h=>by
    have hl:=markW_len r n
    by_cases e:p=n
    · subst e
      rw[markW,List.append_assoc]
      simp only[List.getD]
      rw[List.getElem?_append_right (by omega),hl]
      simp[mkB]
    · rw[markW,List.append_assoc]
      exact markW_get r n p _ (by omega)
theorem mod_pow_succ (m p:Nat):m % 2 ^ (p+1)=m % 2 ^ p ||| (if m.testBit p=true then 2 ^ p else 0):=by
  apply Nat.eq_of_testBit_eq
  intro q
  rw[Nat.testBit_or,Nat.testBit_mod_two_pow,Nat.testBit_mod_two_pow]
  by_cases e:q=p
  · subst e
    cases h:m.testBit q with
    | true=>simp[Nat.testBit_two_pow_self]
    | false=>simp
  · have h1:(if m.testBit p=true then 2 ^ p else 0).testBit q=false:=by
      split
      · rw[Nat.testBit_two_pow];simp;omega
      · simp
    rw[h1,Bool.or_false]
    have h2:decide (q<p+1)=decide (q<p):=by rw[decide_eq_decide];omega
    rw[h2]
theorem rdM_mark {r:RowT} {m:Nat} (hm:r.marks=m) (hlt:m<4294967296) (s:Str) {n:Nat} (hn:n≤32):∀p,p≤n→rdM (markW r n++s) p=some (if r.lost=true then (0,m % 2 ^ p) else (m % 2 ^ p,0))
  | 0,_=>by
    rw[rdM,Nat.pow_zero,Nat.mod_one]
    cases r.lost <;> rfl
  | p+1,hp=>by
    have ih:=rdM_mark hm hlt s hn p (by omega)
    have hg:=markW_get r n p s (by omega)
    have hs:=mod_pow_succ m p
    have hb:=getU_nat (m:=m) (p:=p) hlt (by omega)
    rw[rdM,ih,hg]
    unfold mkB
    rw[hm,hb]
    cases hl:r.lost with
    | true =>
      cases ht:m.testBit p with
      | true =>
        rw[ht] at hs
        simp only[if_true] at hs ⊢
        rw[hs]
        simp
      | false =>
        rw[ht] at hs
        simp only[Bool.false_eq_true,if_false,Nat.or_zero] at hs ⊢
        rw[hs]
        simp
    | false =>
      cases ht:m.testBit p with
      | true =>
        rw[ht] at hs
        simp only[if_true] at hs ⊢
        rw[hs]
        simp
      | false =>
        rw[ht] at hs
        simp only[Bool.false_eq_true,if_false,Nat.or_zero] at hs ⊢
        rw[hs]
        simp
theorem rowRd_mark {r:RowT} {n:Nat} (hr:rowOk r) (hm:markB n r=true) (h1:1≤n) (h2:n≤32) (s:Str):rowRd (markW r n++s) n=(⟨r.lost,r.marks,s⟩,true):=by
  obtain⟨m,hmm⟩:=Int.eq_ofNat_of_zero_le hr.1
  have hlt:m<4294967296:=by have:=hr.2;omega
  have hl:=markW_len r n
  unfold markB at hm
  rw[hmm,Bool.and_eq_true] at hm
  obtain⟨m1,m2⟩:=hm
  simp only[Int.toNat_natCast,decide_eq_true_eq] at m1
  have hd:=rdM_mark hmm hlt s h2 n (Nat.le_refl _)
  rw[Nat.mod_eq_of_lt m1] at hd
  unfold rowRd
  rw[if_neg (by simp[hl];omega),Int.toNat_natCast,hd]
  have hdr:(markW r n++s).drop n=s:=by rw[List.drop_append_of_le_length (by omega),List.drop_of_length_le (by omega)];rfl
  cases hlo:r.lost with
  | true =>
    rw[hlo] at m2
    have hm0:m≠0:=by simpa using m2
    simp[hm0,hdr,hmm]
  | false=>simp[hdr,hmm]
def rowL (n:Nat) (r:RowT):List Str:=if endedV r.text=true then [markW r n++r.text.dropLast] else [markW r n++r.text,unendL]
theorem unendS_eq:unendS=10::(unendL++[10]):=rfl
theorem ended_last {s:Str} (h:endedV s=true):s=s.dropLast++[10]:=by
  unfold endedV at h
  rw[decide_eq_true_eq] at h
  have hne:s≠[]:=by intro e;subst e;simp at h
  have:=List.dropLast_concat_getLast hne
  rw[List.getLast?_eq_some_getLast hne] at h
  rw[Option.some.inj h] at this
  exact this.symm
theorem rowW_lines (n:Nat) (r:RowT):rowW r n=(rowL n r).flatMap fun w=>w++[10]:=by
  unfold rowW rowL
  by_cases h:endedV r.text=true
  · rw[if_pos h,if_pos h]
    have:=ended_last h
    simp only[List.flatMap_cons,List.flatMap_nil,List.append_nil,List.append_assoc]
    rw[← this]
  · rw[if_neg h,if_neg h,unendS_eq]
    simp
theorem markW_free (r:RowT) (n:Nat):(10:UInt8) ∉ markW r n:=by
  induction n with
  | zero=>simp[markW]
  | succ n ih =>
    rw[markW,List.mem_append]
    rintro (h | h)
    · exact ih h
    · rw[List.mem_singleton] at h
      split at h
      · split at h <;> exact absurd h (by decide)
      · exact absurd h (by decide)
theorem okL_free {s:Str} (h:okL s=true) (he:endedV s=false):(10:UInt8) ∉ s:=by
  unfold okL at h
  rw[decide_eq_true_eq] at h
  obtain⟨h1,h2⟩:=h
  have h3:=List.dropLast_concat_getLast h1
  intro hc
  rw[← h3,List.mem_append] at hc
  rcases hc with hc | hc
  · exact h2 hc
  · rw[List.mem_singleton] at hc
    unfold endedV at he
    rw[List.getLast?_eq_some_getLast h1,← hc] at he
    simp at he
theorem rowL_free {r:RowT} {n:Nat} (h:lineB r.text=true):∀w,w∈rowL n r→(10:UInt8) ∉ w:=by
  intro w hw
  have hm:=markW_free r n
  have h:okL r.text=true:=h
  unfold rowL at hw
  split at hw
  · rw[List.mem_singleton] at hw
    subst hw
    rw[List.mem_append]
    unfold okL at h
    rw[decide_eq_true_eq] at h
    rintro (hc | hc)
    · exact hm hc
    · exact h.2 hc
  · rename_i he
    have hf:=okL_free h (by simpa using he)
    simp only[List.mem_cons,List.not_mem_nil,or_false] at hw
    rcases hw with rfl | rfl
    · rw[List.mem_append]
      rintro (hc | hc)
      · exact hm hc
      · exact hf hc
    · decide
theorem markW_head (r:RowT) {n:Nat} (hn:1≤n) (s:Str):∃b t,markW r n++s=b::t∧(b=43∨b=45∨b=32):=by
  have h:=markW_get r n 0 s (by omega)
  have hl:=markW_len r n
  cases hm:markW r n++s with
  | nil =>
    have:=congrArg List.length hm
    simp[hl] at this
    omega
  | cons b t =>
    rw[hm] at h
    refine⟨b,t,rfl,?_⟩
    simp at h
    rw[h]
    unfold mkB
    split
    · split
      · exact .inr (.inl rfl)
      · exact .inl rfl
    · exact .inr (.inr rfl)
theorem trim_ten (s:Str):Lib.trimSuffix (s++[10]) [10]=s:=by
  have hs:Lib.hasSuffix (s++[10]) [10]=true:=by
    rw[hasSuffix_ended]
    simp[endedV]
  unfold Lib.trimSuffix
  rw[if_pos hs]
  simp
theorem endRow_app:∀(l:List RowT) (r:RowT),endRow (l++[r])=l++[⟨r.lost,r.marks,Lib.trimSuffix r.text [10]⟩]
  | [],_=>rfl
  | [x],_=>rfl
  | x::y::l,r=>by
    have:=endRow_app (y::l) r
    rw[List.cons_append] at this
    rw[List.cons_append,List.cons_append,endRow,this]
    rfl
theorem foldR_app:∀(a b:List Str) (x y:RsT),foldR x a=some y→foldR x (a++b)=foldR y b
  | [],b,x,y,h=>by
    rw[foldR] at h
    rw[List.nil_append,Option.some.inj h]
  | l::a,b,x,y,h=>by
    rw[foldR] at h
    rw[List.cons_append,foldR]
    cases hl:lineR x l with
    | none=>rw[hl] at h;cases h
    | some z =>
      rw[hl] at h
      exact foldR_app a b z y h
theorem line_row {x:RsT} {h:CHunkT} {line:Str} (hc:x.cur=some h) (h1:Lib.hasPrefix line [64]=false) (h2:line≠unendL) (h3:(rowRd (line++[10]) x.par).2=true):lineR x line=some ⟨x.path,x.dense,x.par,x.done,some ⟨h.at_,h.rows++[(rowRd (line++[10]) x.par).1]⟩⟩:=by
  unfold lineR
  rw[if_neg (by rw[h1];simp),hc]
  simp only
  rw[if_neg h2,if_pos h3]
theorem line_unend {x:RsT} {h:CHunkT} (hc:x.cur=some h) (h1:h.rows≠[]):lineR x unendL=some ⟨x.path,x.dense,x.par,x.done,some ⟨h.at_,endRow h.rows⟩⟩:=by
  unfold lineR
  rw[if_neg (by decide),hc]
  simp only
  rw[if_pos trivial,if_neg h1]
theorem fold_row {n:Nat} (h1:1≤n) (h2:n≤32) {r:RowT} (hr:rowOk r) (hm:markB n r=true) (hl:lineB r.text=true) (path:Str) (dense:Bool) (done:List CHunkT) (a:List Int) (acc:List RowT) :
    foldR ⟨path,dense,n,done,some ⟨a,acc⟩⟩ (rowL n r)=some ⟨path,dense,n,done,some ⟨a,acc++[r]⟩⟩:=by
  have hrd:=rowRd_mark hr hm h1 h2
  have hpre:∀s,Lib.hasPrefix (markW r n++s) [64]=false∧markW r n++s≠unendL:=fun s=>by
    obtain⟨b,t,e,hb⟩:=markW_head r h1 s
    rw[e]
    refine⟨?_,?_⟩
    · unfold Lib.hasPrefix
      rcases hb with rfl | rfl | rfl <;> simp[List.isPrefixOf]
    · intro hc
      unfold unendL at hc
      have:=(List.cons.inj hc).1
      rcases hb with rfl | rfl | rfl <;> exact absurd this (by decide)
  unfold rowL
  by_cases he:endedV r.text=true
  · rw[if_pos he]
    have hw:=ended_last he
    obtain⟨p1,p2⟩:=hpre r.text.dropLast
    have hx:rowRd (markW r n++r.text.dropLast++[10]) n=(r,true):=by
      rw[List.append_assoc,← hw,hrd]
    have:=line_row (x:=⟨path,dense,n,done,some ⟨a,acc⟩⟩) rfl p1 p2 (by rw[hx])
    rw[foldR,this]
    simp only[foldR,hx]
  · rw[if_neg he]
    obtain⟨p1,p2⟩:=hpre r.text
    have hx:rowRd (markW r n++r.text++[10]) n=(⟨r.lost,r.marks,r.text++[10]⟩,true):=by
      rw[List.append_assoc,hrd]
    have e1:=line_row (x:=⟨path,dense,n,done,some ⟨a,acc⟩⟩) rfl p1 p2 (by rw[hx])
    rw[hx] at e1
    have e2:=line_unend (x:=⟨path,dense,n,done,some ⟨a,acc++[⟨r.lost,r.marks,r.text++[10]⟩]⟩⟩) rfl (by simp)
    rw[endRow_app,trim_ten] at e2
    rw[foldR,e1]
    simp only
    rw[foldR,e2]
    rfl
theorem fold_rows {n:Nat} (h1:1≤n) (h2:n≤32) (path:Str) (dense:Bool) (done:List CHunkT) (a:List Int):∀(rows acc:List RowT),(∀r,r∈rows→rowOk r∧markB n r=true∧lineB r.text=true) →
    foldR ⟨path,dense,n,done,some ⟨a,acc⟩⟩ (rows.flatMap (rowL n))=some ⟨path,dense,n,done,some ⟨a,acc++rows⟩⟩
  | [],acc,_=>by simp[foldR]
  | r::rows,acc,h=>by
    obtain⟨q1,q2,q3⟩:=h r (by simp)
    have e1:=fold_row h1 h2 q1 q2 q3 path dense done a acc
    rw[List.flatMap_cons,foldR_app _ _ _ _ e1,fold_rows h1 h2 path dense done a rows (acc++[r]) fun x hx=>h x (by simp[hx])]
    simp
end Go.AE
namespace Go.AE
theorem joinD_P (l:List Str):(listV l=true∧joinD l=.tup [.str (joinP l).1,.int .i64 (joinP l).2]∧(joinP l).2≠2)∨(listV l=false∧joinD l=.tup [.str [],.int .i64 2]∧joinP l=([],140)):=by
  unfold joinD joinP
  cases c:listV l with
  | true =>
    left
    rw[join_flat]
    by_cases d:flen l≤1048576∧l.length≤4096
    · simp[d]
    · simp[d]
  | false=>right;simp
def colD (rows:List RowT) (c:Int) (i:Nat):List D:=(colV (rows.take i) c).map Rep.to
theorem colV_succ {rows:List RowT} {i:Nat} (hi:i<rows.length) (c:Int):colV (rows.take (i+1)) c=colV (rows.take i) c++(if visB rows[i] c=true then [rows[i].text] else []):=by
  unfold colV
  rw[List.take_succ_eq_append_getElem hi,List.filter_append,List.map_append]
  congr 1
  cases h:visB rows[i] c <;> simp[h]
theorem colV_le (rows:List RowT) (c:Int):(colV rows c).length≤rows.length∧flen (colV rows c)≤flen (rows.map RowT.text):=by
  induction rows with
  | nil=>simp[colV,flen]
  | cons r rs ih =>
    have e:colV (r::rs) c=(if visB r c=true then [r.text] else [])++colV rs c:=by
      unfold colV
      cases h:visB r c <;> simp[h]
    obtain⟨h1,h2⟩:=ih
    have e2:flen ((r::rs).map RowT.text)=r.text.length+flen (rs.map RowT.text):=by simp[flen]
    rw[e,e2,List.length_append,List.length_cons]
    have e3:∀a b:List Str,flen (a++b)=flen a+flen b:=fun a b=>by simp[flen]
    rw[e3]
    split
    · have:flen [r.text]=r.text.length:=by simp[flen]
      simp only[List.length_singleton]
      omega
    · have:flen []=0:=rfl
      simp only[List.length_nil]
      omega
@[simp] def S_project_column:List D→Prop × D:=spec2 (α:=TableT) (β:=Int) (fun t _=>tabOk t) (fun t c=>joinD (colV t.rows c))
theorem ct_project_column {P:Program} {f g1 g2:Nat} {G:Gam} (h:CodeOf P f 2 12 [3,4] (x_project_column g1 g2)) (hG:GamOk P G) (h1:G.find g1=some S_weave_Visible) (h2:G.find g2=some S_text_Join):Has P f S_project_column:=h.has2 hG fun t c hp=>by
  obtain⟨p1,p2,p3⟩:=hp
  obtain⟨par,rows⟩:=t
  simp only at p1 p2 p3
  obtain⟨z1,z2⟩:=colV_le rows c
  simp[x_project_column]
  refine vc_lp (σ:=Nat) (fun i=>i≤rows.length) (fun i=>rows.length-i)
    (fun i=>[.any,.d (.int .i64 c),.ref 0 0 0 0,.any,.any,.gr 1 1 (colD rows c i),.any,.d (.sl 3 (rows.map Rep.to)),.d (.int .i64 rows.length),.d (.int .i64 i),.any,.any])
    (fun i=>[.cells 0 2 [.d (Rep.to (⟨par,rows⟩:TableT))],.tip (colV (rows.take i) c).length]) 0 (by simp[colD,colV]) (by simp[colV]) (by simp) ?_
  intro i i1
  have hcl:(colD rows c i).length=(colV (rows.take i) c).length:=by simp[colD]
  have hcb:=(colV_le (rows.take i) c).1
  rw[List.length_take] at hcb
  by_cases hi:i<rows.length
  · have w1:IntKind.i64.wrap ((i:Int)+1)=(i:Int)+1:=wrap_in (by omega) (by omega)
    have hs:=colV_succ hi c
    have hve:visB ⟨rows[i].lost,rows[i].marks,rows[i].text⟩ c=visB rows[i] c:=rfl
    cases hv:visB rows[i] c with
    | true =>
      rw[hv,if_pos rfl] at hs
      have hd:colD rows c i++[.str rows[i].text]=colD rows c (i+1):=by unfold colD;rw[hs,List.map_append];rfl
      have hl2:=congrArg List.length hs
      rw[List.length_append,List.length_singleton] at hl2
      simp[hi,getD_map,h1,hve,hv,hcl,w1,hd]
      exact⟨by unfold room;omega,Nxt.mk (i+1) (by omega) (by simp) (by simp[hl2]) (by omega)⟩
    | false =>
      rw[hv,if_neg (by simp),List.append_nil] at hs
      have hd:colD rows c i=colD rows c (i+1):=by unfold colD;rw[hs]
      rw[hd]
      simp[hi,getD_map,h1,hve,hv,w1]
      exact Nxt.mk (i+1) (by omega) (by simp) (by simp[hs]) (by omega)
  · obtain rfl:i=rows.length:=by omega
    have e:colD rows c rows.length=(colV rows c).map Rep.to:=by unfold colD;rw[List.take_length]
    rw[e]
    have hj:joinD (colV rows c)=.tup [.str (joinP (colV rows c)).1,.int .i64 (if listV (colV rows c)=true then (joinP (colV rows c)).2 else 2)]:=by
      rcases joinD_P (colV rows c) with ⟨a1,a2,_⟩ | ⟨a1,a2,a3⟩
      · rw[a2,if_pos a1]
      · rw[a2,a3,if_neg (by rw[a1];simp)]
    simp[h2,show flen (colV rows c)≤4194304 by omega,show (colV rows c).length≤4194304 by omega,hj]
def columnD (t:TableT) (c:Int):D:=if checkTab t≠0 then .tup [.str [],.int .i64 (checkTab t)] else if c < -1∨t.parents≤c then .tup [.str [],.int .i64 3] else joinD (colV t.rows c)
@[simp] def S_project_Column:List D→Prop × D:=spec2 (α:=TableT) (β:=Int) (fun t _=>tabOk t) (fun t c=>columnD t c)
theorem ct_project_Column {P:Program} {f g1 g2:Nat} {G:Gam} (h:CodeOf P f 2 8 [3,4] (x_project_Column g1 g2)) (hG:GamOk P G) (h1:G.find g1=some S_weave_Check) (h2:G.find g2=some S_project_column):Has P f S_project_Column:=h.has2 hG fun t c hp=>by
  have hte:tabOk ⟨t.parents,t.rows⟩:=hp
  have hke:checkTab ⟨t.parents,t.rows⟩=checkTab t:=rfl
  have hcd:columnD t c=if checkTab t≠0 then .tup [.str [],.int .i64 (checkTab t)] else if c < -1∨t.parents≤c then .tup [.str [],.int .i64 3] else joinD (colV t.rows c):=rfl
  by_cases c0:checkTab t=0
  · rw[if_neg (by rw[c0];simp)] at hcd
    by_cases c1:c < -1
    · rw[hcd,if_pos (.inl c1)]
      simp[x_project_Column,h1,hte,hke,c0,c1]
    by_cases c2:t.parents≤c
    · rw[hcd,if_pos (.inr c2)]
      simp[x_project_Column,h1,hte,hke,c0,c1,c2]
    · rw[hcd,if_neg (by omega)]
      have hj:∃s e,joinD (colV t.rows c)=.tup [.str s,.int .i64 e]:=by
        rcases joinD_P (colV t.rows c) with ⟨_,a2,_⟩ | ⟨_,a2,_⟩
        · exact⟨_,_,a2⟩
        · exact⟨_,_,a2⟩
      obtain⟨s,e,hj⟩:=hj
      simp[x_project_Column,h1,hte,hke,c0,c1,c2,h2,hj]
  · rw[hcd,if_pos c0]
    simp[x_project_Column,h1,hte,hke,c0]
theorem well_rows:∀(hs:List CHunkT) (n:Nat) (res:Bool) (par:Nat) (ends fin:List Int),wellC n res par ends hs=some fin→∀h,h∈hs→h.rows≠[]
  | [],_,_,_,_,_,_,h,hh=>by simp at hh
  | u::hs,n,res,par,ends,fin,e,h,hh=>by
    rw[wellC] at e
    cases hf:folV u n ends with
    | none=>rw[hf] at e;cases e
    | some nx =>
      rw[hf] at e
      cases ha:adsV res par u.rows with
      | none=>simp only[ha] at e;cases e
      | some x =>
        obtain⟨r',p'⟩:=x
        simp only[ha] at e
        rcases List.mem_cons.1 hh with rfl | hh
        · exact (fol_len hf).2
        · exact well_rows hs n r' p' nx fin e h hh
theorem form_rows {c:CombT} (h:formB c=true):∀u,u∈c.hunks→u.rows≠[]:=by
  unfold formB at h
  split at h
  · cases h
  · rename_i fin e
    exact well_rows _ _ _ _ _ _ e
def tableR (c:CombT):TableT × Int :=
  if chkC c≠0 then (⟨0,[]⟩,chkC c) else match c.hunks with
    | []=>(⟨c.parents,[]⟩,0)
    | h::r=>if r≠[]∨0<maxV h.at_ then (⟨0,[]⟩,121) else (⟨c.parents,h.rows⟩,0)
@[simp] def S_project_Table:List D→Prop × D:=spec1 (α:=CombT) CombOk (fun c=>.tup [Rep.to (tableR c).1,.int .i64 (tableR c).2])
theorem ct_project_Table {P:Program} {f g1 g2 g3:Nat} {G:Gam} (h:CodeOf P f 1 9 [22002,3] (x_project_Table g1 g2 g3)) (hG:GamOk P G) (h1:G.find g1=some S_combined_Check) (h2:G.find g2=some S_slices_Max_int_int) (h3:G.find g3=some S_slices_Clone_Row_Row):Has P f S_project_Table:=h.has1 hG fun c hp=>by
  have hce:CombOk ⟨c.path,c.dense,c.parents,c.hunks⟩:=hp
  have hke:chkC ⟨c.path,c.dense,c.parents,c.hunks⟩=chkC c:=rfl
  have ht:tableR c=if chkC c≠0 then (⟨0,[]⟩,chkC c) else match c.hunks with
    | []=>(⟨c.parents,[]⟩,0)
    | h::r=>if r≠[]∨0<maxV h.at_ then (⟨0,[]⟩,121) else (⟨c.parents,h.rows⟩,0):=by unfold tableR <;> rfl
  by_cases c0:chkC c=0
  · rw[if_neg (by rw[c0];simp)] at ht
    obtain⟨z1,z2,z3,z4,z5,z6⟩:=chkC_zero c0
    have hat:=form_ats z5
    have hro:=form_rows z5
    obtain⟨p1,p2,p3,p4⟩:=hp
    obtain⟨path,dense,par,hs⟩:=c
    simp only at ht hce hke z2 z3 hro p3 p1
    cases hs with
    | nil =>
      rw[ht]
      simp[x_project_Table,h1,hce,hke,c0]
    | cons u r =>
      simp only at ht
      have hu:=hat u (by simp)
      have hr:=hro u (by simp)
      have hq:=p3 u (by simp)
      by_cases c1:r=[]
      · subst c1
        by_cases c2:0<maxV u.at_
        · rw[if_pos (.inr c2)] at ht
          rw[ht]
          simp[x_project_Table,h1,hce,hke,c0,h2,show 0<u.at_.length by omega,hq.2.1,c2]
        · rw[if_neg (by simp;omega)] at ht
          rw[ht]
          simp[x_project_Table,h1,hce,hke,c0,h2,show 0<u.at_.length by omega,hq.2.1,c2,h3,hr,hq.1]
      · rw[if_pos (.inl c1)] at ht
        rw[ht]
        have hl:1<(r.length:Int)+1:=by
          have:=List.length_pos_iff.2 c1
          omega
        simp[x_project_Table,h1,hce,hke,c0,hl]
        omega
  · rw[if_pos c0] at ht
    rw[ht]
    simp[x_project_Table,h1,hce,hke,c0]
end Go.AE
