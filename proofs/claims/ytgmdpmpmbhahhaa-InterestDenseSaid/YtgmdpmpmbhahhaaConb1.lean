/-
  Contracts of the generator's near blobs.
-/
import Derived.Test.YtgmdpmpmbhahhaaCona1
import Derived.Test.YtgmdpmpmbhahhaaCode1

set_option linter.unusedSimpArgs false
set_option linter.unusedVariables false
set_option linter.unnecessarySimpa false
set_option maxRecDepth 20000
set_option maxHeartbeats 4000000
namespace Go.AE
def nearOne (raw:List Int) (fr:Int) (i:Nat) (x:Str):Str :=
  if (atV raw (fr+i)).tmod 6=0 then [] else if (atV raw (fr+i)).tmod 6=1 then lineV (atV raw (fr+40+i))++[10]++x else x
def nearS (l:List Str) (raw:List Int) (fr:Int) (k:Nat):Str:=(List.range k).flatMap fun i=>nearOne raw fr i (l.getD i [])
def nearV (blob:Str) (raw:List Int) (fr:Int):Str:=nearS (linesV blob) raw fr (linesV blob).length
theorem nearS_succ (l:List Str) (raw:List Int) (fr:Int) (k:Nat):nearS l raw fr (k+1)=nearS l raw fr k++nearOne raw fr k (l.getD k []):=by
  simp[nearS,List.range_succ]
theorem nearOne_good (raw:List Int) (fr:Int) (i:Nat) (x:Str):(nearOne raw fr i x).length≤4+x.length∧(nearOne raw fr i x).count 10≤1+x.count 10:=by
  obtain⟨h1,h2⟩:=lineV_good (atV raw (fr+40+i))
  unfold nearOne
  split
  · simp
  · split
    · simp only[List.length_append,List.count_append,h2,List.length_singleton]
      simp
      omega
    · omega
theorem nearS_good (l:List Str) (raw:List Int) (fr:Int):∀k,k≤l.length→(nearS l raw fr k).length≤4 * k+flen (l.take k)∧(nearS l raw fr k).count 10≤k+(l.take k).flatten.count 10
  | 0,_=>by simp[nearS]
  | k+1,h=>by
    have hk:k<l.length:=by omega
    obtain⟨h1,h2⟩:=nearS_good l raw fr k (by omega)
    obtain⟨h3,h4⟩:=nearOne_good raw fr k (l.getD k [])
    have e:l.getD k []=l[k]:=by simp[List.getD,hk]
    rw[e] at h3 h4
    have ef:=flen_succ hk
    have ec:(l.take (k+1)).flatten.count 10=(l.take k).flatten.count 10+l[k].count 10:=by
      rw[List.take_succ_eq_append_getElem hk,List.flatten_append,List.count_append]
      simp
    rw[nearS_succ,List.length_append,List.count_append,ef,ec,e]
    omega
theorem nearV_good (blob:Str) (raw:List Int) (fr:Int):(nearV blob raw fr).length≤4 * (linesV blob).length+blob.length∧(nearV blob raw fr).count 10≤(linesV blob).length+blob.count 10:=by
  have h:=nearS_good (linesV blob) raw fr _ (Nat.le_refl _)
  rw[List.take_length,lines_flat] at h
  have:flen (linesV blob)=blob.length:=by unfold flen;rw[lines_flat]
  rw[this] at h
  exact h
@[simp] def S_gen_Near:List D→Prop × D:=spec3 (α:=Str) (β:=List Int) (γ:=Int) (fun blob raw fr=>blob.length≤4096∧raw.length≤9223372036854775807∧0≤fr∧fr≤1000000) (fun blob raw fr=>Rep.to (nearV blob raw fr))
theorem ct_gen_Near {P:Program} {f g1 g2 g3:Nat} {G:Gam} (h:CodeOf P f 3 11 [3] (x_gen_Near g1 g2 g3)) (hG:GamOk P G) (h1:G.find g1=some S_ref02_Lines) (h2:G.find g2=some S_gen_At) (h3:G.find g3=some S_gen_Line):Has P f S_gen_Near:=h.has3 hG fun blob raw fr hp=>by
  obtain⟨p1,p2,p3,p4⟩:=hp
  have p1':blob.length≤4194304:=by omega
  have hll:=linesV_len blob
  have hcl:blob.count 10≤blob.length:=List.count_le_length
  have hfl:flen (linesV blob)=blob.length:=by unfold flen;rw[lines_flat]
  have hn:(linesV blob).length≤4097:=by rw[hll];split <;> omega
  simp[x_gen_Near,h1,p1']
  have hv:nearV blob raw fr=nearS (linesV blob) raw fr (linesV blob).length:=rfl
  rw[hv]
  clear hv hll
  generalize linesV blob=l at *
  have q2:raw.length≤9223372036854775807:=by omega
  refine vc_lp (σ:=Nat) (fun i=>i≤l.length) (fun i=>l.length-i) (fun i=>[.any,.d (Rep.to raw),.d (.int .i64 fr),.any,.d (Rep.to l),.d (.str (nearS l raw fr i)),.d (.int .i64 i),.any,.any,.any,.any]) (fun _=>[]) 0 (by simp[nearS]) (by simp) (by simp) ?_
  intro i hi
  by_cases hk:i<l.length
  · have w1:IntKind.i64.wrap ((i:Int)+1)=(i:Int)+1:=wrap_in (by omega) (by omega)
    have w2:IntKind.i64.wrap (fr+i)=fr+i:=wrap_in (by omega) (by omega)
    have w3:IntKind.i64.wrap (fr+40)=fr+40:=wrap_in (by omega) (by omega)
    have w4:IntKind.i64.wrap (fr+40+i)=fr+40+i:=wrap_in (by omega) (by omega)
    have r1:0≤fr+(i:Int)∧fr+(i:Int)<9223372036854775807:=by omega
    have r2:0≤fr+40+(i:Int)∧fr+40+(i:Int)<9223372036854775807:=by omega
    have hs:=nearS_succ l raw fr i
    have e:l.getD i []=l[i]:=by simp[List.getD,hk]
    rw[e] at hs
    unfold nearOne at hs
    obtain⟨g1',g2'⟩:=nearS_good l raw fr i (by omega)
    have ft:=flen_take l i
    have fs:=flen_take l (i+1)
    rw[flen_succ hk] at fs
    obtain⟨b1,b2⟩:=lineV_good (atV raw (fr+40+i))
    generalize hz:atV raw (fr+i)=z at *
    by_cases c0:z.tmod 6=0
    · rw[if_pos c0,List.append_nil] at hs
      simp[hk,h2,q2,w1,w2,r1,hz,c0]
      exact Nxt.mk (i+1) (by omega) (by simp[hs]) (by simp) (by omega)
    · rw[if_neg c0] at hs
      by_cases c1:z.tmod 6=1
      · rw[if_pos c1] at hs
        simp[hk,getD_map,h2,h3,q2,w1,w2,w3,w4,r1,r2,hz,c0,c1]
        refine⟨by omega,by omega,by omega,Nxt.mk (i+1) (by omega) (by simp[hs]) (by simp) (by omega)⟩
      · rw[if_neg c1] at hs
        simp[hk,getD_map,h2,q2,w1,w2,r1,hz,c0,c1]
        exact⟨by omega,Nxt.mk (i+1) (by omega) (by simp[hs]) (by simp) (by omega)⟩
  · have h9:i=l.length:=by omega
    subst h9
    simp
def blobOne (raw:List Int) (lines:Int) (p:Nat):Str :=
  if (atV raw (500+p)).tmod 5=0 then blobV raw (600+50 * p) lines 4 else if (atV raw (500+p)).tmod 5=1 then blobV raw 0 lines 5 else nearV (blobV raw 0 lines 5) raw (600+50 * p)
def blobsV (raw:List Int) (n:Nat) (lines:Int):List Str:=(List.range n).map (blobOne raw lines)
theorem blobsV_succ (raw:List Int) (n:Nat) (lines:Int):blobsV raw (n+1) lines=blobsV raw n lines++[blobOne raw lines n]:=by
  simp[blobsV,List.range_succ]
theorem lines_blob (raw:List Int) (fr kinds:Int) {n:Int} (hn:0≤n):(linesV (blobV raw fr n kinds)).length≤n.toNat+1:=by
  obtain⟨h1,h2⟩:=blobV_good raw fr kinds hn
  rw[linesV_len]
  split <;> omega
theorem blobOne_len (raw:List Int) {lines:Int} (hl:0≤lines) (p:Nat):(blobOne raw lines p).length≤8 * lines.toNat+4:=by
  unfold blobOne
  split
  · have:=(blobV_good raw (600+50 * p) 4 hl).1;omega
  · split
    · have:=(blobV_good raw 0 5 hl).1;omega
    · have h1:=(nearV_good (blobV raw 0 lines 5) raw (600+50 * p)).1
      have h2:=(blobV_good raw 0 5 hl).1
      have h3:=lines_blob raw 0 5 hl
      omega
@[simp] def S_gen_Blobs:List D→Prop × D:=spec3 (α:=List Int) (β:=Int) (γ:=Int) (fun raw n lines=>raw.length≤9223372036854775807∧n≤1000∧0≤lines∧lines≤100) (fun raw n lines=>Rep.to (blobsV raw n.toNat lines))
theorem ct_gen_Blobs {P:Program} {f g1 g2 g3:Nat} {G:Gam} (h:CodeOf P f 3 11 [3] (x_gen_Blobs g1 g2 g3)) (hG:GamOk P G) (h1:G.find g1=some S_gen_Blob) (h2:G.find g2=some S_gen_At) (h3:G.find g3=some S_gen_Near):Has P f S_gen_Blobs:=h.has3 hG fun raw n lines hp=>by
  obtain⟨p1,p2,p3,p4⟩:=hp
  have p5:lines≤1000:=by omega
  have q2:raw.length≤9223372036854775807:=by omega
  have hb:=(blobV_good raw 0 5 p3).1
  have hb2:(blobV raw 0 lines 5).length≤4096:=by omega
  simp[x_gen_Blobs,h1,p1,p3,p5]
  refine vc_lp (σ:=Nat) (fun i=>i≤n.toNat) (fun i=>n.toNat-i) (fun i=>[.d (Rep.to raw),.d (.int .i64 n),.d (.int .i64 lines),.any,.d (.str (blobV raw 0 lines 5)),.gr 0 1 ((blobsV raw i lines).map Rep.to),.d (.int .i64 i),.any,.any,.any,.any]) (fun i=>[.tip i]) 0 (by simp[blobsV]) (by simp) (by simp) ?_
  intro i hi
  have hlen:(blobsV raw i lines).length=i:=by simp[blobsV]
  by_cases hk:(i:Int)<n
  · have w1:IntKind.i64.wrap ((i:Int)+1)=(i:Int)+1:=wrap_in (by omega) (by omega)
    have w2:IntKind.i64.wrap (500+(i:Int))=500+i:=wrap_in (by omega) (by omega)
    have w3:IntKind.i64.wrap (50 * (i:Int))=50 * i:=wrap_in (by omega) (by omega)
    have w4:IntKind.i64.wrap (600+50 * (i:Int))=600+50 * i:=wrap_in (by omega) (by omega)
    have r1:0≤500+(i:Int)∧500+(i:Int)<9223372036854775807:=by omega
    have r2:0≤600+50 * (i:Int)∧600+50 * (i:Int)≤100000:=by omega
    have r3:600+50 * (i:Int)≤1000000:=by omega
    have hs:=blobsV_succ raw i lines
    unfold blobOne at hs
    generalize hz:atV raw (500+i)=z at *
    by_cases c0:z.tmod 5=0
    · rw[if_pos c0] at hs
      simp[hk,h1,h2,q2,p1,p3,p5,w1,w2,w3,w4,r1,r2,hz,c0,hlen]
      exact⟨by unfold room;omega,Nxt.mk (i+1) (by omega) (by simp[hs]) (by simp) (by omega)⟩
    · rw[if_neg c0] at hs
      by_cases c1:z.tmod 5=1
      · rw[if_pos c1] at hs
        simp[hk,h2,q2,w1,w2,r1,hz,c0,c1,hlen]
        exact⟨by unfold room;omega,Nxt.mk (i+1) (by omega) (by simp[hs]) (by simp) (by omega)⟩
      · rw[if_neg c1] at hs
        simp[hk,h2,h3,q2,p1,w1,w2,w3,w4,r1,r2,r3,hz,c0,c1,hlen,hb2]
        exact⟨by unfold room;omega,Nxt.mk (i+1) (by omega) (by simp[hs]) (by simp) (by omega)⟩
  · have h9:i=n.toNat:=by omega
    subst h9
    have hk2:¬(max n 0<n):=by omega
    simp[hk2]
def gapD (x:List Int) (s:List ChangeT) (k:Nat):D:=s.foldl (fun acc c=>if c.new=(k:Int) then .sl 1 (((x.drop c.old.toNat).take c.oldLen.toNat).map Rep.to) else acc) .nilsl
theorem gapD_of (x:List Int) (s:List ChangeT) (k:Nat):Rep.of (α:=List Int) (gapD x s k)=some (gapS x s k):=by
  unfold gapD gapS
  suffices ∀(s:List ChangeT) (a:D) (b:List Int),Rep.of (α:=List Int) a=some b→Rep.of (α:=List Int) (s.foldl (fun acc c=>if c.new=(k:Int) then .sl 1 (((x.drop c.old.toNat).take c.oldLen.toNat).map Rep.to) else acc) a)=some (s.foldl (fun acc c=>if c.new=(k:Int) then (x.drop c.old.toNat).take c.oldLen.toNat else acc) b) from this s .nilsl [] rfl
  intro s
  induction s with
  | nil=>intro a b h;exact h
  | cons c s ih =>
    intro a b h
    rw[List.foldl_cons,List.foldl_cons]
    refine ih _ _ ?_
    split
    · exact Rep.of_to (α:=List Int) _
    · exact h
theorem gapD_snoc (x:List Int) {s:List ChangeT} {c:Nat} (hc:c<s.length) (k:Nat):gapD x (s.take (c+1)) k=if s[c].new=(k:Int) then .sl 1 (((x.drop s[c].old.toNat).take s[c].oldLen.toNat).map Rep.to) else gapD x (s.take c) k:=by
  unfold gapD
  rw[List.take_succ_eq_append_getElem hc,List.foldl_append]
  rfl
def dAt (I:List (List Int)) (p c q k:Nat):D :=
  if q<p then gapD (I.getD (q+1) []) (scrV I q) k else if q=p then gapD (I.getD (q+1) []) ((scrV I q).take c) k else .nilsl
def rowD (n:Nat) (d:Nat→Nat→D) (k:Nat):List D:=(List.range n).map fun q=>d q k
def rowG (n:Nat) (d:Nat→Nat→D) (k:Nat):List A:=(List.range n).map fun q=>.d (d q k)
def rowsO (n:Nat) (d:Nat→Nat→D) (m:Nat):List Ob:=(List.range m).map fun k=>.cells 0 1 (rowG n d k)
def gapC (n m k:Nat):List A:=(List.range m).map fun j=>if j<k then .own (j+4) 0 0 n else .d .nilsl
def gapF (n m:Nat) (d:Nat→Nat→D) (k:Nat):List A:=(List.range m).map fun j=>if j<k then .d (.sl 1 (rowD n d j)) else .own (j+4) 0 0 n
def rowsF (n:Nat) (d:Nat→Nat→D) (m k:Nat):List Ob:=(List.range m).map fun j=>if j<k then .dead else .cells 0 1 (rowG n d j)
def marksC (L:Nat) (q:Nat→Nat):List A:=(List.range L).map fun k=>.d (.int .u32 (q k))
theorem rowG_len (n:Nat) (d:Nat→Nat→D) (k:Nat):(rowG n d k).length=n:=by simp[rowG]
theorem rowsO_len (n:Nat) (d:Nat→Nat→D) (m:Nat):(rowsO n d m).length=m:=by simp[rowsO]
theorem gapC_len (n m k:Nat):(gapC n m k).length=m:=by simp[gapC]
theorem marksC_len (L:Nat) (q:Nat→Nat):(marksC L q).length=L:=by simp[marksC]
theorem rowG_isD (n:Nat) (d:Nat→Nat→D) (k:Nat):(rowG n d k).all A.isD=true:=by simp[rowG,A.isD]
theorem rowG_toD (n:Nat) (d:Nat→Nat→D) (k:Nat):(rowG n d k).map A.toD=rowD n d k:=by simp[rowG,rowD,A.toD]
theorem marksC_isD (L:Nat) (q:Nat→Nat):(marksC L q).all A.isD=true:=by simp[marksC,A.isD]
theorem marksC_toD (L:Nat) (q:Nat→Nat):(marksC L q).map A.toD=((List.range L).map fun k=>(⟨q k⟩:U32T)).map Rep.to:=by simp[marksC,A.toD]
theorem rowsO_get {n:Nat} {d:Nat→Nat→D} {m k:Nat} (h:k<m):(rowsO n d m)[k]?=some (.cells 0 1 (rowG n d k)):=by
  simp[rowsO,h]
theorem gapC_get {n m k j:Nat} (h:j<m) (hk:j<k):(gapC n m k)[j]?=some (.own (j+4) 0 0 n):=by
  simp[gapC,h,hk]
theorem marksC_get {L:Nat} {q:Nat→Nat} {k:Nat} (h:k<L):(marksC L q)[k]?=some (.d (.int .u32 (q k))):=by
  simp[marksC,h]
theorem gapC_set {n m k:Nat} (hk:k<m):(gapC n m k).set k (.own (k+4) 0 0 n)=gapC n m (k+1):=by
  apply List.ext_getElem
  · simp[gapC]
  · intro i h1 h2
    simp only[gapC,List.getElem_set,List.getElem_map,List.getElem_range]
    by_cases e:k=i
    · subst e;simp
    · have:(i<k+1)=(i<k):=by rw[eq_iff_iff];omega
      simp[e,this]
theorem rowsO_succ (n:Nat) (d:Nat→Nat→D) (m:Nat):rowsO n d (m+1)=rowsO n d m++[.cells 0 1 (rowG n d m)]:=by simp[rowsO,List.range_succ]
theorem marksC_set {L:Nat} {q r:Nat→Nat} {k:Nat} {x:Int} (hx:x=(r k:Nat)) (h:∀j,j<L→j≠k→r j=q j):(marksC L q).set k (.d (.int .u32 x))=marksC L r:=by
  apply List.ext_getElem
  · simp[marksC]
  · intro i h1 h2
    simp only[marksC,List.getElem_set,List.getElem_map,List.getElem_range]
    simp[marksC] at h2
    by_cases e:k=i
    · subst e;simp[hx]
    · simp[e,h i h2 (Ne.symm e)]
theorem marksC_congr {L:Nat} {q r:Nat→Nat} (h:∀j,j<L→q j=r j):marksC L q=marksC L r:=by
  unfold marksC
  exact List.map_congr_left fun j hj=>by rw[h j (by simpa using hj)]
theorem rowsO_congr {n m:Nat} {d e:Nat→Nat→D} (h:∀q k,q<n→d q k=e q k):rowsO n d m=rowsO n e m:=by
  unfold rowsO rowG
  exact List.map_congr_left fun k _=>by
    congr 1
    exact List.map_congr_left fun q hq=>by rw[h q k (by simpa using hq)]
theorem rowsO_set {n m:Nat} {d e:Nat→Nat→D} {p k:Nat} {x:D} (hp:p<n) (hx:e p k=x) (h:∀q j,q<n→¬(q=p∧j=k)→e q j=d q j):(rowsO n d m).set k (.cells 0 1 ((rowG n d k).set p (.d x)))=rowsO n e m:=by
  apply List.ext_getElem
  · simp[rowsO]
  · intro i h1 h2
    simp only[rowsO,List.getElem_set,List.getElem_map,List.getElem_range]
    have key:∀j,j≠k→rowG n d j=rowG n e j:=fun j hj=>by
      unfold rowG
      exact List.map_congr_left fun q hq=>by rw[h q j (by simpa using hq) (by omega)]
    by_cases hki:k=i
    · subst hki
      simp only[if_true]
      congr 1
      apply List.ext_getElem
      · simp[rowG]
      · intro q q1 q2
        simp only[rowG,List.getElem_set,List.getElem_map,List.getElem_range]
        simp[rowG] at q2
        by_cases hqp:p=q
        · subst hqp;simp[hx]
        · simp[hqp,h q k q2 (by omega)]
    · rw[if_neg hki,key i (Ne.symm hki)]
theorem freezeRows {lo:Nat} {T:List A} (b0 b1:Ob) (mk:List A) (n m:Nat) (d:Nat→Nat→D):∀k,k≤m→Re lo T (b0::b1::.cells 0 1 mk::.cells 0 1 (gapC n m m)::rowsO n d m) T (b0::b1::.cells 0 1 mk::.cells 0 1 (gapF n m d k)::rowsF n d m k)
  | 0,_=>by
    have e1:gapC n m m=gapF n m d 0:=by
      unfold gapC gapF
      exact List.map_congr_left fun j hj=>by simp at hj;simp[hj]
    have e2:rowsO n d m=rowsF n d m 0:=by
      unfold rowsO rowsF
      exact List.map_congr_left fun j hj=>by simp
    rw[e1,e2]
    exact Re.refl _ _ _
  | k+1,h=>by
    refine Re.trans (freezeRows b0 b1 mk n m d k (by omega)) ?_
    have hlf:(rowsF n d m k).length=m:=by simp[rowsF]
    have hlg:(rowsF n d m (k+1)).length=m:=by simp[rowsF]
    refine Re.freeze (k+4) 0 1 (rowG n d k) ?_ (FzL.refl _ _ _ _ _) ⟨by simp[hlf,hlg],?_⟩ ?_
    · simp[rowsF,List.getD,show k<m by omega]
    · intro j hj hne
      match j,hj,hne with
      | 0,_,_=>exact .inl rfl
      | 1,_,_=>exact .inl rfl
      | 2,_,_=>exact .inl rfl
      | 3,_,_ =>
        refine .inr ⟨0,1,_,_,rfl,rfl,by simp[gapF],fun i hi=>?_⟩
        have hi:i<m:=by simpa [gapF] using hi
        have g1:(gapF n m d k).getD i .any=if i<k then .d (.sl 1 (rowD n d i)) else .own (i+4) 0 0 n:=by simp[gapF,List.getD,hi]
        have g2:(gapF n m d (k+1)).getD i .any=if i<k+1 then .d (.sl 1 (rowD n d i)) else .own (i+4) 0 0 n:=by simp[gapF,List.getD,hi]
        rw[g1,g2]
        by_cases c:i<k
        · rw[if_pos c,if_pos (by omega)]
          exact⟨rfl,FzL.refl _ _ _ _ _⟩
        · rw[if_neg c]
          by_cases c2:i<k+1
          · rw[if_pos c2]
            obtain rfl:i=k:=by omega
            refine⟨rfl,?_,trivial⟩
            have hf:=Fz.own (i+4) 0 1 0 n (rowG n d i) (by rw[List.drop_zero,List.take_of_length_le (by rw[rowG_len];omega)];exact rowG_isD _ _ _)
            rw[List.drop_zero,List.take_of_length_le (by rw[rowG_len];omega),rowG_toD] at hf
            exact hf
          · rw[if_neg c2]
            exact⟨rfl,FzL.refl _ _ _ _ _⟩
      | j+4,hj,hne =>
        refine .inl ?_
        have hjm:j<m:=by simp[hlf] at hj;omega
        have hjk:j≠k:=by omega
        have e:(j<k+1)=(j<k):=by rw[eq_iff_iff];omega
        simp[rowsF,List.getD,hjm,e]
    · simp[rowsF,List.getD,show k<m by omega]
def rowsD (n:Nat) (d:Nat→Nat→D) (m:Nat):List D:=(List.range m).map fun k=>.sl 1 (rowD n d k)
theorem freezeAll {lo:Nat} (hlo:lo≤1) {T T':List A} (b0:Ob) (L n m:Nat) (q:Nat→Nat) (d:Nat→Nat→D)
    (hT:∃T1,FzL 3 0 1 (gapF n m d m) T T1∧∃T2,FzL 2 0 1 (marksC L q) T1 T2∧SbL T2 T')
    (hu:T'.all (A.under 1)=true) (hb:b0.under 1=true) :
    Re lo T (b0::.dead::.cells 0 1 (marksC L q)::.cells 0 1 (gapC n m m)::rowsO n d m) T' [b0]:=by
  obtain⟨T1,f1,T2,f2,f3⟩:=hT
  refine Re.trans (freezeRows b0 .dead (marksC L q) n m d m (Nat.le_refl _)) ?_
  refine Re.trans (Re.freeze (T':=T1) (s':=b0::.dead::.cells 0 1 (marksC L q)::.dead::rowsF n d m m) 3 0 1 (gapF n m d m) rfl f1 ⟨by simp,?_⟩ rfl) ?_
  · intro j hj hne
    match j,hj,hne with
    | 0,_,_=>exact .inl rfl
    | 1,_,_=>exact .inl rfl
    | 2,_,_=>exact .inl rfl
    | j+4,_,_=>exact .inl rfl
  refine Re.trans (Re.freeze (T':=T2) (s':=b0::.dead::.dead::.dead::rowsF n d m m) 2 0 1 (marksC L q) rfl f2 ⟨by simp,?_⟩ rfl) ?_
  · intro j hj hne
    match j,hj,hne with
    | 0,_,_=>exact .inl rfl
    | 1,_,_=>exact .inl rfl
    | 3,_,_=>exact .inl rfl
    | j+4,_,_=>exact .inl rfl
  exact Sub.re ⟨by simpa using hlo,f3,by simp,.inr ⟨by simpa using hu,by simpa using hb⟩⟩
theorem fz_gaps (n m:Nat) (d:Nat→Nat→D):Fz 3 0 1 (gapF n m d m) (.own 3 0 0 m) (.d (.sl 1 (rowsD n d m))):=by
  have hg:gapF n m d m=(rowsD n d m).map .d:=by
    unfold gapF rowsD
    rw[List.map_map]
    exact List.map_congr_left fun j hj=>by simp at hj;simp[hj]
  have hl:(gapF n m d m).length=m:=by simp[gapF]
  have hf:=Fz.own 3 0 1 0 m (gapF n m d m) (by rw[List.drop_zero,List.take_of_length_le (by omega),hg];simp[A.isD])
  rw[List.drop_zero,List.take_of_length_le (by omega)] at hf
  rw[show (gapF n m d m).map A.toD=rowsD n d m by rw[hg,List.map_map];exact List.map_id' _] at hf
  exact hf
theorem fz_marks (L:Nat) (q:Nat→Nat):Fz 2 0 1 (marksC L q) (.own 2 0 0 L) (.d (.sl 1 (((List.range L).map fun k=>(⟨q k⟩:U32T)).map Rep.to))):=by
  have hl:=marksC_len L q
  have hf:=Fz.own 2 0 1 0 L (marksC L q) (by rw[List.drop_zero,List.take_of_length_le (by omega)];exact marksC_isD _ _)
  rw[List.drop_zero,List.take_of_length_le (by omega),marksC_toD] at hf
  exact hf
theorem ofAll_map2 {α β:Type} {f:D→Option β} {g:α→D} {h:α→β}:∀l:List α,(∀x,x∈l→f (g x)=some (h x))→ofAll f (l.map g)=some (l.map h)
  | [],_=>rfl
  | x::r,hx=>by
    simp only[List.map_cons,ofAll]
    rw[hx x (by simp),ofAll_map2 r fun y hy=>hx y (by simp[hy])]
theorem rowD_of (I:List (List Int)) (n k:Nat):ofAll (Rep.of (α:=List Int)) (rowD n (dAt I n 0) k)=some (gapV I n k):=by
  unfold rowD gapV
  exact ofAll_map2 _ fun q hq=>by
    have hq:q<n:=by simpa using hq
    unfold dAt
    rw[if_pos hq]
    exact gapD_of _ _ _
theorem dAt_start (I:List (List Int)) (q k:Nat):dAt I 0 0 q k=.nilsl:=by
  unfold dAt
  rw[if_neg (by omega)]
  split
  · rfl
  · rfl
theorem dAt_end (I:List (List Int)) (p q k:Nat):dAt I p (scrV I p).length q k=dAt I (p+1) 0 q k:=by
  unfold dAt
  by_cases h1:q<p
  · rw[if_pos h1,if_pos (by omega)]
  · rw[if_neg h1]
    by_cases h2:q=p
    · subst h2
      rw[if_pos rfl,if_pos (by omega),List.take_length]
    · rw[if_neg h2,if_neg (by omega)]
      split
      · rfl
      · rfl
theorem dAt_step {I:List (List Int)} {p c:Nat} (hc:c<(scrV I p).length) {k:Nat} (hk:(scrV I p)[c].new=(k:Int)) :
    dAt I p (c+1) p k=.sl 1 ((((I.getD (p+1) []).drop (scrV I p)[c].old.toNat).take (scrV I p)[c].oldLen.toNat).map Rep.to)∧∀q j,¬(q=p∧j=k)→dAt I p (c+1) q j=dAt I p c q j:=by
  constructor
  · unfold dAt
    rw[if_neg (by omega),if_pos rfl,gapD_snoc _ hc,if_pos hk]
  · intro q j h
    unfold dAt
    by_cases h1:q<p
    · rw[if_pos h1,if_pos h1]
    · rw[if_neg h1,if_neg h1]
      by_cases h2:q=p
      · subst h2
        have:(k:Int)≠j:=by omega
        rw[if_pos rfl,if_pos rfl,gapD_snoc _ hc,if_neg (by rw[hk];exact this)]
      · rw[if_neg h2,if_neg h2]
theorem rowsD_get {n:Nat} {d:Nat→Nat→D} {m k:Nat} (h:k<m):(rowsD n d m)[k]?=some (.sl 1 (rowD n d k)):=by simp[rowsD,h]
/-! ### the merged gaps -/
theorem merged_ok {xs:List (List Int)} (h1:xs.length≤32) (h2:sumL xs≤4096):coalD xs=.tup [Rep.to (mergedV xs),.int .i64 0]∧CoalOk xs (mergedV xs):=by
  obtain⟨m,e1,e2⟩:=coalO_ok xs [] [] (by simpa using h1) (by simpa [sumL] using h2) ⟨by simp,by simp,by simp⟩
  have e1:coalO xs 0 []=some m:=e1
  have em:mergedV xs=m:=by unfold mergedV;rw[e1];rfl
  rw[em]
  refine⟨?_,e2⟩
  unfold coalD
  rw[if_neg (by omega),e1]
theorem gapV_len (I:List (List Int)) (n k:Nat):(gapV I n k).length=n:=by simp[gapV]
theorem sumL_gap {I:List (List Int)} {n B:Nat} (h:∀p,p<n→(I.getD (p+1) []).length≤B) (k:Nat):sumL (gapV I n k)≤B * n:=by
  induction n with
  | zero=>simp[gapV,sumL]
  | succ n ih =>
    have e:gapV I (n+1) k=gapV I n k++[gapS (I.getD (n+1) []) (scrV I n) k]:=by simp[gapV,List.range_succ]
    rw[e,sumL_app]
    have h1:=ih fun p hp=>h p (by omega)
    have h2:=gapS_len (I.getD (n+1) []) (scrV I n) k
    have h3:=h n (by omega)
    have h4:sumL [gapS (I.getD (n+1) []) (scrV I n) k]=(gapS (I.getD (n+1) []) (scrV I n) k).length:=by simp[sumL]
    rw[h4,Nat.mul_succ]
    omega
theorem gapRows_len {N:List Str} {I:List (List Int)} {n B:Nat} (h:∀p,p<n→(I.getD (p+1) []).length≤B) (hn:n≤32) (hB:B * n≤4096) (k:Nat):(gapRows N I n k).length≤4097:=by
  have h1:=sumL_gap h k
  obtain⟨_,h2⟩:=merged_ok (xs:=gapV I n k) (by rw[gapV_len];exact hn) (by omega)
  have h3:=h2.len
  unfold gapRows
  rw[List.length_append,List.length_map]
  split <;> simp <;> omega
theorem rowsTo_len {N:List Str} {I:List (List Int)} {n B:Nat} (h:∀p,p<n→(I.getD (p+1) []).length≤B) (hn:n≤32) (hB:B * n≤4096):∀k,(rowsTo N I n k).length≤4097 * k
  | 0=>by simp[rowsTo]
  | k+1=>by
    rw[rowsTo_succ,List.length_append]
    have:=rowsTo_len (N:=N) h hn hB k
    have:=gapRows_len (N:=N) h hn hB k
    omega
theorem merged_line {I:List (List Int)} {n B:Nat} (h:∀p,p<n→(I.getD (p+1) []).length≤B) (hn:n≤32) (hB:B * n≤4096) {k:Nat} {m:MergedT} (hm:m∈mergedV (gapV I n k)):∃p,p<n∧m.line∈I.getD (p+1) []:=by
  have h1:=sumL_gap h k
  obtain⟨_,h2⟩:=merged_ok (xs:=gapV I n k) (by rw[gapV_len];exact hn) (by omega)
  obtain⟨b,hb,h3⟩:=coal_mem h2 (by rw[gapV_len];exact hn) hm
  have hbn:b<n:=by rw[gapV_len] at hb;exact hb
  refine⟨b,hbn,?_⟩
  have:(gapV I n k)[b]=gapS (I.getD (b+1) []) (scrV I b) k:=by simp[gapV]
  rw[this] at h3
  exact gapS_mem _ _ _ _ h3
theorem marksV_or (a p:Nat) (ha:a<2 ^ p) (hp:p<32):IntKind.u32.wrap ((a % 2 ^ IntKind.u32.bits ||| (IntKind.u32.wrap (2 ^ min p IntKind.u32.bits) % 2 ^ IntKind.u32.bits).toNat:Nat):Int)=((a ||| 2 ^ p:Nat):Int):=by
  have h1:2 ^ p<4294967296:=by
    have:(4294967296:Nat)=2 ^ 32:=rfl
    rw[this]
    exact Nat.pow_lt_pow_right (by omega) hp
  have:=orU_nat (a:=a) (b:=2 ^ p) (by omega) h1
  rw[← bitV_nat hp] at this
  rw[← this]
  unfold orU
  congr 2
theorem marksV_clr (m a p:Nat) (ha:a<2 ^ p) (hp:p<32) (hm:m=a∨m=a ||| 2 ^ p):IntKind.u32.wrap (((BitVec.ofInt IntKind.u32.bits (m:Int) &&& ~~~ BitVec.ofInt IntKind.u32.bits (IntKind.u32.wrap (2 ^ min p IntKind.u32.bits))).toNat:Nat):Int)=(a:Int):=by
  have h1:2 ^ p<4294967296:=by
    have:(4294967296:Nat)=2 ^ 32:=rfl
    rw[this]
    exact Nat.pow_lt_pow_right (by omega) hp
  have hb:IntKind.u32.wrap (2 ^ min p IntKind.u32.bits)=((2 ^ p:Nat):Int):=bitV_nat hp
  have hap:a.testBit p=false:=Nat.testBit_lt_two_pow ha
  have key:(BitVec.ofInt 32 (m:Int) &&& ~~~ BitVec.ofInt 32 ((2 ^ p:Nat):Int))=BitVec.ofNat 32 a:=by
    rw[BitVec.ofInt_natCast,BitVec.ofInt_natCast]
    apply BitVec.eq_of_getLsbD_eq
    intro i hi
    rw[BitVec.getLsbD_and,BitVec.getLsbD_not,BitVec.getLsbD_ofNat,BitVec.getLsbD_ofNat,BitVec.getLsbD_ofNat,Nat.testBit_two_pow]
    have hi':decide (i<32)=true:=by simpa using hi
    rw[hi']
    rcases hm with rfl | rfl
    · by_cases e:p=i
      · subst e;simp[hap]
      · simp[e]
    · rw[Nat.testBit_or,Nat.testBit_two_pow]
      by_cases e:p=i
      · subst e;simp[hap]
      · simp[e]
  rw[hb]
  show IntKind.u32.wrap (((BitVec.ofInt 32 (m:Int) &&& ~~~ BitVec.ofInt 32 ((2 ^ p:Nat):Int)).toNat:Nat):Int)=_
  rw[key,BitVec.toNat_ofNat,Nat.mod_eq_of_lt (by omega),u32_wrap (by omega)]
def mkT (I:List (List Int)) (p:Nat) (pr:List SpanT) (t j:Nat):Nat:=if ((pr.take t).any fun s=>decide (s.to=(j:Int)))=true then markN I j p else markN I j p ||| 2 ^ p
@[simp] theorem SbS_self:∀s:Store,SbS s s=True
  | []=>rfl
  | x::s=>by rw[SbS_cons,SbO_refl,SbS_self s];simp
def filesC (F:List (List Str)) (k:Nat):List A:=(F.take k).map fun x=>.d (Rep.to x)
theorem filesC_succ {F:List (List Str)} {k:Nat} (h:k<F.length):filesC F (k+1)=filesC F k++[.d (.sl 1 (F[k].map Rep.to))]:=by
  unfold filesC
  rw[List.take_succ_eq_append_getElem h,List.map_append]
  rfl
theorem filesC_len {F:List (List Str)} {k:Nat} (h:k≤F.length):(filesC F k).length=k:=by simp[filesC];omega
theorem filesC_under (F:List (List Str)) (k n:Nat):∀x,x∈filesC F k→A.under n x=true:=by
  intro x hx
  obtain⟨y,_,rfl⟩:=List.mem_map.1 hx
  rfl
theorem filesC_isD (F:List (List Str)) (k:Nat):(filesC F k).all A.isD=true:=by
  rw[List.all_eq_true]
  intro x hx
  obtain⟨y,_,rfl⟩:=List.mem_map.1 hx
  rfl
theorem filesC_toD (F:List (List Str)):(filesC F F.length).map A.toD=F.map Rep.to:=by
  unfold filesC
  rw[List.take_length,List.map_map]
  rfl
def rowsIn (N:List Str) (I:List (List Int)) (n k:Nat) (ml:List MergedT) (i:Nat):List RowT:=rowsTo N I n k++(ml.take i).map (lostRow N)
theorem rowsIn_zero (N:List Str) (I:List (List Int)) (n k:Nat) (ml:List MergedT):rowsIn N I n k ml 0=rowsTo N I n k:=by simp[rowsIn]
theorem rowsIn_succ (N:List Str) (I:List (List Int)) (n k:Nat) {ml:List MergedT} {i:Nat} (h:i<ml.length):rowsIn N I n k ml (i+1)=rowsIn N I n k ml i++[lostRow N ml[i]]:=by
  unfold rowsIn
  rw[List.take_succ_eq_append_getElem h,List.map_append,List.append_assoc]
  rfl
theorem rowsIn_len (N:List Str) (I:List (List Int)) (n k:Nat) {ml:List MergedT} {i:Nat} (h:i≤ml.length):(rowsIn N I n k ml i).length=(rowsTo N I n k).length+i:=by
  simp[rowsIn];omega
@[simp] def S_ref16_Make:List D→Prop × D:=spec2 (α:=Str) (β:=List Str) (fun r ps=>r.length≤100∧∀p,p∈ps→p.length≤100) (fun r ps=>makeD r ps)
theorem ct_ref16_Make {P:Program} {f g1 g2 g3 g4 g5 g6 g7:Nat} {G:Gam} (h:CodeOf P f 2 39 [22002,3] (x_ref16_Make g1 g2 g3 g4 g5 g6 g7)) (hG:GamOk P G) (h1:G.find g1=some S_ref02_Lines) (h2:G.find g2=some S_ref02_Check) (h3:G.find g3=some S_ref03_Names) (h4:G.find g4=some S_ref03_Ids) (h5:G.find g5=some S_ref09_Walk) (h6:G.find g6=some S_ref08_Matched) (h7:G.find g7=some S_ref15_Coalesce):Has P f S_ref16_Make:=h.has2 hG fun r ps hp=>by
  obtain⟨p1,p2⟩:=hp
  by_cases c1:(ps.length:Int)<1
  · have:makeD r ps=.tup [Rep.to (⟨0,[]⟩:TableT),.int .i64 2]:=by unfold makeD;rw[if_pos (by omega)]
    simp[x_ref16_Make,c1,this]
  by_cases c2:32<(ps.length:Int)
  · have:makeD r ps=.tup [Rep.to (⟨0,[]⟩:TableT),.int .i64 2]:=by unfold makeD;rw[if_pos (by omega)]
    simp[x_ref16_Make,c1,c2,this]
  have hmk:makeD r ps=.tup [Rep.to (makeV r ps),.int .i64 0]:=by unfold makeD;rw[if_neg (by omega)]
  have ck:∀s:Str,s.length≤100→checkT s=0:=fun s h=>check_of (by omega) (by have:s.count 10≤s.length:=List.count_le_length;omega)
  have ckr:=ck r p1
  have p1':r.length≤4194304:=by omega
  rw[hmk]
  unfold makeV
  have hmv:∀s:Str,s.length≤100→(linesV s).length≤101:=fun s hs=>by
    have hc:s.count 10≤s.length:=List.count_le_length
    rw[linesV_len]
    split <;> omega
  simp[x_ref16_Make,c1,c2,h1,h2,p1',ckr]
  refine vc_lp (σ:=Nat) (fun i=>i≤ps.length) (fun i=>ps.length-i)
    (fun i=>[.any,.d (Rep.to ps),.ref 0 0 0 0,.any,.d (.int .i64 ps.length),.own 1 i 0 (i+1),.any,.d (.int .i64 i),.any,.any,.any,.any,.any,.any,.any,.any,.any,.any,.any,.any,.any,.any,.any,.any,.any,.any,.any,.any,.any,.any,.any,.any,.any,.any,.any,.any,.any,.any,.any])
    (fun i=>[.cells 0 2 [.d (.agg [.int .i64 0,.nilsl])],.cells i 1 (filesC (filesV r ps) (i+1))]) 0 (by simp) (by simp[filesV,filesC]) (by simp) ?_ (hc:=.inl (by simp))
  intro i hi
  by_cases hk:i<ps.length
  · have w1:IntKind.i64.wrap ((i:Int)+1)=(i:Int)+1:=wrap_in (by omega) (by omega)
    have hpi:=p2 _ (List.getElem_mem hk)
    have hpi':ps[i].length≤4194304:=by omega
    have cki:=ck _ hpi
    have hl:(filesC (filesV r ps) (i+1)).length=i+1:=filesC_len (by rw[filesV_len];omega)
    have hs:filesC (filesV r ps) (i+1+1)=filesC (filesV r ps) (i+1)++[.d (.sl 1 ((linesV ps[i]).map Rep.to))]:=by
      rw[filesC_succ (by rw[filesV_len];omega),filesV_succ r ps hk]
    generalize filesC (filesV r ps) (i+1)=fs at *
    simp[hk,getD_map,h1,h2,w1,hpi',cki,hl]
    exact⟨by unfold room;omega,Nxt.mk (i+1) (by omega) (by simp) (by simp[hs]) (by omega) (h4:=.inr ⟨by simp,by simpa using filesC_under _ _ _⟩)⟩
  · have h9:i=ps.length:=by omega
    subst h9
    have hFl:=filesV_len r ps
    have hf:=Fz.own 1 ps.length 1 0 (ps.length+1) (filesC (filesV r ps) (ps.length+1)) (by rw[List.drop_zero,List.take_of_length_le (by rw[filesC_len (by omega)];omega)];exact filesC_isD _ _)
    rw[List.drop_zero,List.take_of_length_le (by rw[filesC_len (by omega)];omega),← hFl,filesC_toD] at hf
    have hF0:∀h:0<(filesV r ps).length,(filesV r ps)[0]'h=linesV r:=fun _=>filesV_zero r ps
    have hI0:=ids0_len r ps
    have hkt:=fun k hk=>kept_text r ps (k:=k) hk
    have hL:=hmv r p1
    simp
    refine Hint.of (T':=[.any,.any,.ref 0 0 0 0,.any,.d (.int .i64 ps.length),.d (Rep.to (filesV r ps)),.any,.any,.any,.any,.any,.any,.any,.any,.any,.any,.any,.any,.any,.any,.any,.any,.any,.any,.any,.any,.any,.any,.any,.any,.any,.any,.any,.any,.any,.any,.any,.any,.any]) (s':=[.cells 0 2 [.d (.agg [.int .i64 0,.nilsl])],.dead]) (Re.freeze 1 ps.length 1 (filesC (filesV r ps) (ps.length+1)) rfl ?_ ⟨rfl,?_⟩ rfl) ?_
    · simp
      rw[hFl] at hf
      simpa using hf
    · intro k hk h0
      simp at hk
      obtain rfl:k=0:=by omega
      exact .inl rfl
    have hsm:smallL (filesV r ps):=by
      refine⟨by omega,?_⟩
      have key:∀l:List (List Str),(∀x,x∈l→x.length≤101)→l.flatten.length≤101 * l.length:=by
        intro l
        induction l with
        | nil=>simp
        | cons x r ih =>
          intro hx
          have:=hx x (by simp)
          have:=ih fun y hy=>hx y (by simp[hy])
          simp
          simp at this
          omega
      have:=key (filesV r ps) fun x hx=>by
        obtain⟨y,hy,rfl⟩:=List.mem_map.1 hx
        rcases List.mem_cons.1 hy with rfl | hy
        · exact hL
        · exact hmv _ (p2 _ hy)
      omega
    have hIl:(idsV (filesV r ps)).length=(filesV r ps).length:=by simp[idsV]
    have hIp:∀p,p<ps.length→((idsV (filesV r ps)).getD (p+1) []).length≤101:=fun p hp=>by
      rw[idsV_getD (by rw[hFl];omega),List.length_map,filesV_succ r ps hp]
      exact hmv _ (p2 _ (List.getElem_mem hp))
    have hIm:∀p,p<ps.length→∀x,x∈(idsV (filesV r ps)).getD (p+1) []→∃k:Nat,x=k∧k<(namesV (filesV r ps)).length:=fun p hp x hx=>by
      obtain⟨k,e1,e2,_⟩:=id_name (files:=filesV r ps) (p:=p+1) (by rw[hFl];omega) hx
      exact⟨k,e1,e2⟩
    generalize hI:idsV (filesV r ps)=I at *
    generalize hN:namesV (filesV r ps)=N at *
    generalize filesV r ps=F at *
    generalize hn:ps.length=n at *
    obtain⟨L,hLL⟩:∃L,(linesV r).length=L:=⟨_,rfl⟩
    have h0F:0<F.length:=by omega
    have hF0:=hF0 h0F
    have hF0l:F[0].length=L:=by rw[hF0,hLL]
    simp[h3,h4,hsm,getD_map,hI,hN,hF0l,h0F]
    have wL:IntKind.i64.wrap ((L:Int)+1)=(L:Int)+1:=wrap_in (by omega) (by omega)
    rw[wL]
    have hL1:((L:Int)+1).toNat=L+1:=by omega
    rw[hL1]
    refine⟨⟨by unfold room;omega,by omega⟩,⟨by omega,by unfold room;omega,by omega⟩,?_⟩
    refine vc_lp (σ:=Nat) (fun k=>k≤L+1) (fun k=>L+1-k)
      (fun k=>[.any,.any,.ref 0 0 0 0,.any,.d (.int .i64 n),.d (Rep.to F),.any,.any,.any,.d (Rep.to N),.d (Rep.to I),.d (.int .i64 L),.own 2 0 0 L,.own 3 0 0 (L+1),.d (.int .i64 k),.any,.any,.any,.any,.any,.any,.any,.any,.any,.any,.any,.any,.any,.any,.any,.any,.any,.any,.any,.any,.any,.any,.any,.any])
      (fun k=>.cells 0 2 [.d (.agg [.int .i64 0,.nilsl])]::.dead::.cells 0 1 (marksC L fun _=>0)::.cells 0 1 (gapC n (L+1) k)::rowsO n (fun _ _=>.nilsl) k) 0 (by simp) ?_ (by simp) ?_ (hc:=.inl (by simp[rowsO]))
    · have e1:List.replicate L (A.d (D.int .u32 0))=marksC L fun _=>0:=by
        apply List.ext_getElem
        · simp[marksC]
        · intro a b c;simp[marksC]
      have e2:List.replicate (L+1) (A.d D.nilsl)=gapC n (L+1) 0:=by
        apply List.ext_getElem
        · simp[gapC]
        · intro a b c;simp[gapC]
      simp[e1,e2,rowsO]
    intro k hk
    by_cases hkl:k≤L
    · have w1:IntKind.i64.wrap ((k:Int)+1)=(k:Int)+1:=wrap_in (by omega) (by omega)
      have hgl:=gapC_len n (L+1) k
      have hrl:=rowsO_len n (fun _ _=>.nilsl) k
      have hgs:=gapC_set (n:=n) (m:=L+1) (k:=k) (by omega)
      have hrs:=rowsO_succ n (fun _ _=>.nilsl) k
      have hrg:rowG n (fun _ _=>.nilsl) k=List.replicate n (A.d D.nilsl):=by
        apply List.ext_getElem
        · simp[rowG]
        · intro a b c;simp[rowG]
      rw[hrg] at hrs
      generalize rowsO n (fun _ _=>.nilsl) k=R at *
      generalize gapC n (L+1) k=Gc at *
      simp[hkl,w1,hgl,hrl,hgs]
      exact⟨⟨by unfold room;omega,by omega⟩,by omega,by omega,Nxt.mk (k+1) (by omega) (by simp) (by rw[hrs];simp) (by omega) (by simp) (.inl (by simp[hrl,rowsO_len]))⟩
    · have h9:k=L+1:=by omega
      subst h9
      have hw:(marksC L fun _=>0)=marksC L fun k=>markN I k 0:=marksC_congr fun j _=>by simp[markN]
      have hd:rowsO n (fun _ _=>.nilsl) (L+1)=rowsO n (dAt I 0 0) (L+1):=rowsO_congr fun q j _=>(dAt_start I q j).symm
      rw[hw,hd]
      simp[show ¬((L:Int)+1≤L) by omega]
      refine vc_lp (σ:=Nat) (fun p=>p≤n) (fun p=>n-p)
        (fun p=>[.any,.any,.ref 0 0 0 0,.any,.d (.int .i64 n),.d (Rep.to F),.any,.any,.any,.d (Rep.to N),.d (Rep.to I),.d (.int .i64 L),.own 2 0 0 L,.own 3 0 0 (L+1),.any,.d (.int .i64 p),.any,.any,.any,.any,.any,.any,.any,.any,.any,.any,.any,.any,.any,.any,.any,.any,.any,.any,.any,.any,.any,.any,.any])
        (fun p=>.cells 0 2 [.d (.agg [.int .i64 0,.nilsl])]::.dead::.cells 0 1 (marksC L fun k=>markN I k p)::.cells 0 1 (gapC n (L+1) (L+1))::rowsO n (dAt I p 0) (L+1)) 0 (by simp) (by simp) (by simp) ?_ (hc:=.inl (by simp))
      intro p hp
      by_cases hpn:p<n
      · have hI0l:I[0].length=L:=by
          rw[← hLL,← hI0]
          simp[List.getD,show 0<I.length by omega]
        have hIpl:I[p+1].length≤101:=by
          have:=hIp p hpn
          simpa [List.getD,show p+1<I.length by omega] using this
        have w1:IntKind.i64.wrap ((p:Int)+1)=(p:Int)+1:=wrap_in (by omega) (by omega)
        have hscr:scriptV I[p+1] I[0]=scrV I p:=by
          unfold scrV
          simp[List.getD,show p+1<I.length by omega,show 0<I.length by omega]
        simp[hpn,w1,getD_map,h5,show p+1<I.length by omega,show 0<I.length by omega,show I[p+1].length≤4096 by omega,show I[0].length≤4096 by omega,hscr]
        have hso:=script_ok (a:=I[p+1]) (b:=I[0]) (by omega) (by omega)
        rw[hscr] at hso
        obtain⟨hck,hmt,_⟩:=hso
        have hck2:=hck
        simp only[checkV,Bool.and_eq_true] at hck2
        obtain⟨_,hok⟩:=hck2
        have hsl:(scrV I p).length≤102:=by
          rw[← hscr]
          have:=scriptV_len I[p+1] I[0]
          omega
        refine⟨by omega,?_⟩
        refine vc_lp (σ:=Nat) (fun k=>k≤L) (fun k=>L-k)
          (fun k=>[.any,.any,.ref 0 0 0 0,.any,.d (.int .i64 n),.d (Rep.to F),.any,.any,.any,.d (Rep.to N),.d (Rep.to I),.d (.int .i64 L),.own 2 0 0 L,.own 3 0 0 (L+1),.any,.d (.int .i64 p),.d (Rep.to (scrV I p)),.d (.int .i64 k),.any,.any,.any,.any,.any,.any,.any,.any,.any,.any,.any,.any,.any,.any,.any,.any,.any,.any,.any,.any,.any])
          (fun k=>.cells 0 2 [.d (.agg [.int .i64 0,.nilsl])]::.dead::.cells 0 1 (marksC L fun j=>if j<k then markN I j p ||| 2 ^ p else markN I j p)::.cells 0 1 (gapC n (L+1) (L+1))::rowsO n (dAt I p 0) (L+1)) 0 (by simp) (by simp) (by simp) ?_ (hc:=.inl (by simp))
        intro k hk
        by_cases hkL:k<L
        · have w2:IntKind.i64.wrap ((k:Int)+1)=(k:Int)+1:=wrap_in (by omega) (by omega)
          have hmg:=marksC_get (q:=fun j=>if j<k then markN I j p ||| 2 ^ p else markN I j p) hkL
          have hml:=marksC_len L fun j=>if j<k then markN I j p ||| 2 ^ p else markN I j p
          have hor:=marksV_or (markN I k p) p (markN_lt I k p) (by omega)
          have hms:∀x:Int,x=((markN I k p ||| 2 ^ p:Nat):Int)→(marksC L fun j=>if j<k then markN I j p ||| 2 ^ p else markN I j p).set k (.d (.int .u32 x))=marksC L fun j=>if j<k+1 then markN I j p ||| 2 ^ p else markN I j p:=fun x hx =>
            marksC_set (by rw[hx,if_pos (by omega)]) fun j _ hj=>by
              have:(j<k+1)=(j<k):=by rw[eq_iff_iff];omega
              simp only[this]
          rw[if_neg (by omega)] at hmg
          generalize (marksC L fun j=>if j<k then markN I j p ||| 2 ^ p else markN I j p)=mc at *
          have hmg2:∀h:k<mc.length,mc[k]'h=.d (.int .u32 (markN I k p)):=fun h=>by obtain⟨_,h9⟩:=List.getElem?_eq_some_iff.1 hmg;exact h9
          simp[hkL,hml,hmg,hmg2,u64_wrap (show p<18446744073709551616 by omega),hor,hms _ rfl,w2]
          exact Nxt.mk (k+1) (by omega) (by simp) (by simp) (by omega) (by simp) (.inl (by simp))
        · have h9:k=L:=by omega
          subst h9
          have hmk0:(marksC k fun j=>if j<k then markN I j p ||| 2 ^ p else markN I j p)=marksC k (mkT I p (matV (scrV I p) 0 0 I[p+1].length) 0):=marksC_congr fun j hj=>by simp[hj,mkT]
          rw[hmk0]
          rw[hI0l] at hck hok
          have hck3:∃n,checkV (scrV I p) I[p+1].length n=true:=⟨_,hck⟩
          have hmm:=matV_mem _ _ _ _ _ _ hok
          have hml:=matV_len _ _ _ _ _ _ hok
          have him:=ins_mat _ _ _ _ _ _ hok
          simp[w1,show p+1<I.length by omega,h6,show (scrV I p).length≤100000 by omega,hck3]
          refine⟨by omega,?_⟩
          generalize matV (scrV I p) 0 0 I[p+1].length=pr at *
          refine vc_lp (σ:=Nat) (fun t=>t≤pr.length) (fun t=>pr.length-t)
            (fun t=>[.any,.any,.ref 0 0 0 0,.any,.d (.int .i64 n),.d (Rep.to F),.any,.any,.any,.d (Rep.to N),.d (Rep.to I),.d (.int .i64 k),.own 2 0 0 k,.own 3 0 0 (k+1),.any,.d (.int .i64 p),.d (Rep.to (scrV I p)),.any,.d (Rep.to pr),.d (.int .i64 t),.any,.any,.any,.any,.any,.any,.any,.any,.any,.any,.any,.any,.any,.any,.any,.any,.any,.any,.any])
            (fun t=>.cells 0 2 [.d (.agg [.int .i64 0,.nilsl])]::.dead::.cells 0 1 (marksC k (mkT I p pr t))::.cells 0 1 (gapC n (k+1) (k+1))::rowsO n (dAt I p 0) (k+1)) 0 (by simp) (by simp) (by simp) ?_ (hc:=.inl (by simp))
          intro t ht
          by_cases htl:t<pr.length
          · have w2:IntKind.i64.wrap ((t:Int)+1)=(t:Int)+1:=wrap_in (by omega) (by omega)
            obtain⟨_,_,j1,j2⟩:=hmm _ (List.getElem_mem htl)
            obtain⟨j,hj⟩:=Int.eq_ofNat_of_zero_le (show 0≤pr[t].to by omega)
            have hjk:j<k:=by omega
            have hmg:=marksC_get (q:=mkT I p pr t) hjk
            have hml:=marksC_len k (mkT I p pr t)
            have hms:∀x:Int,x=((markN I j p:Nat):Int)→(marksC k (mkT I p pr t)).set j (.d (.int .u32 x))=marksC k (mkT I p pr (t+1)):=fun x hx =>
              marksC_set (by unfold mkT;rw[hx,List.take_succ_eq_append_getElem htl,List.any_append];simp[hj]) fun i _ hi=>by
                have:¬((j:Int)=i):=by omega
                unfold mkT
                rw[List.take_succ_eq_append_getElem htl,List.any_append]
                simp[hj,this]
            obtain⟨v,hv⟩:∃v,mkT I p pr t j=v:=⟨_,rfl⟩
            have hclr:=marksV_clr v (markN I j p) p (markN_lt I j p) (by omega) (by rw[← hv];unfold mkT;split <;> simp)
            simp at hclr
            rw[hv] at hmg
            generalize (marksC k (mkT I p pr t))=mc at *
            have hmg2:∀h:j<mc.length,mc[j]'h=.d (.int .u32 v):=fun h=>by obtain⟨_,h9⟩:=List.getElem?_eq_some_iff.1 hmg;exact h9
            simp[htl,getD_map,hj,hjk,hml,hmg,hmg2,u64_wrap (show p<18446744073709551616 by omega),hclr,hms _ rfl,w2]
            exact Nxt.mk (t+1) (by omega) (by simp) (by simp) (by omega) (by simp) (.inl (by simp))
          · have h9:t=pr.length:=by omega
            subst h9
            have hmk1:marksC k (mkT I p pr pr.length)=marksC k fun j=>markN I j (p+1):=marksC_congr fun j hj=>by
              have:=him j (by omega) (by omega)
              unfold mkT
              rw[List.take_length,markN]
              cases hb:insB (scrV I p) j with
              | false =>
                rw[if_pos,if_neg (by simp)]
                rw[List.any_eq_true]
                obtain⟨s,h8,h9⟩:=this.2 hb
                exact⟨s,h8,by simpa using h9⟩
              | true =>
                rw[if_neg,if_pos rfl]
                rw[List.any_eq_true]
                rintro⟨s,h8,h9⟩
                have:=this.1 ⟨s,h8,by simpa using h9⟩
                rw[hb] at this
                cases this
            rw[hmk1]
            simp
            refine vc_lp (σ:=Nat) (fun c=>c≤(scrV I p).length) (fun c=>(scrV I p).length-c)
              (fun c=>[.any,.any,.ref 0 0 0 0,.any,.d (.int .i64 n),.d (Rep.to F),.any,.any,.any,.d (Rep.to N),.d (Rep.to I),.d (.int .i64 k),.own 2 0 0 k,.own 3 0 0 (k+1),.any,.d (.int .i64 p),.d (Rep.to (scrV I p)),.any,.any,.any,.d (.int .i64 c),.any,.any,.any,.any,.any,.any,.any,.any,.any,.any,.any,.any,.any,.any,.any,.any,.any,.any])
              (fun c=>.cells 0 2 [.d (.agg [.int .i64 0,.nilsl])]::.dead::.cells 0 1 (marksC k fun j=>markN I j (p+1))::.cells 0 1 (gapC n (k+1) (k+1))::rowsO n (dAt I p c) (k+1)) 0 (by simp) (by simp) (by simp) ?_ (hc:=.inl (by simp[rowsO_len]))
            intro c hc
            by_cases hcl:c<(scrV I p).length
            · have w2:IntKind.i64.wrap ((c:Int)+1)=(c:Int)+1:=wrap_in (by omega) (by omega)
              obtain⟨_,m2⟩:=okV_new _ _ _ _ _ _ hok
              obtain⟨m3,m4,m5,m6,m7,m8⟩:=m2 _ (List.getElem_mem hcl)
              obtain⟨j,hj⟩:=Int.eq_ofNat_of_zero_le m3
              obtain⟨o,ho⟩:=Int.eq_ofNat_of_zero_le m6
              obtain⟨ol,hol⟩:=Int.eq_ofNat_of_zero_le m7
              obtain⟨st1,st2⟩:=dAt_step hcl hj
              have hgg:=gapC_get (n:=n) (m:=k+1) (k:=k+1) (j:=j) (by omega) (by omega)
              have hgl:=gapC_len n (k+1) (k+1)
              have hrg:=rowsO_get (n:=n) (d:=dAt I p c) (m:=k+1) (k:=j) (by omega)
              have hrl:=rowsO_len n (dAt I p c) (k+1)
              have hrw:=rowG_len n (dAt I p c) j
              have hrs:=rowsO_set (n:=n) (m:=k+1) (d:=dAt I p c) (e:=dAt I p (c+1)) (p:=p) (k:=j) hpn st1 fun q i _ hqi=>st2 q i hqi
              have hgD:I.getD (p+1) []=I[p+1]:=by simp[List.getD,show p+1<I.length by omega]
              rw[hgD,ho,hol] at hrs
              simp at hrs
              have hgg2:∀h:j<(gapC n (k+1) (k+1)).length,(gapC n (k+1) (k+1))[j]'h=.own (j+4) 0 0 n:=fun h=>by obtain⟨_,h9⟩:=List.getElem?_eq_some_iff.1 hgg;exact h9
              have hrg2:∀h:j<(rowsO n (dAt I p c) (k+1)).length,(rowsO n (dAt I p c) (k+1))[j]'h=.cells 0 1 (rowG n (dAt I p c) j):=fun h=>by obtain⟨_,h9⟩:=List.getElem?_eq_some_iff.1 hrg;exact h9
              have w3:IntKind.i64.wrap ((o:Int)+ol)=(o:Int)+ol:=wrap_in (by omega) (by omega)
              simp[hcl,getD_map,hj,ho,hol,w1,w2,w3,show p+1<I.length by omega,hgg,hgg2,hgl,hrg,hrg2,hrl,hrw,hpn,hrs,show j<k+1 by omega,show ((o:Int)+ol).toNat-o=ol by omega]
              exact⟨by omega,by omega,by omega,Nxt.mk (c+1) (by omega) (by simp) (by simp) (by omega) (by simp) (.inl (by simp[rowsO_len]))⟩
            · have h9:c=(scrV I p).length:=by omega
              subst h9
              have hde:rowsO n (dAt I p (scrV I p).length) (k+1)=rowsO n (dAt I (p+1) 0) (k+1):=rowsO_congr fun q j _=>dAt_end I p q j
              rw[hde]
              simp[w1]
              exact Nxt.mk (p+1) (by omega) (by simp) (by simp) (by omega) (by simp) (.inl (by simp[rowsO_len]))
      · have h9:p=n:=by omega
        subst h9
        simp
        refine Hint.of (T':=[.any,.any,.ref 0 0 0 0,.any,.d (.int .i64 p),.d (Rep.to F),.any,.any,.any,.d (Rep.to N),.any,.d (.int .i64 L),.d (.sl 1 (((List.range L).map fun k=>(⟨markN I k p⟩:U32T)).map Rep.to)),.d (.sl 1 (rowsD p (dAt I p 0) (L+1))),.any,.any,.any,.any,.any,.any,.any,.any,.any,.any,.any,.any,.any,.any,.any,.any,.any,.any,.any,.any,.any,.any,.any,.any,.any]) (s':=[.cells 0 2 [.d (.agg [.int .i64 0,.nilsl])]]) (freezeAll (by omega) _ L p (L+1) (fun k=>markN I k p) (dAt I p 0) ?_ ?_ ?_) ?_
        · refine⟨[.any,.any,.ref 0 0 0 0,.any,.d (.int .i64 p),.d (Rep.to F),.any,.any,.any,.d (Rep.to N),.any,.d (.int .i64 L),.own 2 0 0 L,.d (.sl 1 (rowsD p (dAt I p 0) (L+1))),.any,.any,.any,.any,.any,.any,.any,.any,.any,.any,.any,.any,.any,.any,.any,.any,.any,.any,.any,.any,.any,.any,.any,.any,.any],?_,[.any,.any,.ref 0 0 0 0,.any,.d (.int .i64 p),.d (Rep.to F),.any,.any,.any,.d (Rep.to N),.any,.d (.int .i64 L),.d (.sl 1 (((List.range L).map fun k=>(⟨markN I k p⟩:U32T)).map Rep.to)),.d (.sl 1 (rowsD p (dAt I p 0) (L+1))),.any,.any,.any,.any,.any,.any,.any,.any,.any,.any,.any,.any,.any,.any,.any,.any,.any,.any,.any,.any,.any,.any,.any,.any,.any],?_,?_⟩
          · simp
            simpa using fz_gaps p (L+1) (dAt I p 0)
          · simp
            simpa using fz_marks L fun k=>markN I k p
          · simp
        · simp
        · rfl
        simp
        refine vc_lpR (σ:=Nat) (fun k=>k≤L+1) (fun k=>L+1-k)
          (fun k=>[.any,.any,.ref 0 0 0 0,.any,.d (.int .i64 p),.d (Rep.to F),.any,.any,.any,.d (Rep.to N),.any,.d (.int .i64 L),.d (.sl 1 (((List.range L).map fun k=>(⟨markN I k p⟩:U32T)).map Rep.to)),.d (.sl 1 (rowsD p (dAt I p 0) (L+1))),.any,.any,.any,.any,.any,.any,.any,.ref 1 0 0 0,.d (.int .i64 k),.any,.any,.any,.any,.any,.any,.any,.any,.any,.any,.any,.any,.any,.any,.any,.any])
          (fun k=>[.cells 0 2 [.d (.agg [.int .i64 0,.nilsl])],.cells 0 2 [.agg [.d (.int .i64 p),.gr 2 3 ((rowsTo N I p k).map Rep.to)]],.tip (rowsTo N I p k).length]) 0 ?_ (by simp) ?_
        · refine Re.weak (k:=[.tip 0]) (s':=[.cells 0 2 [.d (.agg [.int .i64 0,.nilsl])],.cells 0 2 [.agg [.d (.int .i64 p),.gr 2 3 []]]]) (by simp) (by simp) (by simp) ⟨.inl rfl,.cellsL ?_,trivial⟩
          simp
          exact Wk.fresh 2 [.tip 0] 3 0 rfl
        intro k hk
        have hBn:101 * p≤4096:=by omega
        have hp32:p≤32:=by omega
        have hrl:=rowsTo_len (N:=N) hIp hp32 hBn
        by_cases hkL:k≤L
        · have w1:IntKind.i64.wrap ((k:Int)+1)=(k:Int)+1:=wrap_in (by omega) (by omega)
          have hrd:=rowsD_get (n:=p) (d:=dAt I p 0) (m:=L+1) (k:=k) (by omega)
          have hrdl:(rowsD p (dAt I p 0) (L+1)).length=L+1:=by simp[rowsD]
          have hrd2:∀h:k<(rowsD p (dAt I p 0) (L+1)).length,(rowsD p (dAt I p 0) (L+1))[k]'h=.sl 1 (rowD p (dAt I p 0) k):=fun h=>by obtain⟨_,h9⟩:=List.getElem?_eq_some_iff.1 hrd;exact h9
          have hof:=rowD_of I p k
          have hgl:=gapV_len I p k
          have hsu:=sumL_gap hIp k
          obtain⟨hco,hcok⟩:=merged_ok (xs:=gapV I p k) (by omega) (by omega)
          have hml:=hcok.len
          have hmm:=fun m hm=>merged_line hIp hp32 hBn (k:=k) (m:=m) hm
          have hrs:=rowsTo_succ N I p k
          unfold gapRows at hrs
          rw[hI0] at hrs
          simp[hkL,hrd,hrd2,hrdl,h7,hof,hco,show sumL (gapV I p k)≤4096 by omega,show (gapV I p k).length≤1048576 by omega]
          refine⟨by omega,?_⟩
          generalize mergedV (gapV I p k)=ml at *
          have hrk:=hrl k
          have hk101:(rowsTo N I p k).length≤4097 * 101:=by omega
          rw[← rowsIn_zero N I p k ml]
          refine vc_lp (σ:=Nat) (fun i=>i≤ml.length) (fun i=>ml.length-i)
            (fun i=>[.any,.any,.ref 0 0 0 0,.any,.d (.int .i64 p),.d (Rep.to F),.any,.any,.any,.d (Rep.to N),.any,.d (.int .i64 L),.d (.sl 1 (((List.range L).map fun k=>(⟨markN I k p⟩:U32T)).map Rep.to)),.d (.sl 1 (rowsD p (dAt I p 0) (L+1))),.any,.any,.any,.any,.any,.any,.any,.ref 1 0 0 0,.d (.int .i64 k),.d (Rep.to ml),.any,.d (.int .i64 i),.any,.any,.any,.any,.any,.any,.any,.any,.any,.any,.any,.any,.any])
            (fun i=>[.cells 0 2 [.d (.agg [.int .i64 0,.nilsl])],.cells 0 2 [.agg [.d (.int .i64 p),.gr 2 3 ((rowsIn N I p k ml i).map Rep.to)]],.tip (rowsIn N I p k ml i).length]) 0 (by simp) (by simp) (by simp) ?_
          intro i hi
          by_cases hil:i<ml.length
          · have w2:IntKind.i64.wrap ((i:Int)+1)=(i:Int)+1:=wrap_in (by omega) (by omega)
            obtain⟨b,hb,hbm⟩:=hmm _ (List.getElem_mem hil)
            obtain⟨j,hj,hjN⟩:=hIm b hb _ hbm
            have hst:=rowsIn_succ N I p k hil
            have hsl:=rowsIn_len N I p k hi
            have hlr:lostRow N ml[i]=⟨true,ml[i].parents,N[j]⟩:=by unfold lostRow;rw[hj];simp[List.getD,hjN]
            rw[hlr] at hst
            simp[hil,getD_map,hj,hjN,w2,hsl]
            exact⟨by unfold room;omega,Nxt.mk (i+1) (by omega) (by simp) (by simp[hst,hsl]) (by omega)⟩
          · have h9:i=ml.length:=by omega
            subst h9
            have hsl:=rowsIn_len N I p k (Nat.le_refl ml.length)
            have hre:rowsIn N I p k ml ml.length=rowsTo N I p k++ml.map (lostRow N):=by unfold rowsIn;rw[List.take_length]
            by_cases hkl:k<L
            · have hrs2:rowsTo N I p (k+1)=rowsIn N I p k ml ml.length++[keptRow N I p k]:=by rw[hrs,if_pos (by omega),hre,List.append_assoc]
              have hkr:keptRow N I p k=⟨false,markN I k p,F[0][k]'(by omega)⟩:=by
                unfold keptRow
                rw[(hkt k (by omega)).1]
                congr 1
                simp[hF0]
              rw[hkr] at hrs2
              have hl2:(rowsTo N I p (k+1)).length=(rowsTo N I p k).length+ml.length+1:=by rw[hrs2];simp[hsl]
              simp[hkl,getD_map,w1,hF0l,h0F,hsl,show ¬L≤k by omega]
              exact⟨by unfold room;omega,Nxt.mk (k+1) (by omega) (by simp) (by simp[hrs2,hsl]) (by omega)⟩
            · have hrs2:rowsTo N I p (k+1)=rowsIn N I p k ml ml.length:=by rw[hrs,if_neg (by omega),hre,List.append_nil]
              simp[w1,show ¬k<L by omega]
              exact Nxt.mk (k+1) (by omega) (by simp) (by simp[hrs2]) (by omega)
        · have h9:k=L+1:=by omega
          subst h9
          rw[hLL]
          generalize rowsTo N I p (L+1)=rr at *
          simp[show ¬((L:Int)+1≤L) by omega]
def rowM0 (raw:List Int) (n i:Nat):Int:=if (atV raw (3 * i+2)).tmod 2=0∨(atV raw (3 * i+1)).tmod 3=0 then modV (atV raw (3 * i+3)) (2 ^ n) else 0
def freeRow (raw:List Int) (n i:Nat):RowT :=
  ⟨decide ((atV raw (3 * i+1)).tmod 3=0),if (atV raw (3 * i+1)).tmod 3=0∧rowM0 raw n i=0 then 1 else rowM0 raw n i,lineV i++[10]⟩
def freeRows (raw:List Int) (n k:Nat):List RowT:=(List.range k).map (freeRow raw n)
theorem freeRows_succ (raw:List Int) (n k:Nat):freeRows raw n (k+1)=freeRows raw n k++[freeRow raw n k]:=by simp[freeRows,List.range_succ]
def pickN (n:Int):Nat:=(1+modV n 4).toNat
def pickV (raw:List Int) (n:Int) (free:Bool):TableT :=
  if free then ⟨pickN n,freeRows raw (pickN n) (modV (atV raw 0) 20).toNat⟩ else makeV ((blobsV raw (pickN n+1) 7).getD 0 []) ((blobsV raw (pickN n+1) 7).drop 1)
theorem pickN_in (n:Int):1≤pickN n∧pickN n≤4∧((pickN n:Nat):Int)=1+modV n 4:=by
  have:=modV_lt n (n:=4) (by omega)
  unfold pickN
  omega
theorem blobs_cons (raw:List Int) (n:Nat):∃b bs,blobsV raw (n+1) 7=b::bs∧bs.length=n∧b.length≤60∧∀x,x∈bs→x.length≤60:=by
  have hl:(blobsV raw (n+1) 7).length=n+1:=by simp[blobsV]
  have hm:∀x,x∈blobsV raw (n+1) 7→x.length≤60:=by
    intro x hx
    obtain⟨p,_,rfl⟩:=List.mem_map.1 hx
    have:=blobOne_len raw (lines:=7) (by omega) p
    omega
  cases h:blobsV raw (n+1) 7 with
  | nil=>rw[h] at hl;cases hl
  | cons b bs =>
    rw[h] at hl hm
    exact⟨b,bs,rfl,by simpa using hl,hm b (by simp),fun x hx=>hm x (by simp[hx])⟩
theorem rowM0_in (raw:List Int) {n:Nat} (hn:n≤4) (i:Nat):0≤rowM0 raw n i∧rowM0 raw n i<2 ^ n:=by
  unfold rowM0
  have h2:(1:Int)≤2 ^ n:=by
    have:0<2 ^ n:=Nat.two_pow_pos n
    have h3:((2 ^ n:Nat):Int)=(2:Int) ^ n:=by push_cast;rfl
    omega
  split
  · exact modV_lt _ h2
  · omega
theorem pow16 {n:Nat} (h:n≤4):(2:Int) ^ n≤16∧(1:Int)≤2 ^ n:=by
  have:∀n:_root_.Fin 5,(2:Int) ^ n.val≤16∧(1:Int)≤2 ^ n.val:=by decide
  exact this ⟨n,by omega⟩
@[simp] def S_law17_pick:List D→Prop × D:=spec3 (α:=List Int) (β:=Int) (γ:=Bool) (fun raw _ _=>raw.length≤9223372036854775807) (fun raw n free=>Rep.to (pickV raw n free))
theorem ct_law17_pick {P:Program} {f g1 g2 g3 g4 g5:Nat} {G:Gam} (h:CodeOf P f 3 13 [22003] (x_law17_pick g1 g2 g3 g4 g5)) (hG:GamOk P G) (h1:G.find g1=some S_gen_Mod) (h2:G.find g2=some S_gen_Blobs) (h3:G.find g3=some S_ref16_Make) (h4:G.find g4=some S_gen_At) (h5:G.find g5=some S_gen_Line):Has P f S_law17_pick:=h.has3 hG fun raw n free hp=>by
  obtain⟨n1,n2,n3⟩:=pickN_in n
  have w0:IntKind.i64.wrap (1+modV n 4)=(pickN n:Nat):=by rw[wrap_in (by omega) (by omega),n3]
  have q2:raw.length≤9223372036854775807:=by omega
  cases free with
  | false =>
    obtain⟨b,bs,hb,hbl,hb1,hb2⟩:=blobs_cons raw (pickN n)
    have hv:pickV raw n false=makeV b bs:=by
      unfold pickV
      rw[if_neg (by simp),hb]
      rfl
    have hmk:makeD b bs=.tup [Rep.to (makeV b bs),.int .i64 0]:=by unfold makeD;rw[if_neg (by omega)]
    have w1:IntKind.i64.wrap (((pickN n:Nat):Int)+1)=((pickN n+1:Nat):Int):=by rw[wrap_in (by omega) (by omega)];omega
    have hb3:∀x,x∈bs→x.length≤100:=fun x hx=>by have:=hb2 x hx;omega
    rw[hv]
    have htk:List.take bs.length (List.map (Rep.to (α:=Str)) bs)=List.map Rep.to bs:=List.take_of_length_le (by simp)
    simp[x_law17_pick,h1,h2,h3,w0,w1,hp,show ((pickN n:Nat):Int)+1≤1000 by omega,hb,htk,show b.length≤100 by omega,hmk]
    exact⟨by omega,hb3⟩
  | true =>
    have hv:pickV raw n true=⟨pickN n,freeRows raw (pickN n) (modV (atV raw 0) 20).toNat⟩:=by
      unfold pickV
      rw[if_pos rfl]
    rw[hv]
    generalize pickN n=N at *
    obtain⟨m1,m2⟩:=modV_lt (atV raw 0) (n:=20) (by omega)
    obtain⟨M,hM⟩:∃M:Nat,modV (atV raw 0) 20=M:=⟨(modV (atV raw 0) 20).toNat,by omega⟩
    obtain⟨e1,e2⟩:=pow16 n2
    rw[hM]
    simp[x_law17_pick,h1,w0]
    refine vc_lpR (σ:=Nat) (fun i=>i≤M) (fun i=>M-i)
      (fun i=>[.d (Rep.to raw),.d (.int .i64 N),.any,.ref 0 0 0 0,.any,.any,.ref 1 0 0 0,.d (.int .i64 i),.any,.any,.any,.any,.any])
      (fun i=>[.cells 0 2 [.d (.agg [.int .i64 0,.nilsl])],.cells 0 2 [.agg [.d (.int .i64 N),.gr 2 3 ((freeRows raw N i).map Rep.to)]],.tip i]) 0 ?_ (by simp) ?_
    · refine Re.weak (k:=[.tip 0]) (s':=[.cells 0 2 [.d (.agg [.int .i64 0,.nilsl])],.cells 0 2 [.agg [.d (.int .i64 N),.gr 2 3 []]]]) (by simp) (by simp) (by simp) ⟨.inl rfl,.cellsL ?_,trivial⟩
      simp
      exact Wk.fresh 2 [.tip 0] 3 0 rfl
    intro i hi
    have hfl:(freeRows raw N i).length=i:=by simp[freeRows]
    by_cases hiM:i<M
    · have w1:IntKind.i64.wrap ((i:Int)+1)=(i:Int)+1:=wrap_in (by omega) (by omega)
      have w2:IntKind.i64.wrap (3 * (i:Int))=3 * i:=wrap_in (by omega) (by omega)
      have w3:IntKind.i64.wrap (3 * (i:Int)+1)=3 * i+1:=wrap_in (by omega) (by omega)
      have w4:IntKind.i64.wrap (3 * (i:Int)+2)=3 * i+2:=wrap_in (by omega) (by omega)
      have w5:IntKind.i64.wrap (3 * (i:Int)+3)=3 * i+3:=wrap_in (by omega) (by omega)
      have r1:0≤3 * (i:Int)+1∧3 * (i:Int)+1<9223372036854775807:=by omega
      have r2:0≤3 * (i:Int)+2∧3 * (i:Int)+2<9223372036854775807:=by omega
      have r3:0≤3 * (i:Int)+3∧3 * (i:Int)+3<9223372036854775807:=by omega
      have wN:IntKind.u64.wrap ((N:Nat):Int)=N:=u64_wrap (by omega)
      have hmin:min N IntKind.i64.bits=N:=by simp only[IntKind.bits];omega
      have wp:IntKind.i64.wrap (2 ^ min N IntKind.i64.bits)=2 ^ N:=by rw[hmin];exact wrap_in (by omega) (by omega)
      obtain⟨t1,t2⟩:=modV_lt (atV raw (3 * i+3)) e2
      have wu:IntKind.u32.wrap (modV (atV raw (3 * i+3)) (2 ^ N))=modV (atV raw (3 * i+3)) (2 ^ N):=by
        obtain⟨q,hq⟩:∃q:Nat,modV (atV raw (3 * i+3)) (2 ^ N)=q:=⟨_,(Int.toNat_of_nonneg t1).symm⟩
        rw[hq]
        exact u32_wrap (by omega)
      have hs:=freeRows_succ raw N i
      unfold freeRow rowM0 at hs
      generalize hz1:atV raw (3 * i+1)=z1 at *
      generalize hz2:atV raw (3 * i+2)=z2 at *
      generalize hz3:modV (atV raw (3 * i+3)) (2 ^ N)=z3 at *
      obtain⟨g1',_⟩:=lineV_good i
      have w00:IntKind.u32.wrap 0=0:=rfl
      have last:room (i+1) 24:=by unfold room;omega
      by_cases c1:z1.tmod 3=0 <;> by_cases c2:z2.tmod 2=0 <;> by_cases c3:z3=0 <;>
        (simp[c1,c2,c3] at hs
         simp[h1,h4,h5,q2,hM,hiM,w1,w2,w3,w4,w5,r1,r2,r3,wN,wp,wu,hz1,hz2,hz3,c1,c2,c3,e1,e2,hfl,w00]
         first
           | exact⟨by omega,by omega,last,Nxt.mk (i+1) (by omega) (by simp) (by simp[hs]) (by omega)⟩
           | exact⟨by omega,last,Nxt.mk (i+1) (by omega) (by simp) (by simp[hs]) (by omega)⟩)
    · have h9:i=M:=by omega
      subst h9
      simp[h1,h4,q2,hM]
def totF {α:Type} (f:Nat→List α):Nat→Nat→List α
  | _,0=>[]
  | j,d+1=>f j++totF f (j+1) d
theorem totF_succ {α:Type} (f:Nat→List α) (j d:Nat):totF f j (d+1)=f j++totF f (j+1) d:=rfl
theorem totF_add {α:Type} (f:Nat→List α):∀(a b j:Nat),totF f j (a+b)=totF f j a++totF f (j+a) b
  | 0,b,j=>by simp[totF]
  | a+1,b,j=>by
    rw[Nat.add_right_comm,totF,totF,totF_add f a b (j+1),List.append_assoc,show j+1+a=j+(a+1) by omega]
theorem totF_congr {α:Type} {f g:Nat→List α}:∀(d j:Nat),(∀k,j≤k→k<j+d→f k=g k)→totF f j d=totF g j d
  | 0,_,_=>rfl
  | d+1,j,h=>by
    rw[totF,totF,h j (by omega) (by omega),totF_congr d (j+1) fun k h1 h2=>h k (by omega) (by omega)]
theorem totF_range {α:Type} (f:Nat→List α):∀m,(List.range m).flatMap f=totF f 0 m
  | 0=>by simp[totF]
  | m+1=>by
    rw[List.range_succ,List.flatMap_append,totF_range f m,totF_add f m 1 0]
    simp[totF]
theorem totF_nil {α:Type} {f:Nat→List α} (d j:Nat) (h:∀k,j≤k→k<j+d→f k=[]):totF f j d=[]:=by
  rw[totF_congr (g:=fun _=>[]) d j h]
  have:∀(d j:Nat),totF (fun _=>([]:List α)) j d=[]:=by
    intro d
    induction d with
    | zero=>intro j;rfl
    | succ d ih=>intro j;rw[totF,ih];rfl
  exact this d j
theorem drop_cons {x:List Int} {i:Nat} (h:i<x.length):x.drop i=x.getD i 0::x.drop (i+1):=by
  rw[List.drop_eq_getElem_cons h]
  simp[List.getD,h]
theorem run_ok (x y:List Int):∀(d i j:Nat),i+d≤x.length→(∀t,t<d→x.getD (i+t) 0=y.getD (j+t) 0)→totF (fun k=>[y.getD k 0]) j d=(x.drop i).take d
  | 0,i,j,_,_=>by simp[totF]
  | d+1,i,j,h,ht=>by
    have h0:=ht 0 (by omega)
    simp only[Nat.add_zero] at h0
    rw[totF,run_ok x y d (i+1) (j+1) (by omega) fun t htd=>by rw[Nat.add_right_comm,Nat.add_right_comm j,Nat.add_assoc,Nat.add_assoc j];exact ht (t+1) (by omega),drop_cons (i:=i) (by omega),List.take_succ_cons,h0]
    rfl
theorem gapS_fold_none (x:List Int) (k:Nat):∀(l:List ChangeT) (acc:List Int),(∀d,d∈l→d.new≠(k:Int))→l.foldl (fun acc c=>if c.new=(k:Int) then (x.drop c.old.toNat).take c.oldLen.toNat else acc) acc=acc
  | [],_,_=>rfl
  | c::l,acc,h=>by
    rw[List.foldl_cons,if_neg (h c (by simp))]
    exact gapS_fold_none x k l acc fun d hd=>h d (by simp[hd])
theorem gapS_none {x:List Int} {l:List ChangeT} {k:Nat} (h:∀d,d∈l→d.new≠(k:Int)):gapS x l k=[]:=gapS_fold_none x k l [] h
theorem gapS_hit {x:List Int} {c:ChangeT} {l:List ChangeT} {k:Nat} (hc:c.new=(k:Int)) (h:∀d,d∈l→d.new≠(k:Int)):gapS x (c::l) k=(x.drop c.old.toNat).take c.oldLen.toNat:=by
  unfold gapS
  rw[List.foldl_cons,if_pos hc,gapS_fold_none x k l _ h]
theorem gapS_miss {x:List Int} {c:ChangeT} {l:List ChangeT} {k:Nat} (hc:c.new≠(k:Int)):gapS x (c::l) k=gapS x l k:=by
  unfold gapS
  rw[List.foldl_cons,if_neg hc]
theorem okV_lt {l:List ChangeT} {i j m n:Int} (h:okV l i j false m n=true):∀c,c∈l→j<c.new:=by
  cases l with
  | nil=>simp
  | cons c l =>
    simp only[okV,Bool.and_eq_true] at h
    have h2:=stepV_true h.1
    have h3:=okV_new _ _ _ _ _ _ h.2
    intro d hd
    have:=h2.2.2.2.2.2.2.2 rfl
    rcases List.mem_cons.1 hd with rfl | hd
    · omega
    · have:=h3.2 d hd
      omega
def pieceK (x y:List Int) (s:List ChangeT) (k:Nat):List Int:=gapS x s k++if k<y.length∧insB s k=false then [y.getD k 0] else []
theorem proj_ok (x y:List Int):∀(l:List ChangeT) (i j:Nat) (fst:Bool),okV l i j fst x.length y.length=true→(∀s,s∈matV l i j x.length→x.getD s.fr.toNat 0=y.getD s.to.toNat 0) →
    totF (pieceK x y l) j (y.length+1-j)=x.drop i
  | [],i,j,fst,h,hm=>by
    simp only[okV,Bool.and_eq_true,decide_eq_true_eq] at h
    have hd:y.length+1-j=(x.length-i)+1:=by omega
    rw[hd,totF_add,totF_nil (f:=pieceK x y []) 1 (j+(x.length-i)),List.append_nil,
      totF_congr (g:=fun k=>[y.getD k 0]),run_ok x y (x.length-i) i j (by omega),List.take_of_length_le (by simp)]
    · intro t ht
      have:=hm ⟨(i:Int)+t,(j:Int)+t⟩ ((runN_mem _ _ _ _).2 ⟨t,by omega,rfl⟩)
      simp only at this
      rw[show ((i:Int)+t).toNat=i+t by omega,show ((j:Int)+t).toNat=j+t by omega] at this
      exact this
    · intro k h1 h2
      unfold pieceK
      rw[if_pos ⟨by omega,rfl⟩]
      rfl
    · intro k h1 h2
      unfold pieceK
      rw[if_neg (by omega)]
      rfl
  | c::l,i,j,fst,h,hm=>by
    simp only[okV,Bool.and_eq_true] at h
    have h2:=stepV_true h.1
    have hn:=okV_new _ _ _ _ _ _ h.2
    have hlt:=okV_lt h.2
    obtain⟨o,ho⟩:=Int.eq_ofNat_of_zero_le h2.1.1
    obtain⟨ol,hol⟩:=Int.eq_ofNat_of_zero_le h2.2.1.1
    obtain⟨nw,hnw⟩:=Int.eq_ofNat_of_zero_le h2.2.2.1.1
    obtain⟨nl,hnl⟩:=Int.eq_ofNat_of_zero_le h2.2.2.2.1.1
    have hle:=okV_le _ _ _ _ _ _ h.2
    rw[hnw,hnl] at hlt
    rw[ho,hol,hnw,hnl] at h hn hle
    have hoi:i≤o:=by omega
    have hji:j≤nw:=by omega
    have hlen:o-i=nw-j:=by omega
    have ih:=proj_ok x y l (o+ol) (nw+nl) false (by push_cast;exact h.2) fun s hs=>hm s (by
      rw[matV,List.mem_append,ho,hol,hnw,hnl]
      right
      push_cast at hs
      exact hs)
    have hins:∀k,insB (c::l) k=(decide (c.new≤(k:Int)∧(k:Int)<c.new+c.newLen) || insB l k):=fun k=>by simp[insB]
    have hlow:∀k:Nat,(k:Int)<(nw+nl:Nat)→insB l k=false:=fun k hk=>insB_low h.2 (by push_cast at hk;exact hk)
    have hge:∀k,nw+nl≤k→k≠nw→pieceK x y (c::l) k=pieceK x y l k:=fun k hk hne=>by
      unfold pieceK
      rw[gapS_miss (by rw[hnw];omega),hins k]
      have:decide (c.new≤(k:Int)∧(k:Int)<c.new+c.newLen)=false:=by rw[hnw,hnl,decide_eq_false_iff_not];omega
      rw[this,Bool.false_or]
    have hgl:∀k:Nat,k≤nw+nl→∀d,d∈l→d.new≠(k:Int):=fun k hk d hd=>by
      have:=hlt d hd
      omega
    have hfirst:totF (pieceK x y (c::l)) j (nw-j)=(x.drop i).take (o-i):=by
      rw[totF_congr (g:=fun k=>[y.getD k 0]),← hlen,run_ok x y (o-i) i j (by omega)]
      · intro t ht
        have:=hm ⟨(i:Int)+t,(j:Int)+t⟩ (by
          rw[matV,List.mem_append,ho]
          exact .inl ((runN_mem _ _ _ _).2 ⟨t,by omega,rfl⟩))
        simp only at this
        rw[show ((i:Int)+t).toNat=i+t by omega,show ((j:Int)+t).toNat=j+t by omega] at this
        exact this
      · intro k h3 h4
        unfold pieceK
        rw[gapS_miss (by rw[hnw];omega),gapS_none (hgl k (by omega)),hins k,hlow k (by push_cast;omega)]
        have:decide (c.new≤(k:Int)∧(k:Int)<c.new+c.newLen)=false:=by rw[hnw,decide_eq_false_iff_not];omega
        rw[this,if_pos ⟨by omega,rfl⟩]
        rfl
    have hhit:gapS x (c::l) nw=(x.drop o).take ol:=by
      rw[gapS_hit hnw (hgl nw (by omega)),ho,hol]
      simp
    have hsecond:totF (pieceK x y (c::l)) nw (y.length+1-nw)=(x.drop o).take ol++x.drop (o+ol):=by
      rw[← ih]
      rcases Nat.eq_zero_or_pos nl with h0 | h0
      · subst h0
        show _=_++totF (pieceK x y l) nw (y.length+1-nw)
        rw[show y.length+1-nw=(y.length-nw)+1 by omega,totF_succ (pieceK x y (c::l)),totF_succ (pieceK x y l),totF_congr (g:=pieceK x y l) _ _ fun k h3 h4=>hge k (by omega) (by omega),← List.append_assoc]
        congr 1
        unfold pieceK
        rw[hhit,gapS_none (hgl nw (by omega)),hins nw]
        have:decide (c.new≤(nw:Int)∧(nw:Int)<c.new+c.newLen)=false:=by rw[hnw,hnl,decide_eq_false_iff_not];omega
        rw[this,Bool.false_or,List.nil_append]
      · rw[show y.length+1-nw=1+((nl-1)+(y.length+1-(nw+nl))) by omega,totF_add,totF_add,show nw+1+(nl-1)=nw+nl by omega]
        rw[totF_congr (g:=pieceK x y l) _ (nw+nl) fun k h3 h4=>hge k (by omega) (by omega)]
        rw[totF_nil (nl-1) (nw+1),List.nil_append]
        · congr 1
          rw[totF,totF,List.append_nil]
          unfold pieceK
          rw[hhit,hins nw]
          have:decide (c.new≤(nw:Int)∧(nw:Int)<c.new+c.newLen)=true:=by rw[hnw,hnl,decide_eq_true_eq];omega
          rw[this,if_neg (by simp),List.append_nil]
        · intro k h3 h4
          unfold pieceK
          rw[gapS_miss (by rw[hnw];omega),gapS_none (hgl k (by omega)),hins k]
          have:decide (c.new≤(k:Int)∧(k:Int)<c.new+c.newLen)=true:=by rw[hnw,hnl,decide_eq_true_eq];omega
          rw[this,if_neg (by simp)]
          rfl
    rw[show y.length+1-j=(nw-j)+(y.length+1-nw) by omega,totF_add,hfirst,show j+(nw-j)=nw by omega,hsecond]
    have e1:(x.drop o).take ol++x.drop (o+ol)=x.drop o:=by rw[← List.drop_drop,List.take_append_drop]
    have e2:x.drop o=(x.drop i).drop (o-i):=by rw[List.drop_drop];congr 1;omega
    rw[e1,e2,List.take_append_drop]
theorem proj_all {x y:List Int} (hx:x.length≤4096) (hy:y.length≤4096):(List.range (y.length+1)).flatMap (pieceK x y (scriptV x y))=x:=by
  have hf:=script_fits hx hy
  simp only[fitsV,checkV,Bool.and_eq_true,List.all_eq_true,decide_eq_true_eq] at hf
  have:=proj_ok x y (scriptV x y) 0 0 true hf.1.2 fun s hs=>hf.2 s hs
  rw[totF_range]
  simpa using this
/-! ### the columns -/
theorem markN_bit (I:List (List Int)) (k:Nat):∀(n p:Nat),(markN I k n).testBit p=(decide (p<n) && insB (scrV I p) k)
  | 0,p=>by simp[markN]
  | n+1,p=>by
    unfold markN
    have ih:=markN_bit I k n p
    cases hb:insB (scrV I n) k with
    | true =>
      rw[if_pos rfl,Nat.testBit_or,Nat.testBit_two_pow,ih]
      by_cases e:p=n
      · subst e;simp[hb]
      · have:decide (n=p)=false:=by simpa using fun h=>e h.symm
        have h2:decide (p<n+1)=decide (p<n):=by rw[decide_eq_decide];omega
        rw[this,h2,Bool.or_false]
    | false =>
      rw[if_neg (by simp),ih]
      by_cases e:p=n
      · subst e;simp[hb]
      · have h2:decide (p<n+1)=decide (p<n):=by rw[decide_eq_decide];omega
        rw[h2]
def nmV (N:List Str) (x:Int):Str:=N.getD x.toNat []
theorem vis_lost (N:List Str) (m:MergedT) {p:Nat} (hp:p<32):visB (lostRow N m) p=hasV p m:=by
  unfold visB hasV lostRow
  rw[if_neg (by omega),if_neg (by omega)]
  simp
theorem vis_kept (N:List Str) (I:List (List Int)) {n p:Nat} (hn:n≤32) (hp:p<n) (k:Nat):visB (keptRow N I n k) p=!insB (scrV I p) k:=by
  unfold visB keptRow
  rw[if_neg (by omega),if_neg (by omega)]
  have hlt:markN I k n<4294967296:=Nat.lt_of_lt_of_le (markN_lt I k n) (pow_le hn)
  simp only[getU_nat hlt (show p<32 by omega),markN_bit]
  cases insB (scrV I p) k <;> simp[hp]
theorem col_app (a b:List RowT) (c:Int):colV (a++b) c=colV a c++colV b c:=by simp[colV]
theorem col_lost (N:List Str) (ml:List MergedT) {p:Nat} (hp:p<32):colV (ml.map (lostRow N)) p=(prB p ml).map (nmV N):=by
  unfold colV prB mlinesV
  rw[List.filter_map,List.map_map,List.map_map]
  have e:((fun r=>visB r (p:Int)) ∘ lostRow N)=hasV p:=funext fun m=>vis_lost N m hp
  rw[e]
  rfl
theorem col_gap {N:List Str} {I:List (List Int)} {n B p:Nat} (h:∀p,p<n→(I.getD (p+1) []).length≤B) (hn:n≤32) (hB:B * n≤4096) (hp:p<n) (k:Nat) :
    colV (gapRows N I n k) p=(pieceK (I.getD (p+1) []) (I.getD 0 []) (scrV I p) k).map (nmV N):=by
  have h1:=sumL_gap h k
  obtain⟨_,h2⟩:=merged_ok (xs:=gapV I n k) (by rw[gapV_len];exact hn) (by omega)
  have h3:=h2.pr p (by rw[gapV_len];exact hp)
  have h4:(gapV I n k)[p]'(by rw[gapV_len];exact hp)=gapS (I.getD (p+1) []) (scrV I p) k:=by simp[gapV]
  rw[h4] at h3
  unfold gapRows pieceK
  rw[col_app,col_lost N _ (by omega),h3,List.map_append]
  congr 1
  by_cases hk:k<(I.getD 0 []).length
  · rw[if_pos hk]
    have hv:=vis_kept N I hn hp k
    unfold colV
    cases hb:insB (scrV I p) k with
    | true=>rw[hb] at hv;rw[if_neg (by simp)];simp[hv]
    | false =>
      rw[hb] at hv
      rw[if_pos ⟨hk,rfl⟩,List.filter_cons,hv]
      rfl
  · rw[if_neg hk,if_neg (by omega)]
    rfl
theorem col_flat (c:Int) (f:Nat→List RowT):∀l:List Nat,colV (l.flatMap f) c=l.flatMap fun k=>colV (f k) c
  | []=>rfl
  | a::l=>by rw[List.flatMap_cons,List.flatMap_cons,col_app,col_flat c f l]
theorem map_flat {α β:Type} (g:α→β) (f:Nat→List α):∀l:List Nat,(l.flatMap f).map g=l.flatMap fun k=>(f k).map g
  | []=>rfl
  | a::l=>by rw[List.flatMap_cons,List.flatMap_cons,List.map_append,map_flat g f l]
theorem col_parent {N:List Str} {I:List (List Int)} {n B p:Nat} (h:∀p,p<n→(I.getD (p+1) []).length≤B) (hn:n≤32) (hB:B * n≤4096) (hp:p<n) (h0:(I.getD 0 []).length≤4096) :
    colV (rowsTo N I n ((I.getD 0 []).length+1)) p=(I.getD (p+1) []).map (nmV N):=by
  have hx:=h p hp
  have hB2:(I.getD (p+1) []).length≤4096:=by
    have:B≤B * n:=Nat.le_mul_of_pos_right B (by omega)
    omega
  have:=proj_all hB2 h0
  unfold rowsTo
  rw[col_flat]
  have e:(fun k=>colV (gapRows N I n k) (p:Int))=fun k=>(pieceK (I.getD (p+1) []) (I.getD 0 []) (scrV I p) k).map (nmV N):=funext fun k=>col_gap h hn hB hp k
  rw[e,← map_flat]
  congr 1
theorem col_res0 (N:List Str) (I:List (List Int)) (n k:Nat):colV (gapRows N I n k) (-1)=if k<(I.getD 0 []).length then [nmV N ((I.getD 0 []).getD k 0)] else []:=by
  unfold gapRows
  rw[col_app]
  have e1:colV ((mergedV (gapV I n k)).map (lostRow N)) (-1)=[]:=by
    unfold colV
    rw[List.filter_eq_nil_iff.2]
    · rfl
    · intro r hr
      obtain⟨m,_,rfl⟩:=List.mem_map.1 hr
      simp[vis_res,lostRow]
  rw[e1,List.nil_append]
  by_cases hk:k<(I.getD 0 []).length
  · rw[if_pos hk,if_pos hk]
    simp[colV,vis_res,keptRow,nmV]
  · rw[if_neg hk,if_neg hk]
    rfl
theorem col_res (N:List Str) (I:List (List Int)) (n:Nat):colV (rowsTo N I n ((I.getD 0 []).length+1)) (-1)=(I.getD 0 []).map (nmV N):=by
  unfold rowsTo
  rw[col_flat]
  generalize hy:I.getD 0 []=y
  have e:∀k,colV (gapRows N I n k) (-1)=if k<y.length then [nmV N (y.getD k 0)] else []:=fun k=>by rw[col_res0,hy]
  rw[funext e,totF_range,totF_add,totF_nil 1,List.append_nil,totF_congr (g:=fun k=>([y.getD k 0]).map (nmV N))]
  · have:∀(d j:Nat),totF (fun k=>([y.getD k 0]).map (nmV N)) j d=(totF (fun k=>[y.getD k 0]) j d).map (nmV N):=by
      intro d
      induction d with
      | zero=>intro j;rfl
      | succ d ih=>intro j;rw[totF,totF,ih,List.map_append]
    rw[this,run_ok y y y.length 0 0 (by omega) (fun _ _=>rfl)]
    simp
  · intro k _ hk
    rw[if_pos (by omega)]
    rfl
  · intro k hk _
    rw[if_neg (by omega)]
theorem linesV_leB {s:Str} {B:Nat} (h:s.length≤B):(linesV s).length≤B+1:=by
  have hc:s.count 10≤s.length:=List.count_le_length
  rw[linesV_len]
  split <;> omega
structure Small (r:Str) (ps:List Str) (B:Nat):Prop where
  hr:r.length≤B
  hp:∀p,p∈ps→p.length≤B
  n1:1≤ps.length
  n2:ps.length≤32
  b1:B≤100
  b2:(B+1) * ps.length≤4096
theorem Small.ids {r:Str} {ps:List Str} {B:Nat} (h:Small r ps B):∀p,p<ps.length→((idsV (filesV r ps)).getD (p+1) []).length≤B+1:=fun p hp=>by
  rw[idsV_getD (by rw[filesV_len];omega),List.length_map,filesV_succ r ps hp]
  exact linesV_leB (h.hp _ (List.getElem_mem hp))
theorem Small.ids0 {r:Str} {ps:List Str} {B:Nat} (h:Small r ps B):((idsV (filesV r ps)).getD 0 []).length≤B+1:=by
  rw[ids0_len]
  exact linesV_leB h.hr
theorem nm_place {N:List Str} {y:Str} (h:y∈N):nmV N (placeV N y)=y:=by
  obtain⟨k,hk,h1,h2⟩:=placeV_mem h
  unfold nmV
  rw[h1]
  simp[List.getD,hk,h2]
theorem nm_ids {r:Str} {ps:List Str} {p:Nat} (hp:p<(filesV r ps).length):((idsV (filesV r ps)).getD p []).map (nmV (namesV (filesV r ps)))=(filesV r ps)[p]:=by
  rw[idsV_getD hp,List.map_map]
  have:∀l:List Str,(∀y,y∈l→y∈namesV (filesV r ps))→l.map (nmV (namesV (filesV r ps)) ∘ placeV (namesV (filesV r ps)))=l:=fun l hl=>by
    rw[List.map_congr_left fun y hy=>show (nmV (namesV (filesV r ps)) ∘ placeV (namesV (filesV r ps))) y=y from nm_place (hl y hy)]
    exact List.map_id' l
  exact this _ fun y hy=>mem_names.2 ⟨_,List.getElem_mem hp,hy⟩
theorem make_col {r:Str} {ps:List Str} {B:Nat} (h:Small r ps B) {p:Nat} (hp:p<ps.length):colV (makeV r ps).rows p=linesV ps[p]:=by
  have h0:=h.ids0
  have:=col_parent (N:=namesV (filesV r ps)) h.ids h.n2 h.b2 hp (by have:=h.b1;omega)
  unfold makeV
  simp only
  rw[← ids0_len r ps,this,nm_ids (by rw[filesV_len];omega),filesV_succ r ps hp]
theorem make_res {r:Str} {ps:List Str}:colV (makeV r ps).rows (-1)=linesV r:=by
  unfold makeV
  simp only
  rw[← ids0_len r ps,col_res,nm_ids (by rw[filesV_len];omega),filesV_zero]
theorem make_row {r:Str} {ps:List Str} {x:RowT} (hx:x∈(makeV r ps).rows) :
    (∃k m,m∈mergedV (gapV (idsV (filesV r ps)) ps.length k)∧x=lostRow (namesV (filesV r ps)) m)∨∃k,∃h:k<(linesV r).length,x=⟨false,markN (idsV (filesV r ps)) k ps.length,(linesV r)[k]⟩:=by
  unfold makeV rowsTo at hx
  simp only[List.mem_flatMap,List.mem_range] at hx
  obtain⟨k,hk,hx⟩:=hx
  unfold gapRows at hx
  rcases List.mem_append.1 hx with hx | hx
  · obtain⟨m,hm,rfl⟩:=List.mem_map.1 hx
    exact .inl ⟨k,m,hm,rfl⟩
  · rw[ids0_len] at hx
    split at hx
    · rename_i hkl
      simp only[List.mem_singleton] at hx
      subst hx
      refine .inr ⟨k,hkl,?_⟩
      unfold keptRow
      rw[(kept_text r ps hkl).1]
    · cases hx
theorem listV_okL {l:List Str} (h:listV l=true) {x:Str} (hx:x∈l):okL x=true:=by
  rw[listV_last,Bool.and_eq_true,List.all_eq_true] at h
  exact h.1 x hx
theorem lost_text {r:Str} {ps:List Str} {B:Nat} (h:Small r ps B) {k:Nat} {m:MergedT} (hm:m∈mergedV (gapV (idsV (filesV r ps)) ps.length k)):∃p,p∈ps∧(lostRow (namesV (filesV r ps)) m).text∈linesV p:=by
  obtain⟨p,hp,hl⟩:=merged_line h.ids h.n2 h.b2 hm
  have hp1:p+1<(filesV r ps).length:=by rw[filesV_len];omega
  obtain⟨j,h1,h2,y,h3,h4,h5⟩:=id_name hp1 hl
  refine⟨ps[p],List.getElem_mem hp,?_⟩
  rw[filesV_succ r ps hp] at h3
  have:(lostRow (namesV (filesV r ps)) m).text=y:=by
    unfold lostRow
    rw[h1,Int.toNat_natCast]
    exact h4
  rw[this]
  exact h3
theorem lines_ok {s x:Str} (h:x∈linesV s):okL x=true∧x.length≤s.length:=by
  have h1:listV (linesV s)=true:=listV_lines s [] (by simp)
  refine⟨listV_okL h1 h,?_⟩
  obtain⟨i,hi,rfl⟩:=List.mem_iff_getElem.1 h
  have h2:=mem_flat_le hi
  have h3:(linesV s).flatten.length=s.length:=by rw[lines_flat]
  omega
theorem make_marks {r:Str} {ps:List Str} {B:Nat} (h:Small r ps B) {x:RowT} (hx:x∈(makeV r ps).rows):∃k:Nat,x.marks=k∧k<2 ^ ps.length∧(x.lost=true→0<k):=by
  rcases make_row hx with ⟨k,m,hm,rfl⟩ | ⟨k,hk,rfl⟩
  · obtain⟨_,h2⟩:=merged_ok (xs:=gapV (idsV (filesV r ps)) ps.length k) (by rw[gapV_len];exact h.n2) (by have:=sumL_gap h.ids k;have:=h.b2;omega)
    obtain⟨q,q1,q2,q3⟩:=h2.ok m hm
    rw[gapV_len] at q3
    exact⟨q,q1,q3,fun _=>q2⟩
  · exact⟨_,rfl,markN_lt _ _ _,fun h=>by cases h⟩
theorem make_text {r:Str} {ps:List Str} {B:Nat} (h:Small r ps B) {x:RowT} (hx:x∈(makeV r ps).rows):okL x.text=true∧x.text.length≤B:=by
  rcases make_row hx with ⟨k,m,hm,rfl⟩ | ⟨k,hk,rfl⟩
  · obtain⟨p,hp,h2⟩:=lost_text h hm
    obtain⟨h3,h4⟩:=lines_ok h2
    exact⟨h3,Nat.le_trans h4 (h.hp p hp)⟩
  · obtain⟨h3,h4⟩:=lines_ok (List.getElem_mem hk)
    exact⟨h3,Nat.le_trans h4 h.hr⟩
theorem make_valid {r:Str} {ps:List Str} {B:Nat} (h:Small r ps B):checkTab (makeV r ps)=0:=by
  have hn1:=h.n1
  have hn2:=h.n2
  have hp:(makeV r ps).parents=(ps.length:Int):=rfl
  have hm:marksB (makeV r ps).rows (makeV r ps).parents.toNat=true:=by
    rw[hp,Int.toNat_natCast,marksB_all,List.all_eq_true]
    intro x hx
    obtain⟨k,h1,h2,h3⟩:=make_marks h hx
    unfold markB
    rw[h1]
    cases hl:x.lost with
    | false=>simp[h2]
    | true =>
      have:=h3 hl
      simp[h2]
      omega
  have ht:textsB (makeV r ps).rows (makeV r ps).parents.toNat=true:=by
    rw[hp,Int.toNat_natCast]
    unfold textsB
    rw[Bool.and_eq_true,List.all_eq_true,List.all_eq_true]
    refine⟨fun x hx=>(make_text h hx).1,fun c hc=>?_⟩
    rw[List.mem_range] at hc
    rcases Nat.eq_zero_or_pos c with h0 | h0
    · subst h0
      rw[show ((0:Nat):Int)-1=-1 from rfl,make_res]
      exact listV_lines r [] (by simp)
    · rw[show (c:Int)-1=((c-1:Nat):Int) by omega,make_col h (by omega)]
      exact listV_lines _ [] (by simp)
  unfold checkTab
  rw[if_neg (by rw[hp];omega),if_pos hm,if_pos ht]
theorem rows_len2 {N:List Str} {I:List (List Int)} {n B:Nat} (h:∀p,p<n→(I.getD (p+1) []).length≤B) (hn:n≤32) (hB:B * n≤4096):∀k,(rowsTo N I n k).length≤(B * n+1) * k
  | 0=>by simp[rowsTo]
  | k+1=>by
    rw[rowsTo_succ,List.length_append,Nat.mul_succ]
    have h0:=rows_len2 (N:=N) h hn hB k
    have h1:=sumL_gap h k
    obtain⟨_,h2⟩:=merged_ok (xs:=gapV I n k) (by rw[gapV_len];exact hn) (by omega)
    have h3:=h2.len
    have h4:(gapRows N I n k).length≤B * n+1:=by
      unfold gapRows
      rw[List.length_append,List.length_map]
      split <;> simp <;> omega
    omega
theorem flen_leB {B:Nat}:∀rows:List RowT,(∀x,x∈rows→x.text.length≤B)→flen (rows.map RowT.text)≤B * rows.length
  | [],_=>by simp[flen]
  | x::r,h=>by
    have h1:=flen_leB r fun y hy=>h y (by simp[hy])
    have h2:=h x (by simp)
    unfold flen at *
    rw[List.map_cons,List.flatten_cons,List.length_append,List.length_cons,Nat.mul_succ]
    omega
theorem make_len {r:Str} {ps:List Str} {B:Nat} (h:Small r ps B):(makeV r ps).rows.length≤((B+1) * ps.length+1) * (B+2):=by
  have h1:=rows_len2 (N:=namesV (filesV r ps)) h.ids h.n2 h.b2 ((linesV r).length+1)
  have h2:=linesV_leB h.hr
  exact Nat.le_trans h1 (Nat.mul_le_mul_left _ (by omega))
theorem make_tabOk {r:Str} {ps:List Str} {B:Nat} (h:Small r ps B) (hB:B * (((B+1) * ps.length+1) * (B+2))≤4194304):tabOk (makeV r ps):=by
  have hl:=make_len h
  refine⟨?_,fun x hx=>?_,?_⟩
  · have h1:(B+1) * ps.length+1≤4097:=by have:=h.b2;omega
    have h2:B+2≤102:=by have:=h.b1;omega
    have:=Nat.mul_le_mul h1 h2
    omega
  · obtain⟨k,h1,h2,_⟩:=make_marks h hx
    have h3:=pow_le h.n2
    unfold rowOk
    rw[h1]
    omega
  · have h1:=flen_leB (B:=B) (makeV r ps).rows fun x hx=>(make_text h hx).2
    exact Nat.le_trans h1 (Nat.le_trans (Nat.mul_le_mul_left _ hl) hB)
/-! ### free tables -/
theorem freeRow_text (raw:List Int) (n i:Nat):okL (freeRow raw n i).text=true∧endedV (freeRow raw n i).text=true∧(freeRow raw n i).text.length≤4:=by
  obtain⟨h1,h2⟩:=lineV_good i
  have h3:(10:UInt8) ∉ lineV i:=by
    rw[List.count_eq_zero] at h2
    exact h2
  unfold freeRow okL endedV
  simp[h3]
  omega
theorem freeRow_marks (raw:List Int) {n:Nat} (h1:1≤n) (h2:n≤4) (i:Nat):∃k:Nat,(freeRow raw n i).marks=k∧k<2 ^ n∧((freeRow raw n i).lost=true→0<k):=by
  obtain⟨r1,r2⟩:=rowM0_in raw h2 i
  obtain⟨k,hk⟩:=Int.eq_ofNat_of_zero_le r1
  have hk2:k<2 ^ n:=by
    have:((2 ^ n:Nat):Int)=(2:Int) ^ n:=by push_cast;rfl
    omega
  have h3:1<2 ^ n:=Nat.one_lt_two_pow (by omega)
  unfold freeRow
  simp only[hk]
  by_cases c:(atV raw (3 * i+1)).tmod 3=0
  · by_cases c2:(k:Int)=0
    · exact⟨1,by simp[c,c2],h3,fun _=>by omega⟩
    · exact⟨k,by rw[if_neg (fun h=>c2 h.2)],hk2,fun _=>by omega⟩
  · exact⟨k,by simp[c],hk2,fun h=>by simp[c] at h⟩
theorem listV_all:∀l:List Str,(∀x,x∈l→okL x=true∧endedV x=true)→listV l=true
  | [],_=>rfl
  | x::r,h=>by
    obtain⟨h1,h2⟩:=h x (by simp)
    exact listV_cons h1 h2 (listV_all r fun y hy=>h y (by simp[hy]))
theorem free_valid (raw:List Int) {n:Nat} (h1:1≤n) (h2:n≤4) {M:Nat} (hM:M≤20):checkTab ⟨n,freeRows raw n M⟩=0∧tabOk ⟨n,freeRows raw n M⟩:=by
  have hr:∀x,x∈freeRows raw n M→∃i,x=freeRow raw n i:=fun x hx=>by
    obtain⟨i,_,rfl⟩:=List.mem_map.1 hx
    exact⟨i,rfl⟩
  have hl:(freeRows raw n M).length=M:=by simp[freeRows]
  constructor
  · have hm:marksB (freeRows raw n M) n=true:=by
      rw[marksB_all,List.all_eq_true]
      intro x hx
      obtain⟨i,rfl⟩:=hr x hx
      obtain⟨k,e1,e2,e3⟩:=freeRow_marks raw h1 h2 i
      unfold markB
      rw[e1]
      cases hl:(freeRow raw n i).lost with
      | false=>simp[e2]
      | true =>
        have:=e3 hl
        simp[e2]
        omega
    have ht:textsB (freeRows raw n M) n=true:=by
      unfold textsB
      rw[Bool.and_eq_true,List.all_eq_true,List.all_eq_true]
      refine⟨fun x hx=>?_,fun c hc=>?_⟩
      · obtain⟨i,rfl⟩:=hr x hx
        exact (freeRow_text raw n i).1
      · refine listV_all _ fun x hx=>?_
        obtain⟨y,hy,rfl⟩:=List.mem_map.1 hx
        obtain⟨i,rfl⟩:=hr y (List.mem_filter.1 hy).1
        have:=freeRow_text raw n i
        exact⟨this.1,this.2.1⟩
    unfold checkTab
    simp only[Int.toNat_natCast]
    rw[if_neg (by omega),if_pos hm,if_pos ht]
  · refine⟨by simp only[hl];omega,fun x hx=>?_,?_⟩
    · obtain⟨i,rfl⟩:=hr x hx
      obtain⟨k,e1,e2,e3⟩:=freeRow_marks raw h1 h2 i
      have:=pow_le (show n≤32 by omega)
      unfold rowOk
      rw[e1]
      omega
    · have:=flen_leB (B:=4) (freeRows raw n M) fun x hx=>by
        obtain⟨i,rfl⟩:=hr x hx
        exact (freeRow_text raw n i).2.2
      rw[hl] at this
      simp only
      omega
theorem pick_valid (raw:List Int) (n:Int) (free:Bool):checkTab (pickV raw n free)=0∧tabOk (pickV raw n free)∧(pickV raw n free).parents=pickN n:=by
  obtain⟨n1,n2,n3⟩:=pickN_in n
  cases free with
  | true =>
    obtain⟨m1,m2⟩:=modV_lt (atV raw 0) (n:=20) (by omega)
    have:=free_valid raw n1 n2 (M:=(modV (atV raw 0) 20).toNat) (by omega)
    unfold pickV
    rw[if_pos rfl]
    exact⟨this.1,this.2,rfl⟩
  | false =>
    obtain⟨b,bs,hb,hbl,hb1,hb2⟩:=blobs_cons raw (pickN n)
    have hv:pickV raw n false=makeV b bs:=by
      unfold pickV
      rw[if_neg (by simp),hb]
      rfl
    have hs:Small b bs 60:=⟨hb1,hb2,by omega,by omega,by omega,by omega⟩
    rw[hv]
    refine⟨make_valid hs,make_tabOk hs ?_,by show (bs.length:Int)=_;rw[hbl]⟩
    have:(60+1) * bs.length+1≤245:=by omega
    have h2:=Nat.mul_le_mul this (Nat.le_refl (60+2))
    omega
end Go.AE
