/-
  Commits in an order in which each one comes before its parents,plainly.
-/
import Derived.Test.YtchgnhinilehiaaGreatDoorAe3
import Derived.Test.YtchgnhinilehiaaGreatDoorCode1
import Derived.Lib.Bytealg
import Derived.Lib.Index
import Derived.Lib.IndexLaws
import Derived.Lib.IndexMore
import Derived.Lib.Join
import Derived.Lib.Split
import Derived.Lib.SplitLaws
import Derived.Lib.Strings

set_option linter.unusedSimpArgs false
set_option linter.unusedVariables false
set_option linter.unnecessarySimpa false
set_option maxRecDepth 20000
set_option maxHeartbeats 4000000
namespace Go.AE
def sumN (f:Nat→Nat) (n:Nat):Nat:=((List.range n).map f).sum
theorem sumN_succ (f:Nat→Nat) (n:Nat):sumN f (n+1)=sumN f n+f n:=by simp[sumN,List.range_succ]
theorem sumN_congr {f g:Nat→Nat}:∀n,(∀c,c<n→f c=g c)→sumN f n=sumN g n
  | 0,_=>rfl
  | n+1,h=>by rw[sumN_succ,sumN_succ,sumN_congr n fun c hc=>h c (by omega),h n (by omega)]
theorem sumN_step {f g:Nat→Nat} {c0:Nat} {x:Nat}:∀n,c0<n→f c0=g c0+x→(∀c,c<n→c≠c0→f c=g c)→sumN f n=sumN g n+x
  | 0,h,_,_=>by omega
  | n+1,h,h1,h2=>by
    rw[sumN_succ,sumN_succ]
    by_cases e:c0=n
    · subst e
      rw[sumN_congr c0 fun c hc=>h2 c (by omega) (by omega),h1]
      omega
    · rw[sumN_step n (by omega) h1 fun c hc hne=>h2 c (by omega) hne,h2 n (by omega) (by omega)]
      omega
theorem sumN_zero {f:Nat→Nat}:∀n,sumN f n=0↔∀c,c<n→f c=0
  | 0=>by simp[sumN]
  | n+1=>by
    rw[sumN_succ,Nat.add_eq_zero_iff,sumN_zero n]
    constructor
    · rintro⟨h1,h2⟩ c hc
      by_cases e:c=n
      · subst e;exact h2
      · exact h1 c (by omega)
    · intro h
      exact⟨fun c hc=>h c (by omega),h n (by omega)⟩
def parV (g:List (List Int)) (c:Nat):List Int:=g.getD c []
def remV (g:List (List Int)) (d:Nat→Nat) (i:Int):Nat:=sumN (fun c=>((parV g c).drop (d c)).count i) g.length
structure DagOk (g:List (List Int)):Prop where
  rng:∀c,c<g.length→∀p,p∈parV g c→0≤p∧p<g.length
def seenV (g:List (List Int)) (out:List Int) (k j c:Nat):Nat:=if (c:Int)∈out.take k then (parV g c).length else if out[k]?=some (c:Int) then j else 0
structure UpInv (g:List (List Int)) (cnt:List Int) (out:List Int) (k j:Nat):Prop where
  len:cnt.length=g.length
  nd:out.Nodup
  rng:∀i,i∈out→0≤i∧i<g.length
  cv:∀i:Nat,i<g.length→cnt.getD i 0=remV g (seenV g out k j) i
  zero:∀i:Nat,i<g.length→((i:Int)∈out↔remV g (seenV g out k j) i=0)
  ord:∀a,(h:a<out.length)→∀c:Nat,c<g.length→out[a]∈parV g c→∃b,b<a∧b<k+1∧out[b]?=some (c:Int)
theorem count_drop_succ {l:List Int} {j:Nat} (h:j<l.length) (i:Int):(l.drop j).count i=(l.drop (j+1)).count i+(if l[j]=i then 1 else 0):=by
  rw[List.drop_eq_getElem_cons h,List.count_cons]
  simp
theorem take_fresh {out:List Int} {k:Nat} (hk:k<out.length) (hn:out.Nodup):out[k] ∉ out.take k:=by
  intro h
  obtain⟨a,ha,e⟩:=List.mem_take_iff_getElem.1 h
  have:=(List.nodup_iff_pairwise_ne.1 hn)
  have h2:=List.pairwise_iff_getElem.1 this a k (by omega) hk (by omega)
  exact h2 e
theorem remV_step {g:List (List Int)} {out out':List Int} {k j:Nat} {c:Nat} (hk:out[k]?=some (c:Int)) (hk':out'[k]?=some (c:Int)) (htk:out'.take k=out.take k) (hc:c<g.length) (hnm:(c:Int) ∉ out.take k) (hj:j<(parV g c).length) (i:Int) :
    remV g (seenV g out k j) i=remV g (seenV g out' k (j+1)) i+(if (parV g c)[j]=i then 1 else 0):=by
  unfold remV
  refine sumN_step (c0:=c) _ hc ?_ fun c' hc' hne=>?_
  · have e1:seenV g out k j c=j:=by unfold seenV;rw[if_neg hnm,if_pos hk]
    have e2:seenV g out' k (j+1) c=j+1:=by unfold seenV;rw[htk,if_neg hnm,if_pos hk']
    rw[e1,e2]
    exact count_drop_succ hj i
  · have e:seenV g out k j c'=seenV g out' k (j+1) c':=by
      unfold seenV
      rw[htk,hk,hk']
      have:¬(some (c:Int)=some (c':Int)):=by simp;omega
      rw[if_neg this,if_neg this]
    rw[e]
theorem remV_zero {g:List (List Int)} {d:Nat→Nat} {i:Int}:remV g d i=0↔∀c,c<g.length→i ∉ (parV g c).drop (d c):=by
  unfold remV
  rw[sumN_zero]
  constructor
  · intro h c hc
    exact List.count_eq_zero.1 (h c hc)
  · intro h c hc
    exact List.count_eq_zero.2 (h c hc)
theorem UpInv.step {g:List (List Int)} {cnt out:List Int} {k j:Nat} (h:UpInv g cnt out k j) (hg:DagOk g) {c:Nat} (hk:out[k]?=some (c:Int)) (hj:j<(parV g c).length) {p:Nat} (hp:(parV g c)[j]=(p:Int)) :
    p<g.length∧1≤cnt.getD p 0∧(cnt.getD p 0-1=0→UpInv g (cnt.set p (cnt.getD p 0-1)) (out++[(p:Int)]) k (j+1))∧(cnt.getD p 0-1≠0→UpInv g (cnt.set p (cnt.getD p 0-1)) out k (j+1)):=by
  have hkl:k<out.length:=by
    rcases Nat.lt_or_ge k out.length with h' | h'
    · exact h'
    · rw[List.getElem?_eq_none (by omega)] at hk;cases hk
  have hck:out[k]=(c:Int):=by rw[List.getElem?_eq_getElem hkl] at hk;exact Option.some.inj hk
  have hcm:(c:Int)∈out:=hck ▸ List.getElem_mem hkl
  have hc:c<g.length:=by have:=h.rng _ hcm;omega
  have hnm:(c:Int) ∉ out.take k:=hck ▸ take_fresh hkl h.nd
  have hpm:(p:Int)∈parV g c:=hp ▸ List.getElem_mem hj
  have hpl:p<g.length:=by have:=hg.rng c hc _ hpm;omega
  have hst:∀out':List Int,out'[k]?=some (c:Int)→out'.take k=out.take k→∀i:Int,remV g (seenV g out k j) i=remV g (seenV g out' k (j+1)) i+(if (parV g c)[j]=i then 1 else 0):=fun out' h1 h2 i=>remV_step hk h1 h2 hc hnm hj i
  have hcp:=h.cv p hpl
  have hsame:=hst out hk rfl
  have hp1:remV g (seenV g out k j) p=remV g (seenV g out k (j+1)) p+1:=by rw[hsame p,if_pos hp]
  have hoth:∀i:Nat,i≠p→remV g (seenV g out k j) i=remV g (seenV g out k (j+1)) i:=fun i hi=>by
    rw[hsame i,if_neg (by rw[hp];omega)]
    rfl
  have hpn:(p:Int) ∉ out:=fun hm=>by
    have:=(h.zero p hpl).1 hm
    omega
  have hcv:∀i:Nat,i<g.length→(cnt.set p (cnt.getD p 0-1)).getD i 0=remV g (seenV g out k (j+1)) i:=fun i hi=>by
    by_cases e:i=p
    · subst e
      have hlc:i<cnt.length:=by rw[h.len];exact hi
      rw[List.getD,List.getElem?_set_self hlc]
      simp only[Option.getD_some]
      omega
    · rw[List.getD,List.getElem?_set_ne (by omega),← List.getD,h.cv i hi,hoth i e]
  refine⟨hpl,by omega,fun hz=>?_,fun hz=>?_⟩
  · have hapk:(out++[(p:Int)])[k]?=some (c:Int):=by rw[List.getElem?_append_left hkl];exact hk
    have hapt:(out++[(p:Int)]).take k=out.take k:=List.take_append_of_le_length (by omega)
    have hse:seenV g (out++[(p:Int)]) k (j+1)=seenV g out k (j+1):=by
      funext c'
      unfold seenV
      rw[hapt,hapk,hk]
    have hrz:remV g (seenV g out k (j+1)) p=0:=by omega
    refine⟨by simp[h.len],?_,?_,fun i hi=>?_,fun i hi=>?_,?_⟩
    · rw[List.nodup_append]
      refine⟨h.nd,by simp,?_⟩
      intro a ha b hb e
      simp at hb
      subst hb
      subst e
      exact hpn ha
    · intro i hi
      rcases List.mem_append.1 hi with hi | hi
      · exact h.rng i hi
      · simp at hi
        subst hi
        omega
    · rw[hse]
      exact hcv i hi
    · rw[hse,List.mem_append,h.zero i hi]
      by_cases e:i=p
      · subst e
        simp[hrz]
      · rw[hoth i e]
        simp
        omega
    · intro a ha c' hc' hm
      rcases Nat.lt_or_ge a out.length with h1 | h1
      · rw[List.getElem_append_left h1] at hm
        obtain⟨b,b1,b2,b3⟩:=h.ord a h1 c' hc' hm
        exact⟨b,b1,b2,by rw[List.getElem?_append_left (by omega)];exact b3⟩
      · have ha':a=out.length:=by simp at ha;omega
        subst ha'
        simp at hm
        have h0:=(remV_zero.1 hrz) c' hc'
        have hs0:seenV g out k (j+1) c'≠0:=fun e=>by
          rw[e] at h0
          exact h0 (by simpa using hm)
        unfold seenV at hs0
        split at hs0
        · rename_i h7
          obtain⟨b,hb,e⟩:=List.mem_take_iff_getElem.1 h7
          exact⟨b,by omega,by omega,by rw[List.getElem?_append_left (by omega),List.getElem?_eq_getElem (by omega),e]⟩
        · split at hs0
          · rename_i h7
            exact⟨k,hkl,by omega,by rw[List.getElem?_append_left hkl];exact h7⟩
          · exact absurd rfl hs0
  · refine⟨by simp[h.len],h.nd,h.rng,hcv,fun i hi=>?_,fun a ha c' hc' hm=>h.ord a ha c' hc' hm⟩
    rw[h.zero i hi]
    by_cases e:i=p
    · subst e
      omega
    · rw[hoth i e]
theorem UpInv.next {g:List (List Int)} {cnt out:List Int} {k j:Nat} (h:UpInv g cnt out k j) {c:Nat} (hk:out[k]?=some (c:Int)) (hj:(parV g c).length≤j):UpInv g cnt out (k+1) 0:=by
  have hkl:k<out.length:=by
    rcases Nat.lt_or_ge k out.length with h' | h'
    · exact h'
    · rw[List.getElem?_eq_none (by omega)] at hk;cases hk
  have hck:out[k]=(c:Int):=by rw[List.getElem?_eq_getElem hkl] at hk;exact Option.some.inj hk
  have hr:∀i:Int,remV g (seenV g out (k+1) 0) i=remV g (seenV g out k j) i:=fun i=>by
    unfold remV
    refine sumN_congr _ fun c' _=>?_
    unfold seenV
    rw[List.take_succ_eq_append_getElem hkl,hck,hk]
    by_cases e:c'=c
    · subst e
      rw[if_pos (by simp)]
      split
      · rfl
      · rw[if_pos rfl,List.drop_eq_nil_of_le hj,List.drop_eq_nil_of_le (Nat.le_refl _)]
    · have e2:((c':Int)∈out.take k++[(c:Int)])=((c':Int)∈out.take k):=by
        rw[eq_iff_iff,List.mem_append]
        simp
        omega
      simp only[e2]
      split
      · rfl
      · have:¬(some (c:Int)=some (c':Int)):=by simp;omega
        rw[if_neg this]
        split <;> rfl
  exact⟨h.len,h.nd,h.rng,fun i hi=>by rw[hr];exact h.cv i hi,fun i hi=>by rw[hr];exact h.zero i hi,fun a ha c' hc' hm=>by
    obtain⟨b,b1,b2,b3⟩:=h.ord a ha c' hc' hm
    exact⟨b,b1,by omega,b3⟩⟩
theorem nodup_le:∀(n:Nat) (l:List Int),l.Nodup→(∀i,i∈l→0≤i∧i<(n:Int))→l.length≤n
  | 0,l,_,h=>by
    cases l with
    | nil=>simp
    | cons x l=>have:=h x (by simp);omega
  | n+1,l,hn,h=>by
    have h1:(l.filter fun i=>decide (i≠(n:Int))).length≤n:=nodup_le n _ (hn.filter _) fun i hi=>by
      obtain⟨h2,h3⟩:=List.mem_filter.1 hi
      have:=h i h2
      simp at h3
      omega
    have h4:l.length≤(l.filter fun i=>decide (i≠(n:Int))).length+1:=by
      have key:∀l:List Int,l.Nodup→l.length≤(l.filter fun i=>decide (i≠(n:Int))).length+1:=by
        intro l
        induction l with
        | nil=>simp
        | cons x l ih =>
          intro hn
          obtain⟨h5,h6⟩:=List.nodup_cons.1 hn
          by_cases e:x=(n:Int)
          · subst e
            have:l.filter (fun i=>decide (i≠(n:Int)))=l:=List.filter_eq_self.2 fun y hy=>by
              simp
              rintro rfl
              exact h5 hy
            rw[List.filter_cons,if_neg (by simp),this]
            simp
          · have:=ih h6
            rw[List.filter_cons,if_pos (by simp[e])]
            simp only[List.length_cons]
            omega
      exact key l hn
    omega
theorem UpInv.le {g:List (List Int)} {cnt out:List Int} {k j:Nat} (h:UpInv g cnt out k j):out.length≤g.length:=nodup_le _ _ h.nd h.rng
def decP (st:List Int × List Int) (p:Int):List Int × List Int :=
  (st.1.set p.toNat (st.1.getD p.toNat 0-1),if st.1.getD p.toNat 0-1=0 then st.2++[p] else st.2)
def upGo (g:List (List Int)):Nat→List Int × List Int→Nat→List Int × List Int
  | 0,st,_=>st
  | f+1,st,k=>match st.2[k]? with
    | none=>st
    | some c=>upGo g f ((parV g c.toNat).foldl decP st) (k+1)
def cnt0 (g:List (List Int)):List Int:=(List.range g.length).map fun (i:Nat)=>((remV g (fun _=>0) (i:Int):Nat):Int)
def out0 (g:List (List Int)) (n:Nat):List Int:=((List.range n).filter fun (i:Nat)=>decide (remV g (fun _=>0) (i:Int)=0)).map fun (i:Nat)=>(i:Int)
def upV (g:List (List Int)):List Int:=(upGo g (g.length+1) (cnt0 g,out0 g g.length) 0).2
theorem out0_mem {g:List (List Int)} {n:Nat} (i:Nat):(i:Int)∈out0 g n↔i<n∧remV g (fun _=>0) i=0:=by
  unfold out0
  rw[List.mem_map]
  constructor
  · rintro⟨j,hj,e⟩
    have:j=i:=by omega
    subst this
    simpa using List.mem_filter.1 hj
  · rintro⟨h1,h2⟩
    exact⟨i,List.mem_filter.2 ⟨by simpa using h1,by simpa using h2⟩,rfl⟩
theorem out0_inv (g:List (List Int)):UpInv g (cnt0 g) (out0 g g.length) 0 0:=by
  have hs:seenV g (out0 g g.length) 0 0=fun _=>0:=by
    funext c
    unfold seenV
    simp
  refine⟨by simp[cnt0],?_,?_,?_,?_,?_⟩
  · unfold out0
    have h1:((List.range g.length).filter fun (i:Nat)=>decide (remV g (fun _=>0) (i:Int)=0)).Nodup:=List.nodup_range.filter _
    exact List.pairwise_map.2 (List.Pairwise.imp (fun h e=>h (by omega)) h1)
  · intro i hi
    unfold out0 at hi
    obtain⟨j,hj,rfl⟩:=List.mem_map.1 hi
    have:=(List.mem_filter.1 hj).1
    simp at this
    omega
  · intro i hi
    rw[hs]
    simp[cnt0,List.getD,hi]
  · intro i hi
    rw[hs,out0_mem]
    simp[hi]
  · intro a ha c hc hm
    exfalso
    have hmem:=List.getElem_mem ha
    generalize (out0 g g.length)[a]=x at hm hmem
    unfold out0 at hmem
    obtain⟨j,hj,rfl⟩:=List.mem_map.1 hmem
    have h0:=(List.mem_filter.1 hj).2
    simp at h0
    have:=(remV_zero.1 h0) c hc
    simp at this
    exact this hm
theorem up_fold {g:List (List Int)} (hg:DagOk g) {c k:Nat}:∀(d j:Nat) (st:List Int × List Int),UpInv g st.1 st.2 k j→st.2[k]?=some (c:Int)→j+d=(parV g c).length →
    UpInv g (((parV g c).drop j).foldl decP st).1 (((parV g c).drop j).foldl decP st).2 k (parV g c).length∧(((parV g c).drop j).foldl decP st).2[k]?=some (c:Int)
  | 0,j,st,h,hk,hd=>by
    have:j=(parV g c).length:=by omega
    subst this
    rw[List.drop_length]
    exact⟨h,hk⟩
  | d+1,j,st,h,hk,hd=>by
    have hj:j<(parV g c).length:=by omega
    have hkl:k<st.2.length:=by
      rcases Nat.lt_or_ge k st.2.length with h' | h'
      · exact h'
      · rw[List.getElem?_eq_none (by omega)] at hk;cases hk
    have hcm:(c:Int)∈st.2:=by
      rw[List.getElem?_eq_getElem hkl] at hk
      rw[← Option.some.inj hk]
      exact List.getElem_mem _
    have hc:c<g.length:=by have:=h.rng _ hcm;omega
    obtain⟨p,hp⟩:=Int.eq_ofNat_of_zero_le (hg.rng c hc _ (List.getElem_mem hj)).1
    obtain⟨_,_,s1,s2⟩:=h.step hg hk hj hp
    rw[List.drop_eq_getElem_cons hj,List.foldl_cons]
    refine up_fold hg d (j+1) _ ?_ ?_ (by omega)
    · unfold decP
      rw[hp,Int.toNat_natCast]
      by_cases hz:st.1.getD p 0-1=0
      · rw[if_pos hz];exact s1 hz
      · rw[if_neg hz];exact s2 hz
    · unfold decP
      simp only
      split
      · rw[List.getElem?_append_left hkl];exact hk
      · exact hk
theorem upGo_inv {g:List (List Int)} (hg:DagOk g):∀(f k:Nat) (st:List Int × List Int),UpInv g st.1 st.2 k 0→f+k=g.length+1→k≤st.2.length →
    UpInv g (upGo g f st k).1 (upGo g f st k).2 (upGo g f st k).2.length 0
  | 0,k,st,h,hf,hk=>by
    have:=h.le
    omega
  | f+1,k,st,h,hf,hk=>by
    unfold upGo
    cases hc:st.2[k]? with
    | none =>
      have:k=st.2.length:=by
        rcases Nat.lt_or_ge k st.2.length with h' | h'
        · rw[List.getElem?_eq_getElem h'] at hc;cases hc
        · omega
      subst this
      exact h
    | some x =>
      have hkl:k<st.2.length:=by
        rcases Nat.lt_or_ge k st.2.length with h' | h'
        · exact h'
        · rw[List.getElem?_eq_none (by omega)] at hc;cases hc
      have hxm:x∈st.2:=by
        rw[List.getElem?_eq_getElem hkl] at hc
        rw[← Option.some.inj hc]
        exact List.getElem_mem _
      obtain⟨c,rfl⟩:=Int.eq_ofNat_of_zero_le (h.rng _ hxm).1
      have:=up_fold hg (c:=c) (k:=k) (parV g c).length 0 st h hc (by omega)
      rw[List.drop_zero] at this
      simp only[Int.toNat_natCast]
      have h2:=this.1.next this.2 (Nat.le_refl _)
      refine upGo_inv hg f (k+1) _ h2 (by omega) ?_
      rcases Nat.lt_or_ge k ((parV g c).foldl decP st).2.length with h' | h'
      · exact h'
      · have h3:=this.2
        rw[List.getElem?_eq_none (by omega)] at h3
        cases h3
theorem up_inv {g:List (List Int)} (hg:DagOk g):∃cnt,UpInv g cnt (upV g) (upV g).length 0:=⟨_,upGo_inv hg _ _ _ (out0_inv g) (by omega) (by omega)⟩
theorem all_le:∀(n:Nat) (l:List Int),(∀i:Nat,i<n→(i:Int)∈l)→n≤l.length
  | 0,_,_=>by omega
  | n+1,l,h=>by
    have h1:=all_le n (l.filter fun i=>decide (i≠(n:Int))) fun i hi=>List.mem_filter.2 ⟨h i (by omega),by simp;omega⟩
    have h2:(l.filter fun i=>decide (i≠(n:Int))).length<l.length:=by
      have hm:=h n (by omega)
      have key:∀l:List Int,(n:Int)∈l→(l.filter fun i=>decide (i≠(n:Int))).length<l.length:=by
        intro l
        induction l with
        | nil=>simp
        | cons x l ih =>
          intro hx
          by_cases e:x=(n:Int)
          · have:=List.length_filter_le (fun i=>decide (i≠(n:Int))) l
            rw[List.filter_cons,if_neg (by simp[e])]
            simp only[List.length_cons]
            omega
          · have:=ih (by
              rcases List.mem_cons.1 hx with h' | h'
              · exact absurd h'.symm e
              · exact h')
            rw[List.filter_cons,if_pos (by simp[e])]
            simp only[List.length_cons]
            omega
      exact key l hm
    omega
theorem up_left {g:List (List Int)} (hg:DagOk g) {i:Nat} (hi:i<g.length) (hn:(i:Int) ∉ upV g):∃c:Nat,c<g.length∧(i:Int)∈parV g c∧(c:Int) ∉ upV g:=by
  obtain⟨cnt,h⟩:=up_inv hg
  have h1:remV g (seenV g (upV g) (upV g).length 0) i≠0:=fun e=>hn ((h.zero i hi).2 e)
  have:¬∀c,c<g.length→(i:Int) ∉ (parV g c).drop (seenV g (upV g) (upV g).length 0 c):=fun h2=>h1 (remV_zero.2 h2)
  by_cases h3:∃c:Nat,c<g.length∧(i:Int)∈(parV g c).drop (seenV g (upV g) (upV g).length 0 c)
  · obtain⟨c,c1,c2⟩:=h3
    refine⟨c,c1,List.mem_of_mem_drop c2,fun hc=>?_⟩
    have:seenV g (upV g) (upV g).length 0 c=(parV g c).length:=by unfold seenV;rw[List.take_length,if_pos hc]
    rw[this,List.drop_length] at c2
    cases c2
  · exact absurd (fun c hc hm=>h3 ⟨c,hc,hm⟩) this
theorem up_cycle {g:List (List Int)} (hg:DagOk g) (C:Nat→Prop) {i0:Nat} (h0:C i0) (hin:∀i,C i→i<g.length) (h:∀i,C i→∃c,C c∧(i:Int)∈parV g c):(upV g).length<g.length:=by
  obtain⟨cnt,hi⟩:=up_inv hg
  have hno:∀a,(ha:a<(upV g).length)→∀i:Nat,(upV g)[a]=(i:Int)→¬C i:=by
    intro a
    induction a using Nat.strongRecOn with
    | _ a ih =>
      intro ha i e hc
      obtain⟨c,c1,c2⟩:=h i hc
      rw[← e] at c2
      obtain⟨b,b1,_,b2⟩:=hi.ord a ha c (hin c c1) c2
      have hb:b<(upV g).length:=by omega
      rw[List.getElem?_eq_getElem hb] at b2
      exact ih b b1 hb c (Option.some.inj b2) c1
  have hnm:(i0:Int) ∉ upV g:=fun hm=>by
    obtain⟨a,ha,e⟩:=List.mem_iff_getElem.1 hm
    exact hno a ha i0 e h0
  have:=nodup_le g.length (upV g++[(i0:Int)]) (by
    rw[List.nodup_append]
    refine⟨hi.nd,by simp,fun a ha b hb e=>?_⟩
    simp at hb
    subst hb
    subst e
    exact hnm ha) fun i hm=>by
    rcases List.mem_append.1 hm with hm | hm
    · exact hi.rng i hm
    · simp at hm
      subst hm
      have:=hin i0 h0
      omega
  simp at this
  omega
abbrev R_slices_Clip_Span_Span:RSpec:=⟨fun _ _ nw=>[nw],fun args s0=>match args,s0 with
  | [.d (.sl e xs)],[.res]=>(e=2,[.tip xs.length],.gr 0 2 xs)
  | _,_=>(False,[],.any)⟩
theorem ct_slices_Clip_Span_Span {P:Program} {f:Nat} (hc:CodeOf P f 1 2 [1] x_slices_Clip_Span_Span):RSpec.Ok P f R_slices_Clip_Span_Span:=by
  refine⟨hc.call,fun _ _ _ _ _=>rfl,?_⟩
  intro args s0 hp
  simp only at hp ⊢
  split at hp
  · rename_i e xs
    simp only at hp
    subst hp
    refine hc.rcalls (GamOk.nil _) rfl ?_
    simp[x_slices_Clip_Span_Span,startA]
    exact⟨by simp[resPre],[1],rfl,⟨by decide,by simp,rfl⟩,fun k hk=>by match k,hk with | 0,_=>exact .inr rfl,rfl,rfl,rfl⟩
  · exact hp.elim
theorem eR_clip {G:Gam} {f:Nat} (hf:G.findR f=some R_slices_Clip_Span_Span) {s:Store} {nw:Nat} {xs:List D} (h1:s.getD nw .dead=.res) (h2:nw<s.length) :
    eRCall G s nw f [.d (.sl 2 xs)]=⟨True,[(nw,.tip xs.length)],.gr nw 2 xs⟩:=by
  unfold eRCall
  rw[hf]
  simp only[List.map_cons,List.map_nil,h1]
  simp[h2]
def dist:List Int→List Int→Nat
  | [],b=>b.length
  | x::a,[]=>a.length+1
  | x::a,y::b=>if x=y then dist a b else 1+min (dist a (y::b)) (dist (x::a) b)
termination_by a b=>a.length+b.length
theorem dist_nil (b:List Int):dist [] b=b.length:=by rw[dist]
theorem dist_nil' (a:List Int):dist a []=a.length:=by cases a <;> rw[dist] <;> rfl
theorem dist_eq (x:Int) (a b:List Int):dist (x::a) (x::b)=dist a b:=by rw[dist];simp
theorem dist_ne {x y:Int} (h:x≠y) (a b:List Int):dist (x::a) (y::b)=1+min (dist a (y::b)) (dist (x::a) b):=by rw[dist];simp[h]
theorem dist_comm:∀a b:List Int,dist a b=dist b a
  | [],b=>by rw[dist_nil,dist_nil']
  | x::a,[]=>by rw[dist_nil,dist_nil']
  | x::a,y::b=>by
    by_cases h:x=y
    · subst h
      rw[dist_eq,dist_eq,dist_comm a b]
    · rw[dist_ne h,dist_ne (Ne.symm h),dist_comm a (y::b),dist_comm (x::a) b,Nat.min_comm]
termination_by a b=>a.length+b.length
theorem dist_steps:∀(n:Nat) (a b:List Int),a.length+b.length≤n→(∀x,dist (x::a) b≤dist a b+1)∧(∀y,dist a b≤dist a (y::b)+1):=by
  intro n
  induction n with
  | zero =>
    intro a b h
    have ha:a=[]:=List.eq_nil_of_length_eq_zero (by omega)
    have hb:b=[]:=List.eq_nil_of_length_eq_zero (by omega)
    subst ha hb
    exact⟨fun x=>by rw[dist_nil',dist_nil];simp,fun y=>by rw[dist_nil];simp⟩
  | succ n ih =>
    intro a b h
    have L:∀y,dist a b≤dist a (y::b)+1:=by
      intro y
      cases a with
      | nil=>rw[dist_nil,dist_nil];simp;omega
      | cons x a =>
        simp only[List.length_cons] at h
        have u:=(ih a b (by omega)).1 x
        have l:=(ih a b (by omega)).2 y
        by_cases hxy:x=y
        · subst hxy
          rw[dist_eq]
          exact u
        · rw[dist_ne hxy]
          omega
    refine⟨fun x=>?_,L⟩
    cases b with
    | nil=>rw[dist_nil',dist_nil'];simp
    | cons y b =>
      simp only[List.length_cons] at h
      by_cases hxy:x=y
      · subst hxy
        rw[dist_eq]
        exact (ih a b (by omega)).2 x
      · rw[dist_ne hxy]
        omega
theorem dist_del (x:Int) (a b:List Int):dist (x::a) b≤dist a b+1:=(dist_steps _ a b (Nat.le_refl _)).1 x
theorem dist_ins (y:Int) (a b:List Int):dist a (y::b)≤dist a b+1:=by rw[dist_comm a,dist_comm a];exact dist_del y b a
inductive Ed:List Int→List Int→Nat→Prop where
  | nil:Ed [] [] 0
  | del (x:Int) {a b:List Int} {n:Nat} (h:Ed a b n):Ed (x::a) b (n+1)
  | ins (y:Int) {a b:List Int} {n:Nat} (h:Ed a b n):Ed a (y::b) (n+1)
  | keep (x:Int) {a b:List Int} {n:Nat} (h:Ed a b n):Ed (x::a) (x::b) n
theorem Ed.le {a b:List Int} {n:Nat} (h:Ed a b n):dist a b≤n:=by
  induction h with
  | nil=>rw[dist_nil];simp
  | del x h ih=>exact Nat.le_trans (dist_del _ _ _) (by omega)
  | ins y h ih=>exact Nat.le_trans (dist_ins _ _ _) (by omega)
  | keep x h ih=>rw[dist_eq];exact ih
theorem ed_dist:∀a b:List Int,Ed a b (dist a b)
  | [],[]=>by rw[dist_nil];exact .nil
  | [],y::b=>by
    have:=ed_dist [] b
    rw[dist_nil] at this ⊢
    exact .ins y this
  | x::a,[]=>by
    have:=ed_dist a []
    rw[dist_nil'] at this ⊢
    exact .del x this
  | x::a,y::b=>by
    by_cases h:x=y
    · subst h
      rw[dist_eq]
      exact .keep x (ed_dist a b)
    · rw[dist_ne h]
      rcases Nat.le_total (dist a (y::b)) (dist (x::a) b) with h1 | h1
      · rw[Nat.min_eq_left h1,Nat.add_comm]
        exact .del x (ed_dist a (y::b))
      · rw[Nat.min_eq_right h1,Nat.add_comm]
        exact .ins y (ed_dist (x::a) b)
termination_by a b=>a.length+b.length
theorem Ed.trans {a b:List Int} {n:Nat} (h:Ed a b n):∀{c:List Int} {m:Nat},Ed b c m→∃k,k≤n+m∧Ed a c k:=by
  induction h with
  | nil=>intro c m k;exact⟨m,by omega,k⟩
  | del x h ih =>
    intro c m k
    obtain⟨j,h1,h2⟩:=ih k
    exact⟨j+1,by omega,.del x h2⟩
  | @ins y a b n h ih =>
    intro c m k
    generalize hb:y::b=b' at k
    induction k with
    | nil=>simp at hb
    | del z k _ =>
      simp at hb
      obtain⟨rfl,rfl⟩:=hb
      obtain⟨j,h1,h2⟩:=ih k
      exact⟨j,by omega,h2⟩
    | ins z k ih2 =>
      obtain⟨j,h1,h2⟩:=ih2 hb
      exact⟨j+1,by omega,.ins z h2⟩
    | keep z k _ =>
      simp at hb
      obtain⟨rfl,rfl⟩:=hb
      obtain⟨j,h1,h2⟩:=ih k
      exact⟨j+1,by omega,.ins y h2⟩
  | @keep x a b n h ih =>
    intro c m k
    generalize hb:x::b=b' at k
    induction k with
    | nil=>simp at hb
    | del z k _ =>
      simp at hb
      obtain⟨rfl,rfl⟩:=hb
      obtain⟨j,h1,h2⟩:=ih k
      exact⟨j+1,by omega,.del x h2⟩
    | ins z k ih2 =>
      obtain⟨j,h1,h2⟩:=ih2 hb
      exact⟨j+1,by omega,.ins z h2⟩
    | keep z k _ =>
      simp at hb
      obtain⟨rfl,rfl⟩:=hb
      obtain⟨j,h1,h2⟩:=ih k
      exact⟨j,by omega,.keep x h2⟩
theorem Ed.len {a b:List Int} {n:Nat} (h:Ed a b n):a.length≤b.length+n∧b.length≤a.length+n∧n≤a.length+b.length∧(a.length+b.length-n) % 2=0:=by
  induction h with
  | nil=>simp
  | del x h ih=>simp only[List.length_cons];omega
  | ins y h ih=>simp only[List.length_cons];omega
  | keep x h ih=>simp only[List.length_cons];omega
theorem dist_bounds (a b:List Int):a.length≤b.length+dist a b∧b.length≤a.length+dist a b∧dist a b≤a.length+b.length∧(a.length+b.length-dist a b) % 2=0:=(ed_dist a b).len
theorem Ed.zero {a b:List Int} {n:Nat} (h:Ed a b n):n=0→a=b:=by
  induction h with
  | nil=>intro _;rfl
  | del x h ih=>intro h;omega
  | ins y h ih=>intro h;omega
  | keep x h ih=>intro h;rw[ih h]
def walkV:List Int→List Int→Int→Int→List SpanT
  | [],_,_,_=>[]
  | x::a,[],_,_=>[]
  | x::a,y::b,i,j=>if x=y then ⟨i,j⟩::walkV a b (i+1) (j+1) else if dist a (y::b)+1=dist (x::a) (y::b) then walkV a (y::b) (i+1) j else walkV (x::a) b i (j+1)
termination_by a b=>a.length+b.length
theorem walkV_nil (b:List Int) (i j:Int):walkV [] b i j=[]:=by rw[walkV]
theorem walkV_nil' (a:List Int) (i j:Int):walkV a [] i j=[]:=by cases a <;> rw[walkV]
theorem walkV_eq (x:Int) (a b:List Int) (i j:Int):walkV (x::a) (x::b) i j=⟨i,j⟩::walkV a b (i+1) (j+1):=by rw[walkV];simp
theorem walkV_ne {x y:Int} (h:x≠y) (a b:List Int) (i j:Int):walkV (x::a) (y::b) i j=if dist a (y::b)+1=dist (x::a) (y::b) then walkV a (y::b) (i+1) j else walkV (x::a) b i (j+1):=by rw[walkV];simp[h]
def chgV:List SpanT→Int→Int→List ChangeT
  | [],_,_=>[]
  | s::q,i,j=>if s.fr > i∨s.to > j then ⟨i,s.fr-i,j,s.to-j⟩::chgV q (s.fr+1) (s.to+1) else chgV q (s.fr+1) (s.to+1)
def madeV (p:List SpanT) (m n:Int):List ChangeT:=chgV (p++[⟨m,n⟩]) 0 0
@[simp] def S_script_length:List D→Prop × D:=spec1 (α:=Int) (fun _=>True) (fun n=>Rep.to (decide (0≤n∧n≤4096)))
theorem ct_script_length {P:Program} {f:Nat} {G:Gam} (h:CodeOf P f 1 2 [1] x_script_length) (hG:GamOk P G):Has P f S_script_length:=h.has1 hG fun n _=>by
  simp[x_script_length]
  omega
def numOk (n:Int):Prop:=-1000000≤n∧n≤1000000
@[simp] def S_script_fromPairs:List D→Prop × D:=spec3 (α:=List SpanT) (β:=Int) (γ:=Int) (fun p m n=>p.length≤100000∧numOk m∧numOk n∧∀s,s∈p→numOk s.fr∧numOk s.to) (fun p m n=>Rep.to (madeV p m n))
theorem ct_script_fromPairs {P:Program} {f g:Nat} {G:Gam} (h:CodeOf P f 3 13 [3] (x_script_fromPairs g)) (hG:GamOk P G) (hg:G.findR g=some R_slices_Clip_Span_Span):Has P f S_script_fromPairs:=h.has3 hG fun p m n hp=>by
  obtain⟨hp,hm,hn,hs⟩:=hp
  simp[x_script_fromPairs]
  rw[eR_clip hg (by simp) (by simp)]
  simp
  refine⟨by unfold room;omega,?_⟩
  obtain⟨q,hq⟩:∃q,q=p++[SpanT.mk m n]:=⟨_,rfl⟩
  have hqm:(List.map Rep.to p++[D.agg [D.int .i64 m,D.int .i64 n]]:List D)=q.map Rep.to:=by rw[hq];simp
  have hql:q.length=p.length+1:=by rw[hq];simp
  have hqs:∀k (h:k<q.length),numOk q[k].fr∧numOk q[k].to:=by
    intro k h
    have hm':q[k]∈p++[SpanT.mk m n]:=by rw[← hq];exact List.getElem_mem h
    rcases List.mem_append.1 hm' with h1 | h1
    · exact hs _ h1
    · rw[List.mem_singleton.1 h1];exact⟨hm,hn⟩
  rw[hqm]
  have hgoal:madeV p m n=chgV q 0 0:=by rw[hq];rfl
  rw[hgoal]
  obtain⟨Tf,hT⟩:∃Tf:Nat × List ChangeT × Int × Int→List A,∀x,Tf x=[.any,.any,.any,.any,.gr 0 4 (x.2.1.map Rep.to),.d (.int .i64 x.2.2.1),.d (.int .i64 x.2.2.2),.any,.gr 1 2 (q.map Rep.to),.d (.int .i64 q.length),.d (.int .i64 x.1),.any,.any]:=⟨_,fun _=>rfl⟩
  obtain⟨sf,hsf⟩:∃sf:Nat × List ChangeT × Int × Int→Store,∀x,sf x=[.tip x.2.1.length,.tip q.length]:=⟨_,fun _=>rfl⟩
  refine vc_ghost (σ:=Nat × List ChangeT × Int × Int) [false,false,false,false,true,true,true,false,true,true,true] 2 (fun x=>x.1≤q.length∧x.2.1.length≤x.1∧x.2.1++chgV (q.drop x.1) x.2.2.1 x.2.2.2=chgV q 0 0∧-1000001≤x.2.2.1∧x.2.2.1≤1000001∧-1000001≤x.2.2.2∧x.2.2.2≤1000001)
    (fun x=>q.length-x.1) Tf sf (0,[],0,0) (by omega) ?_ ?_ ?_
  · simp[inScope]
  · simp[hT,hsf,hql]
  rintro⟨k,out,i,j⟩ ⟨h1,h2,h3,h4,h5,h6,h7⟩
  simp only at h1 h2 h3 h4 h5 h6 h7
  rw[hT,hsf]
  simp
  refine⟨fun h8=>?_,fun h8=>?_⟩
  · obtain⟨⟨f1,f2⟩,f3,f4⟩:=hqs k h8
    rw[List.drop_eq_getElem_cons h8] at h3
    generalize hg':q[k]=sp at *
    obtain⟨fr,to⟩:=sp
    simp only at f1 f2 f3 f4
    have e1:=add1 h8 (by omega)
    have w1:=wrap_in (n:=fr+1) (by omega) (by omega)
    have w2:=wrap_in (n:=to+1) (by omega) (by omega)
    have w3:=wrap_in (n:=fr-i) (by omega) (by omega)
    have w4:=wrap_in (n:=to-j) (by omega) (by omega)
    simp[getD_map,h8,hg',inScope,pairsOk,disj,w1,w2,w3,w4,e1]
    have r1:room (out.length+1) 32:=by unfold room;omega
    have c1:(i<fr∨j<to)→out++[(⟨i,fr-i,j,to-j⟩:ChangeT)]++chgV (q.drop (k+1)) (fr+1) (to+1)=chgV q 0 0:=by
      intro h
      rw[← h3]
      simp only[chgV,gt_iff_lt,h,if_true,List.append_assoc,List.cons_append,List.nil_append]
    have c2:¬(i<fr∨j<to)→out++chgV (q.drop (k+1)) (fr+1) (to+1)=chgV q 0 0:=by
      intro h
      rw[← h3]
      simp only[chgV,gt_iff_lt,h,if_false]
    refine⟨fun h9=>⟨r1,k+1,by omega,out++[⟨i,fr-i,j,to-j⟩],fr+1,to+1,?_,?_,by omega,by simp;omega,c1 (.inl h9),by omega,by omega,by omega,by omega⟩,
      fun h9=>⟨fun h10=>⟨r1,k+1,by omega,out++[⟨i,fr-i,j,to-j⟩],fr+1,to+1,?_,?_,by omega,by simp;omega,c1 (.inr h10),by omega,by omega,by omega,by omega⟩,
        fun h10=>⟨k+1,by omega,out,fr+1,to+1,?_,?_,by omega,by omega,c2 (by omega),by omega,by omega,by omega,by omega⟩⟩⟩
    all_goals first | (rw[hT];simp;done) | (rw[hsf];simp;done) | (rw[hsf];done)
  · have h9:k=q.length:=by omega
    subst h9
    rw[List.drop_length] at h3
    simp only[chgV,List.append_nil] at h3
    rw[h3]
def ascB:List SpanT→Int→Int→Int→Int→Bool
  | [],_,_,_,_=>true
  | s::p,i,j,m,n=>decide (i≤s.fr) && decide (s.fr<m) && decide (j≤s.to) && decide (s.to<n) && ascB p (s.fr+1) (s.to+1) m n
theorem ascB_mem:∀{p:List SpanT} {i j m n:Int},ascB p i j m n=true→∀s,s∈p→i≤s.fr∧s.fr<m∧j≤s.to∧s.to<n
  | [],_,_,_,_,_,s,hs=>by simp at hs
  | x::p,i,j,m,n,h,s,hs=>by
    simp only[ascB,Bool.and_eq_true,decide_eq_true_eq] at h
    obtain⟨⟨⟨⟨h1,h2⟩,h3⟩,h4⟩,h5⟩:=h
    rcases List.mem_cons.1 hs with rfl | hs
    · exact⟨h1,h2,h3,h4⟩
    · have:=ascB_mem h5 s hs
      omega
def fromPairsV (p:List SpanT) (m n:Int):List ChangeT × Int :=
  if ¬(0≤m∧m≤4096∧0≤n∧n≤4096) then ([],80) else if ascB p 0 0 m n=true then (madeV p m n,0) else ([],3)
@[simp] def S_script_FromPairs:List D→Prop × D:=spec3 (α:=List SpanT) (β:=Int) (γ:=Int) (fun p m n=>p.length≤100000) (fun p m n=>.tup [Rep.to (fromPairsV p m n).1,.int .i64 (fromPairsV p m n).2])
theorem ct_script_FromPairs {P:Program} {f g1 g2:Nat} {G:Gam} (h:CodeOf P f 3 13 [3,4] (x_script_FromPairs g1 g2)) (hG:GamOk P G) (hg1:G.find g1=some S_script_length) (hg2:G.find g2=some S_script_fromPairs):Has P f S_script_FromPairs:=h.has3 hG fun p m n hp=>by
  simp[x_script_FromPairs,hg1]
  have bad:(m<0∨4096<m∨n<0∨4096<n)→fromPairsV p m n=([],80):=by
    intro h
    unfold fromPairsV
    rw[if_pos (by omega)]
  refine⟨fun h=>by rw[bad (by omega)];simp,fun m0 m1=>⟨fun h=>by rw[bad (by omega)];simp,fun n0 n1=>?_⟩⟩
  obtain⟨Tf,hT⟩:∃Tf:Nat × Int × Int→List A,∀x,Tf x=[.d (Rep.to p),.d (.int .i64 m),.d (.int .i64 n),.any,.any,.ref 0 0 0 0,.any,.any,.d (Rep.to p),.d (.int .i64 p.length),.d (.int .i64 x.1),.any,.any]:=⟨_,fun _=>rfl⟩
  obtain⟨sf,hsf⟩:∃sf:Nat × Int × Int→Store,∀x,sf x=[.cells 0 2 [.agg [.d (.int .i64 x.2.1),.d (.int .i64 x.2.2)]]]:=⟨_,fun _=>rfl⟩
  have hv:∀b,ascB p 0 0 m n=b→fromPairsV p m n=if b=true then (madeV p m n,0) else ([],3):=by
    intro b hb
    unfold fromPairsV
    rw[if_neg (by omega),hb]
  refine vc_ghost (σ:=Nat × Int × Int) [true,true,true,false,false,true,false,false,true,true,true] 1 (fun x=>x.1≤p.length∧ascB (p.drop x.1) (x.2.1+1) (x.2.2+1) m n=ascB p 0 0 m n)
    (fun x=>p.length-x.1) Tf sf (0,-1,-1) (by omega) ?_ ?_ ?_
  · simp[inScope]
  · simp[hT,hsf]
  rintro⟨k,lf,lt⟩ ⟨h1,h2⟩
  simp only at h1 h2
  rw[hT,hsf]
  simp
  refine⟨fun h3=>?_,fun h3=>?_⟩
  · rw[List.drop_eq_getElem_cons h3] at h2
    generalize hg':p[k]=sp at *
    obtain⟨fr,to⟩:=sp
    have e1:=add1 h3 (by omega)
    simp[getD_map,h3,hg',inScope,pairsOk,disj,e1]
    have bad2:(fr≤lf∨m≤fr∨to≤lt∨n≤to)→(fromPairsV p m n).fst=[]∧3=(fromPairsV p m n).snd:=by
      intro h
      have:ascB (⟨fr,to⟩::p.drop (k+1)) (lf+1) (lt+1) m n=false:=by
        simp only[ascB,Bool.and_eq_false_iff,decide_eq_false_iff_not]
        omega
      rw[this] at h2
      rw[hv _ h2.symm]
      simp
    refine⟨fun h=>bad2 (by omega),fun c1=>⟨fun h=>bad2 (by omega),fun c2=>⟨fun h=>bad2 (by omega),fun c3=>⟨fun h=>bad2 (by omega),fun c4=>⟨k+1,by omega,fr,to,?_,?_,by omega,?_⟩⟩⟩⟩⟩
    · rw[hT];simp
    · rw[hsf]
    · rw[← h2]
      simp only[ascB]
      have:decide (lf+1≤fr)=true∧decide (fr<m)=true∧decide (lt+1≤to)=true∧decide (to<n)=true:=by simp only[decide_eq_true_eq];omega
      simp only[this,Bool.true_and]
  · have h9:k=p.length:=by omega
    subst h9
    rw[List.drop_length] at h2
    have ha:=hv _ h2.symm
    have hm:=ascB_mem h2.symm
    simp[hg2,ha,ascB]
    refine⟨hp,⟨by omega,by omega⟩,⟨by omega,by omega⟩,fun s hs=>?_⟩
    have:=hm s hs
    exact⟨⟨by omega,by omega⟩,⟨by omega,by omega⟩⟩
@[simp] def S_shortest_limited:List D→Prop × D:=spec2 (α:=List Int) (β:=List Int) (fun _ _=>True) (fun a b=>Rep.to (decide (a.length≤4096∧b.length≤4096)))
theorem ct_shortest_limited {P:Program} {f:Nat} {G:Gam} (h:CodeOf P f 2 3 [2] x_shortest_limited) (hG:GamOk P G):Has P f S_shortest_limited:=h.has2 hG fun a b _=>by
  simp[x_shortest_limited]
  refine⟨fun h1=>?_,by omega⟩
  have h2:a.length≤4096:=by omega
  simp[h2]
  omega
def begV:List Int→List Int→Nat
  | x::a,y::b=>if x=y then begV a b+1 else 0
  | _,_=>0
theorem begV_le (a b:List Int):begV a b≤a.length∧begV a b≤b.length:=by
  induction a generalizing b with
  | nil=>simp[begV]
  | cons x a ih =>
    cases b with
    | nil=>simp[begV]
    | cons y b =>
      simp only[begV]
      split
      · have:=ih b;simp;omega
      · simp
@[simp] def S_shortest_beginning:List D→Prop × D:=spec2 (α:=List Int) (β:=List Int) (fun a _=>a.length≤9223372036854775807) (fun a b=>Rep.to ((begV a b:Nat):Int))
theorem ct_shortest_beginning {P:Program} {f:Nat} {G:Gam} (h:CodeOf P f 2 5 [2] x_shortest_beginning) (hG:GamOk P G):Has P f S_shortest_beginning:=h.has2 hG fun a b ha=>by
  simp[x_shortest_beginning]
  refine vc_ghost (σ:=Nat) [true,true,false,true] 0 (fun i=>i≤a.length∧i≤b.length∧begV (a.drop i) (b.drop i)+i=begV a b) (fun i=>a.length-i) (fun i=>[.d (Rep.to a),.d (Rep.to b),.any,.d (.int .i64 i),.any]) (fun _=>[]) 0 (Nat.le_refl _) (by simp) (by simp) ?_
  rintro i ⟨h1,h2,h3⟩
  simp
  refine⟨fun h4=>⟨fun h5=>?_,fun h5=>?_⟩,fun h4=>?_⟩
  · have e:=add1 h4 ha
    rw[List.drop_eq_getElem_cons h4,List.drop_eq_getElem_cons h5] at h3
    simp[getD_map,h4,h5,e,pairsOk]
    refine⟨fun h6=>⟨i+1,by omega,by simp,by omega,by omega,?_⟩,fun h6=>?_⟩
    · rw[begV,if_pos h6] at h3
      omega
    · rw[begV,if_neg h6] at h3
      omega
  · have:b.drop i=[]:=List.drop_eq_nil_of_le (by omega)
    rw[this] at h3
    cases hq:a.drop i <;> rw[hq] at h3 <;> simp[begV] at h3 <;> omega
  · have:a.drop i=[]:=List.drop_eq_nil_of_le (by omega)
    rw[this] at h3
    simp[begV] at h3
    omega
/-! the distances of all rests -/
def restV (a b:List Int) (k:Nat):Nat:=dist (a.drop (k / (b.length+1))) (b.drop (k % (b.length+1)))
def tabN (a b:List Int):Nat:=(a.length+1) * (b.length+1)
def tabD (a b:List Int):D:=.sl 1 ((List.range (tabN a b)).map fun k=>.int .u16 (restV a b k))
def fillP (a b:List Int) (p:Nat→Bool):List A:=(List.range (tabN a b)).map fun k=>.d (.int .u16 (if p k=true then (restV a b k:Int) else 0))
theorem fillP_len (a b:List Int) (p:Nat→Bool):(fillP a b p).length=tabN a b:=by simp[fillP]
theorem fillP_get {a b:List Int} {p:Nat→Bool} {k:Nat} (h1:p k=true) (h2:k<tabN a b):(fillP a b p).getD k .any=.d (.int .u16 (restV a b k)):=by
  simp[fillP,List.getD,h2,h1]
theorem fillP_eq {a b:List Int} {p q:Nat→Bool} (h:∀k,k<tabN a b→p k=q k∨restV a b k=0):fillP a b p=fillP a b q:=by
  refine List.map_congr_left fun k hk=>?_
  rcases h k (by simpa using hk) with h1 | h1
  · rw[h1]
  · rw[h1];simp
theorem fillP_set {a b:List Int} {p q:Nat→Bool} {c:Nat} (hc:q c=true) (h:∀k,k≠c→p k=q k):(fillP a b p).set c (.d (.int .u16 (restV a b c)))=fillP a b q:=by
  apply List.ext_getElem
  · simp[fillP]
  · intro k h1 h2
    simp only[fillP,List.length_set,List.length_map,List.length_range] at h1
    rw[List.getElem_set]
    by_cases hk:c=k
    · subst hk
      simp[fillP,hc]
    · simp only[hk,if_false,fillP,List.getElem_map,List.getElem_range,h k (Ne.symm hk)]
theorem restV_row {a b:List Int} {i j:Nat} (hj:j≤b.length):restV a b (i * (b.length+1)+j)=dist (a.drop i) (b.drop j):=by
  unfold restV
  have h1:(i * (b.length+1)+j) / (b.length+1)=i:=by
    rw[Nat.add_comm,Nat.add_mul_div_right _ _ (by omega),Nat.div_eq_of_lt (by omega)];omega
  have h2:(i * (b.length+1)+j) % (b.length+1)=j:=by
    rw[Nat.add_comm,Nat.add_mul_mod_self_right,Nat.mod_eq_of_lt (by omega)]
  rw[h1,h2]
theorem fill_lt {a b:List Int} {i j:Nat} (hi:i≤a.length) (hj:j≤b.length):i * (b.length+1)+j<tabN a b:=by
  unfold tabN
  have:i * (b.length+1)≤a.length * (b.length+1):=Nat.mul_le_mul_right _ hi
  rw[Nat.add_mul]
  omega
@[simp] def S_shortest_distances:List D→Prop × D:=spec2 (α:=List Int) (β:=List Int) (fun a b=>a.length≤4096∧b.length≤4096) (fun a b=>tabD a b)
theorem ct_shortest_distances {P:Program} {f:Nat} {G:Gam} (h:CodeOf P f 2 16 [2] x_shortest_distances) (hG:GamOk P G):Has P f S_shortest_distances:=h.has2 hG fun a b hp=>by
  obtain⟨ha,hb⟩:=hp
  have w1:=wrap_in (n:=(b.length:Int)+1) (by omega) (by omega)
  have w2:=wrap_in (n:=(a.length:Int)+1) (by omega) (by omega)
  have hN:tabN a b≤4097 * 4097:=Nat.mul_le_mul (by omega) (by omega)
  have w3:IntKind.i64.wrap (((a.length:Int)+1) * ((b.length:Int)+1))=(tabN a b:Int):=by
    rw[wrap_in]
    · unfold tabN;push_cast;rfl
    · have:(0:Int)≤((a.length:Int)+1) * ((b.length:Int)+1):=Int.mul_nonneg (by omega) (by omega)
      omega
    · have:((tabN a b:Nat):Int)=((a.length:Int)+1) * ((b.length:Int)+1):=by unfold tabN;push_cast;rfl
      omega
  obtain⟨q,hq⟩:∃q:Nat→Nat,∀i,q i=i * (b.length+1):=⟨_,fun _=>rfl⟩
  obtain⟨r,hr⟩:∃r:Nat→Nat→Nat,∀i j,r i j=i * (b.length+1)+j:=⟨_,fun _ _=>rfl⟩
  have hqM:∀i:Nat,i≤a.length+1→q i≤tabN a b:=fun i hi=>by rw[hq];exact Nat.mul_le_mul_right _ hi
  have hq1:∀i:Nat,q (i+1)=q i+(b.length+1):=fun i=>by rw[hq,hq,Nat.add_mul];omega
  have hqr:∀i j:Nat,r i j=q i+j:=fun i j=>by rw[hq,hr]
  have hrl:∀i j:Nat,i≤a.length→j≤b.length→r i j<tabN a b:=fun i j hi hj=>by rw[hr];exact fill_lt hi hj
  have hrv:∀i j:Nat,j≤b.length→restV a b (r i j)=dist (a.drop i) (b.drop j):=fun i j hj=>by rw[hr];exact restV_row hj
  have cM:∀i:Nat,i≤a.length+1→IntKind.i64.wrap ((i:Int) * ((b.length:Int)+1))=(q i:Int):=by
    intro i hi
    have e:(i:Int) * ((b.length:Int)+1)=(q i:Int):=by rw[hq];push_cast;rfl
    have:=hqM i hi
    rw[e,wrap_in (by omega) (by omega)]
  have cA:∀i j:Nat,i≤a.length→j≤b.length→IntKind.i64.wrap ((q i:Int)+(j:Int))=(r i j:Int):=by
    intro i j hi hj
    have:=hrl i j hi hj
    have e:(q i:Int)+(j:Int)=(r i j:Int):=by rw[hqr];push_cast;rfl
    rw[e,wrap_in (by omega) (by omega)]
  simp[x_shortest_distances,w1,w2,w3]
  refine⟨⟨by unfold room;omega,by omega⟩,?_⟩
  obtain⟨T1,hT1⟩:∃Tf:Nat→List A,∀j,Tf j=[.d (Rep.to a),.d (Rep.to b),.any,.d (.int .i64 (b.length+1)),.own 0 0 0 (tabN a b),.any,.any,.any,.any,.any,.d (.int .i64 b.length),.d (.int .i64 j),.any,.any,.any,.any]:=⟨_,fun _=>rfl⟩
  obtain⟨f1,hf1⟩:∃f:Nat→List A,∀j,f j=fillP a b (fun k=>decide (q a.length≤k) && decide (k<q a.length+j)):=⟨_,fun _=>rfl⟩
  have f1l:∀j,(f1 j).length=tabN a b:=fun j=>by rw[hf1,fillP_len]
  refine vc_ghost (σ:=Nat) [true,true,false,true,true,false,false,false,false,false,true,true] 1 (fun j=>j≤b.length) (fun j=>b.length-j) T1 (fun j=>[.cells 0 1 (f1 j)]) 0 (by omega) (by simp[inScope]) ?_ ?_
  · refine⟨by simp[hT1],?_,by omega⟩
    simp only[List.take_succ_cons,List.take_zero,List.cons.injEq,Ob.cells.injEq,true_and,and_true]
    rw[hf1]
    apply List.ext_getElem
    · simp[fillP]
    · intro k h1 h2
      have:¬(q a.length≤k∧k<q a.length+0):=by omega
      simp[fillP]
      omega
  · intro j hj
    rw[hT1]
    simp
    refine⟨fun h1=>?_,fun h1=>?_⟩
    · have c1:=cM a.length (by omega)
      have c2:=cA a.length j (by omega) (by omega)
      have c3:=add1 h1 (by omega)
      have c4:=wrap_in (n:=(b.length:Int)-j) (by omega) (by omega)
      have c6:=hrl a.length j (by omega) (by omega)
      have c5:IntKind.u16.wrap ((b.length:Int)-j)=(restV a b (r a.length j):Int):=by
        rw[hrv _ _ (by omega),List.drop_length,dist_nil]
        simp[IntKind.wrap,IntKind.bits,IntKind.signed]
        omega
      simp[c1,c2,c3,c4,c5,c6,f1l]
      refine⟨by simp[inScope],j+1,by omega,by rw[hT1];simp,?_,by omega⟩
      rw[hf1,hf1]
      have e:=hqr a.length j
      exact fillP_set (by simp;omega) (fun k hk=>by
        by_cases h2:q a.length≤k <;> simp[h2]
        omega)
    · have h2:j=b.length:=by omega
      obtain⟨f2,hf2⟩:∃f:Nat→List A,∀c,f c=fillP a b (fun k=>decide (c≤k)):=⟨_,fun _=>rfl⟩
      have f2l:∀j,(f2 j).length=tabN a b:=fun j=>by rw[hf2,fillP_len]
      have e1:f1 j=f2 (q a.length):=by
        rw[hf1,hf2]
        refine fillP_eq fun k hk=>?_
        rcases Nat.lt_or_ge k (q a.length+j) with h3 | h3
        · left;simp[h3]
        · right
          have e9:k=r a.length b.length:=by
            rw[hqr]
            have:tabN a b=q a.length+(b.length+1):=by rw[hq];unfold tabN;rw[Nat.add_mul];omega
            omega
          rw[e9,hrv _ _ (Nat.le_refl _),List.drop_length,List.drop_length,dist_nil]
          rfl
      have w4:=wrap_in (n:=(a.length:Int)-1) (by omega) (by omega)
      rw[e1]
      obtain⟨T2,hT2⟩:∃Tf:Nat→List A,∀i,Tf i=[.d (Rep.to a),.d (Rep.to b),.any,.d (.int .i64 (b.length+1)),.own 0 0 0 (tabN a b),.any,.d (.int .i64 ((i:Int)-1)),.any,.any,.any,.any,.any,.any,.any,.any,.any]:=⟨_,fun _=>rfl⟩
      simp[w4]
      refine vc_ghost (σ:=Nat) [true,true,false,true,true,false,true] 1 (fun i=>i≤a.length) (fun i=>i) T2 (fun i=>[.cells 0 1 (f2 (q i))]) a.length (by omega) (by simp[inScope]) ?_ ?_
      · exact⟨by simp[hT2],by simp,by omega⟩
      · intro i hi
        rcases Nat.eq_zero_or_pos i with h0 | h0
        · subst h0
          rw[hT2]
          simp
          have q0:q 0=0:=by rw[hq];simp
          have hall:f2 (q 0)=(List.range (tabN a b)).map fun k=>.d (.int .u16 (restV a b k)):=by
            rw[hf2,q0]
            exact List.map_congr_left fun k hk=>by simp
          rw[hall]
          simp only[bor,List.getD_cons_zero,List.drop_zero]
          rw[List.take_of_length_le (by simp)]
          refine⟨⟨trivial,?_⟩,?_⟩
          · rw[List.all_eq_true]
            intro x hx
            obtain⟨k,_,rfl⟩:=List.mem_map.1 hx
            rfl
          · rw[List.map_map]
            simp only[tabD,LeD_sl,true_and]
            rfl
        · obtain⟨p,rfl⟩:∃p,i=p+1:=⟨i-1,by omega⟩
          have e2:(((p+1:Nat):Int))-1=(p:Int):=by omega
          have e3:=wrap_in (n:=(p:Int)+1) (by omega) (by omega)
          have e4:=wrap_in (n:=(p:Int)+2) (by omega) (by omega)
          have g0:=cM p (by omega)
          have g1:IntKind.i64.wrap (((p:Int)+1) * ((b.length:Int)+1))=(q (p+1):Int):=by have:=cM (p+1) (by omega);push_cast at this;exact this
          have g2:IntKind.i64.wrap (((p:Int)+2) * ((b.length:Int)+1))=(q (p+2):Int):=by have:=cM (p+2) (by omega);push_cast at this;exact this
          have g3:=hq1 p
          have g4:q (p+2)=q (p+1)+(b.length+1):=hq1 (p+1)
          have g5:=hqM (p+2) (by omega)
          have hap:p<a.length:=by omega
          have w5:=wrap_in (n:=(b.length:Int)-1) (by omega) (by omega)
          have w6:=wrap_in (n:=(a.length:Int)-p) (by omega) (by omega)
          have w7:IntKind.u16.wrap ((a.length:Int)-p)=(restV a b (r p b.length):Int):=by
            rw[hrv _ _ (by omega),List.drop_length,dist_nil']
            simp[IntKind.wrap,IntKind.bits,IntKind.signed]
            omega
          have w8:=wrap_in (n:=(p:Int)-1) (by omega) (by omega)
          have e5:(f2 (q (p+1))).set (q p+b.length) (.d (.int .u16 (restV a b (r p b.length))))=f2 (r p b.length):=by
            rw[hf2,hf2,← hqr]
            have:=hqr p b.length
            exact fillP_set (by simp) (fun k hk=>by simp;omega)
          rw[hT2,e2]
          simp[e3,e4,g0,g1,g2,f2l,w5,w6,w7,e5]
          refine⟨by omega,by omega,by omega,by omega,?_⟩
          obtain⟨T3,hT3⟩:∃Tf:Nat→List A,∀j,Tf j=[.d (Rep.to a),.d (Rep.to b),.any,.d (.int .i64 (b.length+1)),.own 0 0 0 (tabN a b),.any,.d (.int .i64 p),.own 0 0 (q p) (q (p+1)-q p),.own 0 0 (q (p+1)) (q (p+2)-q (p+1)),.d (.int .i64 ((j:Int)-1)),.any,.any,.any,.any,.any,.any]:=⟨_,fun _=>rfl⟩
          refine vc_ghost (σ:=Nat) [true,true,false,true,true,false,true,true,true,true] 1 (fun j=>j≤b.length) (fun j=>j) T3 (fun j=>[.cells 0 1 (f2 (r p j))]) b.length (by omega) (by simp[inScope]) ?_ ?_
          · exact⟨by simp[hT3],by simp,by omega⟩
          · intro j hj
            rcases Nat.eq_zero_or_pos j with j0 | j0
            · subst j0
              rw[hT3]
              simp[w8]
              refine⟨by simp[inScope],p,by omega,?_,?_,by omega⟩
              · rw[hT2];simp
              · rw[hqr];rfl
            · obtain⟨t,rfl⟩:∃t,j=t+1:=⟨j-1,by omega⟩
              have e6:(((t+1:Nat):Int))-1=(t:Int):=by omega
              have hbt:t<b.length:=by omega
              have e7:=wrap_in (n:=(t:Int)+1) (by omega) (by omega)
              have e8:=wrap_in (n:=(t:Int)-1) (by omega) (by omega)
              rw[hT3,e6]
              have fg:∀x y:Nat,r p (t+1)≤q x+y→q x+y<tabN a b→y≤b.length→(f2 (r p (t+1)))[q x+y]?=some (.d (.int .u16 (dist (a.drop x) (b.drop y):Nat))):=by
                intro x y h1 h2 h3
                have:=fillP_get (a:=a) (b:=b) (p:=fun k=>decide (r p (t+1)≤k)) (k:=q x+y) (by simpa using h1) h2
                rw[← hqr,hrv x y h3] at this
                rw[← hf2] at this
                rw[← hqr]
                have h4:r x y<(f2 (r p (t+1))).length:=by rw[f2l,hqr];exact h2
                rw[getD_lt _ _ h4] at this
                rw[List.getElem?_eq_getElem h4,this]
              have k1:=hqr p (t+1)
              have k2:=fg (p+1) (t+1) (by omega) (by omega) (by omega)
              have k3:=fg (p+1) t (by omega) (by omega) (by omega)
              have k4:=fg p (t+1) (by omega) (by omega) (by omega)
              have k5:∀v:Nat,v=dist (a.drop p) (b.drop t)→(f2 (r p (t+1))).set (q p+t) (.d (.int .u16 v))=f2 (r p t):=by
                intro v hv
                have e:=hrv p t (by omega)
                rw[hv,← e,hf2,hf2,← hqr]
                have:=hqr p t
                exact fillP_set (by simp) (fun k hk=>by simp;omega)
              have da:a.drop p=a[p]::a.drop (p+1):=List.drop_eq_getElem_cons hap
              have db:b.drop t=b[t]::b.drop (t+1):=List.drop_eq_getElem_cons hbt
              have b1:=(dist_bounds (a.drop (p+1)) (b.drop t)).2.2.1
              simp only[List.length_drop] at b1
              have w9:a[p]≠b[t]→IntKind.u16.wrap (min (dist (a.drop (p+1)) (b.drop t):Int) (dist (a.drop p) (b.drop (t+1)):Int)+1)=((dist (a.drop p) (b.drop t):Nat):Int):=by
                intro hne
                have e:dist (a.drop p) (b.drop t)=1+min (dist (a.drop (p+1)) (b.drop t)) (dist (a.drop p) (b.drop (t+1))):=by
                  conv=>lhs;rw[da,db,dist_ne hne,← da,← db]
                rw[e]
                simp only[IntKind.wrap,IntKind.bits,IntKind.signed]
                simp
                omega
              have hsc:∀v:Nat,inScope 1 [A.d (D.sl 1 (List.map Rep.to a)),A.d (D.sl 1 (List.map Rep.to b)),A.any,A.d (D.int .i64 (b.length+1)),A.own 0 0 0 (tabN a b),A.any,A.d (D.int .i64 p),A.own 0 0 (q p) (q (p+1)-q p),A.own 0 0 (q (p+1)) (q (p+2)-q (p+1)),A.d (D.int .i64 ((t:Int)-1)),A.any,A.any,A.any,A.any,A.any,A.any] [Ob.cells 0 1 ((f2 (r p (t+1))).set (q p+t) (A.d (D.int .u16 v)))]:=fun v=>.inl (by simp)
              simp[getD_map,hap,hbt,e7,e8,f2l,k2,k3,k4]
              refine⟨fun hq=>⟨by omega,by omega,by omega,by omega,hsc _,t,by omega,?_,?_,by omega⟩,fun hne=>⟨by omega,by omega,by omega,by omega,by omega,by omega,?_,t,by omega,?_,?_,by omega⟩⟩
              · rw[hT3];simp
              · exact k5 _ (by rw[da,db,hq,dist_eq])
              · rw[w9 hne];exact hsc _
              · rw[hT3];simp
              · rw[w9 hne];exact k5 _ rfl
def walkS (args:List A) (s0:Store):Prop × Store × A :=
  match args,s0 with
  | [.d (.int .i64 i),.d (.int .i64 j),.ref 0 v 0 0,.ref 1 u 0 0],[.cells v' 1 [.d (.sl 1 xs)],.cells u' 1 [.d (.sl 1 ys)]] =>
    match xs.getD (i.toNat * (ys.length+1)+j.toNat) default with
    | .int .u16 n=>(v=v'∧u=u'∧0≤i∧i≤4096∧0≤j∧j≤4096∧ys.length≤4096∧i.toNat * (ys.length+1)+j.toNat<xs.length∧0≤n∧n≤65535,[.cells v 1 [.d (.sl 1 xs)],.cells u 1 [.d (.sl 1 ys)]],.d (.int .i64 n))
    | _=>(False,[],.any)
  | _,_=>(False,[],.any)
def walkR (args:List A) (_:Store) (_:Nat):List Nat :=
  match args with
  | [_,_,.ref l _ _ _,.ref m _ _ _]=>[l,m]
  | _=>[]
abbrev R_shortest_walk_1:RSpec:=⟨walkR,walkS⟩
theorem ct_shortest_walk_1 {P:Program} {f:Nat} (hc:CodeOf P f 4 5 [4] x_shortest_walk_1):RSpec.Ok P f R_shortest_walk_1:=by
  refine⟨hc.call,fun _ _ _ _ _=>rfl,?_⟩
  intro args s0 hp
  simp only[walkS] at hp ⊢
  split at hp
  · rename_i i j v u v' xs u' ys
    split at hp
    · rename_i n hn
      obtain⟨rfl,rfl,h1,h2,h3,h4,h5,h6,h7,h8⟩:=hp
      obtain⟨p,rfl⟩:=Int.eq_ofNat_of_zero_le h1
      obtain⟨q,rfl⟩:=Int.eq_ofNat_of_zero_le h3
      simp only[Int.toNat_natCast] at hn h6 ⊢
      refine hc.rcalls (GamOk.nil _) rfl ?_
      have hm:p * (ys.length+1)≤4096 * 4097:=Nat.mul_le_mul (by omega) (by omega)
      have w1:=wrap_in (n:=(ys.length:Int)+1) (by omega) (by omega)
      obtain⟨k,hk⟩:∃k,k=p * (ys.length+1):=⟨_,rfl⟩
      have w2:IntKind.i64.wrap ((p:Int) * ((ys.length:Int)+1))=(k:Int):=by
        have e:(p:Int) * ((ys.length:Int)+1)=(k:Int):=by rw[hk];push_cast;rfl
        rw[e,wrap_in (by omega) (by omega)]
      have w3:IntKind.i64.wrap ((k:Int)+(q:Int))=((k+q:Nat):Int):=by rw[wrap_in (by omega) (by omega)];rfl
      rw[← hk] at hn h6
      have w4:=wrap_in (n:=n) (by omega) (by omega)
      rw[List.getD,List.getElem?_eq_getElem h6] at hn
      simp only[Option.getD_some] at hn
      simp[x_shortest_walk_1,startA,w1,w2]
      rw[w3]
      generalize k+q=c at *
      simp[h6,hn,w4]
      exact⟨by simp[resPre],[0,1],rfl,⟨by decide,by simp,rfl⟩,fun k hk=>.inl (by match k,hk with | 0,_=>rfl | 1,_=>rfl),rfl,rfl,rfl⟩
    · exact hp.elim
  · exact hp.elim
theorem eR_walk1 {G:Gam} {f:Nat} (hf:G.findR f=some R_shortest_walk_1) {s:Store} {nw l m v u i j:Nat} {a b:List Int} (h1:s.getD l .dead=.cells v 1 [.d (tabD a b)]) (h2:s.getD m .dead=.cells u 1 [.d (.sl 1 (b.map Rep.to))])
    (h3:l≠m) (h4:l<s.length∧m<s.length) (h5:i≤a.length∧j≤b.length) (h6:a.length≤4096∧b.length≤4096) {x y:Int} (hx:x=i) (hy:y=j) :
    eRCall G s nw f [.d (.int .i64 x),.d (.int .i64 y),.ref l v 0 0,.ref m u 0 0]=⟨True,[(l,.cells v 1 [.d (tabD a b)]),(m,.cells u 1 [.d (.sl 1 (b.map Rep.to))])],.d (.int .i64 ((dist (a.drop i) (b.drop j):Nat):Int))⟩:=by
  subst hx hy
  obtain⟨l1,l2⟩:=h4
  have hlt:=fill_lt (a:=a) (b:=b) h5.1 h5.2
  have hrow:=restV_row (a:=a) (b:=b) (i:=i) h5.2
  have hb:=(dist_bounds (a.drop i) (b.drop j)).2.2.1
  simp only[List.length_drop] at hb
  have hv:((List.range (tabN a b)).map fun k=>D.int .u16 (restV a b k)).getD (i * (b.length+1)+j) default=.int .u16 (dist (a.drop i) (b.drop j):Nat):=by
    rw[getD_lt _ _ (by simpa using hlt),List.getElem_map,List.getElem_range,hrow]
  unfold eRCall
  rw[hf]
  simp only[walkR,List.map_cons,List.map_nil,h1,h2]
  have q1:i≤4096:=by omega
  have q2:j≤4096:=by omega
  have q3:dist (a.drop i) (b.drop j)≤65535:=by omega
  simp only[tabD] at *
  simp[walkS,h3,l1,l2,h6.2,hlt,-List.getD_eq_getElem?_getD,hv]
  omega
theorem walkV_beg:∀(a b:List Int) (i j:Int),walkV a b i j=(List.range (begV a b)).map (fun k=>(⟨i+(k:Nat),j+(k:Nat)⟩:SpanT))++walkV (a.drop (begV a b)) (b.drop (begV a b)) (i+(begV a b:Nat)) (j+(begV a b:Nat))
  | [],b,i,j=>by simp[begV,walkV_nil]
  | x::a,[],i,j=>by simp[begV,walkV_nil']
  | x::a,y::b,i,j=>by
    by_cases h:x=y
    · subst h
      rw[walkV_eq,walkV_beg a b (i+1) (j+1)]
      simp only[begV,if_true,List.range_succ_eq_map,List.map_cons,List.map_map,List.cons_append,List.drop_succ_cons]
      congr 1
      · simp
      · congr 1
        · refine List.map_congr_left fun k _=>?_
          simp only[Function.comp,SpanT.mk.injEq]
          omega
        · congr 1 <;> push_cast <;> omega
    · simp[begV,h]
@[simp] def S_shortest_walk:List D→Prop × D:=spec2 (α:=List Int) (β:=List Int) (fun a b=>a.length≤4096∧b.length≤4096) (fun a b=>Rep.to (walkV a b 0 0))
theorem ct_shortest_walk {P:Program} {f g1 g2 g3:Nat} {G:Gam} (h:CodeOf P f 2 17 [3] (x_shortest_walk g1 g2 g3)) (hG:GamOk P G) (hg1:G.find g1=some S_shortest_beginning) (hg2:G.find g2=some S_shortest_distances) (hg3:G.findR g3=some R_shortest_walk_1):Has P f S_shortest_walk:=h.has2 hG fun a b hp=>by
  obtain⟨ha,hb⟩:=hp
  obtain⟨b1,b2⟩:=begV_le a b
  simp[x_shortest_walk,hg1]
  refine⟨by omega,?_⟩
  obtain⟨n,hn⟩:∃n,n=begV a b:=⟨_,rfl⟩
  rw[← hn] at b1 b2 ⊢
  obtain⟨pre,hpre⟩:∃pre:Nat→List SpanT,∀k,pre k=(List.range k).map (fun k=>(⟨(k:Nat),(k:Nat)⟩:SpanT)):=⟨_,fun _=>rfl⟩
  have hpl:∀k,(pre k).length=k:=fun k=>by rw[hpre];simp
  have hps:∀k,pre (k+1)=pre k++[⟨(k:Nat),(k:Nat)⟩]:=fun k=>by rw[hpre,hpre,List.range_succ,List.map_append];rfl
  obtain⟨T1,hT1⟩:∃Tf:Nat→List A,∀k,Tf k=[.d (Rep.to a),.any,.ref 0 0 0 0,.any,.gr 1 2 ((pre k).map Rep.to),.d (.int .i64 n),.any,.any,.any,.any,.any,.d (.int .i64 n),.d (.int .i64 k),.any,.any,.any,.any]:=⟨_,fun _=>rfl⟩
  refine vc_ghost (σ:=Nat) [true,false,true,false,true,true,false,false,false,false,false,true,true] 2 (fun k=>k≤n) (fun k=>n-k) T1 (fun k=>[.cells 0 1 [.d (Rep.to b)],.tip k]) 0 (by omega) (by simp[inScope]) ?_ ?_
  · exact⟨by simp[hT1,hpre],by simp,by omega⟩
  intro k hk
  rw[hT1]
  simp
  refine⟨fun h1=>?_,fun h1=>?_⟩
  · have e:=add1 h1 (by omega)
    simp[hpl,e]
    refine⟨by unfold room;omega,by simp[inScope],k+1,by omega,?_,rfl,by omega⟩
    rw[hT1,hps]
    simp
  · have hkn:k=n:=by omega
    subst hkn
    obtain⟨a',ha'⟩:∃a',a'=a.drop k:=⟨_,rfl⟩
    obtain⟨b',hb'⟩:∃b',b'=b.drop k:=⟨_,rfl⟩
    have la:a'.length=a.length-k:=by rw[ha'];simp
    have lb:b'.length=b.length-k:=by rw[hb'];simp
    have ma:(List.take (a.length-k) (List.drop k (List.map Rep.to a)):List D)=a'.map Rep.to:=by rw[← List.map_drop,← ha',List.take_of_length_le (by simp;omega)]
    have mb:(List.take (b.length-k) (List.drop k (List.map Rep.to b)):List D)=b'.map Rep.to:=by rw[← List.map_drop,← hb',List.take_of_length_le (by simp;omega)]
    have hw:=walkV_beg a b 0 0
    rw[← hn,← ha',← hb'] at hw
    simp only[Int.zero_add] at hw
    rw[← hpre] at hw
    simp[ma,mb,hg2,pairsOk,b1,b2]
    refine⟨⟨by omega,by omega⟩,by simp[tabD],?_⟩
    obtain⟨T2,hT2⟩:∃Tf:List SpanT × Nat × Nat→List A,∀x,Tf x=[.d (Rep.to a'),.any,.ref 0 0 0 0,.any,.gr 1 2 (x.1.map Rep.to),.d (.int .i64 k),.any,.any,.fn (.func g3) [] [.ref 2 0 0 0,.ref 0 0 0 0],.d (.int .i64 x.2.1),.d (.int .i64 x.2.2),.any,.any,.any,.any,.any,.any]:=⟨_,fun _=>rfl⟩
    obtain⟨s2,hs2⟩:∃sf:List SpanT × Nat × Nat→Store,∀x,sf x=[.cells 0 1 [.d (Rep.to b')],.tip x.1.length,.cells 0 1 [.d (tabD a' b')]]:=⟨_,fun _=>rfl⟩
    refine vc_ghost (σ:=List SpanT × Nat × Nat) [true,false,true,false,true,true,false,false,true,true,true] 3 (fun x=>x.2.1≤a'.length∧x.2.2≤b'.length∧x.1.length≤k+x.2.1∧x.1++walkV (a'.drop x.2.1) (b'.drop x.2.2) (k+x.2.1) (k+x.2.2)=walkV a b 0 0)
      (fun x=>(a'.length-x.2.1)+(b'.length-x.2.2)) T2 s2 (pre k,0,0) (by omega) (by simp[inScope]) ?_ ?_
    · refine⟨by simp[hT2],by simp[hs2,hpl],by simp,by simp,by simp[hpl],?_⟩
      rw[hw]
      simp
    rintro⟨out,i,j⟩ ⟨h2,h3,h4,h5⟩
    simp only at h2 h3 h4 h5
    have e1:=wrap_in (n:=(i:Int)+1) (by omega) (by omega)
    have e2:=wrap_in (n:=(j:Int)+1) (by omega) (by omega)
    have e3:=wrap_in (n:=(k:Int)+i) (by omega) (by omega)
    have e4:=wrap_in (n:=(k:Int)+j) (by omega) (by omega)
    have hr2:∀(s:Store) (nw:Nat),s.getD 2 .dead=.cells 0 1 [.d (tabD a' b')]→s.getD 0 .dead=.cells 0 1 [.d (.sl 1 (b'.map Rep.to))]→2<s.length→eRCall G s nw g3 [.d (.int .i64 i),.d (.int .i64 j),.ref 2 0 0 0,.ref 0 0 0 0]=⟨True,[(2,.cells 0 1 [.d (tabD a' b')]),(0,.cells 0 1 [.d (.sl 1 (b'.map Rep.to))])],.d (.int .i64 ((dist (a'.drop i) (b'.drop j):Nat):Int))⟩ :=
      fun s nw q1 q2 q3=>eR_walk1 hg3 q1 q2 (by omega) ⟨q3,by omega⟩ ⟨h2,h3⟩ ⟨by omega,by omega⟩ rfl rfl
    have hr1:i<a'.length→∀(s:Store) (nw:Nat),s.getD 2 .dead=.cells 0 1 [.d (tabD a' b')]→s.getD 0 .dead=.cells 0 1 [.d (.sl 1 (b'.map Rep.to))]→2<s.length→eRCall G s nw g3 [.d (.int .i64 (i+1)),.d (.int .i64 j),.ref 2 0 0 0,.ref 0 0 0 0]=⟨True,[(2,.cells 0 1 [.d (tabD a' b')]),(0,.cells 0 1 [.d (.sl 1 (b'.map Rep.to))])],.d (.int .i64 ((dist (a'.drop (i+1)) (b'.drop j):Nat):Int))⟩ :=
      fun h s nw q1 q2 q3=>eR_walk1 hg3 q1 q2 (by omega) ⟨q3,by omega⟩ ⟨h,h3⟩ ⟨by omega,by omega⟩ rfl rfl
    have db:=(dist_bounds (a'.drop (i+1)) (b'.drop j)).2.2.1
    simp only[List.length_drop] at db
    have e5:=wrap_in (n:=((dist (a'.drop (i+1)) (b'.drop j):Nat):Int)+1) (by omega) (by omega)
    rw[hT2,hs2]
    have hro:room (out.length+1) 16:=by unfold room;omega
    by_cases hi:i<a'.length <;> by_cases hj:j<b'.length
    · have ea:a'.drop i=a'[i]::a'.drop (i+1):=List.drop_eq_getElem_cons hi
      have eb:b'.drop j=b'[j]::b'.drop (j+1):=List.drop_eq_getElem_cons hj
      have c1:a'[i]=b'[j]→out++[(⟨k+i,k+j⟩:SpanT)]++walkV (a'.drop (i+1)) (b'.drop (j+1)) (k+(i+1)) (k+(j+1))=walkV a b 0 0:=by
        intro he
        rw[ea,eb,he,walkV_eq] at h5
        rw[← h5,Int.add_assoc,Int.add_assoc]
        simp
      have c2:a'[i]≠b'[j]→dist (a'.drop (i+1)) (b'.drop j)+1=dist (a'.drop i) (b'.drop j)→out++walkV (a'.drop (i+1)) (b'.drop j) (k+(i+1)) (k+j)=walkV a b 0 0:=by
        intro he hd
        rw[ea,eb,walkV_ne he,← ea,← eb,if_pos hd] at h5
        rw[← h5,Int.add_assoc]
      have c3:a'[i]≠b'[j]→¬(dist (a'.drop (i+1)) (b'.drop j)+1=dist (a'.drop i) (b'.drop j))→out++walkV (a'.drop i) (b'.drop (j+1)) (k+i) (k+(j+1))=walkV a b 0 0:=by
        intro he hd
        rw[ea,eb,walkV_ne he,← ea,← eb,if_neg hd] at h5
        rw[← h5,Int.add_assoc]
      simp[hi,hj,getD_map,pairsOk,e1,e2,e3,e4,e5,hro,eCallv,hr1 hi,hr2]
      refine⟨fun he=>⟨by simp[inScope],out++[⟨k+i,k+j⟩],i+1,j+1,by omega,?_,?_,hi,hj,by simp;omega,c1 he⟩,
        fun he=>⟨fun hd=>⟨by simp[inScope],out,i+1,j,by omega,?_,?_,hi,h3,by omega,c2 he (by omega)⟩,fun hd=>⟨by simp[inScope],out,i,j+1,by omega,?_,?_,h2,hj,h4,c3 he (by omega)⟩⟩⟩
      all_goals first | (rw[hT2];simp;done) | (rw[hs2];simp;done)
    · have hj2:b'.drop j=[]:=List.drop_eq_nil_of_le (by omega)
      rw[hj2,walkV_nil'] at h5
      have hd0:dist (a'.drop (i+1)) (b'.drop j)+1=dist (a'.drop i) (b'.drop j):=by
        rw[hj2,dist_nil',dist_nil',List.length_drop,List.length_drop];omega
      simp[hi,hj,getD_map,pairsOk,e1,e2,e3,e4,e5,hro,eCallv,hr1 hi,hr2]
      refine⟨fun hd=>⟨by simp[inScope],out,i+1,j,by omega,?_,?_,hi,h3,by omega,?_⟩,fun hd=>absurd (by omega) hd⟩
      · rw[hT2];simp
      · rw[hs2];simp
      · rw[hj2,walkV_nil'];exact h5
    · have hi2:a'.drop i=[]:=List.drop_eq_nil_of_le (by omega)
      rw[hi2,walkV_nil] at h5
      simp[hi,hj,getD_map,pairsOk,e1,e2,e3,e4,e5,hro,eCallv,hr2]
      refine⟨by simp[inScope],out,i,j+1,by omega,?_,?_,h2,hj,h4,?_⟩
      · rw[hT2];simp
      · rw[hs2];simp
      · rw[hi2,walkV_nil];exact h5
    · have hi2:a'.drop i=[]:=List.drop_eq_nil_of_le (by omega)
      rw[hi2,walkV_nil,List.append_nil] at h5
      simp[hi,hj,getD_map,pairsOk,e1,e2,e3,e4,e5,hro,eCallv,hr2]
      rw[h5]
def scriptV (a b:List Int):List ChangeT:=madeV (walkV a b 0 0) a.length b.length
def longV (a b:List Int):Prop:=¬(a.length≤4096∧b.length≤4096)
instance (a b:List Int):Decidable (longV a b):=inferInstanceAs (Decidable (¬_))
theorem walkV_asc:∀(a b:List Int) (i j:Int),ascB (walkV a b i j) i j (i+a.length) (j+b.length)=true:=by
  have mono:∀(p:List SpanT) (i j i' j' m n m' n':Int),i'≤i→j'≤j→m≤m'→n≤n'→ascB p i j m n=true→ascB p i' j' m' n'=true:=by
    intro p
    induction p with
    | nil=>intros;rfl
    | cons s p ih =>
      intro i j i' j' m n m' n' h1 h2 h3 h4 h
      simp only[ascB,Bool.and_eq_true,decide_eq_true_eq] at h ⊢
      obtain⟨⟨⟨⟨k1,k2⟩,k3⟩,k4⟩,k5⟩:=h
      exact⟨⟨⟨⟨by omega,by omega⟩,by omega⟩,by omega⟩,ih _ _ _ _ _ _ _ _ (Int.le_refl _) (Int.le_refl _) h3 h4 k5⟩
  intro a b
  generalize hn:a.length+b.length=n
  induction n using Nat.strongRecOn generalizing a b with
  | _ n ih =>
    intro i j
    cases a with
    | nil=>rw[walkV_nil];rfl
    | cons x a =>
      cases b with
      | nil=>rw[walkV_nil'];rfl
      | cons y b =>
        simp only[List.length_cons] at hn ⊢
        by_cases h:x=y
        · subst h
          rw[walkV_eq]
          simp only[ascB,Bool.and_eq_true,decide_eq_true_eq]
          refine⟨⟨⟨⟨by omega,by omega⟩,by omega⟩,by omega⟩,?_⟩
          have:=ih (a.length+b.length) (by omega) a b rfl (i+1) (j+1)
          exact mono _ _ _ _ _ _ _ _ _ (Int.le_refl _) (Int.le_refl _) (by omega) (by omega) this
        · rw[walkV_ne h]
          split
          · have:=ih (a.length+(b.length+1)) (by omega) a (y::b) (by simp) (i+1) j
            simp only[List.length_cons] at this
            exact mono _ _ _ _ _ _ _ _ _ (by omega) (by omega) (by omega) (by omega) this
          · have:=ih ((a.length+1)+b.length) (by omega) (x::a) b (by simp) i (j+1)
            simp only[List.length_cons] at this
            exact mono _ _ _ _ _ _ _ _ _ (by omega) (by omega) (by omega) (by omega) this
theorem walkV_len (a b:List Int) (i j:Int):(walkV a b i j).length≤a.length:=by
  generalize hn:a.length+b.length=n
  induction n using Nat.strongRecOn generalizing a b i j with
  | _ n ih =>
    cases a with
    | nil=>rw[walkV_nil];simp
    | cons x a =>
      cases b with
      | nil=>rw[walkV_nil'];simp
      | cons y b =>
        simp only[List.length_cons] at hn ⊢
        by_cases h:x=y
        · subst h
          rw[walkV_eq]
          have:=ih (a.length+b.length) (by omega) a b (i+1) (j+1) rfl
          simp only[List.length_cons]
          omega
        · rw[walkV_ne h]
          split
          · have:=ih (a.length+(b.length+1)) (by omega) a (y::b) (i+1) j (by simp)
            omega
          · have:=ih ((a.length+1)+b.length) (by omega) (x::a) b i (j+1) (by simp)
            simpa using this
@[simp] def S_shortest_Script:List D→Prop × D:=spec2 (α:=List Int) (β:=List Int) (fun a b=>a.length≤1048576∧b.length≤1048576) (fun a b=>.tup [Rep.to (if longV a b then [] else scriptV a b),.int .i64 (if longV a b then 1 else 0)])
theorem ct_shortest_Script {P:Program} {f g1 g2 g3:Nat} {G:Gam} (h:CodeOf P f 2 5 [2,3] (x_shortest_Script g1 g2 g3)) (hG:GamOk P G) (hg1:G.find g1=some S_shortest_limited) (hg2:G.find g2=some S_shortest_walk) (hg3:G.find g3=some S_script_FromPairs):Has P f S_shortest_Script:=h.has2 hG fun a b hp=>by
  obtain⟨ha,hb⟩:=hp
  simp[x_shortest_Script,hg1]
  have hL:longV a b↔(4096<a.length∨4096<b.length):=by unfold longV;omega
  refine⟨fun h=>?_,fun h1 h2=>?_⟩
  · have:=hL.2 h
    simp[this]
  · have hnl:¬longV a b:=by rw[hL];omega
    have hw:=walkV_asc a b 0 0
    simp only[Int.zero_add] at hw
    have hl:=walkV_len a b 0 0
    have hfp:fromPairsV (walkV a b 0 0) a.length b.length=(scriptV a b,0):=by
      unfold fromPairsV
      rw[if_neg (by omega),if_pos hw]
      rfl
    simp[hg2,hg3,hnl,h1,h2,hfp]
    omega
def modV (a n:Int):Int:=(a % 18446744073709551616) % n
theorem modV_lt (a:Int) {n:Int} (h:1≤n):0≤modV a n∧modV a n<n:=⟨Int.emod_nonneg _ (by omega),Int.emod_lt_of_pos _ (by omega)⟩
@[simp] def S_gen_Mod:List D→Prop × D:=spec2 (α:=Int) (β:=Int) (fun _ n=>1≤n∧n≤9223372036854775807) (fun a n=>Rep.to (modV a n))
theorem ct_gen_Mod {P:Program} {f:Nat} {G:Gam} (h:CodeOf P f 2 3 [2] x_gen_Mod) (hG:GamOk P G):Has P f S_gen_Mod:=h.has2 hG fun a n hp=>by
  obtain⟨h,h2⟩:=hp
  simp[x_gen_Mod]
  have e1:IntKind.u64.wrap n=n:=by simp[IntKind.wrap,IntKind.bits,IntKind.signed];omega
  have e2:IntKind.u64.wrap a=a % 18446744073709551616:=by simp[IntKind.wrap,IntKind.bits,IntKind.signed]
  rw[e1,e2]
  refine⟨by omega,?_⟩
  have e3:(a % 18446744073709551616).tmod n=modV a n:=by
    rw[Int.tmod_eq_emod_of_nonneg (by omega)];rfl
  have:=modV_lt a h
  rw[e3,wrap_in] <;> omega
def lines:List Str:=[[97],[98],[99],[97,98],[98,97],[],[97,97],[98,32,97],[120,43,121],[92]]
def lineV (k:Int):Str:=lines.getD (modV k 10).toNat []
@[simp] def S_gen_Line:List D→Prop × D:=spec1 (α:=Int) (fun _=>True) (fun a=>Rep.to (lineV a))
theorem ct_gen_Line {P:Program} {f g:Nat} {G:Gam} (h:CodeOf P f 1 2 [1] (x_gen_Line g)) (hG:GamOk P G) (hg:G.find g=some S_gen_Mod):Has P f S_gen_Line:=h.has1 hG fun k _=>by
  simp[x_gen_Line,hg]
  obtain⟨h1,h2⟩:=modV_lt k (n:=10) (by omega)
  refine⟨⟨h1,h2⟩,?_⟩
  unfold lineV
  generalize modV k 10=r at *
  obtain⟨n,rfl⟩:=Int.eq_ofNat_of_zero_le h1
  have hn:n<10:=by omega
  rw[show ([D.str [97],D.str [98],D.str [99],D.str [97,98],D.str [98,97],D.str [],D.str [97,97],D.str [98,32,97],D.str [120,43,121],D.str [92]]:List D)=lines.map Rep.to from rfl]
  have e:((lines.map Rep.to)[(n:Int).toNat]?.getD default:D)=D.str (lines.getD n []):=by
    have hl:n<lines.length:=hn
    simp[hl,List.getD]
  rw[e]
  simp
def xorV (a b:Int):Int:=IntKind.u64.wrap ((a % 2 ^ IntKind.u64.bits).toNat ^^^ (b % 2 ^ IntKind.u64.bits).toNat:Nat)
def hashV (x:Int):Int:=IntKind.u64.wrap (xorV x (x.fdiv (2 ^ min 31 IntKind.u64.bits)) * 13787848793156543929)
def finV (x:Int):Int:=IntKind.i64.wrap ((xorV x (x.fdiv (2 ^ min 29 IntKind.u64.bits))).fdiv (2 ^ min 1 IntKind.u64.bits))
theorem lockT:(fun _:Int=>True)=(fun x:Int=>x=x):=funext fun _=>propext ⟨fun _=>rfl,fun _=>trivial⟩
def lock (v:Int):Int:=(cast (congrArg Subtype lockT) (⟨v,trivial⟩:{_x:Int // True}):{x:Int // x=x}).1
theorem lock_gen {p q:Int→Prop} (h:p=q) (v:Int) (hv:p v):(cast (congrArg Subtype h) (⟨v,hv⟩:Subtype p):Subtype q).1=v:=by subst h;rfl
theorem lock_eq (v:Int):lock v=v:=lock_gen lockT v trivial
def atU (raw:List Int) (k:Int):Int :=
  let x0:=IntKind.u64.wrap (IntKind.u64.wrap (IntKind.i64.wrap (k+1)) * 11400714819323198485)
  finV (hashV (if raw=[] then x0 else xorV x0 (IntKind.u64.wrap (raw.getD (k.toNat % raw.length) 0))))
def atV (raw:List Int) (k:Int):Int:=lock (atU raw k)
theorem atV_eq (raw:List Int) (k:Int):atV raw k=atU raw k:=lock_eq _
theorem atV_range (raw:List Int) (k:Int):0≤atV raw k∧atV raw k≤9223372036854775807:=by
  rw[atV_eq]
  unfold atU
  simp only
  generalize (hashV _)=y
  unfold finV
  have h1:0≤xorV y (y.fdiv (2 ^ min 29 IntKind.u64.bits))∧xorV y (y.fdiv (2 ^ min 29 IntKind.u64.bits))<18446744073709551616:=by
    unfold xorV
    generalize (_ ^^^ _:Nat)=z
    simp[IntKind.wrap,IntKind.bits,IntKind.signed]
    omega
  generalize xorV _ _=z at h1
  have h2:z.fdiv (2 ^ min 1 IntKind.u64.bits)=z / 2:=by
    rw[Int.fdiv_eq_ediv_of_nonneg _ (by simp[IntKind.bits])];rfl
  rw[h2,wrap_in] <;> omega
@[simp] def S_gen_At:List D→Prop × D:=spec2 (α:=List Int) (β:=Int) (fun raw k=>0≤k∧k<9223372036854775807∧raw.length≤9223372036854775807) (fun raw k=>Rep.to (atV raw k))
theorem ct_gen_At {P:Program} {f:Nat} {G:Gam} (h:CodeOf P f 2 5 [2] x_gen_At) (hG:GamOk P G):Has P f S_gen_At:=h.has2 hG fun raw k hp=>by
  obtain⟨h1,h2,h3⟩:=hp
  obtain⟨n,rfl⟩:=Int.eq_ofNat_of_zero_le h1
  simp[x_gen_At]
  refine⟨fun h4=>?_,fun h4=>?_⟩
  · have e:(n:Int).tmod raw.length=((n % raw.length:Nat):Int):=by rw[Int.tmod_eq_emod_of_nonneg (by omega)];simp
    have h5:n % raw.length<raw.length:=Nat.mod_lt _ h4
    have h6:raw≠[]:=by intro h;simp[h] at h4
    have ha:atV raw n=finV (hashV (xorV (IntKind.u64.wrap (IntKind.u64.wrap (IntKind.i64.wrap (n+1)) * 11400714819323198485)) (IntKind.u64.wrap raw[n % raw.length]))):=by
      simp[atV_eq,atU,h6,List.getD,h5]
    rw[e,ha]
    generalize n % raw.length=q at h5
    simp[h5,h6,getD_map]
    rfl
  · rw[atV_eq]
    unfold atU
    simp only[h4,if_true]
    rfl
end Go.AE
namespace Go.AE
end Go.AE
namespace Go.AE
def inV (n:Int):Bool:=decide (0≤n∧n≤4096)
@[simp] def S_ref08_Made:List D→Prop × D:=spec3 (α:=List SpanT) (β:=Int) (γ:=Int) (fun p m n=>p.length≤100000∧numOk m∧numOk n∧∀s,s∈p→numOk s.fr∧numOk s.to) (fun p m n=>Rep.to (madeV p m n))
theorem ct_ref08_Made {P:Program} {f:Nat} {G:Gam} (h:CodeOf P f 3 12 [3] x_ref08_Made) (hG:GamOk P G):Has P f S_ref08_Made:=h.has3 hG fun p m n hp=>by
  obtain⟨hp,hm,hn,hs⟩:=hp
  simp[x_ref08_Made]
  obtain⟨q,hq⟩:∃q,q=p++[SpanT.mk m n]:=⟨_,rfl⟩
  have hql:q.length=p.length+1:=by rw[hq];simp
  have hqs:∀k (h:k<q.length),numOk q[k].fr∧numOk q[k].to:=by
    intro k h
    have hm':q[k]∈p++[SpanT.mk m n]:=by rw[← hq];exact List.getElem_mem h
    rcases List.mem_append.1 hm' with h1 | h1
    · exact hs _ h1
    · rw[List.mem_singleton.1 h1];exact⟨hm,hn⟩
  have hgoal:madeV p m n=chgV q 0 0:=by rw[hq];rfl
  rw[hgoal]
  obtain⟨Tf,hT⟩:∃Tf:Nat × List ChangeT × Int × Int→List A,∀x,Tf x=[.d (Rep.to p),.d (.int .i64 m),.d (.int .i64 n),.any,.gr 0 4 (x.2.1.map Rep.to),.d (.int .i64 x.2.2.1),.d (.int .i64 x.2.2.2),.d (.int .i64 x.1),.any,.any,.any,.any]:=⟨_,fun _=>rfl⟩
  obtain⟨sf,hsf⟩:∃sf:Nat × List ChangeT × Int × Int→Store,∀x,sf x=[.tip x.2.1.length]:=⟨_,fun _=>rfl⟩
  refine vc_ghost (σ:=Nat × List ChangeT × Int × Int) [true,true,true,false,true,true,true,true] 1 (fun x=>x.1≤q.length∧x.2.1.length≤x.1∧x.2.1++chgV (q.drop x.1) x.2.2.1 x.2.2.2=chgV q 0 0∧-1000001≤x.2.2.1∧x.2.2.1≤1000001∧-1000001≤x.2.2.2∧x.2.2.2≤1000001)
    (fun x=>q.length-x.1) Tf sf (0,[],0,0) (by omega) ?_ ?_ ?_
  · simp[inScope]
  · simp[hT,hsf]
  rintro⟨k,out,i,j⟩ ⟨h1,h2,h3,h4,h5,h6,h7⟩
  simp only at h1 h2 h3 h4 h5 h6 h7
  have w0:=wrap_in (n:=(k:Int)+1) (by omega) (by omega)
  rw[hT,hsf]
  by_cases h8:k<q.length
  · obtain⟨⟨f1,f2⟩,f3,f4⟩:=hqs k h8
    rw[List.drop_eq_getElem_cons h8] at h3
    have hk0:k≤p.length:=by omega
    have hpk:∀h9:k<p.length,p[k]=q[k]:=by intro h9;subst hq;rw[List.getElem_append_left h9]
    have hlast:¬k<p.length→(m=q[k].fr∧n=q[k].to):=by
      intro h9
      have e:k=p.length:=by omega
      subst hq
      subst e
      rw[List.getElem_append_right (Nat.le_refl _)]
      simp
    generalize hg':q[k]=sp at *
    obtain⟨fr,to⟩:=sp
    simp only at f1 f2 f3 f4
    have w1:=wrap_in (n:=fr+1) (by omega) (by omega)
    have w2:=wrap_in (n:=to+1) (by omega) (by omega)
    have w3:=wrap_in (n:=fr-i) (by omega) (by omega)
    have w4:=wrap_in (n:=to-j) (by omega) (by omega)
    have r1:room (out.length+1) 32:=by unfold room;omega
    have c1:(i<fr∨j<to)→out++[(⟨i,fr-i,j,to-j⟩:ChangeT)]++chgV (q.drop (k+1)) (fr+1) (to+1)=chgV q 0 0:=by
      intro h
      rw[← h3]
      simp only[chgV,gt_iff_lt,h,if_true,List.append_assoc,List.cons_append,List.nil_append]
    have c2:¬(i<fr∨j<to)→out++chgV (q.drop (k+1)) (fr+1) (to+1)=chgV q 0 0:=by
      intro h
      rw[← h3]
      simp only[chgV,gt_iff_lt,h,if_false]
    by_cases h9:k<p.length
    · have hpk:=hpk h9
      simp[hk0,h9,getD_map,hpk,inScope,pairsOk,disj,w0,w1,w2,w3,w4]
      refine⟨fun h9=>⟨r1,k+1,by omega,out++[⟨i,fr-i,j,to-j⟩],fr+1,to+1,?_,?_,by omega,by simp;omega,c1 (.inl h9),by omega,by omega,by omega,by omega⟩,
        fun h9=>⟨fun h10=>⟨r1,k+1,by omega,out++[⟨i,fr-i,j,to-j⟩],fr+1,to+1,?_,?_,by omega,by simp;omega,c1 (.inr h10),by omega,by omega,by omega,by omega⟩,
          fun h10=>⟨k+1,by omega,out,fr+1,to+1,?_,?_,by omega,by omega,c2 (by omega),by omega,by omega,by omega,by omega⟩⟩⟩
      all_goals first | (rw[hT];simp;done) | (rw[hsf];simp;done) | (rw[hsf];done)
    · obtain⟨e1,e2⟩:=hlast h9
      simp only at e1 e2
      subst e1 e2
      simp[hk0,h9,getD_map,inScope,pairsOk,disj,w0,w1,w2,w3,w4]
      refine⟨fun h9=>⟨r1,k+1,by omega,out++[⟨i,m-i,j,n-j⟩],m+1,n+1,?_,?_,by omega,by simp;omega,c1 (.inl h9),by omega,by omega,by omega,by omega⟩,
        fun h9=>⟨fun h10=>⟨r1,k+1,by omega,out++[⟨i,m-i,j,n-j⟩],m+1,n+1,?_,?_,by omega,by simp;omega,c1 (.inr h10),by omega,by omega,by omega,by omega⟩,
          fun h10=>⟨k+1,by omega,out,m+1,n+1,?_,?_,by omega,by omega,c2 (by omega),by omega,by omega,by omega,by omega⟩⟩⟩
      all_goals first | (rw[hT];simp;done) | (rw[hsf];simp;done) | (rw[hsf];done)
  · have h9:k=q.length:=by omega
    have h10:¬k≤p.length:=by omega
    have h11:p.length<k:=by omega
    simp[h10,h11]
    subst h9
    rw[List.drop_length] at h3
    simp only[chgV,List.append_nil] at h3
    rw[h3]
def stepV (c:ChangeT) (i j:Int) (first:Bool):Bool :=
  inV c.old && inV c.oldLen && inV c.new && inV c.newLen && !decide (c.oldLen+c.newLen=0) && decide (c.old-i=c.new-j) && decide (i≤c.old) && (first || !decide (c.old=i))
def okV:List ChangeT→Int→Int→Bool→Int→Int→Bool
  | [],i,j,_,m,n=>decide (m-i=n-j) && decide (i≤m)
  | c::l,i,j,first,m,n=>stepV c i j first && okV l (c.old+c.oldLen) (c.new+c.newLen) false m n
def checkV (l:List ChangeT) (m n:Int):Bool:=inV m && inV n && okV l 0 0 true m n
theorem inV_true {n:Int} (h:inV n=true):0≤n∧n≤4096:=by simpa [inV] using h
theorem stepV_true {c:ChangeT} {i j:Int} {fst:Bool} (h:stepV c i j fst=true) :
    (0≤c.old∧c.old≤4096)∧(0≤c.oldLen∧c.oldLen≤4096)∧(0≤c.new∧c.new≤4096)∧(0≤c.newLen∧c.newLen≤4096)∧c.oldLen+c.newLen≠0∧c.old-i=c.new-j∧i≤c.old∧(fst=false→c.old≠i):=by
  simp only[stepV,inV,Bool.and_eq_true,decide_eq_true_eq,Bool.not_eq_true',decide_eq_false_iff_not,Bool.or_eq_true] at h
  obtain⟨⟨⟨⟨⟨⟨⟨h1,h2⟩,h3⟩,h4⟩,h5⟩,h6⟩,h7⟩,h8⟩:=h
  refine⟨h1,h2,h3,h4,h5,h6,h7,fun h=>?_⟩
  rw[h] at h8
  simpa using h8
def runN:Nat→Int→Int→List SpanT
  | 0,_,_=>[]
  | n+1,i,j=>⟨i,j⟩::runN n (i+1) (j+1)
theorem runN_len:∀(n:Nat) (i j:Int),(runN n i j).length=n
  | 0,_,_=>rfl
  | n+1,i,j=>by simp[runN,runN_len n]
theorem runN_snoc:∀(n:Nat) (i j:Int),runN (n+1) i j=runN n i j++[⟨i+n,j+n⟩]
  | 0,i,j=>by simp[runN]
  | n+1,i,j=>by
    rw[runN,runN_snoc n]
    simp only[runN,List.cons_append]
    congr 4 <;> push_cast <;> omega
def matV:List ChangeT→Int→Int→Int→List SpanT
  | [],i,j,m=>runN (m-i).toNat i j
  | c::l,i,j,m=>runN (c.old-i).toNat i j++matV l (c.old+c.oldLen) (c.new+c.newLen) m
theorem matV_len:∀(l:List ChangeT) (i j m n:Int) (fst:Bool),okV l i j fst m n=true→((matV l i j m).length:Int)+i≤m
  | [],i,j,m,n,fst,h=>by
    simp only[okV,Bool.and_eq_true,decide_eq_true_eq] at h
    simp only[matV,runN_len]
    omega
  | c::l,i,j,m,n,fst,h=>by
    simp only[okV,Bool.and_eq_true] at h
    have:=matV_len l _ _ _ _ _ h.2
    have hs:=stepV_true h.1
    simp only[matV,List.length_append,runN_len]
    omega
theorem matV_mem:∀(l:List ChangeT) (i j m n:Int) (fst:Bool),okV l i j fst m n=true→∀s,s∈matV l i j m→i≤s.fr∧s.fr<m∧j≤s.to∧s.to<n:=by
  have run:∀(k:Nat) (i j:Int) (s:SpanT),s∈runN k i j→i≤s.fr∧s.fr<i+k∧s.to-j=s.fr-i:=by
    intro k
    induction k with
    | zero=>intro i j s hs;simp[runN] at hs
    | succ k ih =>
      intro i j s hs
      simp only[runN,List.mem_cons] at hs
      rcases hs with rfl | hs
      · simp;omega
      · have:=ih _ _ _ hs
        push_cast
        omega
  have bound:∀(l:List ChangeT) (i j m n:Int) (fst:Bool),okV l i j fst m n=true→i≤m∧j≤n:=by
    intro l
    induction l with
    | nil =>
      intro i j m n fst h
      simp only[okV,Bool.and_eq_true,decide_eq_true_eq] at h
      omega
    | cons c l ih =>
      intro i j m n fst h
      simp only[okV,Bool.and_eq_true] at h
      have h1:=ih _ _ _ _ _ h.2
      have h2:=stepV_true h.1
      omega
  intro l
  induction l with
  | nil =>
    intro i j m n fst h s hs
    simp only[okV,Bool.and_eq_true,decide_eq_true_eq] at h
    have:=run _ _ _ _ hs
    omega
  | cons c l ih =>
    intro i j m n fst h s hs
    simp only[okV,Bool.and_eq_true] at h
    have h1:=bound _ _ _ _ _ _ h.2
    have h2:=stepV_true h.1
    simp only[matV,List.mem_append] at hs
    rcases hs with hs | hs
    · have:=run _ _ _ _ hs
      omega
    · have:=ih _ _ _ _ _ h.2 s hs
      omega
@[simp] def S_ref08_Matched:List D→Prop × D:=spec2 (α:=List ChangeT) (β:=Int) (fun p m=>p.length≤100000∧∃n,checkV p m n=true) (fun p m=>Rep.to (matV p 0 0 m))
theorem ct_ref08_Matched {P:Program} {f:Nat} {G:Gam} (h:CodeOf P f 2 10 [2] x_ref08_Matched) (hG:GamOk P G):Has P f S_ref08_Matched:=h.has2 hG fun p m hp=>by
  obtain⟨hp,n,hc⟩:=hp
  simp only[checkV,Bool.and_eq_true] at hc
  obtain⟨⟨hm,hn⟩,hok⟩:=hc
  have hm:=inV_true hm
  have hn:=inV_true hn
  simp[x_ref08_Matched]
  obtain⟨R,hR⟩:∃R,R=matV p 0 0 m:=⟨_,rfl⟩
  have hRl:R.length≤4096:=by have:=matV_len _ _ _ _ _ _ hok;rw[hR];omega
  refine vc_lp (σ:=Nat × Int × Int × List SpanT) (fun x=>x.1≤p.length∧0≤x.2.1∧x.2.1≤8192∧0≤x.2.2.1∧x.2.2.1≤8192∧okV (p.drop x.1) x.2.1 x.2.2.1 (decide (x.1=0)) m n=true∧x.2.2.2++matV (p.drop x.1) x.2.1 x.2.2.1 m=R)
    (fun x=>p.length-x.1) (fun x=>[.d (Rep.to p),.d (.int .i64 m),.any,.gr 0 2 (x.2.2.2.map Rep.to),.d (.int .i64 x.2.1),.d (.int .i64 x.2.2.1),.d (.int .i64 x.1),.any,.any,.any])
    (fun x=>[.tip x.2.2.2.length]) (0,0,0,[]) (by simp) (by simp) (by simp[hok,hR]) ?_
  rintro⟨k,i,j,out⟩ ⟨h1,h2,h3,h4,h5,h6,h7⟩
  simp only at h1 h2 h3 h4 h5 h6 h7
  by_cases h8:k<p.length
  · rw[List.drop_eq_getElem_cons h8,okV,Bool.and_eq_true] at h6
    rw[List.drop_eq_getElem_cons h8,matV] at h7
    obtain⟨c,hc⟩:∃c,c=p[k]:=⟨_,rfl⟩
    rw[← hc] at h6 h7
    have hc':p[k]=c:=hc.symm
    obtain⟨o,ol,nw,nl⟩:=c
    obtain⟨hs,h6⟩:=h6
    have hs:=stepV_true hs
    simp only at hs h6 h7
    obtain⟨b1,b2,b3,b4,b5,b6,b7,b8⟩:=hs
    simp[h8]
    refine vc_lp (σ:=Int × Int × List SpanT) (fun x=>0≤x.1∧x.1≤o∧o-x.1=nw-x.2.1∧x.2.2++(runN (o-x.1).toNat x.1 x.2.1++matV (p.drop (k+1)) (o+ol) (nw+nl) m)=R)
      (fun x=>(o-x.1).toNat) (fun x=>[.d (Rep.to p),.d (.int .i64 m),.any,.gr 0 2 (x.2.2.map Rep.to),.d (.int .i64 x.1),.d (.int .i64 x.2.1),.d (.int .i64 k),.any,.any,.any])
      (fun x=>[.tip x.2.2.length]) (i,j,out) (by simp) (by simp) ⟨by omega,by omega,by omega,h7⟩ ?_
    rintro⟨i',j',out'⟩ ⟨g1,g2,g3,g4⟩
    simp only at g1 g2 g3 g4
    have hol:out'.length≤R.length:=by rw[← g4];simp
    by_cases g5:i'<o
    · simp[h8,getD_map,hc',g5]
      simp (disch:=omega) only[wrap_in]
      refine⟨by unfold room;omega,Nxt.mk (i'+1,j'+1,out'++[⟨i',j'⟩]) (by simp;omega) (by simp) (by simp) ⟨by simp;omega,by simp;omega,by simp;omega,?_⟩⟩
      rw[← g4,show (o-i').toNat=(o-(i'+1)).toNat+1 by omega,runN]
      simp
    · have g6:i'=o:=by omega
      have g7:j'=nw:=by omega
      subst g6 g7
      simp[h8,getD_map,hc',pairsOk]
      simp (disch:=omega) only[wrap_in]
      refine Nxt.mk (k+1,i'+ol,j'+nl,out') (by simp;omega) (by simp) (by simp) ⟨by omega,by simp;omega,by simp;omega,by simp;omega,by simp;omega,by simpa using h6,?_⟩
      rw[← g4]
      simp[runN]
  · have h9:k=p.length:=by omega
    subst h9
    rw[List.drop_length,okV,Bool.and_eq_true,decide_eq_true_eq,decide_eq_true_eq] at h6
    rw[List.drop_length,matV] at h7
    simp
    refine vc_lp (σ:=Int × Int × List SpanT) (fun x=>0≤x.1∧x.1≤m∧m-x.1=n-x.2.1∧x.2.2++(runN (m-x.1).toNat x.1 x.2.1)=R)
      (fun x=>(m-x.1).toNat) (fun x=>[.d (Rep.to p),.d (.int .i64 m),.any,.gr 0 2 (x.2.2.map Rep.to),.d (.int .i64 x.1),.d (.int .i64 x.2.1),.any,.any,.any,.any])
      (fun x=>[.tip x.2.2.length]) (i,j,out) (by simp) (by simp) ⟨by dsimp only;omega,by dsimp only;omega,by dsimp only;omega,h7⟩ ?_
    rintro⟨i',j',out'⟩ ⟨g1,g2,g3,g4⟩
    simp only at g1 g2 g3 g4
    have hol:out'.length≤R.length:=by rw[← g4];simp
    by_cases g5:i'<m
    · simp[g5]
      simp (disch:=omega) only[wrap_in]
      refine⟨by unfold room;omega,Nxt.mk (i'+1,j'+1,out'++[⟨i',j'⟩]) (by simp;omega) (by simp) (by simp) ⟨by simp;omega,by simp;omega,by simp;omega,?_⟩⟩
      rw[← g4,show (m-i').toNat=(m-(i'+1)).toNat+1 by omega,runN]
      simp
    · have g6:i'=m:=by omega
      subst g6
      simp[runN] at g4
      simp[g4,← hR]
def cntV (n:Int):Int:=if inV n then n else 0
def sizeV:List ChangeT→Int × Int
  | []=>(0,0)
  | c::l=>(cntV c.oldLen+(sizeV l).1,cntV c.newLen+(sizeV l).2)
theorem runN_one (i j:Int):runN 1 i j=[⟨i,j⟩]:=rfl
theorem okV_chgV:∀(p:List SpanT) (i j i0 j0 m n:Int) (fst:Bool),0≤i0→i0≤i→i-i0=j-j0→0≤j0→(fst=false→i0<i)→i≤m→j≤n→m≤4096→n≤4096→ascB p i j m n=true →
    okV (chgV (p++[⟨m,n⟩]) i j) i0 j0 fst m n=true∧matV (chgV (p++[⟨m,n⟩]) i j) i0 j0 m=runN (i-i0).toNat i0 j0++p:=by
  intro p
  induction p with
  | nil =>
    intro i j i0 j0 m n fst h1 h2 h3 h4 h5 h6 h7 h8 h9 _
    simp only[List.nil_append,chgV,gt_iff_lt]
    split
    · refine⟨?_,?_⟩
      · have:stepV ⟨i,m-i,j,n-j⟩ i0 j0 fst=true:=by
          cases fst
          · have:=h5 rfl
            simp[stepV,inV]
            omega
          · simp[stepV,inV]
            omega
        simp only[okV,this,Bool.true_and,Bool.and_eq_true,decide_eq_true_eq]
        omega
      · simp only[matV]
        rw[show (m-(i+(m-i))).toNat=0 by omega]
        simp[runN]
    · refine⟨?_,?_⟩
      · simp only[okV,Bool.and_eq_true,decide_eq_true_eq]
        omega
      · simp only[matV]
        rw[show (m-i0).toNat=(i-i0).toNat by omega]
        simp
  | cons s p ih =>
    intro i j i0 j0 m n fst h1 h2 h3 h4 h5 h6 h7 h8 h9 ha
    simp only[ascB,Bool.and_eq_true,decide_eq_true_eq] at ha
    obtain⟨⟨⟨⟨k1,k2⟩,k3⟩,k4⟩,k5⟩:=ha
    obtain⟨fr,to⟩:=s
    simp only at k1 k2 k3 k4 k5
    simp only[List.cons_append,chgV,gt_iff_lt]
    split
    · obtain⟨e1,e2⟩:=ih (fr+1) (to+1) fr to m n false (by omega) (by omega) (by omega) (by omega) (fun _=>by omega) (by omega) (by omega) h8 h9 k5
      have:stepV ⟨i,fr-i,j,to-j⟩ i0 j0 fst=true:=by
        cases fst
        · have:=h5 rfl
          simp[stepV,inV]
          omega
        · simp[stepV,inV]
          omega
      have a1:i+(fr-i)=fr:=by omega
      have a2:j+(to-j)=to:=by omega
      refine⟨?_,?_⟩
      · simp only[okV,this,Bool.true_and,a1,a2]
        exact e1
      · simp only[matV,a1,a2,e2]
        rw[show (fr+1-fr).toNat=1 by omega,runN_one]
        rfl
    · obtain⟨e1,e2⟩:=ih (fr+1) (to+1) i0 j0 m n fst (by omega) (by omega) (by omega) (by omega) (fun _=>by omega) (by omega) (by omega) h8 h9 k5
      refine⟨e1,?_⟩
      rw[e2,show (fr+1-i0).toNat=(i-i0).toNat+1 by omega,runN_snoc,List.append_assoc]
      congr 1
      simp only[List.cons_append,List.nil_append,List.cons.injEq,SpanT.mk.injEq,and_true]
      omega
theorem sizeV_chgV:∀(p:List SpanT) (i j m n:Int),0≤i→0≤j→i≤m→j≤n→m≤4096→n≤4096→ascB p i j m n=true →
    (sizeV (chgV (p++[⟨m,n⟩]) i j)).1=m-i-p.length∧(sizeV (chgV (p++[⟨m,n⟩]) i j)).2=n-j-p.length:=by
  have cnt:∀x:Int,0≤x→x≤4096→cntV x=x:=fun x h1 h2=>by simp[cntV,inV];omega
  intro p
  induction p with
  | nil =>
    intro i j m n h1 h2 h3 h4 h5 h6 _
    simp only[List.nil_append,chgV,gt_iff_lt]
    split
    · simp only[sizeV,cnt (m-i) (by omega) (by omega),cnt (n-j) (by omega) (by omega),List.length_nil]
      omega
    · simp only[sizeV,List.length_nil]
      omega
  | cons s p ih =>
    intro i j m n h1 h2 h3 h4 h5 h6 ha
    simp only[ascB,Bool.and_eq_true,decide_eq_true_eq] at ha
    obtain⟨⟨⟨⟨k1,k2⟩,k3⟩,k4⟩,k5⟩:=ha
    obtain⟨fr,to⟩:=s
    simp only at k1 k2 k3 k4 k5
    have:=ih (fr+1) (to+1) m n (by omega) (by omega) (by omega) (by omega) h5 h6 k5
    simp only[List.cons_append,chgV,gt_iff_lt,List.length_cons]
    split
    · simp only[sizeV,cnt (fr-i) (by omega) (by omega),cnt (to-j) (by omega) (by omega)]
      omega
    · omega
theorem script_ok {a b:List Int} (ha:a.length≤4096) (hb:b.length≤4096):checkV (scriptV a b) a.length b.length=true∧matV (scriptV a b) 0 0 a.length=walkV a b 0 0 ∧
    (sizeV (scriptV a b)).1=a.length-(walkV a b 0 0).length∧(sizeV (scriptV a b)).2=b.length-(walkV a b 0 0).length:=by
  have hw:=walkV_asc a b 0 0
  simp only[Int.zero_add] at hw
  have h1:=okV_chgV (walkV a b 0 0) 0 0 0 0 a.length b.length true (by omega) (by omega) (by omega) (by omega) (by simp) (by omega) (by omega) (by omega) (by omega) hw
  have h2:=sizeV_chgV (walkV a b 0 0) 0 0 a.length b.length (by omega) (by omega) (by omega) (by omega) (by omega) (by omega) hw
  refine⟨?_,?_,?_,?_⟩
  · simp only[checkV,Bool.and_eq_true]
    exact⟨⟨by simp[inV];omega,by simp[inV];omega⟩,h1.1⟩
  · exact h1.2
  · rw[show sizeV (scriptV a b)=sizeV (chgV (walkV a b 0 0++[⟨a.length,b.length⟩]) 0 0) from rfl,h2.1]
    omega
  · rw[show sizeV (scriptV a b)=sizeV (chgV (walkV a b 0 0++[⟨a.length,b.length⟩]) 0 0) from rfl,h2.2]
    omega
def rowM (a b:List Int) (i:Nat):List Int:=(List.range (b.length+1)).map fun j=>(dist (a.drop i) (b.drop j):Int)
def tabM (a b:List Int):List (List Int):=(List.range (a.length+1)).map (rowM a b)
@[simp] def S_ref09_Table:List D→Prop × D:=spec2 (α:=List Int) (β:=List Int) (fun a b=>a.length≤4096∧b.length≤4096) (fun a b=>Rep.to (tabM a b))
theorem ct_ref09_Table {P:Program} {f:Nat} {G:Gam} (h:CodeOf P f 2 11 [2] x_ref09_Table) (hG:GamOk P G):Has P f S_ref09_Table:=h.has2 hG fun a b hp=>by
  obtain⟨ha,hb⟩:=hp
  have w1:=wrap_in (n:=(b.length:Int)+1) (by omega) (by omega)
  have w2:=wrap_in (n:=(a.length:Int)+1) (by omega) (by omega)
  simp[x_ref09_Table,w1,w2]
  refine⟨⟨by omega,by unfold room;omega,by omega⟩,?_⟩
  obtain⟨out,ho⟩:∃out:Nat→List A,∀i,out i=(List.range (a.length+1)).map (fun k=>if k<i then A.d .nilsl else .d (Rep.to (rowM a b k))):=⟨_,fun _=>rfl⟩
  obtain⟨row,hr⟩:∃row:Nat→Nat→List A,∀i j,row i j=(List.range (b.length+1)).map (fun k=>if k<j then A.d (.int .i64 0) else .d (.int .i64 (dist (a.drop i) (b.drop k):Int))):=⟨_,fun _ _=>rfl⟩
  have hol:∀i,(out i).length=a.length+1:=fun i=>by rw[ho];simp
  have hrl:∀i j,(row i j).length=b.length+1:=fun i j=>by rw[hr];simp
  obtain⟨Tf,hT⟩:∃Tf:Nat→List A,∀i,Tf i=[.d (Rep.to a),.d (Rep.to b),.any,.own 0 0 0 (a.length+1),.d (.int .i64 ((i:Int)-1)),.any,.any,.any,.any,.any,.any]:=⟨_,fun _=>rfl⟩
  obtain⟨sf,hsf⟩:∃sf:Nat→Store,∀i,sf i=[.cells 0 1 (out i)]:=⟨_,fun _=>rfl⟩
  have hoi:∀i,i≤a.length→∀x,((out (i+1)).set i x).getD i .any=x:=by
    intro i hi x
    have:i<((out (i+1)).set i x).length:=by rw[List.length_set,hol];omega
    rw[List.getD,List.getElem?_eq_getElem this]
    simp
  have hos:∀i,i≤a.length→(out (i+1)).set i (.d (Rep.to (rowM a b i)))=out i:=by
    intro i hi
    rw[ho,ho]
    apply List.ext_getElem
    · simp
    · intro k h1 h2
      rw[List.getElem_set]
      simp
      by_cases h3:i=k
      · subst h3;simp
      · by_cases h4:k<i
        · simp[h3,h4,show k<i+1 by omega]
        · simp[h3,h4,show ¬k<i+1 by omega]
  have hon:∀i k,i<k→k≤a.length→(out i).getD k .any=.d (Rep.to (rowM a b k)):=by
    intro i k h1 h2
    rw[ho]
    have:k<a.length+1:=by omega
    simp[List.getD,this,show ¬k<i by omega]
  have hrow:∀k,(rowM a b k).length=b.length+1:=fun k=>by simp[rowM]
  have hrg:∀k j,j≤b.length→((rowM a b k).map Rep.to)[j]?.getD default=D.int .i64 (dist (a.drop k) (b.drop j):Int):=by
    intro k j hj
    have:j<b.length+1:=by omega
    simp[rowM,this]
  have hrr:∀i j k,j≤k→k≤b.length→(row i j)[k]?.getD .any=.d (.int .i64 (dist (a.drop i) (b.drop k):Int)):=by
    intro i j k h1 h2
    have:k<b.length+1:=by omega
    rw[hr]
    simp[this,show ¬k<j by omega]
  have hrs:∀i j,j≤b.length→(row i (j+1)).set j (.d (.int .i64 (dist (a.drop i) (b.drop j):Int)))=row i j:=by
    intro i j hj
    rw[hr,hr]
    apply List.ext_getElem
    · simp
    · intro k h1 h2
      rw[List.getElem_set]
      simp
      by_cases h3:j=k
      · subst h3;simp
      · by_cases h4:k<j
        · simp[h3,h4,show k<j+1 by omega]
        · simp[h3,h4,show ¬k<j+1 by omega]
  have hnx:∀i x,i<a.length→((out (i+1)).set i x)[i+1]?.getD .any=.d (Rep.to (rowM a b (i+1))):=by
    intro i x h1
    have:=hon (i+0) (i+1) (by omega) (by omega)
    rw[List.getElem?_set_ne (by omega),ho]
    have:i+1<a.length+1:=by omega
    simp[this]
  have hng:∀i (h:i+1<(out (i+1)).length),(out (i+1))[i+1]=.d (Rep.to (rowM a b (i+1))):=by
    intro i h
    simp[ho]
  have hrg':∀k j (h:j<(rowM a b k).length),(rowM a b k)[j]=(dist (a.drop k) (b.drop j):Int):=by
    intro k j h
    simp[rowM]
  have hrr':∀i j (h:j<(row i j).length),(row i j)[j]=.d (.int .i64 (dist (a.drop i) (b.drop j):Int)):=by
    intro i j h
    simp[hr]
  have hcm:∀k,k≤a.length→∀j,j≤b.length→dist (a.drop k) (b.drop j)≤10000:=by
    intro k hk j hj
    have:=(dist_bounds (a.drop k) (b.drop j)).2.2.1
    simp at this
    omega
  refine vc_ghostR (σ:=Nat) (fun i=>i≤a.length+1) (fun i=>i) Tf sf (a.length+1) ⟨?_,by omega⟩ ?_
  · rw[hT,hsf]
    refine Re.wf _ [true,true,false,true,true] 1 (by omega) (by simp) (WkS.refl _ _ _) ?_ ?_ ?_
    · simp[inScope]
    · simp
    · simp
      rw[ho]
      apply List.ext_getElem
      · simp
      · intro k h1 h2
        simp at h1
        simp[h1]
  · intro i hi
    rw[hT,hsf]
    rcases i with _ | i
    · simp
      have hoe:out 0=(tabM a b).map (fun x=>A.d (Rep.to x)):=by rw[ho,tabM];simp
      have hol0:=hol 0
      refine⟨?_,?_⟩
      · simp only[bor,List.getD_cons_zero,hoe,List.drop_zero]
        refine⟨trivial,?_⟩
        rw[List.all_eq_true]
        intro x hx
        obtain⟨y,_,rfl⟩:=List.mem_map.1 (List.mem_of_mem_take hx)
        rfl
      · simp only[bor,List.getD_cons_zero,hoe,List.drop_zero]
        rw[List.take_of_length_le (by simp[tabM]),List.map_map]
        simp only[LeD_sl,true_and]
        rfl
    · have w3:((i+1:Nat):Int)-1=(i:Int):=by omega
      have hla:i<a.length+1:=by omega
      simp[w3,w1,hla,hol]
      refine⟨by unfold room;omega,by omega,?_⟩
      obtain⟨T2,hT2⟩:∃Tf:Nat→List A,∀j,Tf j=[.d (Rep.to a),.d (Rep.to b),.any,.own 0 0 0 (a.length+1),.d (.int .i64 i),.d (.int .i64 ((j:Int)-1)),.any,.any,.any,.any,.any]:=⟨_,fun _=>rfl⟩
      obtain⟨s2,hs2⟩:∃sf:Nat→Store,∀j,sf j=[.cells 0 1 ((out (i+1)).set i (.own 1 0 0 (b.length+1))),.cells 0 1 (row i j)]:=⟨_,fun _=>rfl⟩
      refine vc_ghostR (σ:=Nat) (fun j=>j≤b.length+1) (fun j=>j) T2 s2 (b.length+1) ⟨?_,by omega⟩ ?_
      · rw[hT2,hs2]
        refine Re.wf _ [true,true,false,true,true,true] 2 (by omega) (by simp) (WkS.refl _ _ _) ?_ ?_ ?_
        · simp[inScope]
        · simp
        · simp
          rw[hr]
          apply List.ext_getElem
          · simp
          · intro k h1 h2
            simp at h1
            simp[h1]
      · intro j hj
        rw[hT2,hs2]
        rcases j with _ | j
        · have w6:=wrap_in (n:=(i:Int)-1) (by omega) (by omega)
          simp[w6]
          have hrw0:row i 0=(rowM a b i).map (fun x=>A.d (Rep.to x)):=by rw[hr,rowM];simp
          have hfz:(((row i 0).drop 0).take (b.length+1)).all A.isD=true:=by
            rw[hrw0,List.drop_zero,List.take_of_length_le (by simp[hrow]),List.all_eq_true]
            intro x hx
            obtain⟨y,_,rfl⟩:=List.mem_map.1 hx
            rfl
          have hfr:=Fz.own 1 0 1 0 (b.length+1) (row i 0) hfz
          have e0:(((row i 0).drop 0).take (b.length+1)).map A.toD=(rowM a b i).map Rep.to:=by
            rw[hrw0,List.drop_zero,List.take_of_length_le (by simp[hrow]),List.map_map]
            rfl
          rw[e0] at hfr
          refine⟨i,by omega,?_,by omega⟩
          rw[hT,hsf]
          refine Re.trans (Re.freeze (s':=[.cells 0 1 (out i),.dead]) 1 0 1 (row i 0) rfl (FzL.refl _ _ _ _ _) ⟨rfl,?_⟩ rfl) ?_
          · intro k hk h0
            have hk0:k=0:=by simp at hk;omega
            subst hk0
            refine .inr ⟨0,1,_,_,rfl,rfl,by simp[hol],?_⟩
            intro k hk
            rw[← hos i (by omega)]
            have hkl:k<(out (i+1)).length:=by simp at hk;exact hk
            by_cases h1:i=k
            · subst h1
              simp[List.getD,hkl]
              exact hfr
            · simp[List.getD,hkl,List.getElem_set_ne h1]
              simp[ho]
              by_cases h2:k<i+1
              · simp[h2,A.cells]
              · simp[h2,A.cells]
          · refine Re.wf _ [true,true,false,true,true] 1 (by omega) (by simp) (WkS.refl _ _ _) ?_ ?_ ?_
            · simp[inScope]
              intro x hx
              rw[ho] at hx
              obtain⟨y,_,rfl⟩:=List.mem_map.1 hx
              by_cases h1:y<i <;> simp[h1]
            · simp
            · simp
        · have w4:((j+1:Nat):Int)-1=(j:Int):=by omega
          have hlb:j<b.length+1:=by omega
          have fin:∀v:Int,v=(dist (a.drop i) (b.drop j):Int)→∀c1 c2 c3 c4 c5:A,Re 0 [.d (Rep.to a),.d (Rep.to b),.any,.own 0 0 0 (a.length+1),.d (.int .i64 i),.d (.int .i64 ((j:Int)-1)),c1,c2,c3,c4,c5]
              [.cells 0 1 ((out (i+1)).set i (.own 1 0 0 (b.length+1))),.cells 0 1 ((row i (j+1)).set j (.d (.int .i64 v)))] (T2 j) (s2 j):=by
            intro v hv c1 c2 c3 c4 c5
            rw[hv,hrs i j (by omega),hT2,hs2]
            refine Re.wf _ [true,true,false,true,true,true] 2 (by omega) (by simp) (WkS.refl _ _ _) ?_ ?_ ?_
            · simp[inScope]
            · simp
            · simp
          have w5:=wrap_in (n:=(j:Int)-1) (by omega) (by omega)
          by_cases h1:i=a.length
          · subst h1
            simp[w4,hol,hrl,hla,hlb,w5]
            refine⟨by omega,by omega,j,by omega,fin _ ?_ _ _ _ _ _,by omega⟩
            rw[List.drop_length,dist_nil,List.length_drop,wrap_in (n:=(b.length:Int)-j) (by omega) (by omega)]
            omega
          · have h1':¬(i:Int)=a.length:=by omega
            by_cases h2:j=b.length
            · subst h2
              simp[w4,hol,hrl,hla,hlb,w5,h1']
              refine⟨by omega,by omega,b.length,by omega,fin _ ?_ _ _ _ _ _,by omega⟩
              rw[List.drop_length,dist_nil',List.length_drop,wrap_in (n:=(a.length:Int)-i) (by omega) (by omega)]
              omega
            · have h2':¬(j:Int)=b.length:=by omega
              have h3:i<a.length:=by omega
              have h4:j<b.length:=by omega
              have e1:=hnx i (.own 1 0 0 (b.length+1)) h3
              have e2:=hrg (i+1) (j+1) (by omega)
              have e3:=hrg (i+1) j (by omega)
              have e4:=hrr i (j+1) (j+1) (by omega) (by omega)
              by_cases h5:a[i]=b[j]
              · simp[w4,hol,hrl,hla,hlb,w5,h1',h2',h3,h4,getD_map,h5,pairsOk,disj,add1 h3 (by omega),add1 h4 (by omega),hng,hrg',hrow]
                refine⟨by omega,by omega,by omega,by omega,j,by omega,fin _ ?_ _ _ _ _ _,by omega⟩
                rw[List.drop_eq_getElem_cons h3,List.drop_eq_getElem_cons h4,h5,dist_eq]
              · have b1:=hcm (i+1) (by omega) j (by omega)
                have b2:=hcm i (by omega) (j+1) (by omega)
                simp[w4,hol,hrl,hla,hlb,w5,h1',h2',h3,h4,getD_map,h5,pairsOk,disj,add1 h3 (by omega),add1 h4 (by omega),hng,hrg',hrr',hrow]
                refine⟨by omega,by omega,by omega,by omega,by omega,by omega,j,by omega,fin _ ?_ _ _ _ _ _,by omega⟩
                rw[wrap_in (by omega) (by omega),List.drop_eq_getElem_cons h3,List.drop_eq_getElem_cons h4,dist_ne h5,← List.drop_eq_getElem_cons h3,← List.drop_eq_getElem_cons h4]
                omega
theorem tabM_len (a b:List Int):(tabM a b).length=a.length+1:=by simp[tabM]
theorem tabM_get (a b:List Int) (i:Nat) (h:i<(tabM a b).length):(tabM a b)[i]=rowM a b i:=by simp[tabM]
theorem rowM_len (a b:List Int) (i:Nat):(rowM a b i).length=b.length+1:=by simp[rowM]
theorem rowM_get (a b:List Int) (i j:Nat) (h:j<(rowM a b i).length):(rowM a b i)[j]=(dist (a.drop i) (b.drop j):Int):=by simp[rowM]
@[simp] def S_ref09_Walk:List D→Prop × D:=spec2 (α:=List Int) (β:=List Int) (fun a b=>a.length≤4096∧b.length≤4096) (fun a b=>Rep.to (scriptV a b))
theorem ct_ref09_Walk {P:Program} {f g1 g2:Nat} {G:Gam} (h:CodeOf P f 2 10 [2] (x_ref09_Walk g1 g2)) (hG:GamOk P G) (hg1:G.find g1=some S_ref09_Table) (hg2:G.find g2=some S_ref08_Made):Has P f S_ref09_Walk:=h.has2 hG fun a b hp=>by
  obtain⟨ha,hb⟩:=hp
  simp[x_ref09_Walk,hg1,hg2]
  refine⟨⟨ha,hb⟩,?_⟩
  have hasc:=walkV_asc a b 0 0
  simp only[Int.zero_add] at hasc
  obtain⟨W,hW⟩:∃W,W=walkV a b 0 0:=⟨_,rfl⟩
  have hWl:W.length≤4096:=by rw[hW];have:=walkV_len a b 0 0;omega
  have hWm:∀s,s∈W→numOk s.fr∧numOk s.to:=by
    intro s hs
    have:=ascB_mem hasc s (by rw[← hW];exact hs)
    unfold numOk
    omega
  have hWs:scriptV a b=madeV W a.length b.length:=by rw[hW];rfl
  obtain⟨Tf,hT⟩:∃Tf:Nat × Nat × List SpanT→List A,∀x,Tf x=[.d (Rep.to a),.d (Rep.to b),.any,.d (Rep.to (tabM a b)),.gr 0 2 (x.2.2.map Rep.to),.d (.int .i64 x.1),.d (.int .i64 x.2.1),.any,.any,.any]:=⟨_,fun _=>rfl⟩
  obtain⟨sf,hsf⟩:∃sf:Nat × Nat × List SpanT→Store,∀x,sf x=[.tip x.2.2.length]:=⟨_,fun _=>rfl⟩
  refine vc_ghost (σ:=Nat × Nat × List SpanT) [true,true,false,true,true,true,true] 1 (fun x=>x.1≤a.length∧x.2.1≤b.length∧x.2.2++walkV (a.drop x.1) (b.drop x.2.1) x.1 x.2.1=W)
    (fun x=>a.length-x.1+(b.length-x.2.1)) Tf sf (0,0,[]) (by omega) (by simp[inScope]) ?_ ?_
  · simp[hT,hsf,hW]
  rintro⟨i,j,out⟩ ⟨h1,h2,h3⟩
  simp only at h1 h2 h3
  rw[hT,hsf]
  have hol:out.length≤W.length:=by rw[← h3];simp
  have r1:room (out.length+1) 16:=by unfold room;omega
  have h7:i<a.length+1:=by omega
  have h8:j<b.length+1:=by omega
  have hcm:∀k l,dist (a.drop k) (b.drop l)≤10000:=by
    intro k l
    have:=(dist_bounds (a.drop k) (b.drop l)).2.2.1
    simp at this
    omega
  have b1:=hcm (i+1) j
  have w7:=wrap_in (n:=(dist (a.drop (i+1)) (b.drop j):Int)+1) (by omega) (by omega)
  by_cases h4:i<a.length
  · have h4':(i:Int)<a.length:=by omega
    by_cases h5:j<b.length
    · have h5':(j:Int)<b.length:=by omega
      by_cases h6:a[i]=b[j]
      · simp[h4,h5,h4',h5',h6,getD_map,inScope,pairsOk,disj,add1 h4 (by omega),add1 h5 (by omega)]
        rw[List.drop_eq_getElem_cons h4,List.drop_eq_getElem_cons h5,h6,walkV_eq] at h3
        refine⟨r1,i+1,j+1,by omega,out++[⟨i,j⟩],by rw[hT];simp,by rw[hsf];simp,by omega,by omega,?_⟩
        rw[← h3]
        simp
      · simp[h4,h5,h4',h5',h6,getD_map,inScope,pairsOk,disj,add1 h4 (by omega),add1 h5 (by omega),tabM_len,tabM_get,rowM_len,rowM_get,h7,h8,w7]
        have e3:walkV (a.drop i) (b.drop j) i j=if dist (a.drop (i+1)) (b.drop j)+1=dist (a.drop i) (b.drop j) then walkV (a.drop (i+1)) (b.drop j) (i+1) j else walkV (a.drop i) (b.drop (j+1)) i (j+1):=by
          rw[List.drop_eq_getElem_cons h4,List.drop_eq_getElem_cons h5,walkV_ne h6]
        rw[e3] at h3
        refine⟨by omega,by omega,by omega,by omega,fun h9=>⟨i+1,j,by omega,out,by rw[hT];simp,by rw[hsf],by omega,by omega,?_⟩,fun h9=>⟨i,j+1,by omega,out,by rw[hT];simp,by rw[hsf],by omega,by omega,?_⟩⟩
        · rw[if_pos (by omega)] at h3
          exact h3
        · rw[if_neg (by omega)] at h3
          exact h3
    · have h5':¬(j:Int)<b.length:=by omega
      simp[h4,h5,h4',h5',getD_map,inScope,pairsOk,disj,add1 h4 (by omega),tabM_len,tabM_get,rowM_len,rowM_get,h7,h8,w7]
      have e1:j=b.length:=by omega
      have e2:dist (a.drop i) (b.drop j)=dist (a.drop (i+1)) (b.drop j)+1:=by
        subst e1
        rw[List.drop_length,dist_nil',dist_nil',List.length_drop,List.length_drop]
        omega
      have e3:walkV (a.drop i) (b.drop j) i j=walkV (a.drop (i+1)) (b.drop j) ((i+1:Nat):Int) j:=by
        subst e1
        rw[List.drop_length,walkV_nil',walkV_nil']
      refine⟨by omega,by omega,by omega,by omega,fun h9=>⟨i+1,j,by omega,out,by rw[hT];simp,by rw[hsf],by omega,by omega,by rw[← h3,e3]⟩,fun h9=>?_⟩
      exact absurd (by rw[e2];push_cast;rfl) h9
  · have h4':¬(i:Int)<a.length:=by omega
    by_cases h5:j<b.length
    · have h5':(j:Int)<b.length:=by omega
      simp[h4,h5,h4',h5',getD_map,inScope,pairsOk,disj,add1 h5 (by omega),tabM_len,tabM_get,rowM_len,rowM_get,h7,h8,w7]
      have e1:i=a.length:=by omega
      subst e1
      rw[List.drop_length,walkV_nil] at h3
      exact⟨a.length,j+1,by omega,out,by rw[hT];simp,by rw[hsf],by omega,by omega,by rw[List.drop_length,walkV_nil];exact h3⟩
    · have h5':¬(j:Int)<b.length:=by omega
      simp[h4,h5,h4',h5',hg2]
      have e1:i=a.length:=by omega
      subst e1
      rw[List.drop_length,walkV_nil,List.append_nil] at h3
      subst h3
      refine⟨⟨by omega,by unfold numOk;omega,by unfold numOk;omega,hWm⟩,?_⟩
      rw[hWs]
theorem okV_le:∀(l:List ChangeT) (i j m n:Int) (fst:Bool),okV l i j fst m n=true→i≤m∧j≤n
  | [],i,j,m,n,fst,h=>by
    simp only[okV,Bool.and_eq_true,decide_eq_true_eq] at h
    omega
  | c::l,i,j,m,n,fst,h=>by
    simp only[okV,Bool.and_eq_true] at h
    have h1:=okV_le l _ _ _ _ _ h.2
    have h2:=stepV_true h.1
    omega
end Go.AE
namespace Go.AE
end Go.AE
namespace Go.AE
def placeV (l:List Str) (x:Str):Int:=match l.findIdx? (· == x) with | some i=>(i:Int) | none=>-1
theorem placeV_some {l:List Str} {x:Str} {i:Nat} (h:i<l.length) (h1:l[i]=x) (h2:∀k (h:k<l.length),k<i→l[k]≠x):placeV l x=i:=by
  have:l.findIdx? (· == x)=some i:=by
    rw[List.findIdx?_eq_some_iff_getElem]
    exact⟨h,by simpa using h1,fun j hj=>by simpa using h2 j (by omega) hj⟩
  simp[placeV,this]
theorem placeV_none {l:List Str} {x:Str} (h2:∀k (h:k<l.length),l[k]≠x):placeV l x=-1:=by
  have:l.findIdx? (· == x)=none:=by
    rw[List.findIdx?_eq_none_iff]
    intro y hy
    obtain⟨k,hk,rfl⟩:=List.getElem_of_mem hy
    simpa using h2 k hk
  simp[placeV,this]
@[simp] def S_ref03_place:List D→Prop × D:=spec2 (α:=List Str) (β:=Str) (fun a _=>a.length≤9223372036854775807) (fun a b=>Rep.to (placeV a b))
theorem ct_ref03_place {P:Program} {f:Nat} {G:Gam} (h:CodeOf P f 2 6 [2] x_ref03_place) (hG:GamOk P G):Has P f S_ref03_place:=h.has2 hG fun l x h=>by
  simp[x_ref03_place]
  refine vc_ghost (σ:=Nat) [true,true,false,true] 0 (fun i=>i≤l.length∧∀k (h:k<l.length),k<i→l[k]≠x) (fun i=>l.length-i) (fun i=>[.d (Rep.to l),.d (Rep.to x),.any,.d (.int .i64 i),.any,.any]) (fun i=>[]) 0 (Nat.le_refl _) (by simp) (by simp) ?_
  rintro i ⟨hm,hi⟩
  simp
  refine⟨fun h2=>?_,fun h2=>?_⟩
  · simp[getD_map,h2,add1 h2 h]
    refine⟨fun h3=>(placeV_some h2 h3 hi).symm,fun h3=>⟨i+1,by omega,by simp,by omega,fun k k1 k2=>?_⟩⟩
    rcases Nat.lt_or_ge k i with k4 | k4
    · exact hi k k1 k4
    · have:k=i:=by omega
      subst this
      exact h3
  · exact (placeV_none fun k k1=>hi k k1 (by omega)).symm
def addV (out:List Str) (x:Str):List Str:=if x∈out then out else out++[x]
def namesV (l:List (List Str)):List Str:=l.flatten.foldl addV []
theorem addV_len (out:List Str) (x:Str):(addV out x).length≤out.length+1:=by
  unfold addV;split <;> simp
theorem fold_len (xs:List Str):∀out:List Str,(xs.foldl addV out).length≤out.length+xs.length:=by
  induction xs with
  | nil=>intro out;simp
  | cons x xs ih=>intro out;have:=ih (addV out x);have:=addV_len out x;simp;omega
theorem take_flat_le {α:Type} (l:List (List α)) (i:Nat):(l.take i).flatten.length≤l.flatten.length:=by
  have:l.flatten=(l.take i).flatten++(l.drop i).flatten:=by rw[← List.flatten_append,List.take_append_drop]
  rw[this];simp
theorem mem_flat_le {α:Type} {l:List (List α)} {i:Nat} (h:i<l.length):(l.take i).flatten.length+l[i].length≤l.flatten.length:=by
  have h1:=take_flat_le l (i+1)
  rw[take_snoc h] at h1
  simpa only[List.flatten_append,List.length_append,List.flatten_cons,List.flatten_nil,List.append_nil] using h1
def part (l:List (List Str)) (i j:Nat):List Str:=((l.take i).flatten++(l.getD i []).take j).foldl addV []
theorem part_step {l:List (List Str)} {i j:Nat} (h:i<l.length) (hj:j<l[i].length):part l i (j+1)=addV (part l i j) l[i][j]:=by
  unfold part
  have:l.getD i []=l[i]:=by simp[List.getD,h]
  rw[this,take_snoc hj,← List.append_assoc,List.foldl_append]
  rfl
theorem part_next {l:List (List Str)} {i:Nat} (h:i<l.length):part l i l[i].length=part l (i+1) 0:=by
  unfold part
  have:l.getD i []=l[i]:=by simp[List.getD,h]
  rw[this,take_snoc h]
  simp only[List.flatten_append,List.flatten_cons,List.flatten_nil,List.append_nil,List.take_zero,List.take_length]
theorem part_end (l:List (List Str)):part l l.length 0=namesV l:=by simp[part,namesV]
theorem part_len {l:List (List Str)} {i j:Nat} (h:i<l.length) (hj:j≤l[i].length):(part l i j).length≤l.flatten.length:=by
  have h1:=fold_len ((l.take i).flatten++(l.getD i []).take j) []
  have:l.getD i []=l[i]:=by simp[List.getD,h]
  have h2:=mem_flat_le h
  rw[this] at h1
  simp only[List.length_append,List.length_take,List.length_nil] at h1
  unfold part
  rw[this]
  omega
theorem addV_in {out:List Str} {x:Str} (h:placeV out x ≥ 0):addV out x=out:=by
  unfold addV
  by_cases hx:x∈out
  · simp[hx]
  · exfalso
    rw[placeV_none (fun k hk (he:out[k]=x)=>hx (by rw[← he];exact List.getElem_mem _))] at h
    omega
theorem addV_out {out:List Str} {x:Str} (h:placeV out x<0):addV out x=out++[x]:=by
  unfold addV
  have:x ∉ out:=by
    intro hx
    unfold placeV at h
    cases hf:out.findIdx? (· == x) with
    | some i=>rw[hf] at h;simp only at h;omega
    | none =>
      rw[List.findIdx?_eq_none_iff] at hf
      simpa using hf x hx
  simp[this]
def smallL (l:List (List Str)):Prop:=l.length≤1048576∧l.flatten.length≤1048576
@[simp] def S_ref03_Names:List D→Prop × D:=spec1 (α:=List (List Str)) smallL (fun a=>Rep.to (namesV a))
theorem ct_ref03_Names {P:Program} {f g:Nat} {G:Gam} (h:CodeOf P f 1 8 [1] (x_ref03_Names g)) (hG:GamOk P G) (hg:G.find g=some S_ref03_place):Has P f S_ref03_Names:=h.has1 hG fun l hp=>by
  obtain⟨h,h0⟩:=hp
  simp[x_ref03_Names]
  refine vc_loop _ _ _ _ _ [true,false,true,true] 1 (fun m T s=>∃i:Nat,i+m=l.length∧s=[.tip (part l i 0).length]∧T=[.d (Rep.to l),.any,.gr 0 1 ((part l i 0).map Rep.to),.d (.int .i64 i),.any,.any,.any,.any]) _ (by omega) (by simp[inScope]) ⟨l.length,0,by simp[part]⟩ ?_
  rintro m T s ⟨i,hm,rfl,rfl⟩
  simp
  refine⟨fun h1=>?_,fun h1=>?_⟩
  · refine vc_loop _ _ _ _ _ [true,false,true,true,true] 1 (fun m T s=>∃j:Nat,j+m=l[i].length∧s=[.tip (part l i j).length]∧T=[.d (Rep.to l),.any,.gr 0 1 ((part l i j).map Rep.to),.d (.int .i64 i),.d (.int .i64 j),.any,.any,.any]) _ (by omega) (by simp[inScope]) ⟨l[i].length,0,by simp⟩ ?_
    rintro m2 T s ⟨j,hm2,rfl,rfl⟩
    have h2:=mem_flat_le h1
    simp[getD_map,h1]
    refine⟨fun h3=>?_,fun h3=>?_⟩
    · have h4:=part_len (l:=l) h1 (j:=j) (by omega)
      have e:=add1 h3 (by omega:l[i].length≤_)
      simp[getD_map,h1,h3,e,inScope,hg]
      refine⟨by omega,fun h5=>⟨by unfold room;omega,m2-1,by omega,j+1,by omega,?_⟩,fun h5=>⟨m2-1,by omega,j+1,by omega,?_⟩⟩
      · rw[part_step h1 h3,addV_out h5]
        simp
      · rw[part_step h1 h3,addV_in h5]
        simp
    · have h5:j=l[i].length:=by omega
      subst h5
      simp[getD_map,h1,add1 h1 (by omega:l.length≤_),inScope]
      refine⟨m-1,by omega,i+1,by omega,?_⟩
      rw[part_next h1]
      simp
  · have:i=l.length:=by omega
    subst this
    simp[part_end]
theorem namesV_len (l:List (List Str)):(namesV l).length≤l.flatten.length:=by
  have:=fold_len l.flatten []
  simpa [namesV] using this
def idsV (l:List (List Str)):List (List Int):=l.map fun x=>x.map (placeV (namesV l))
theorem elem_flat_le {α:Type} {l:List (List α)} {i:Nat} (h:i<l.length):l[i].length≤l.flatten.length:=by
  have:=mem_flat_le h;omega
@[simp] def S_ref03_Ids:List D→Prop × D:=spec1 (α:=List (List Str)) smallL (fun a=>Rep.to (idsV a))
theorem ct_ref03_Ids {P:Program} {f g1 g2:Nat} {G:Gam} (h:CodeOf P f 1 9 [1] (x_ref03_Ids g1 g2)) (hG:GamOk P G) (hg1:G.find g1=some S_ref03_Names) (hg2:G.find g2=some S_ref03_place):Has P f S_ref03_Ids:=h.has1 hG fun l hp=>by
  obtain⟨h,h0⟩:=hp
  have hn:=namesV_len l
  have hN:(namesV l).length≤9223372036854775807:=by omega
  simp[x_ref03_Ids,hg1]
  refine⟨⟨h,h0⟩,?_⟩
  refine vc_loop _ _ _ _ _ [true,false,true,true,true] 1 (fun m T s=>∃(i:Nat) (out:List (List Int)),i+m=l.length∧s=[.tip i]∧T=[.d (Rep.to l),.any,.d (Rep.to (namesV l)),.gr 0 1 (out.map Rep.to),.d (.int .i64 i),.any,.any,.any,.any]∧out.length=i∧Eqv out ((l.take i).map fun x=>x.map (placeV (namesV l)))) _ (by omega) (by simp[inScope]) ⟨l.length,0,[],by simp[Eqv]⟩ ?_
  rintro m T s ⟨i,out,hm,rfl,rfl,hol,ho⟩
  simp
  refine⟨fun h1=>?_,fun h1=>?_⟩
  · refine vc_loop _ _ _ _ _ [true,false,true,true,true,true,true] 2 (fun m T s=>∃(j:Nat) (o2:List Int),j+m=l[i].length∧s=[.tip i,.tip j]∧T=[.d (Rep.to l),.any,.d (Rep.to (namesV l)),.gr 0 1 (out.map Rep.to),.d (.int .i64 i),.gr 1 1 (o2.map Rep.to),.d (.int .i64 j),.any,.any]∧o2.length=j∧Eqv o2 ((l[i].take j).map (placeV (namesV l)))) _ (by omega) (by simp[inScope]) ⟨l[i].length,0,[],by simp[Eqv]⟩ ?_
    rintro m2 T s ⟨j,o2,hm2,rfl,rfl,hol2,ho2⟩
    have h2:=elem_flat_le h1
    simp[getD_map,h1]
    refine⟨fun h3=>?_,fun h3=>?_⟩
    · have e:=add1 h3 (by omega:l[i].length≤_)
      simp[getD_map,h1,h3,e,inScope,hN,hol2,hg2]
      refine⟨by unfold room;omega,m2-1,by omega,j+1,by omega,rfl,o2++[placeV (namesV l) l[i][j]],⟨by simp,by simp⟩,by simp[hol2],?_⟩
      unfold Eqv at *
      rw[← List.map_take,take_snoc h3,List.map_append,← ho2];rfl
    · have h5:j=l[i].length:=by omega
      simp[getD_map,h1,add1 h1 (by omega:l.length≤_),inScope,hol]
      refine⟨by unfold room;omega,m-1,by omega,i+1,by omega,rfl,out++[o2],⟨by simp,by simp⟩,by simp[hol],?_⟩
      unfold Eqv at *
      rw[← List.map_take,take_snoc h1,List.map_append,← ho,ho2,h5,List.take_length];rfl
  · have:i=l.length:=by omega
    unfold Eqv at ho
    rw[this,List.take_length] at ho
    rw[ho]
    rfl
def tabV:Nat→List Str→List (D × D)
  | _,[]=>[]
  | k,x::r=>(.str x,.int .i64 k)::tabV (k+1) r
theorem tabV_snoc (x:Str):∀(k:Nat) (l:List Str),tabV k (l++[x])=tabV k l++[(.str x,.int .i64 ((k+l.length:Nat):Int))]:=by
  intro k l
  induction l generalizing k with
  | nil=>simp[tabV]
  | cons y l ih =>
    simp only[List.cons_append,tabV,ih,List.length_cons]
    rw[show k+1+l.length=k+(l.length+1) by omega]
theorem placeV_cons (y:Str) (l:List Str) (x:Str):placeV (y::l) x=if y=x then 0 else if x∈l then placeV l x+1 else -1:=by
  by_cases h:y=x
  · rw[if_pos h];exact placeV_some (i:=0) (by simp) h (fun k _ hk=>by omega)
  · rw[if_neg h]
    by_cases hx:x∈l
    · rw[if_pos hx]
      unfold placeV
      rw[List.findIdx?_cons]
      have:(y == x)=false:=by simpa using h
      simp only[this]
      cases hf:l.findIdx? (· == x) with
      | none =>
        rw[List.findIdx?_eq_none_iff] at hf
        exact absurd (hf x hx) (by simp)
      | some i=>simp
    · rw[if_neg hx]
      refine placeV_none (fun k hk=>?_)
      cases k with
      | zero=>simpa using h
      | succ k =>
        simp only[List.length_cons,List.getElem_cons_succ] at hk ⊢
        intro he
        exact hx (by rw[← he];exact List.getElem_mem _)
theorem mlook_tab (x:Str):∀(k:Nat) (l:List Str),mlook (.str x) (tabV k l)=if x∈l then some (.int .i64 (k+placeV l x)) else none:=by
  intro k l
  induction l generalizing k with
  | nil=>rfl
  | cons y l ih =>
    simp only[tabV,mlook,keyEq,decide_eq_true_eq,ih,placeV_cons,List.mem_cons]
    by_cases h:x=y
    · subst h;simp
    · have h2:¬y=x:=fun e=>h e.symm
      simp only[h,h2,if_false,false_or]
      by_cases hx:x∈l
      · simp only[hx,if_true,Option.some.injEq,D.int.injEq,true_and]
        omega
      · simp[hx]
theorem mset_tab {x:Str} (v:D):∀(k:Nat) (l:List Str),x ∉ l→mset (.str x) v (tabV k l)=tabV k l++[(.str x,v)]:=by
  intro k l
  induction l generalizing k with
  | nil=>intro _;rfl
  | cons y l ih =>
    intro h
    simp only[List.mem_cons,not_or] at h
    simp[tabV,mset,keyEq,h.1,ih (k+1) h.2]
theorem keys_tab (x:Str) (k:Nat) (l:List Str):keysOk 1 (.str x) (tabV k l):=by
  refine⟨rfl,?_⟩
  induction l generalizing k with
  | nil=>intro e he;simp[tabV] at he
  | cons y l ih =>
    intro e he
    simp only[tabV,List.mem_cons] at he
    rcases he with rfl | he
    · exact⟨rfl,trivial⟩
    · exact ih (k+1) e he
def tabS (v:Nat) (nil:Bool) (names:List Str):Store :=
  if nil=true then [.cells v 2 [.agg [.mp 1,.d .nilsl]],.map [],.res] else [.cells v 2 [.agg [.mp 1,.gr 2 1 (names.map Rep.to)]],.map (tabV 0 names),.tip names.length]
theorem id_old {P:Program} {f:Nat} (hc:CodeOf P f 2 6 [2] x_intern_table_id) {v:Nat} {names:List Str} {x:Str} (h:x∈names):RCalls P f [.ref 0 v 0 0,.d (.str x)] (tabS v false names) (.d (.int .i64 (placeV names x))) (tabS v false names):=by
  refine hc.rcalls (GamOk.nil _) rfl ?_
  simp[x_intern_table_id,tabS,startA,mlook_tab,h,keys_tab]
  exact⟨by simp[resPre],[0,1,2],rfl,⟨by decide,by simp,rfl⟩,fun k hk=>.inl (by match k,hk with | 0,_=>rfl | 1,_=>rfl | 2,_=>rfl),rfl,rfl,rfl⟩
theorem id_new {P:Program} {f:Nat} (hc:CodeOf P f 2 6 [2] x_intern_table_id) {v:Nat} {names:List Str} {x:Str} (h:x ∉ names) (hn:names.length≤1048576):RCalls P f [.ref 0 v 0 0,.d (.str x)] (tabS v false names) (.d (.int .i64 names.length)) (tabS v false (names++[x])):=by
  refine hc.rcalls (GamOk.nil _) rfl ?_
  simp[x_intern_table_id,tabS,startA,mlook_tab,h,keys_tab,mset_tab]
  refine⟨by unfold room;omega,by simp[resPre],[0,1,2],rfl,⟨by decide,by simp,rfl⟩,fun k hk=>.inl (by match k,hk with | 0,_=>rfl | 1,_=>rfl | 2,_=>rfl),?_,rfl,rfl⟩
  rw[tabV_snoc]
  simp
theorem id_nil {P:Program} {f:Nat} (hc:CodeOf P f 2 6 [2] x_intern_table_id) {v:Nat} {x:Str}:RCalls P f [.ref 0 v 0 0,.d (.str x)] (tabS v true []) (.d (.int .i64 0)) (tabS v false [x]):=by
  refine hc.rcalls (GamOk.nil _) rfl ?_
  simp[x_intern_table_id,tabS,startA,mlook,mset]
  exact⟨⟨rfl,fun e he=>by simp at he⟩,by unfold room;omega,by simp[resPre],[0,1,3],rfl,⟨by decide,by simp,rfl⟩,fun k hk=>(by match k,hk with | 0,_=>exact .inl rfl | 1,_=>exact .inl rfl | 2,_=>exact .inr rfl),rfl,rfl,rfl⟩
def idRen (args:List A) (s:Store) (nw:Nat):List Nat :=
  match args with
  | [.ref t _ 0 0,.d (.str _)]=>match s.getD t .dead with
    | .cells _ 2 [.agg [.mp m,.gr l 1 _]]=>[t,m,l]
    | .cells _ 2 [.agg [.mp m,.d .nilsl]]=>[t,m,nw]
    | _=>[t]
  | _=>[]
def idSpec (args:List A) (s0:Store):Prop × Store × A :=
  match args,s0 with
  | [.ref 0 v 0 0,.d (.str x)],[.cells v' 2 [.agg [.mp 1,.d .nilsl]],.map [],.res]=>(v=v',tabS v false [x],.d (.int .i64 0))
  | [.ref 0 v 0 0,.d (.str x)],[.cells v' 2 [.agg [.mp 1,.gr 2 1 ns]],.map es,.tip n]=>match ofAll (Rep.of (α:=Str)) ns with
    | some names=>(v=v'∧ns=names.map Rep.to∧es=tabV 0 names∧n=names.length∧names.length≤1048576,tabS v false (addV names x),.d (.int .i64 (placeV (addV names x) x)))
    | none=>(False,[],.any)
  | _,_=>(False,[],.any)
theorem placeV_snoc {names:List Str} {x:Str} (h:x ∉ names):placeV (names++[x]) x=names.length:=by
  refine placeV_some (i:=names.length) (by simp) (by simp) (fun k hk hlt he=>h ?_)
  rw[List.getElem_append_left hlt] at he
  rw[← he]
  exact List.getElem_mem _
abbrev R_intern_table_id:RSpec:=⟨idRen,idSpec⟩
theorem ct_intern_table_id {P:Program} {f:Nat} (hc:CodeOf P f 2 6 [2] x_intern_table_id):RSpec.Ok P f R_intern_table_id:=by
  refine⟨hc.call,?_,?_⟩
  · intro args s s2 nw h
    simp only[idRen] at h ⊢
    split at h
    · rename_i t u x
      have ht:s2.getD t .dead=s.getD t .dead:=by
        apply h
        split <;> simp
      simp only[ht]
    · rfl
  · intro args s0 hp
    simp only[idSpec] at hp ⊢
    split at hp
    · rename_i v x v'
      simp only at hp
      subst hp
      exact id_nil hc
    · rename_i v x v' ns es n
      split at hp
      · rename_i names hn
        obtain⟨rfl,rfl,rfl,rfl,h5⟩:=hp
        simp only[ofAll_to]
        by_cases hx:x∈names
        · have e:addV names x=names:=by simp[addV,hx]
          rw[e]
          exact id_old hc hx
        · have e:addV names x=names++[x]:=by simp[addV,hx]
          rw[e,placeV_snoc hx]
          exact id_new hc hx h5
      · exact hp.elim
    · exact hp.elim
theorem eR_id {G:Gam} {f:Nat} (hf:G.findR f=some R_intern_table_id) {s:Store} {nw t m l v:Nat} {names:List Str} {x:Str} (h1:s.getD t .dead=.cells v 2 [.agg [.mp m,.gr l 1 (names.map Rep.to)]]) (h2:s.getD m .dead=.map (tabV 0 names))
    (h3:s.getD l .dead=.tip names.length) (h4:t≠m∧t≠l∧m≠l) (h5:t<s.length∧m<s.length∧l<s.length) (h6:names.length≤1048576) :
    eRCall G s nw f [.ref t v 0 0,.d (.str x)]=⟨True,[(t,.cells v 2 [.agg [.mp m,.gr l 1 ((addV names x).map Rep.to)]]),(m,.map (tabV 0 (addV names x))),(l,.tip (addV names x).length)],.d (.int .i64 (placeV (addV names x) x))⟩:=by
  obtain⟨n1,n2,n3⟩:=h4
  obtain⟨l1,l2,l3⟩:=h5
  have i0:idxIn [t,m,l] t=0:=by simp[idxIn,List.idxOf?,List.findIdx?_cons]
  have i1:idxIn [t,m,l] m=1:=by simp[idxIn,List.idxOf?,List.findIdx?_cons,n1]
  have i2:idxIn [t,m,l] l=2:=by simp[idxIn,List.idxOf?,List.findIdx?_cons,n2,n3]
  unfold eRCall
  rw[hf]
  have hr:idRen [.ref t v 0 0,.d (.str x)] s nw=[t,m,l]:=by simp only[idRen,h1]
  simp only[hr,List.map_cons,List.map_nil,h1,h2,h3]
  simp[A.ren,A.rens,Ob.ren,i0,i1,i2,h1,h2,h3,idSpec,ofAll_to,h6,n1,n2,n3,l1,l2,l3,tabS]
theorem fold_pre (xs:List Str):∀out:List Str,∃r,xs.foldl addV out=out++r:=by
  induction xs with
  | nil=>intro out;exact⟨[],by simp⟩
  | cons x xs ih =>
    intro out
    obtain⟨r,h⟩:=ih (addV out x)
    unfold addV at h ⊢
    split at h
    · rename_i hx;exact⟨r,by simp[hx,h]⟩
    · rename_i hx;exact⟨x::r,by simp[hx,h]⟩
theorem placeV_app {a b:List Str} {x:Str} (h:x∈a):placeV (a++b) x=placeV a x:=by
  unfold placeV
  rw[List.findIdx?_append]
  have:(a.findIdx? (· == x)).isSome=true:=by
    rw[List.findIdx?_isSome];simpa using h
  cases hf:a.findIdx? (· == x) with
  | none=>rw[hf] at this;simp at this
  | some i=>simp
theorem mem_addV (out:List Str) (x:Str):x∈addV out x:=by unfold addV;split <;> simp_all
theorem place_part {l:List (List Str)} {i j:Nat} (h:i<l.length) (hj:j<l[i].length):placeV (addV (part l i j) l[i][j]) l[i][j]=placeV (namesV l) l[i][j]:=by
  have h1:l.flatten=((l.take i).flatten++l[i].take (j+1))++(l[i].drop (j+1)++(l.drop (i+1)).flatten):=by
    conv=>lhs;rw[← List.take_append_drop i l,List.drop_eq_getElem_cons h]
    simp only[List.flatten_append,List.flatten_cons,List.append_assoc]
    conv=>lhs;rw[← List.take_append_drop (j+1) l[i]]
    simp only[List.append_assoc]
  have h2:namesV l=(l[i].drop (j+1)++(l.drop (i+1)).flatten).foldl addV (part l i (j+1)):=by
    unfold namesV part
    rw[h1,List.foldl_append]
    have:l.getD i []=l[i]:=by simp[List.getD,h]
    rw[this]
  obtain⟨r,h3⟩:=fold_pre (l[i].drop (j+1)++(l.drop (i+1)).flatten) (part l i (j+1))
  rw[h2,h3,part_step h hj,placeV_app (mem_addV _ _)]
@[simp] def S_intern_number:List D→Prop × D:=spec1 (α:=List (List Str)) smallL (fun l=>.tup [Rep.to (idsV l),Rep.to (namesV l)])
theorem ct_intern_number {P:Program} {f g:Nat} {G:Gam} (h:CodeOf P f 1 16 [1,2] (x_intern_number g)) (hG:GamOk P G) (hg:G.findR g=some R_intern_table_id):Has P f S_intern_number:=h.has1 hG fun l hp=>by
  obtain⟨h,h0⟩:=hp
  simp[x_intern_number]
  refine⟨by unfold room;omega,?_⟩
  obtain⟨Tf,hT⟩:∃Tf:Nat→List A,∀i,Tf i=[.any,.any,.any,.ref 0 0 0 0,.own 2 0 0 l.length,.any,.any,.any,.d (Rep.to l),.d (.int .i64 l.length),.d (.int .i64 i),.any,.any,.any,.any,.any]:=⟨_,fun _=>rfl⟩
  obtain⟨out,ho⟩:∃out:Nat→List A,∀i,out i=((idsV l).take i).map (fun x=>.d (Rep.to x))++List.replicate (l.length-i) (.d .nilsl):=⟨_,fun _=>rfl⟩
  obtain⟨sf,hs⟩:∃sf:Nat→Store,∀i,sf i=[.cells 0 2 [.agg [.mp 1,.gr 3 1 ((part l i 0).map Rep.to)]],.map (tabV 0 (part l i 0)),.cells 0 1 (out i),.tip (part l i 0).length]:=⟨_,fun _=>rfl⟩
  have hil:(idsV l).length=l.length:=by simp[idsV]
  have hol:∀i,i≤l.length→(out i).length=l.length:=by intro i hi;rw[ho];simp[hil];omega
  have hof:∀i,∀x,x∈out i→x.fits 1=true:=by
    intro i x hx
    rw[ho] at hx
    rcases List.mem_append.1 hx with hx | hx
    · obtain⟨y,_,rfl⟩:=List.mem_map.1 hx
      rfl
    · rw[(List.mem_replicate.1 hx).2]
      rfl
  have hou5:∀i,∀x,x∈out i→∀n,x.under n=true:=by
    intro i x hx n
    rw[ho] at hx
    rcases List.mem_append.1 hx with hx | hx
    · obtain⟨y,_,rfl⟩:=List.mem_map.1 hx
      rfl
    · rw[(List.mem_replicate.1 hx).2]
      rfl
  have hoi:∀i,i<l.length→(out i).getD i .any=.d .nilsl:=by
    intro i hi
    rw[ho]
    have e:(((idsV l).take i).map (fun x=>A.d (Rep.to x))).length=i:=by simp[hil];omega
    rw[List.getD,List.getElem?_append_right (by omega),e]
    have:0<l.length-i:=by omega
    simp[this]
  have hos:∀i (hi:i<l.length),(out i).set i (.d (.sl 1 ((l[i].map (placeV (namesV l))).map Rep.to)))=out (i+1):=by
    intro i hi
    have e:(((idsV l).take i).map (fun x=>A.d (Rep.to x))).length=i:=by simp[hil];omega
    rw[ho,ho,List.set_append,if_neg (by omega),e,Nat.sub_self,show l.length-i=(l.length-(i+1))+1 by omega,List.replicate_succ,List.set_cons_zero,take_snoc (by omega),List.map_append]
    simp[idsV]
  refine vc_ghostR (σ:=Nat) (fun i=>i≤l.length) (fun i=>l.length-i) Tf sf 0 ⟨?_,by omega⟩ ?_
  · rw[hT,hs,ho]
    refine Re.norm (s':=[.cells 0 2 [.agg [.mp 1,.gr 3 1 []]],.map [],.cells 0 1 (List.replicate l.length (.d .nilsl))]) [false,false,false,true,true,false,false,false,true,true,true,false,false,false,false,false] [1,0,2] [.tip 0] (by simp) ⟨by decide,by simp,?_⟩ (by decide) (by simp) ?_ ?_ ?_ ?_
    · simp[pickS]
    · simp 
    · simp 
    · simp[pickS]
      exact .cellsL (by simp;exact Wk.fresh _ _ _ 0 rfl)
    · simp[part,tabV]
  · intro i hi
    rw[hT,hs]
    simp
    refine⟨fun h1=>?_,fun h1=>?_⟩
    · simp[getD_map,h1]
      obtain⟨T2,hT2⟩:∃Tf:Nat→List A,∀j,Tf j=[.any,.any,.any,.ref 0 0 0 0,.own 2 0 0 l.length,.d (.int .i64 i),.any,.any,.d (Rep.to l),.d (.int .i64 l.length),.d (.int .i64 i),.any,.d (Rep.to l[i]),.d (.int .i64 l[i].length),.d (.int .i64 j),.any]:=⟨_,fun _=>rfl⟩
      obtain⟨row,hrow⟩:∃row:Nat→List Int,∀j,row j=(l[i].take j).map (placeV (namesV l)):=⟨_,fun _=>rfl⟩
      obtain⟨s2,hs2⟩:∃sf:Nat→Store,∀j,sf j=[.cells 0 2 [.agg [.mp 1,.gr 3 1 ((part l i j).map Rep.to)]],.map (tabV 0 (part l i j)),.cells 0 1 ((out i).set i (.gr 4 1 ((row j).map Rep.to))),.tip (part l i j).length,.tip j]:=⟨_,fun _=>rfl⟩
      refine vc_ghostR (σ:=Nat) (fun j=>j≤l[i].length) (fun j=>l[i].length-j) T2 s2 0 ⟨?_,by omega⟩ ?_
      · rw[hT2,hs2]
        refine Re.wn (s':=[.cells 0 2 [.agg [.mp 1,.gr 3 1 ((part l i 0).map Rep.to)]],.map (tabV 0 (part l i 0)),.cells 0 1 ((out i).set i (.gr 4 1 [])),.tip (part l i 0).length]) [false,false,false,true,true,true,false,false,true,true,true,false,true,true,true] [.tip 0] (by simp) (by omega) (by simp) ?_ (by simp[hrow])
        simp
        refine .cells (.set (hof i) rfl ?_)
        rw[hoi i h1]
        simp
        exact .fresh _ _ _ 0 rfl
      · intro j hj
        rw[hT2,hs2]
        simp
        refine⟨fun h2=>?_,fun h2=>?_⟩
        · have hpl:=part_len (l:=l) h1 (j:=j) (by omega)
          simp[getD_map,h2,hol i hi,h1]
          rw[eR_id hg (t:=0) (m:=1) (l:=3) (names:=part l i j) (by simp) (by simp) (by simp) (by simp) (by simp) (by omega)]
          simp[hol i hi,h1,pairsOk,disj,add1 h2 (by have:=elem_flat_le h1;omega)]
          have hrl:(row j).length=j:=by rw[hrow];simp;omega
          refine⟨⟨hrl.symm,by rw[hrl];have:=elem_flat_le h1;unfold room;omega⟩,j+1,by omega,?_,by omega⟩
          rw[hT2,hs2,part_step h1 h2]
          refine Re.wf _ [false,false,false,true,true,true,false,false,true,true,true,false,true,true,true] 5 (by omega) (by simp) (WkS.refl _ _ _) ?_ ?_ ?_
          · right
            simp
            intro x hx
            rcases List.mem_or_eq_of_mem_set hx with hx | hx
            · exact hou5 i x hx _
            · rw[hx];rfl
          · simp
          · have hr:(row (j+1)).map Rep.to=(row j).map Rep.to++[D.int .i64 (placeV (namesV l) l[i][j])]:=by rw[hrow,hrow,take_snoc h2];simp only[List.map_append,List.map_cons,List.map_nil,to_int]
            rw[place_part h1 h2,hr]
            simp only[List.take_succ_cons,List.take_zero]
        · have h3:j=l[i].length:=by omega
          refine⟨i+1,by omega,?_,by omega⟩
          subst h3
          rw[hT,hs,← hos i h1,part_next h1,hrow,List.take_length]
          refine Re.wf [.cells 0 2 [.agg [.mp 1,.gr 3 1 ((part l (i+1) 0).map Rep.to)]],.map (tabV 0 (part l (i+1) 0)),.cells 0 1 ((out i).set i (.d (.sl 1 ((l[i].map (placeV (namesV l))).map Rep.to)))),.tip (part l (i+1) 0).length,.tip l[i].length] [false,false,false,true,true,false,false,false,true,true,true,false,false,false,false] 4 (by omega) (by simp) ?_ ?_ ?_ ?_
          · simp only[WkS_cons,WkO_refl,WkS_nil,and_true,true_and]
            exact .cells (.setset (hof i) rfl (by simp only[acells_gr,acells_dsl,WkL_cons,Wk_gr,WkL_nil,and_true]))
          · right
            simp
            intro x hx
            rcases List.mem_or_eq_of_mem_set hx with hx | hx
            · exact hou5 i x hx _
            · rw[hx];rfl
          · simp[add1 h1 (by omega)]
          · simp
    · have h2:i=l.length:=by omega
      subst h2
      have hoe:out l.length=(idsV l).map (fun x=>.d (Rep.to x)):=by rw[ho,List.take_of_length_le (by omega)];simp
      refine⟨?_,?_,?_⟩
      · simp only[bor,List.getD_cons_succ,List.getD_cons_zero,hoe,List.drop_zero]
        refine⟨trivial,?_⟩
        rw[List.all_eq_true]
        intro x hx
        obtain⟨y,_,rfl⟩:=List.mem_map.1 (List.mem_of_mem_take hx)
        rfl
      · simp only[bor,List.getD_cons_succ,List.getD_cons_zero,hoe,List.drop_zero]
        rw[List.take_of_length_le (by simp[hil]),List.map_map]
        simp only[LeD_sl,true_and]
        rfl
      · rw[part_end]
@[simp] def S_intern_Ids:List D→Prop × D:=spec1 (α:=List (List Str)) smallL (fun l=>Rep.to (idsV l))
theorem ct_intern_Ids {P:Program} {f g:Nat} {G:Gam} (h:CodeOf P f 1 3 [1] (x_intern_Ids g)) (hG:GamOk P G) (hg:G.find g=some S_intern_number):Has P f S_intern_Ids:=h.has1 hG fun l hp=>by
  simp[x_intern_Ids,hg]
  exact hp
end Go.AE
namespace Go.AE
def splitF (cur:Str):Str→List Str
  | []=>[cur]
  | c::s=>if c=10 then (cur++[c])::splitF [] s else splitF (cur++[c]) s
def linesF (cur:Str):Str→List Str
  | []=>if cur=[] then [] else [cur]
  | c::s=>if c=10 then (cur++[c])::linesF [] s else linesF (cur++[c]) s
def linesV (s:Str):List Str:=linesF [] s
theorem splitF_lines:∀(s cur:Str),∃l r,splitF cur s=l++[r]∧linesF cur s=if r=[] then l else l++[r]
  | [],cur=>⟨[],cur,rfl,by simp[linesF]⟩
  | c::s,cur=>by
    by_cases h:c=10
    · obtain⟨l,r,h1,h2⟩:=splitF_lines s []
      refine⟨(cur++[c])::l,r,by simp[splitF,h,h1],?_⟩
      simp only[linesF,h,if_true,h2]
      split <;> simp
    · obtain⟨l,r,h1,h2⟩:=splitF_lines s (cur++[c])
      exact⟨l,r,by simp[splitF,h,h1],by simp[linesF,h,h2]⟩
theorem occ10 (s:Str) (j:Nat):Lib.occAt s [10] j=true↔s[j]?=some 10:=by
  unfold Lib.occAt
  rw[← List.head?_drop]
  cases h:s.drop j with
  | nil=>simp
  | cons a t=>simp[List.isPrefixOf];exact eq_comm
theorem splitF_none:∀(s cur:Str),(∀j:Nat,s[j]?≠some 10)→splitF cur s=[cur++s]
  | [],cur,_=>by simp[splitF]
  | c::s,cur,h=>by
    have h0:c≠10:=by simpa using h 0
    have ih:=splitF_none s (cur++[c]) fun j=>by simpa using h (j+1)
    simp[splitF,h0,ih]
theorem splitF_some:∀(s cur:Str) (i:Nat),s[i]?=some 10→(∀j:Nat,j<i→s[j]?≠some 10)→splitF cur s=(cur++s.take (i+1))::splitF [] (s.drop (i+1))
  | [],cur,i,h,_=>by simp at h
  | c::s,cur,0,h,_=>by
    have:c=10:=by simpa using h
    simp[splitF,this]
  | c::s,cur,i+1,h,h2=>by
    have h0:c≠10:=by simpa using h2 0 (by omega)
    have ih:=splitF_some s (cur++[c]) i (by simpa using h) fun j hj=>by simpa using h2 (j+1) (by omega)
    simp[splitF,h0,ih]
theorem first10 (s:Str):(∀j:Nat,s[j]?≠some 10)∨∃i,s[i]?=some 10∧∀j:Nat,j<i→s[j]?≠some 10:=by
  induction s with
  | nil=>exact .inl fun j=>by simp
  | cons c s ih =>
    by_cases h:c=10
    · exact .inr ⟨0,by simp[h],fun j hj=>absurd hj (by omega)⟩
    · rcases ih with h1 | ⟨i,h1,h2⟩
      · refine .inl fun j=>?_
        cases j with
        | zero=>simpa using h
        | succ j=>simpa using h1 j
      · refine .inr ⟨i+1,by simpa using h1,fun j hj=>?_⟩
        cases j with
        | zero=>simpa using h
        | succ j=>simpa using h2 j (by omega)
theorem splitK_lines:∀(k:Nat) (s:Str),Lib.count s [10]=k→Lib.splitK [10] 1 k s=splitF [] s:=by
  intro k
  induction k with
  | zero =>
    intro s hk
    rcases first10 s with h | ⟨i,h1,h2⟩
    · rw[splitF_none s [] h];rfl
    · have hi:Lib.index s [10]=i:=Lib.index_first (by have:=List.getElem?_eq_some_iff.1 h1;obtain⟨h3,_⟩:=this;omega) ((occ10 s i).2 h1) fun j hj=>by
        have:=h2 j hj
        cases h3:Lib.occAt s [10] j with
        | false=>rfl
        | true=>exact absurd ((occ10 s j).1 h3) this
      have:=Lib.count_hit (by simp) hi
      omega
  | succ k ih =>
    intro s hk
    rcases first10 s with h | ⟨i,h1,h2⟩
    · have hi:Lib.index s [10]=-1:=Lib.index_none fun j hj=>by
        cases h3:Lib.occAt s [10] j with
        | false=>rfl
        | true=>exact absurd ((occ10 s j).1 h3) (h j)
      have:=Lib.count_miss hi
      omega
    · have hi:Lib.index s [10]=i:=Lib.index_first (by have:=List.getElem?_eq_some_iff.1 h1;obtain⟨h3,_⟩:=this;omega) ((occ10 s i).2 h1) fun j hj=>by
        have:=h2 j hj
        cases h3:Lib.occAt s [10] j with
        | false=>rfl
        | true=>exact absurd ((occ10 s j).1 h3) this
      have hc:=Lib.count_hit (by simp) hi
      have hn:¬((i:Int) == -1)=true:=by simp
      simp only[Lib.splitK,hi,hn,if_false,Int.toNat_natCast,List.length_singleton]
      simp only[List.length_singleton] at hc
      rw[ih _ (by omega),splitF_some s [] i h1 h2]
      simp
theorem linesF_count:∀(s cur:Str),(linesF cur s).length=s.count 10+if cur++s=[]∨(cur++s).getLast?=some 10∧s≠[] then 0 else 1
  | [],cur=>by
    by_cases h:cur=[] <;> simp[linesF,h]
  | c::s,cur=>by
    by_cases h:c=10
    · subst h
      have ih:=linesF_count s []
      simp only[linesF,if_true,List.length_cons,ih,List.nil_append,List.count_cons_self]
      by_cases hs:s=[]
      · subst hs;simp
      · simp only[hs,false_or,ne_eq,not_false_eq_true,and_true]
        have e:(cur++10::s).getLast?=s.getLast?:=by
          rw[List.getLast?_append]
          obtain⟨a,t,rfl⟩:=List.exists_cons_of_ne_nil hs
          simp[List.getLast?_cons]
        rw[e]
        simp only[List.append_eq_nil_iff,List.cons_ne_nil,and_false,reduceCtorEq,not_false_eq_true,and_true,false_or]
        omega
    · have ih:=linesF_count s (cur++[c])
      simp only[linesF,h,if_false,ih,List.append_assoc,List.singleton_append,List.count_cons_of_ne h]
      by_cases hs:s=[]
      · subst hs
        simp[h]
      · simp[hs]
theorem linesF_flat:∀(s cur:Str),(linesF cur s).flatten=cur++s
  | [],cur=>by by_cases h:cur=[] <;> simp[linesF,h]
  | c::s,cur=>by
    by_cases h:c=10
    · simp[linesF,h,linesF_flat s []]
    · simp[linesF,h,linesF_flat s (cur++[c])]
/-! what the library's functions answer -/
@[simp] def S_strings_Count:List D→Prop × D:=spec2 (α:=Str) (β:=Str) (fun _ n=>n.length=1) (fun s n=>.int .i64 (s.count (n.getD 0 0)))
@[simp] def S_strings_HasSuffix:List D→Prop × D:=spec2 (α:=Str) (β:=Str) (fun s _=>s.length≤9223372036854775807) (fun s p=>.bool (Lib.hasSuffix s p))
@[simp] def S_strings_genSplit:List D→Prop × D
  | [.str s,.str sep,.int .i64 sv,.int .i64 n]=>(sep.length=1∧0≤sv∧sv≤1∧n=-1∧s.length<4294967281,Rep.to (α:=List Str) (Lib.splitK sep sv.toNat (Lib.count s sep) s))
  | _=>(False,.nilp)
@[simp] def S_strings_SplitAfter:List D→Prop × D:=spec2 (α:=Str) (β:=Str) (fun s sep=>sep.length=1∧s.length<4294967281) (fun s sep=>Rep.to (Lib.splitK sep 1 (Lib.count s sep) s))
theorem ct_strings_SplitAfter {P:Program} {f g:Nat} {G:Gam} (h:CodeOf P f 2 3 [2] (x_strings_SplitAfter g)) (hG:GamOk P G) (hg:G.find g=some S_strings_genSplit):Has P f S_strings_SplitAfter:=h.has2 hG fun s sep hp=>by
  obtain⟨h1,h2⟩:=hp
  simp[x_strings_SplitAfter,hg,h1,h2]
def endedV (s:Str):Bool:=decide (s.getLast?=some 10)
theorem hasSuffix_ended (s:Str):Lib.hasSuffix s [10]=endedV s:=by
  unfold Lib.hasSuffix endedV
  by_cases h:s.getLast?=some 10
  · obtain⟨t,rfl⟩:=List.getLast?_eq_some_iff.1 h
    simp[List.isSuffixOf_iff_suffix]
  · simp only[h,decide_false]
    cases h2:[10].isSuffixOf s with
    | false=>rfl
    | true =>
      obtain⟨t,rfl⟩:=List.isSuffixOf_iff_suffix.1 h2
      simp at h
@[simp] def S_text_Ended:List D→Prop × D:=spec1 (α:=Str) (fun s=>s.length≤9223372036854775807) (fun s=>.bool (endedV s))
theorem ct_text_Ended {P:Program} {f g:Nat} {G:Gam} (h:CodeOf P f 1 2 [1] (x_text_Ended g)) (hG:GamOk P G) (hg:G.find g=some S_strings_HasSuffix):Has P f S_text_Ended:=h.has1 hG fun s hp=>by
  simp[x_text_Ended,hg,hp,hasSuffix_ended]
theorem linesV_len (s:Str):(linesV s).length=s.count 10+if s≠[]∧endedV s=false then 1 else 0:=by
  rw[linesV,linesF_count]
  simp only[List.nil_append]
  by_cases h:s=[]
  · subst h;simp[endedV]
  · by_cases h2:s.getLast?=some 10 <;> simp[h,h2,endedV]
def checkT (s:Str):Int:=if s.length≤1048576∧(linesV s).length≤4096 then 0 else 1
def lenOk (s:Str):Prop:=s.length≤9223372036854775807
@[simp] theorem lenOk_4 {s:Str} (h:s.length≤4194304):lenOk s:=by unfold lenOk;omega
@[simp] theorem lenOk_1 {s:Str} (h:s.length≤1048576):lenOk s:=by unfold lenOk;omega
@[simp] theorem lenOk_9 {s:Str} (h:s.length≤9223372036854775807):lenOk s:=h
@[simp] def S_text_Check:List D→Prop × D:=spec1 (α:=Str) lenOk (fun s=>.int .i64 (checkT s))
theorem ct_text_Check {P:Program} {f g1 g2:Nat} {G:Gam} (h:CodeOf P f 1 5 [1] (x_text_Check g1 g2)) (hG:GamOk P G) (h1:G.find g1=some S_strings_Count) (h2:G.find g2=some S_text_Ended):Has P f S_text_Check:=h.has1 hG fun s hp=>by
  have hc:s.count 10≤s.length:=List.count_le_length
  have hl:=linesV_len s
  have hp':s.length≤9223372036854775807:=hp
  have key:∀m:Nat,(linesV s).length=m→checkT s=if (1048576:Int)<s.length then 1 else if (4096:Int)<m then 1 else 0:=by
    intro m hm
    unfold checkT
    rw[hm]
    by_cases a:(1048576:Int)<s.length
    · rw[if_neg (by omega),if_pos a]
    · rw[if_neg a]
      by_cases b:(4096:Int)<m
      · rw[if_neg (by omega),if_pos b]
      · rw[if_pos (by omega),if_neg b]
  by_cases c0:s≠[]∧endedV s=false
  · obtain⟨c1,c2⟩:=c0
    have hlt:s.count 10<s.length:=by
      rcases Nat.lt_or_ge (s.count 10) s.length with h | h
      · exact h
      · have h2:=List.count_eq_length.1 (Nat.le_antisymm hc h)
        have h3:=h2 _ (List.getLast_mem c1)
        rw[endedV,List.getLast?_eq_some_getLast c1,← h3] at c2
        simp at c2
    have w1:IntKind.i64.wrap ((s.count 10:Int)+1)=(s.count 10:Int)+1:=wrap_in (by omega) (by omega)
    rw[if_pos ⟨c1,c2⟩] at hl
    have k:=key _ hl
    rw[k]
    by_cases a:(1048576:Int)<s.length <;> by_cases b:(4096:Int)<((s.count 10+1:Nat):Int) <;>
      (have b':=b;push_cast at b';simp[x_text_Check,h1,h2,hp',c1,c2,w1,a,b,b'])
  · rw[if_neg c0] at hl
    have k:=key _ hl
    rw[k]
    by_cases c1:s=[]
    · subst c1
      simp[x_text_Check,h1,h2]
    · have c2:endedV s=true:=by
        cases h3:endedV s with
        | true=>rfl
        | false=>exact absurd ⟨c1,h3⟩ c0
      simp only[Nat.add_zero]
      by_cases a:(1048576:Int)<s.length <;> by_cases b:(4096:Int)<((s.count 10:Nat):Int) <;>
        simp[x_text_Check,h1,h2,hp',c1,c2,a,b]
def splitD (s:Str):D:=if checkT s=0 then .tup [Rep.to (linesV s),.int .i64 0] else .tup [.nilsl,.int .i64 1]
@[simp] def S_text_Split:List D→Prop × D:=spec1 (α:=Str) (fun s=>s.length≤4194304) (fun s=>splitD s)
theorem ct_text_Split {P:Program} {f g1 g2:Nat} {G:Gam} (h:CodeOf P f 1 7 [1,2] (x_text_Split g1 g2)) (hG:GamOk P G) (h1:G.find g1=some S_text_Check) (h2:G.find g2=some S_strings_SplitAfter):Has P f S_text_Split:=h.has1 hG fun s hp=>by
  have hp':s.length<4294967281:=by omega
  by_cases c:checkT s=0
  · obtain⟨l,r,e1,e2⟩:=splitF_lines s []
    have e3:=splitK_lines _ s rfl
    rw[e1] at e3
    have e4:linesV s=if r=[] then l else l++[r]:=e2
    have hll:l.length≤4096:=by
      have:checkT s=0:=c
      unfold checkT at this
      split at this
      · rename_i h3
        rw[e4] at h3
        split at h3
        · exact h3.2
        · have:=h3.2;simp at this;omega
      · simp at this
    have w1:IntKind.i64.wrap (l.length:Int)=(l.length:Int):=wrap_in (by omega) (by omega)
    have e5:splitD s=.tup [Rep.to (linesV s),.int .i64 0]:=if_pos c
    rw[e5,e4]
    by_cases hr:r=[]
    · simp[x_text_Split,h1,h2,hp,hp',c,e3,w1,hr]
      omega
    · simp[x_text_Split,h1,h2,hp,hp',c,e3,w1,hr]
      omega
  · have c1:checkT s=1:=by
      unfold checkT at *
      split at c <;> simp_all
    have e5:splitD s=.tup [.nilsl,.int .i64 1]:=if_neg c
    rw[e5]
    simp[x_text_Split,h1,hp,c1]
@[simp] def S_ref02_Lines:List D→Prop × D:=spec1 (α:=Str) (fun s=>s.length≤4194304) (fun s=>Rep.to (linesV s))
theorem ct_ref02_Lines {P:Program} {f:Nat} {G:Gam} (h:CodeOf P f 1 7 [1] x_ref02_Lines) (hG:GamOk P G):Has P f S_ref02_Lines:=h.has1 hG fun s hp=>by
  simp[x_ref02_Lines]
  refine vc_lp (σ:=Nat × Nat × List Str) (fun x=>x.1≤x.2.1∧x.2.1≤s.length∧x.2.2.length≤x.2.1∧(x.2.1<s.length∨x.1=x.2.1)∧x.2.2++linesF ((s.take x.2.1).drop x.1) (s.drop x.2.1)=linesV s) (fun x=>s.length-x.2.1)
    (fun x=>[.d (Rep.to s),.any,.gr 0 1 (x.2.2.map Rep.to),.d (.int .i64 x.1),.d (.int .i64 x.2.1),.any,.any]) (fun x=>[.tip x.2.2.length]) (0,0,[]) (by simp) (by simp) ⟨by simp,by simp,by simp,by simp,by simp[linesV]⟩ ?_
  rintro⟨fr,i,o⟩ ⟨b1,b2,b3,b5,b4⟩
  simp only at b1 b2 b3 b4 b5
  by_cases hi:i<s.length
  · have w1:IntKind.i64.wrap ((i:Int)+1)=((i+1:Nat):Int):=by rw[wrap_in (by omega) (by omega)];omega
    have ed:s.drop i=s[i]::s.drop (i+1):=List.drop_eq_getElem_cons hi
    have et:(s.take (i+1)).drop fr=(s.take i).drop fr++[s[i]]:=by
      rw[List.take_succ_eq_append_getElem hi,List.drop_append_of_le_length (by simp;omega)]
    have es:List.take (i+1-fr) (s.drop fr)=(s.take (i+1)).drop fr:=by rw[List.drop_take]
    rw[ed] at b4
    simp only[linesF,← et] at b4
    have i2:(i:Int)+1≤s.length:=by omega
    have i3:(fr:Int)≤(i:Int)+1:=by omega
    have e:((s[i].toNat:Int)=10)=(s[i]=10):=by
      apply propext
      constructor
      · intro h
        exact UInt8.toNat_inj.1 (by simp;omega)
      · intro h;rw[h];rfl
    have en:(s.take (i+1)).drop (i+1)=[]:=List.drop_eq_nil_of_le (by simp;omega)
    by_cases c:s[i]=10
    · rw[if_pos c] at b4
      simp[hi,w1,e,c,i2,i3]
      rw[es]
      exact⟨by unfold room;omega,Nxt.mk (i+1,i+1,o++[(s.take (i+1)).drop fr]) (by simp;omega) (by simp) (by simp) ⟨by simp,by simp;omega,by simp;omega,by simp,by simp only[en];rw[← b4];simp⟩⟩
    · rw[if_neg c] at b4
      by_cases l:i+1=s.length
      · have l':s.length=i+1:=by omega
        have ez:s.drop (i+1)=[]:=List.drop_eq_nil_of_le (by omega)
        have ec:(s.take (i+1)).drop fr≠[]:=by
          intro hh
          have:=congrArg List.length hh
          simp at this
          omega
        rw[ez] at b4
        simp only[linesF,ec,if_false] at b4
        have i4:(i:Int)<(i:Int)+1:=by omega
        simp[l',w1,e,c,i3,i4]
        rw[es]
        refine⟨by unfold room;omega,Nxt.mk (i+1,i+1,o++[(s.take (i+1)).drop fr]) (by simp) (by simp) (by simp) ⟨by simp,by simp,by simp;omega,by simp,?_⟩⟩
        simp only[en,ez,linesF,if_true]
        rw[← b4]
        simp
      · have l':¬((i:Int)+1=s.length):=by omega
        simp[hi,w1,e,c,l']
        exact Nxt.mk (fr,i+1,o) (by simp;omega) (by simp) (by simp) ⟨by simp only;omega,by simp only;omega,by simp only;omega,by simp only;omega,by simpa using b4⟩
  · have h1:i=s.length:=by omega
    subst h1
    have h2:fr=s.length:=by omega
    subst h2
    simp[linesF] at b4
    simp[b4]
@[simp] def S_ref02_Check:List D→Prop × D:=spec1 (α:=Str) lenOk (fun s=>.int .i64 (checkT s))
theorem ct_ref02_Check {P:Program} {f g:Nat} {G:Gam} (h:CodeOf P f 1 3 [1] (x_ref02_Check g)) (hG:GamOk P G) (hg:G.find g=some S_ref02_Lines):Has P f S_ref02_Check:=h.has1 hG fun s hp=>by
  by_cases a:s.length≤1048576
  · have a':¬((1048576:Int)<s.length):=by omega
    have hp:s.length≤4194304:=by omega
    by_cases b:(linesV s).length≤4096
    · have b':¬((4096:Int)<(linesV s).length):=by omega
      simp[x_ref02_Check,hg,hp,a,a',b,b',checkT]
    · have b':((4096:Int)<(linesV s).length):=by omega
      simp[x_ref02_Check,hg,hp,a,a',b,b',checkT]
  · have a':((1048576:Int)<s.length):=by omega
    simp[x_ref02_Check,a,a',checkT]
@[simp] def S_ref02_Split:List D→Prop × D:=spec1 (α:=Str) (fun s=>s.length≤4194304) (fun s=>splitD s)
theorem ct_ref02_Split {P:Program} {f g1 g2:Nat} {G:Gam} (h:CodeOf P f 1 4 [1,2] (x_ref02_Split g1 g2)) (hG:GamOk P G) (h1:G.find g1=some S_ref02_Check) (h2:G.find g2=some S_ref02_Lines):Has P f S_ref02_Split:=h.has1 hG fun s hp=>by
  by_cases c:checkT s=0
  · simp[x_ref02_Split,h1,h2,hp,c,splitD]
  · have c1:checkT s=1:=by
      unfold checkT at *
      split at c <;> simp_all
    simp[x_ref02_Split,h1,hp,c1,splitD]
def blobS (raw:List Int) (fr kinds:Int) (k:Nat):Str:=(List.range k).flatMap fun (i:Nat)=>lineV (modV (atV raw (fr+1+i)) kinds)++[10]
theorem blobS_succ (raw:List Int) (fr kinds:Int) (k:Nat):blobS raw fr kinds (k+1)=blobS raw fr kinds k++lineV (modV (atV raw (fr+1+k)) kinds)++[10]:=by
  simp[blobS,List.range_succ]
def blobV (raw:List Int) (fr n kinds:Int):Str :=
  let s:=blobS raw fr kinds (modV (atV raw fr) (n+1)).toNat
  if (atV raw (fr+90)).tmod 4=0∧1<s.length∧s.getD (s.length-2) 0≠10 then s.dropLast else s
theorem lines_good:∀x,x∈lines→x.length≤3∧x.count 10=0:=by decide
theorem lineV_good (k:Int):(lineV k).length≤3∧(lineV k).count 10=0:=by
  obtain⟨h1,h2⟩:=modV_lt k (n:=10) (by omega)
  unfold lineV
  have hl:(modV k 10).toNat<lines.length:=by
    have:lines.length=10:=rfl
    omega
  have e:lines.getD (modV k 10).toNat []=lines[(modV k 10).toNat]:=by simp[List.getD,hl]
  rw[e]
  exact lines_good _ (List.getElem_mem hl)
theorem blobS_good (raw:List Int) (fr kinds:Int):∀k,(blobS raw fr kinds k).length≤4 * k∧(blobS raw fr kinds k).count 10=k
  | 0=>by simp[blobS]
  | k+1=>by
    obtain⟨h1,h2⟩:=blobS_good raw fr kinds k
    obtain⟨h3,h4⟩:=lineV_good (modV (atV raw (fr+1+k)) kinds)
    rw[blobS_succ]
    simp only[List.length_append,List.count_append,List.length_singleton,h2,h4]
    simp
    omega
theorem blobV_good (raw:List Int) (fr kinds:Int) {n:Int} (hn:0≤n):(blobV raw fr n kinds).length≤4 * n.toNat∧(blobV raw fr n kinds).count 10≤n.toNat:=by
  obtain⟨m1,m2⟩:=modV_lt (atV raw fr) (n:=n+1) (by omega)
  obtain⟨h1,h2⟩:=blobS_good raw fr kinds (modV (atV raw fr) (n+1)).toNat
  have e:(modV (atV raw fr) (n+1)).toNat≤n.toNat:=by omega
  unfold blobV
  generalize blobS raw fr kinds (modV (atV raw fr) (n+1)).toNat=s at *
  simp only
  split
  · have hs:=(List.dropLast_sublist s).count_le 10
    simp only[List.length_dropLast]
    omega
  · omega
theorem lines_flat (s:Str):(linesV s).flatten=s:=by
  rw[linesV,linesF_flat];rfl
end Go.AE
namespace Go.AE
@[simp] def S_gen_Blob:List D→Prop × D:=spec4 (α:=List Int) (β:=Int) (γ:=Int) (δ:=Int) (fun raw fr n kinds=>raw.length≤9223372036854775807∧0≤fr∧fr≤100000∧0≤n∧n≤1000∧1≤kinds∧kinds≤1000) (fun raw fr n kinds=>Rep.to (blobV raw fr n kinds))
theorem ct_gen_Blob {P:Program} {f g1 g2 g3:Nat} {G:Gam} (h:CodeOf P f 4 9 [4] (x_gen_Blob g1 g2 g3)) (hG:GamOk P G) (h1:G.find g1=some S_gen_At) (h2:G.find g2=some S_gen_Mod) (h3:G.find g3=some S_gen_Line):Has P f S_gen_Blob:=h.has4 hG fun raw fr n kinds hp=>by
  obtain⟨p1,p2,p3,p4,p5,p6,p7⟩:=hp
  obtain⟨m1,m2⟩:=modV_lt (atV raw fr) (n:=n+1) (by omega)
  have q1:(fr:Int)<9223372036854775807:=by omega
  have q2:raw.length≤9223372036854775807:=by omega
  have q3:1≤n+1∧n+1≤9223372036854775807:=by omega
  have q4:1≤kinds∧kinds≤9223372036854775807:=by omega
  have w0:IntKind.i64.wrap (n+1)=n+1:=wrap_in (by omega) (by omega)
  have w2:IntKind.i64.wrap (fr+1)=fr+1:=wrap_in (by omega) (by omega)
  have w3:IntKind.i64.wrap (fr+90)=fr+90:=wrap_in (by omega) (by omega)
  obtain⟨m,hm⟩:=Int.eq_ofNat_of_zero_le m1
  have hv:blobV raw fr n kinds=if (atV raw (fr+90)).tmod 4=0∧1<(blobS raw fr kinds m).length∧(blobS raw fr kinds m).getD ((blobS raw fr kinds m).length-2) 0≠10 then (blobS raw fr kinds m).dropLast else blobS raw fr kinds m:=by
    unfold blobV
    rw[hm]
    rfl
  have hr:=atV_range raw (fr+90)
  obtain⟨hb,_⟩:=blobS_good raw fr kinds m
  have r1:0≤fr+90∧fr+90<9223372036854775807:=by omega
  rw[hv]
  clear hv
  simp[x_gen_Blob,h1,h2,p2,q1,q2,q3,w0]
  rw[hm]
  refine vc_lp (σ:=Nat) (fun i=>i≤m) (fun i=>m-i) (fun i=>[.d (Rep.to raw),.d (.int .i64 fr),.d (.int .i64 m),.d (.int .i64 kinds),.any,.d (.str (blobS raw fr kinds i)),.d (.int .i64 i),.any,.any]) (fun _=>[]) 0 (by simp[blobS]) (by simp) (by simp) ?_
  intro i hi
  by_cases h6:i<m
  · have w1:IntKind.i64.wrap (fr+1+i)=fr+1+i:=wrap_in (by omega) (by omega)
    have w4:IntKind.i64.wrap ((i:Int)+1)=(i:Int)+1:=wrap_in (by omega) (by omega)
    have r2:0≤fr+1+(i:Int)∧fr+1+(i:Int)<9223372036854775807:=by omega
    obtain⟨hl,_⟩:=lineV_good (modV (atV raw (fr+1+i)) kinds)
    obtain⟨hbi,_⟩:=blobS_good raw fr kinds i
    simp[h1,h2,h3,w1,w2,w4,h6,q2,q4,r2]
    refine⟨by omega,by omega,?_⟩
    exact Nxt.mk (i+1) (by omega) (by simp[blobS_succ]) (by simp) (by omega)
  · have h7:i=m:=by omega
    subst h7
    generalize blobS raw fr kinds i=s at *
    simp[h1,q2,w3,r1]
    generalize atV raw (fr+90)=z at *
    refine⟨fun c1=>⟨fun c2=>?_,fun c2 c3 c4=>by omega⟩,fun a b=>absurd b a⟩
    have c2':1<s.length:=by omega
    have wA:IntKind.i64.wrap ((s.length:Int)-2)=((s.length-2:Nat):Int):=by rw[wrap_in (by omega) (by omega)];omega
    have wB:IntKind.i64.wrap ((s.length:Int)-1)=((s.length-1:Nat):Int):=by rw[wrap_in (by omega) (by omega)];omega
    rw[wA,wB]
    simp only[Int.toNat_natCast]
    refine⟨by omega,fun c3=>⟨by omega,?_⟩,fun c3 _ _ c4=>?_⟩
    · have c4:¬s[s.length-2]?.getD 0=10:=fun e=>c3 (by rw[e];rfl)
      rw[if_pos ⟨c1,c2',c4⟩,List.dropLast_eq_take]
    · exact absurd (UInt8.toNat_inj.1 (by simp;omega)) c4
def flen (l:List Str):Nat:=l.flatten.length
theorem flen_take (l:List Str) (k:Nat):flen l=flen (l.take k)+flen (l.drop k):=by
  unfold flen
  rw[← List.length_append,← List.flatten_append,List.take_append_drop]
theorem flen_succ {l:List Str} {i:Nat} (hi:i<l.length):flen (l.take (i+1))=flen (l.take i)+l[i].length:=by
  unfold flen
  rw[List.take_succ_eq_append_getElem hi,List.flatten_append,List.length_append]
  congr 1
  rw[List.flatten_cons,List.flatten_nil,List.append_nil]
end Go.AE
namespace Go.AE
end Go.AE
namespace Go.AE
end Go.AE
namespace Go.AE
def A.gvd (α:Type) [Rep α] [Inhabited α] (x:A):α:=(Rep.of x.toD).getD default
attribute [simp] A.gvd
theorem WkL.refl' (n:Nat) (k:List Ob):∀xs:List A,WkL n k xs xs
  | []=>trivial
  | _::xs=>⟨Wk.refl _ _ _,WkL.refl' n k xs⟩
end Go.AE
namespace Go.AE
def A.gfn:A→Nat
  | .fn (.func g) _ _=>g
  | _=>0
attribute [simp] A.gfn
theorem FinR.drop {rs:List Nat} {o:Ob} {r:D} {T:List A} (h:resOf rs T [o,.dead]=.d r) (ho:o.under 1=true) (hp:resPre rs T [o,.dead]):FinR rs [o] (.d r) [o] .ret T [o,.dead]:=by
  refine FinR.done (by simp) ?_ rfl h.symm ?_ rfl hp
  · simp
  · simpa using ho
def idxV (l:List Int) (x:Int):Int:=match l.findIdx? (· == x) with | some i=>(i:Int) | none=>-1
@[simp] def S_slices_Index_int_int:List D→Prop × D:=spec2 (α:=List Int) (β:=Int) (fun l _=>l.length≤9223372036854775807) (fun l x=>Rep.to (idxV l x))
theorem ct_slices_Index_int_int {P:Program} {f:Nat} {G:Gam} (h:CodeOf P f 2 8 [2] x_slices_Index_int_int) (hG:GamOk P G):Has P f S_slices_Index_int_int:=h.has2 hG fun l x hp=>by
  simp[x_slices_Index_int_int]
  refine vc_lp (σ:=Nat) (fun i=>i≤l.length∧∀k (h:k<l.length),k<i→l[k]≠x) (fun i=>l.length-i)
    (fun i=>[.d (Rep.to l),.d (.int .i64 x),.any,.any,.d (.int .i64 l.length),.d (.int .i64 i),.any,.any]) (fun _=>[]) 0 (by simp) (by simp) ⟨by simp,by simp⟩ ?_
  rintro i ⟨hi,hn⟩
  by_cases hil:i<l.length
  · have w1:IntKind.i64.wrap ((i:Int)+1)=(i:Int)+1:=wrap_in (by omega) (by omega)
    by_cases e:l[i]=x
    · have hf:l.findIdx? (· == x)=some i:=by
        rw[List.findIdx?_eq_some_iff_getElem]
        exact⟨hil,by simpa using e,fun j hj=>by simpa using hn j (by omega) hj⟩
      have hv:idxV l x=i:=by unfold idxV;rw[hf]
      simp[hil,getD_map,e,hv]
    · have hnx:∀k (h:k<l.length),k<i+1→l[k]≠x:=fun k h hk=>by
        by_cases e2:k=i
        · subst e2;exact e
        · exact hn k h (by omega)
      simp[hil,getD_map,e,fun h:x=l[i]=>e h.symm,w1,show ¬x=l[i] from fun h=>e h.symm]
      exact Nxt.mk (i+1) (by omega) (by simp) (by simp) ⟨by omega,hnx⟩
  · have h9:i=l.length:=by omega
    subst h9
    have hf:l.findIdx? (· == x)=none:=by
      rw[List.findIdx?_eq_none_iff]
      intro y hy
      obtain⟨k,hk,rfl⟩:=List.mem_iff_getElem.1 hy
      simpa using hn k hk hk
    have hv:idxV l x=-1:=by unfold idxV;rw[hf]
    simp[hv]
theorem idxV_mem (l:List Int) (x:Int):0≤idxV l x↔x∈l:=by
  unfold idxV
  cases h:l.findIdx? (· == x) with
  | none =>
    rw[List.findIdx?_eq_none_iff] at h
    simp
    intro hx
    have:=h x hx
    simp at this
  | some i =>
    rw[List.findIdx?_eq_some_iff_getElem] at h
    obtain⟨h1,h2,_⟩:=h
    simp at h2
    simp
    rw[← h2]
    exact List.getElem_mem _
@[simp] def S_slices_Contains_int_int:List D→Prop × D:=spec2 (α:=List Int) (β:=Int) (fun l _=>l.length≤9223372036854775807) (fun l x=>.bool (decide (x∈l)))
theorem ct_slices_Contains_int_int {P:Program} {f g1:Nat} {G:Gam} (h:CodeOf P f 2 3 [2] (x_slices_Contains_int_int g1)) (hG:GamOk P G) (h1:G.find g1=some S_slices_Index_int_int):Has P f S_slices_Contains_int_int:=h.has2 hG fun l x hp=>by
  simp[x_slices_Contains_int_int,h1,hp,idxV_mem]
/-! ### functions of a commit -/
structure ComX where
  c:CommitT
@[simp] def F_dag_limited_1:RF ComX where
  new:=0
  view a _:=⟨(a.getD 0 .any).gvd CommitT⟩
  args x:=[.d (Rep.to x.c)]
  st _:=[]
  pre _:=True
  res x:=.d (.bool (decide (32<(x.c.parents.length:Int))))
  st' _:=[]
abbrev R_dag_limited_1:RSpec:=F_dag_limited_1.spec
theorem ct_dag_limited_1 {P:Program} {f:Nat} {G:Gam} (hc:CodeOf P f 1 3 [2] x_dag_limited_1) (hG:GamOk P G):RSpec.Ok P f R_dag_limited_1:=by
  refine RF.ok hc.call fun x _=>hc.rcalls hG rfl ?_
  obtain⟨⟨ps,d,fs⟩⟩:=x
  simp[x_dag_limited_1,startA]
  exact FinR.done (by simp) (by simp) rfl rfl (by simp) (by simp)
def rangeB (c:CommitT):Bool:=decide (c.date<0∨2147483647<c.date)
@[simp] def F_dag_Check_1:RF ComX where
  new:=0
  view a _:=⟨(a.getD 0 .any).gvd CommitT⟩
  args x:=[.d (Rep.to x.c)]
  st _:=[]
  pre _:=True
  res x:=.d (.bool (rangeB x.c))
  st' _:=[]
abbrev R_dag_Check_1:RSpec:=F_dag_Check_1.spec
theorem ct_dag_Check_1 {P:Program} {f:Nat} {G:Gam} (hc:CodeOf P f 1 3 [2] x_dag_Check_1) (hG:GamOk P G):RSpec.Ok P f R_dag_Check_1:=by
  refine RF.ok hc.call fun x _=>hc.rcalls hG rfl ?_
  obtain⟨⟨ps,d,fs⟩⟩:=x
  by_cases c1:d<0
  · simp[x_dag_Check_1,startA,c1,rangeB]
    exact FinR.done (by simp) (by simp) rfl (by simp[resOf,resE]) (by simp) (by simp)
  · simp[x_dag_Check_1,startA,c1,rangeB]
    exact FinR.done (by simp) (by simp) rfl (by simp[resOf,resE]) (by simp) (by simp)
structure ConX where
  l:List CommitT
  b:Bool
def conP (b:Bool) (c:CommitT):Bool:=if b then decide (32<(c.parents.length:Int)) else rangeB c
@[simp] def F_slices_IndexFunc_Commit_Commit (g1 g2:Nat):RF ConX where
  new:=0
  view a _:=⟨(a.getD 0 .any).gl CommitT,decide ((a.getD 1 .any).gfn=g1)⟩
  args x:=[.d (Rep.to x.l),.fn (.func (if x.b then g1 else g2)) [] []]
  st _:=[]
  pre x:=x.l.length≤1000∧g1≠g2
  res x:=.d (.int .i64 (match x.l.findIdx? (conP x.b) with | some i=>(i:Int) | none=>-1))
  st' _:=[]
abbrev R_slices_IndexFunc_Commit_Commit (g1 g2:Nat):RSpec:=(F_slices_IndexFunc_Commit_Commit g1 g2).spec
theorem ct_slices_IndexFunc_Commit_Commit {P:Program} {f g1 g2:Nat} {G:Gam} (hc:CodeOf P f 2 8 [2] x_slices_IndexFunc_Commit_Commit) (hG:GamOk P G) (h1:G.findR g1=some R_dag_limited_1) (h2:G.findR g2=some R_dag_Check_1):RSpec.Ok P f (R_slices_IndexFunc_Commit_Commit g1 g2):=by
  refine RF.ok hc.call fun x hx=>hc.rcalls hG rfl ?_
  obtain⟨l,b⟩:=x
  obtain⟨hl,hne⟩:=hx
  simp only at hl
  have hcall:∀c:CommitT,eCallv G [] 0 [.d (Rep.to c)] (.fn (.func (if b then g1 else g2)) [] [])=⟨True,[],.d (.bool (conP b c))⟩:=fun c=>by
    cases b
    · simp[eCallv,eRCall,h2,conP]
    · simp[eCallv,eRCall,h1,conP]
  obtain⟨ff,hff⟩:∃ff,ff=A.fn (.func (if b then g1 else g2)) [] []:=⟨_,rfl⟩
  have hfu:∀n,A.under n ff=true:=fun n=>by rw[hff];rfl
  simp[x_slices_IndexFunc_Commit_Commit,startA]
  rw[← hff] at hcall ⊢
  refine vc_lp (σ:=Nat) (fun i=>i≤l.length∧∀k (h:k<l.length),k<i→conP b l[k]=false) (fun i=>l.length-i)
    (fun i=>[.d (Rep.to l),ff,.any,.any,.d (.int .i64 l.length),.d (.int .i64 i),.any,.any]) (fun _=>[]) 0 (by simp) (by simp) ⟨by simp,by simp⟩ ?_
  rintro i ⟨hi,hn⟩
  by_cases hil:i<l.length
  · have w1:IntKind.i64.wrap ((i:Int)+1)=(i:Int)+1:=wrap_in (by omega) (by omega)
    have hc1:=hcall l[i]
    simp at hc1
    cases e:conP b l[i] with
    | true =>
      have hf:l.findIdx? (conP b)=some i:=by
        rw[List.findIdx?_eq_some_iff_getElem]
        exact⟨hil,e,fun j hj=>by simpa using hn j (by omega) hj⟩
      simp[hil,getD_map,hc1,e,hf]
      exact FinR.done (by simp) (by simp) rfl rfl (by simp) (by simp)
    | false =>
      have hnx:∀k (h:k<l.length),k<i+1→conP b l[k]=false:=fun k h hk=>by
        by_cases e2:k=i
        · subst e2;exact e
        · exact hn k h (by omega)
      simp[hil,getD_map,hc1,e,w1]
      exact Nxt.mk (i+1) (by omega) (by simp) (by simp) ⟨by omega,hnx⟩
  · have h9:i=l.length:=by omega
    subst h9
    have hf:l.findIdx? (conP b)=none:=by
      rw[List.findIdx?_eq_none_iff]
      intro y hy
      obtain⟨k,hk,rfl⟩:=List.mem_iff_getElem.1 hy
      exact hn k hk hk
    simp[hf]
    exact FinR.done (by simp) (by simp) rfl rfl (by simp) (by simp)
theorem findIdx_any {α:Type} (l:List α) (p:α→Bool):decide (0≤(match l.findIdx? p with | some i=>(i:Int) | none=>-1))=l.any p:=by
  cases h:l.findIdx? p with
  | none =>
    rw[List.findIdx?_eq_none_iff] at h
    have:l.any p=false:=by rw[List.any_eq_false];intro x hx;rw[h x hx];simp
    rw[this]
    rfl
  | some i =>
    rw[List.findIdx?_eq_some_iff_getElem] at h
    obtain⟨h1,h2,_⟩:=h
    have:l.any p=true:=by rw[List.any_eq_true];exact⟨_,List.getElem_mem h1,h2⟩
    rw[this]
    simp
@[simp] def F_slices_ContainsFunc_Commit_Commit (g1 g2:Nat):RF ConX where
  new:=0
  view a _:=⟨(a.getD 0 .any).gl CommitT,decide ((a.getD 1 .any).gfn=g1)⟩
  args x:=[.d (Rep.to x.l),.fn (.func (if x.b then g1 else g2)) [] []]
  st _:=[]
  pre x:=x.l.length≤1000∧g1≠g2
  res x:=.d (.bool (x.l.any (conP x.b)))
  st' _:=[]
abbrev R_slices_ContainsFunc_Commit_Commit (g1 g2:Nat):RSpec:=(F_slices_ContainsFunc_Commit_Commit g1 g2).spec
theorem ct_slices_ContainsFunc_Commit_Commit {P:Program} {f g1 g2 g3:Nat} {G:Gam} (hc:CodeOf P f 2 3 [2] (x_slices_ContainsFunc_Commit_Commit g3)) (hG:GamOk P G) (h1:G.findR g1=some R_dag_limited_1) (h2:G.findR g2=some R_dag_Check_1) (h3:G.findR g3=some (R_slices_IndexFunc_Commit_Commit g1 g2)):RSpec.Ok P f (R_slices_ContainsFunc_Commit_Commit g1 g2):=by
  refine RF.ok hc.call fun x hx=>hc.rcalls hG rfl ?_
  obtain⟨l,b⟩:=x
  obtain⟨hl,hne⟩:=hx
  simp only at hl
  have hfa:=findIdx_any l (conP b)
  have hcall:eRCall G [] 0 g3 [.d (Rep.to l),.fn (.func (if b then g1 else g2)) [] []]=⟨True,[],.d (.int .i64 (match l.findIdx? (conP b) with | some i=>(i:Int) | none=>-1))⟩:=by
    cases b
    · simp[eRCall,h3,hl,hne,hne.symm]
    · simp[eRCall,h3,hl,hne]
  simp at hcall
  simp[x_slices_ContainsFunc_Commit_Commit,startA,hcall]
  exact FinR.done (by simp) (by simp) rfl (by simp[resOf,resE,hfa]) (by simp) (by simp)
def limB (g:List CommitT):Bool:=decide (g.length≤300) && !(g.any (conP true))
@[simp] def S_dag_limited:List D→Prop × D:=spec1 (α:=List CommitT) (fun g=>g.length≤1000) (fun g=>.bool (limB g))
theorem ct_dag_limited {P:Program} {f g1 g2 g3:Nat} {G:Gam} (h:CodeOf P f 1 2 [1] (x_dag_limited g1 g2)) (hG:GamOk P G) (h1:G.findR g1=some (R_slices_ContainsFunc_Commit_Commit g2 g3)) (hne:decide (g2=g3)=false):Has P f S_dag_limited:=h.has1 hG fun g hp=>by
  have hne:g2≠g3:=of_decide_eq_false hne
  by_cases c:(g.length:Int)≤300
  · simp[x_dag_limited,h1,eRCall,c,hp,hne,limB,show g.length≤300 by omega]
  · simp[x_dag_limited,c,limB,show ¬g.length≤300 by omega]
def relB (n:Nat) (ps:List Int):Bool:=ps.all (fun p=>decide (0≤p∧p<(n:Int))) && decide ps.Nodup
def relG (g:List CommitT):Bool:=g.all fun c=>relB g.length c.parents
def relP (n:Nat) (ps:List Int) (j:Nat):Bool:=(ps.take j).all (fun p=>decide (0≤p∧p<(n:Int))) && decide (ps.take j).Nodup
theorem relP_succ {n:Nat} {ps:List Int} {j:Nat} (h:j<ps.length):relP n ps (j+1)=(relP n ps j && decide (0≤ps[j]∧ps[j]<(n:Int)) && !decide (ps[j]∈ps.take j)):=by
  unfold relP
  rw[List.take_succ_eq_append_getElem h,List.all_append]
  have e:decide ((ps.take j++[ps[j]]).Nodup)=(decide (ps.take j).Nodup && !decide (ps[j]∈ps.take j)):=by
    rw[Bool.eq_iff_iff,Bool.and_eq_true,decide_eq_true_eq,decide_eq_true_eq,List.nodup_append,Bool.not_eq_true',decide_eq_false_iff_not]
    constructor
    · rintro⟨h1,_,h3⟩
      exact⟨h1,fun hm=>h3 _ hm _ (by simp) rfl⟩
    · rintro⟨h1,h2⟩
      refine⟨h1,by simp,fun a ha b hb e=>?_⟩
      simp at hb
      subst hb
      subst e
      exact h2 ha
  rw[e]
  simp only[List.all_cons,List.all_nil,Bool.and_true]
  cases (ps.take j).all (fun p=>decide (0≤p∧p<(n:Int))) <;> cases decide (ps.take j).Nodup <;> cases decide (0≤ps[j]∧ps[j]<(n:Int)) <;> rfl
theorem relP_le {n:Nat} {ps:List Int} {j:Nat} (h:relP n ps j=false):relB n ps=false:=by
  cases hb:relB n ps with
  | false=>rfl
  | true =>
    unfold relB at hb
    unfold relP at h
    rw[Bool.and_eq_true,List.all_eq_true,decide_eq_true_eq] at hb
    have h1:(ps.take j).all (fun p=>decide (0≤p∧p<(n:Int)))=true:=List.all_eq_true.2 fun p hp=>hb.1 p (List.mem_of_mem_take hp)
    have h2:(ps.take j).Nodup:=hb.2.sublist (List.take_sublist _ _)
    rw[h1] at h
    simp[h2] at h
@[simp] def S_dag_related:List D→Prop × D:=spec1 (α:=List CommitT) (fun g=>g.length≤1000∧∀c,c∈g→c.parents.length≤1000000) (fun g=>.bool (relG g))
theorem ct_dag_related {P:Program} {f g1:Nat} {G:Gam} (h:CodeOf P f 1 14 [1] (x_dag_related g1)) (hG:GamOk P G) (h1:G.find g1=some S_slices_Contains_int_int):Has P f S_dag_related:=h.has1 hG fun g hp=>by
  obtain⟨p1,p2⟩:=hp
  simp[x_dag_related]
  refine vc_lp (σ:=Nat) (fun i=>i≤g.length∧∀k (h:k<g.length),k<i→relB g.length g[k].parents=true) (fun i=>g.length-i)
    (fun i=>[.d (Rep.to g),.any,.any,.any,.any,.d (Rep.to g),.d (.int .i64 g.length),.d (.int .i64 i),.any,.any,.any,.any,.any,.any]) (fun _=>[]) 0 (by simp) (by simp) ⟨by simp,by simp⟩ ?_
  rintro i ⟨hi,hm⟩
  by_cases hil:i<g.length
  · have w1:IntKind.i64.wrap ((i:Int)+1)=(i:Int)+1:=wrap_in (by omega) (by omega)
    have hpl:=p2 _ (List.getElem_mem hil)
    obtain⟨ps,dt,fs⟩:CommitT:=g[i]
    generalize hci:g[i]=ci at *
    obtain⟨ps,dt,fs⟩:=ci
    simp only at hpl
    simp[hil,getD_map,hci]
    refine vc_lp (σ:=Nat) (fun j=>j≤ps.length∧relP g.length ps j=true) (fun j=>ps.length-j)
      (fun j=>[.d (Rep.to g),.any,.ref 0 0 0 0,.any,.any,.d (Rep.to g),.d (.int .i64 g.length),.d (.int .i64 i),.any,.d (Rep.to ps),.d (.int .i64 ps.length),.d (.int .i64 j),.any,.any]) (fun _=>[.cells 0 3 [.d (Rep.to (⟨ps,dt,fs⟩:CommitT))]]) 0 (by simp) (by simp) ⟨by simp,by simp[relP]⟩ ?_
    rintro j ⟨hj,hr⟩
    by_cases hjl:j<ps.length
    · have w2:IntKind.i64.wrap ((j:Int)+1)=(j:Int)+1:=wrap_in (by omega) (by omega)
      have hs:=relP_succ (n:=g.length) hjl
      rw[hr,Bool.true_and] at hs
      have hbad:relP g.length ps (j+1)=false→relG g=false:=fun h=>by
        have h2:=relP_le h
        unfold relG
        rw[List.all_eq_false]
        refine⟨g[i],List.getElem_mem hil,?_⟩
        rw[hci,h2]
        simp
      by_cases q1:ps[j]<0
      · have hz:=hbad (by rw[hs];simp;omega)
        simp[hjl,getD_map,q1,hz]
      · by_cases q2:(g.length:Int)≤ps[j]
        · have hz:=hbad (by rw[hs];simp;omega)
          simp[hjl,getD_map,q1,q2,hz]
        · by_cases q3:ps[j]∈ps.take j
          · have hz:=hbad (by rw[hs];simp[q3])
            simp[hjl,getD_map,q1,q2,h1,hz]
            exact⟨by omega,by omega,fun h=>absurd q3 h⟩
          · have hz:relP g.length ps (j+1)=true:=by rw[hs];simp[q3];omega
            simp[hjl,getD_map,q1,q2,h1,q3,w2]
            exact⟨by omega,by omega,Nxt.mk (j+1) (by omega) (by simp) (by simp) ⟨by omega,hz⟩⟩
    · have h9:j=ps.length:=by omega
      subst h9
      have hz:relB g.length ps=true:=by unfold relP at hr;rw[List.take_length] at hr;exact hr
      have hnx:∀k (h:k<g.length),k<i+1→relB g.length g[k].parents=true:=fun k h hk=>by
        by_cases e2:k=i
        · subst e2;rw[hci];exact hz
        · exact hm k h (by omega)
      simp[w1]
      exact Nxt.mk (i+1) (by omega) (by simp) (by simp) ⟨by omega,hnx⟩
  · have h9:i=g.length:=by omega
    subst h9
    have hz:relG g=true:=by
      unfold relG
      rw[List.all_eq_true]
      intro c hc
      obtain⟨k,hk,rfl⟩:=List.mem_iff_getElem.1 hc
      exact hm k hk hk
    simp[hz]
def parG (g:List CommitT):List (List Int):=g.map CommitT.parents
theorem parG_len (g:List CommitT):(parG g).length=g.length:=by simp[parG]
theorem parG_get {g:List CommitT} {c:Nat} (h:c<g.length):parV (parG g) c=g[c].parents:=by simp[parV,parG,List.getD,h]
theorem relG_ok {g:List CommitT} (h:relG g=true):DagOk (parG g):=by
  refine⟨fun c hc p hp=>?_⟩
  rw[parG_len] at hc ⊢
  rw[parG_get hc] at hp
  unfold relG at h
  rw[List.all_eq_true] at h
  have:=h _ (List.getElem_mem hc)
  unfold relB at this
  rw[Bool.and_eq_true,List.all_eq_true] at this
  simpa using this.1 p hp
def cntC (l:List Int):List A:=l.map fun x=>.d (.int .i64 x)
theorem cntC_len (l:List Int):(cntC l).length=l.length:=by simp[cntC]
theorem cntC_get {l:List Int} {i:Nat} (h:i<l.length):(cntC l)[i]?=some (.d (.int .i64 l[i])):=by simp[cntC,h]
theorem cntC_set (l:List Int) (i:Nat) (x:Int):(cntC l).set i (.d (.int .i64 x))=cntC (l.set i x):=by simp[cntC,List.map_set]
theorem cntC_under (l:List Int) (n:Nat):∀x,x∈cntC l→A.under n x=true:=by
  intro x hx
  obtain⟨y,_,rfl⟩:=List.mem_map.1 hx
  rfl
def cntA (g:List (List Int)) (a j:Nat) (i:Int):Nat:=sumN (fun c=>(parV g c).count i) a+((parV g a).take j).count i
def cntL2 (g:List (List Int)) (a j:Nat):List Int:=(List.range g.length).map fun (i:Nat)=>((cntA g a j (i:Int):Nat):Int)
theorem cntL2_len (g:List (List Int)) (a j:Nat):(cntL2 g a j).length=g.length:=by simp[cntL2]
theorem cntA_succ {g:List (List Int)} {a j:Nat} (h:j<(parV g a).length) (i:Int):cntA g a (j+1) i=cntA g a j i+if (parV g a)[j]=i then 1 else 0:=by
  unfold cntA
  rw[List.take_succ_eq_append_getElem h,List.count_append]
  simp[List.count_cons]
  omega
theorem cntL2_step {g:List (List Int)} {a j:Nat} (h:j<(parV g a).length) {p:Nat} (hp:(parV g a)[j]=(p:Int)) (hpl:p<g.length):(cntL2 g a j).set p ((cntA g a j p:Int)+1)=cntL2 g a (j+1):=by
  apply List.ext_getElem
  · simp[cntL2]
  · intro i h1 h2
    simp[cntL2] at h2
    simp only[cntL2,List.getElem_set,List.getElem_map,List.getElem_range]
    rw[cntA_succ h]
    by_cases e:p=i
    · subst e
      rw[if_pos rfl,if_pos hp]
      push_cast
      rfl
    · rw[if_neg e,if_neg (by rw[hp];omega)]
      simp
theorem cntL2_next (g:List (List Int)) (a:Nat):cntL2 g a (parV g a).length=cntL2 g (a+1) 0:=by
  unfold cntL2 cntA
  refine List.map_congr_left fun i _=>?_
  rw[List.take_length,sumN_succ]
  simp
theorem cntL2_zero (g:List (List Int)):cntL2 g 0 0=List.replicate g.length 0:=by
  unfold cntL2 cntA
  apply List.ext_getElem
  · simp
  · intro i h1 h2
    simp[sumN]
theorem cntL2_end (g:List (List Int)):cntL2 g g.length 0=cnt0 g:=by
  unfold cntL2 cnt0 cntA remV
  refine List.map_congr_left fun i _=>?_
  simp
theorem cntA_le (g:List (List Int)) {B:Nat} (hB:∀c,(parV g c).length≤B) (a j:Nat) (i:Int):cntA g a j i≤B * a+B:=by
  have h1:∀a,sumN (fun c=>(parV g c).count i) a≤B * a:=by
    intro a
    induction a with
    | zero=>simp[sumN]
    | succ a ih =>
      rw[sumN_succ,Nat.mul_succ]
      have:=Nat.le_trans (List.count_le_length (a:=i) (l:=parV g a)) (hB a)
      omega
  unfold cntA
  have h2:((parV g a).take j).count i≤B:=Nat.le_trans List.count_le_length (Nat.le_trans (by simp;omega) (hB a))
  have:=h1 a
  omega
theorem out0_succ (g:List (List Int)) (n:Nat):out0 g (n+1)=out0 g n++(if remV g (fun _=>0) (n:Int)=0 then [(n:Int)] else []):=by
  unfold out0
  rw[List.range_succ,List.filter_append,List.map_append,List.filter_cons,List.filter_nil]
  congr 1
  by_cases h:remV g (fun _=>0) (n:Int)=0 <;> simp[h]
theorem out0_len (g:List (List Int)):∀n,(out0 g n).length≤n
  | 0=>by simp[out0]
  | n+1=>by
    have:=out0_len g n
    rw[out0_succ,List.length_append]
    split <;> simp <;> omega
@[simp] def S_dag_Upward:List D→Prop × D:=spec1 (α:=List CommitT) (fun g=>g.length≤1000∧(∀c,c∈g→c.parents.length≤1000)∧relG g=true) (fun g=>Rep.to (upV (parG g)))
theorem ct_dag_Upward {P:Program} {f:Nat} {G:Gam} (h:CodeOf P f 1 29 [1] x_dag_Upward) (hG:GamOk P G):Has P f S_dag_Upward:=h.has1 hG fun g hp=>by
  obtain⟨p1,p2,p3⟩:=hp
  have hok:=relG_ok p3
  have hgl:=parG_len g
  have hpg:=fun c (h:c<g.length)=>parG_get h
  have hB:∀c,(parV (parG g) c).length≤1000:=fun c=>by
    rcases Nat.lt_or_ge c g.length with h | h
    · rw[hpg c h];exact p2 _ (List.getElem_mem h)
    · unfold parV;rw[List.getD,List.getElem?_eq_none (by rw[hgl];omega)];simp
  generalize hGP:parG g=gp at *
  simp[x_dag_Upward]
  refine⟨⟨by unfold room;omega,by omega⟩,?_⟩
  refine vc_lp (σ:=Nat) (fun a=>a≤g.length) (fun a=>g.length-a)
    (fun a=>[.d (Rep.to g),.any,.own 0 0 0 g.length,.any,.any,.any,.any,.any,.any,.any,.d (Rep.to g),.d (.int .i64 g.length),.d (.int .i64 a),.any,.any,.any,.any,.any,.any,.any,.any,.any,.any,.any,.any,.any,.any,.any,.any])
    (fun a=>[.cells 0 1 (cntC (cntL2 gp a 0))]) 0 (by simp) ?_ (by simp) ?_ (hc:=.inr ⟨by simp,by simpa using cntC_under _ _⟩)
  · rw[cntL2_zero,hgl]
    simp[cntC]
  intro a ha
  by_cases hal:a<g.length
  · have w1:IntKind.i64.wrap ((a:Int)+1)=(a:Int)+1:=wrap_in (by omega) (by omega)
    have hpa:=hpg a hal
    have hpsl:=p2 _ (List.getElem_mem hal)
    generalize hca:g[a]=ca at *
    obtain⟨ps,dt,fs⟩:=ca
    simp only at hpa hpsl
    simp[hal,getD_map,hca]
    refine vc_lp (σ:=Nat) (fun j=>j≤ps.length) (fun j=>ps.length-j)
      (fun j=>[.d (Rep.to g),.any,.own 0 0 0 g.length,.any,.any,.any,.any,.any,.any,.any,.d (Rep.to g),.d (.int .i64 g.length),.d (.int .i64 a),.any,.d (Rep.to ps),.d (.int .i64 ps.length),.d (.int .i64 j),.any,.any,.any,.any,.any,.any,.any,.any,.any,.any,.any,.any])
      (fun j=>[.cells 0 1 (cntC (cntL2 gp a j))]) 0 (by simp) (by simp) (by simp) ?_ (hc:=.inr ⟨by simp,by simpa using cntC_under _ _⟩)
    intro j hj
    by_cases hjl:j<ps.length
    · have w2:IntKind.i64.wrap ((j:Int)+1)=(j:Int)+1:=wrap_in (by omega) (by omega)
      have hjp:j<(parV gp a).length:=by rw[hpa];exact hjl
      have hin:=hok.rng a (by omega) ps[j] (by rw[hpa];exact List.getElem_mem hjl)
      obtain⟨p,hp⟩:=Int.eq_ofNat_of_zero_le hin.1
      have hpl:p<gp.length:=by omega
      have hle:=cntA_le gp hB a j p
      have hmul:1000 * a≤1000000:=by omega
      have hst:=cntL2_step hjp (p:=p) (by simp only[hpa];exact hp) hpl
      have hlen:=cntL2_len gp a j
      have hgv:(cntL2 gp a j)[p]?=some ((cntA gp a j p:Nat):Int):=by simp[cntL2,hpl]
      have hcl:=cntC_len (cntL2 gp a j)
      have hcg:(cntC (cntL2 gp a j))[p]?=some (.d (.int .i64 (cntA gp a j p))):=by simp[cntC,hgv]
      have hcs:=cntC_set (cntL2 gp a j) p ((cntA gp a j p:Int)+1)
      rw[hst] at hcs
      have w3:IntKind.i64.wrap ((cntA gp a j p:Int)+1)=(cntA gp a j p:Int)+1:=wrap_in (by omega) (by omega)
      have hcg2:∀h:p<(cntC (cntL2 gp a j)).length,(cntC (cntL2 gp a j))[p]'h=.d (.int .i64 (cntA gp a j p)):=fun h=>by obtain⟨_,h9⟩:=List.getElem?_eq_some_iff.1 hcg;exact h9
      have hpg':p<g.length:=by omega
      simp[hjl,getD_map,hp,hpg',hcl,hlen,hgl,hcg,hcg2,w2,w3,hcs]
      exact Nxt.mk (j+1) (by omega) (by simp) (by simp) (by omega) (by simp) (.inl (by simp))
    · have h9:j=ps.length:=by omega
      subst h9
      have hnx:=cntL2_next gp a
      rw[hpa] at hnx
      rw[hnx]
      simp[w1]
      exact Nxt.mk (a+1) (by omega) (by simp) (by simp) (by omega) (by simp) (.inl (by simp))
  · have h9:a=g.length:=by omega
    subst h9
    have he:=cntL2_end gp
    rw[hgl] at he
    rw[he]
    simp
    refine vc_lp (σ:=Nat) (fun i=>i≤g.length) (fun i=>g.length-i)
      (fun i=>[.d (Rep.to g),.any,.own 0 0 0 g.length,.any,.any,.gr 1 1 ((out0 gp i).map Rep.to),.any,.any,.any,.any,.any,.any,.any,.any,.any,.any,.any,.any,.own 0 0 0 g.length,.d (.int .i64 g.length),.d (.int .i64 i),.any,.any,.any,.any,.any,.any,.any,.any])
      (fun i=>[.cells 0 1 (cntC (cnt0 gp)),.tip (out0 gp i).length]) 0 (by simp[out0]) (by simp[out0]) (by simp) ?_ (hc:=.inl (by simp))
    intro i hi
    by_cases hil:i<g.length
    · have w1:IntKind.i64.wrap ((i:Int)+1)=(i:Int)+1:=wrap_in (by omega) (by omega)
      have hcl:=cntC_len (cnt0 gp)
      have hc0:(cnt0 gp).length=gp.length:=by simp[cnt0]
      have hgv:(cnt0 gp)[i]?=some ((remV gp (fun _=>0) (i:Int):Nat):Int):=by simp[cnt0,show i<gp.length by omega]
      have hcg:(cntC (cnt0 gp))[i]?=some (.d (.int .i64 ((remV gp (fun _=>0) (i:Int):Nat):Int))):=by simp[cntC,hgv]
      have hcg2:∀h:i<(cntC (cnt0 gp)).length,(cntC (cnt0 gp))[i]'h=.d (.int .i64 ((remV gp (fun _=>0) (i:Int):Nat):Int)):=fun h=>by obtain⟨_,h9⟩:=List.getElem?_eq_some_iff.1 hcg;exact h9
      have hs:=out0_succ gp i
      have hol:=out0_len gp i
      have hcu:=cntC_under (cnt0 gp) 2
      by_cases hz:remV gp (fun _=>0) (i:Int)=0
      · rw[if_pos hz] at hs
        simp[hil,hcl,hc0,hgl,hcg,hcg2,hz,w1]
        exact⟨by unfold room;omega,Nxt.mk (i+1) (by omega) (by simp[hs]) (by simp[hs]) (by omega) (by simp) (.inr ⟨by simp,by simpa using hcu⟩)⟩
      · rw[if_neg hz,List.append_nil] at hs
        simp[hil,hcl,hc0,hgl,hcg,hcg2,hz,w1]
        exact Nxt.mk (i+1) (by omega) (by simp[hs]) (by simp[hs]) (by omega) (by simp) (.inl (by simp))
    · have h9:i=g.length:=by omega
      subst h9
      have hinv0:=out0_inv gp
      rw[hgl] at hinv0
      have hup:(upGo gp (g.length+1) (cnt0 gp,out0 gp g.length) 0).2=upV gp:=by unfold upV;rw[hgl]
      simp
      refine vc_lp (σ:=(List Int × List Int) × Nat × Nat) (fun x=>UpInv gp x.1.1 x.1.2 x.2.1 0∧x.2.1≤x.1.2.length∧x.2.2+x.2.1=g.length+1∧(upGo gp x.2.2 x.1 x.2.1).2=upV gp) (fun x=>g.length+1-x.2.1)
        (fun x=>[.d (Rep.to g),.any,.own 0 0 0 g.length,.any,.any,.gr 1 1 (x.1.2.map Rep.to),.any,.any,.d (.int .i64 x.2.1),.any,.any,.any,.any,.any,.any,.any,.any,.any,.any,.any,.any,.any,.any,.any,.any,.any,.any,.any,.any])
        (fun x=>[.cells 0 1 (cntC x.1.1),.tip x.1.2.length]) ((cnt0 gp,out0 gp g.length),0,g.length+1) (by simp) (by simp) ⟨hinv0,by simp,by simp,hup⟩ ?_ (hc:=.inl (by simp))
      rintro⟨⟨cnt,out⟩,k,fu⟩ ⟨hinv,hko,hfu,hgo⟩
      simp only at hinv hko hfu hgo
      have hle:=hinv.le
      by_cases hkl:k<out.length
      · have w1:IntKind.i64.wrap ((k:Int)+1)=(k:Int)+1:=wrap_in (by omega) (by omega)
        obtain⟨fu,rfl⟩:∃q,fu=q+1:=⟨fu-1,by omega⟩
        have hkr:=hinv.rng _ (List.getElem_mem hkl)
        obtain⟨c,hc⟩:=Int.eq_ofNat_of_zero_le hkr.1
        have hcl:c<g.length:=by omega
        have hk?:out[k]?=some (c:Int):=by rw[List.getElem?_eq_getElem hkl,hc]
        have hpa:=hpg c hcl
        have hpsl:=p2 _ (List.getElem_mem hcl)
        rw[upGo,hk?] at hgo
        simp only[Int.toNat_natCast] at hgo
        rw[hpa] at hgo
        simp[hkl,getD_map,hc,hcl]
        generalize hps:g[c].parents=ps at *
        refine vc_lp (σ:=(List Int × List Int) × Nat) (fun x=>UpInv gp x.1.1 x.1.2 k x.2∧x.1.2[k]?=some (c:Int)∧x.2≤ps.length∧(ps.drop x.2).foldl decP x.1=ps.foldl decP (cnt,out)) (fun x=>ps.length-x.2)
          (fun x=>[.d (Rep.to g),.any,.own 0 0 0 g.length,.any,.any,.gr 1 1 (x.1.2.map Rep.to),.any,.any,.d (.int .i64 k),.any,.any,.any,.any,.any,.any,.any,.any,.any,.any,.any,.any,.any,.any,.any,.d (Rep.to ps),.d (.int .i64 ps.length),.d (.int .i64 x.2),.any,.any])
          (fun x=>[.cells 0 1 (cntC x.1.1),.tip x.1.2.length]) ((cnt,out),0) (by simp) (by simp) ⟨hinv,hk?,by simp,by simp⟩ ?_ (hc:=.inl (by simp))
        rintro⟨⟨cn,ou⟩,j⟩ ⟨hi2,hk2,hj,hfold⟩
        simp only at hi2 hk2 hj hfold
        have hle2:=hi2.le
        have hcnl:=hi2.len
        by_cases hjl:j<ps.length
        · have w2:IntKind.i64.wrap ((j:Int)+1)=(j:Int)+1:=wrap_in (by omega) (by omega)
          have hjp:j<(parV gp c).length:=by rw[hpa];exact hjl
          have hin:=hok.rng c (by omega) ps[j] (by rw[hpa];exact List.getElem_mem hjl)
          obtain⟨p,hp⟩:=Int.eq_ofNat_of_zero_le hin.1
          obtain⟨s1,s2,s3,s4⟩:=hi2.step hok hk2 hjp (p:=p) (by simp only[hpa];exact hp)
          have hpn:p<cn.length:=by omega
          have hgp':cn.getD p 0=cn[p]:=by simp[List.getD,hpn]
          have hcv:=hi2.cv p s1
          have hmx:remV gp (seenV gp ou k j) p≤1000 * gp.length:=by
            unfold remV
            have:∀n,sumN (fun c=>((parV gp c).drop (seenV gp ou k j c)).count (p:Int)) n≤1000 * n:=by
              intro n
              induction n with
              | zero=>simp[sumN]
              | succ n ih =>
                rw[sumN_succ,Nat.mul_succ]
                have h8:=List.count_le_length (a:=(p:Int)) (l:=(parV gp n).drop (seenV gp ou k j n))
                have h9:=hB n
                simp only[List.length_drop] at h8
                omega
            exact this _
          rw[hgp'] at s2 s3 s4 hcv
          have w3:IntKind.i64.wrap (cn[p]-1)=cn[p]-1:=wrap_in (by omega) (by omega)
          have hcl2:=cntC_len cn
          have hcg:=cntC_get hpn
          have hcg2:∀h:p<(cntC cn).length,(cntC cn)[p]'h=.d (.int .i64 cn[p]):=fun h=>by obtain⟨_,h9⟩:=List.getElem?_eq_some_iff.1 hcg;exact h9
          have hcs:=cntC_set cn p (cn[p]-1)
          have hsg:(cntC (cn.set p (cn[p]-1)))[p]?=some (.d (.int .i64 (cn[p]-1))):=by simp[cntC,hpn]
          have hcl3:=cntC_len (cn.set p (cn[p]-1))
          have hsg2:∀h:p<(cntC (cn.set p (cn[p]-1))).length,(cntC (cn.set p (cn[p]-1)))[p]'h=.d (.int .i64 (cn[p]-1)):=fun h=>by obtain⟨_,h9⟩:=List.getElem?_eq_some_iff.1 hsg;exact h9
          have hdec:decP (cn,ou) (p:Int)=(cn.set p (cn[p]-1),if cn[p]-1=0 then ou++[(p:Int)] else ou):=by
            unfold decP
            simp only[Int.toNat_natCast]
            rw[hgp']
          rw[List.drop_eq_getElem_cons hjl,List.foldl_cons,hp,hdec] at hfold
          have hpg':p<g.length:=by omega
          have hkou:k<ou.length:=by
            rcases Nat.lt_or_ge k ou.length with h' | h'
            · exact h'
            · rw[List.getElem?_eq_none (by omega)] at hk2;cases hk2
          by_cases hz:cn[p]-1=0
          · rw[if_pos hz] at hfold
            have hi3:=s3 hz
            rw[hz] at hi3 hfold hcs
            have w0:IntKind.i64.wrap 0=0:=rfl
            have hcl0:=cntC_len (cn.set p 0)
            have hsg0:(cntC (cn.set p 0))[p]?=some (.d (.int .i64 0)):=by simp[cntC,hpn]
            have hsg3:∀h:p<(cntC (cn.set p 0)).length,(cntC (cn.set p 0))[p]'h=.d (.int .i64 0):=fun h=>by obtain⟨_,h9⟩:=List.getElem?_eq_some_iff.1 hsg0;exact h9
            simp[hjl,getD_map,hp,hpg',hpn,hcl2,hcg,hcg2,w2,w0,hcs,hsg0,hsg3,hcl0,hz]
            exact⟨by unfold room;omega,Nxt.mk ((cn.set p 0,ou++[(p:Int)]),j+1) (by simp only;omega) (by simp) (by simp) ⟨hi3,by simp only;rw[List.getElem?_append_left hkou];exact hk2,by simp only;omega,hfold⟩ (by simp) (.inr ⟨by simp,by simpa using cntC_under (cn.set p 0) 2⟩)⟩
          · rw[if_neg hz] at hfold
            have hi3:=s4 hz
            simp[hjl,getD_map,hp,hpg',hpn,hcl2,hcg,hcg2,w2,w3,hcs,hsg,hsg2,hcl3,hz]
            exact Nxt.mk ((cn.set p (cn[p]-1),ou),j+1) (by simp only;omega) (by simp) (by simp) ⟨hi3,hk2,by simp only;omega,hfold⟩ (by simp) (.inl (by simp))
        · have h9:j=ps.length:=by omega
          subst h9
          rw[List.drop_length,List.foldl_nil] at hfold
          have hi3:=hi2.next hk2 (by rw[hpa];exact Nat.le_refl _)
          have hkou:k<ou.length:=by
            rcases Nat.lt_or_ge k ou.length with h' | h'
            · exact h'
            · rw[List.getElem?_eq_none (by omega)] at hk2;cases hk2
          rw[← hfold] at hgo
          simp[w1]
          exact Nxt.mk ((cn,ou),k+1,fu) (by simp only;omega) (by simp) (by simp) ⟨hi3,by simp only;omega,by simp only;omega,hgo⟩ (by simp) (.inl (by simp))
      · have h9:k=out.length:=by omega
        subst h9
        have:upGo gp fu (cnt,out) out.length=(cnt,out):=by
          cases fu with
          | zero=>rfl
          | succ fu=>unfold upGo;simp
        rw[this] at hgo
        simp only at hgo
        simp[hgo]
def splitB:List UInt8→List (List UInt8)
  | []=>[[]]
  | c::r=>if c=47 then []::splitB r else match splitB r with
    | x::xs=>(c::x)::xs
    | []=>[[c]]
theorem splitB_ne (t:List UInt8):splitB t≠[]:=by
  cases t with
  | nil=>simp[splitB]
  | cons c r =>
    unfold splitB
    split
    · simp
    · split <;> simp
theorem split_idx (t:List UInt8):(Lib.indexByte t 47=-1∧splitB t=[t])∨∃j:Nat,Lib.indexByte t 47=j∧j<t.length∧splitB t=t.take j::splitB (t.drop (j+1)):=by
  induction t with
  | nil=>exact .inl ⟨rfl,rfl⟩
  | cons c r ih =>
    by_cases h:c=47
    · subst h
      refine .inr ⟨0,by simp[Lib.indexByte],by simp,?_⟩
      simp[splitB]
    · rcases ih with ⟨h1,h2⟩ | ⟨j,h1,h2,h3⟩
      · refine .inl ⟨by simp[Lib.indexByte,h,h1],?_⟩
        simp[splitB,h,h2]
      · refine .inr ⟨j+1,?_,by simpa using h2,?_⟩
        · simp[Lib.indexByte,h,h1]
          try omega
        · simp[splitB,h,h3]
open Go
theorem bytesLess_lt:∀(x y:List UInt8),Op.bytesLess x y=decide (x<y)
  | [],[]=>by simp[Op.bytesLess]
  | _::_,[]=>by simp[Op.bytesLess]
  | [],_::_=>by simp[Op.bytesLess]
  | a::x,b::y=>by
    rw[Op.bytesLess,bytesLess_lt x y]
    simp only[List.cons_lt_cons_iff]
    by_cases h1:a<b <;> by_cases h2:a=b <;> by_cases h3:x<y <;> simp[h1,h2,h3]
def badP (x:List UInt8):Bool:=x == [] || x == [46] || x == [46,46]
def pathE (p:List UInt8):Int:=if 200<(p.length:Int)∨0≤Lib.indexByte p 0 then 210 else if (splitB p).any badP then 210 else 0
def aboveB (a b:List UInt8):Bool:=decide (a.length<b.length) && (decide (b.take a.length=a) && decide (b.getD a.length 0=47))
def ordP (ps:List (List UInt8)) (x:List UInt8):Bool:=ps.all fun y=>Op.bytesLess y x && !aboveB y x
def refOrd (ps:List (List UInt8)):Bool:=(List.range ps.length).all fun i=>ordP (ps.take i) (ps.getD i [])
def nestV (ps:List (List UInt8)) (x:List UInt8):Bool:=(List.range x.length).any fun i=>decide (x.take i∈ps) && decide (x.getD i 0=47)
def ascP (ps:List (List UInt8)) (i:Nat):Bool:=decide (i=0) || Op.bytesLess (ps.getD (i-1) []) (ps.getD i [])
def ordV (ps:List (List UInt8)):Bool:=(List.range ps.length).all fun i=>ascP ps i && !nestV ps (ps.getD i [])
theorem nestV_iff (ps:List (List UInt8)) (x:List UInt8):nestV ps x=true↔∃y,y∈ps∧aboveB y x=true:=by
  unfold nestV aboveB
  rw[List.any_eq_true]
  constructor
  · rintro⟨i,hi,h⟩
    rw[List.mem_range] at hi
    simp only[Bool.and_eq_true,decide_eq_true_eq] at h
    have hl:(x.take i).length=i:=by simp;omega
    refine⟨x.take i,h.1,?_⟩
    rw[hl]
    simp only[Bool.and_eq_true,decide_eq_true_eq]
    exact⟨hi,trivial,h.2⟩
  · rintro⟨y,hy,h⟩
    simp only[Bool.and_eq_true,decide_eq_true_eq] at h
    refine⟨y.length,List.mem_range.2 h.1,?_⟩
    simp only[Bool.and_eq_true,decide_eq_true_eq]
    exact⟨by rw[h.2.1];exact hy,h.2.2⟩
theorem bl_trans {a b c:List UInt8} (h:Op.bytesLess a b=true) (k:Op.bytesLess b c=true):Op.bytesLess a c=true:=by
  rw[bytesLess_lt] at *
  simp only[decide_eq_true_eq] at *
  exact List.lt_trans h k
theorem bl_irrefl (a:List UInt8):Op.bytesLess a a=false:=by
  rw[bytesLess_lt]
  simp
theorem bl_above {a b:List UInt8} (h:aboveB a b=true):Op.bytesLess b a=false:=by
  unfold aboveB at h
  simp only[Bool.and_eq_true,decide_eq_true_eq] at h
  obtain⟨h1,h2,_⟩:=h
  rw[bytesLess_lt]
  simp only[decide_eq_false_iff_not]
  rw[← List.take_append_drop a.length b,h2]
  intro hlt
  have:∀(x y:List UInt8),¬(x++y<x):=by
    intro x
    induction x with
    | nil=>intro y;simp
    | cons c x ih =>
      intro y h
      rw[List.cons_append,List.cons_lt_cons_iff] at h
      rcases h with h | h
      · exact absurd h (by simp)
      · exact ih y h.2
  exact this _ _ hlt
theorem asc_all {ps:List (List UInt8)} (h:∀i,i<ps.length→ascP ps i=true):∀i k,k<i→i<ps.length→Op.bytesLess (ps.getD k []) (ps.getD i [])=true:=by
  intro i
  induction i with
  | zero=>intro k hk;omega
  | succ i ih =>
    intro k hk hi
    have h1:=h (i+1) hi
    unfold ascP at h1
    simp only[Nat.add_one_ne_zero,decide_false,Bool.false_or,Nat.add_sub_cancel] at h1
    by_cases e:k=i
    · subst e;exact h1
    · exact bl_trans (ih k (by omega) (by omega)) h1
theorem take_mem {α:Type} [Inhabited α] {l:List α} {d:α} {i:Nat} {y:α} (hi:i≤l.length):y∈l.take i↔∃k,k<i∧l.getD k d=y:=by
  rw[List.mem_take_iff_getElem]
  constructor
  · rintro⟨k,hk,e⟩
    refine⟨k,by omega,?_⟩
    rw[← e]
    simp[List.getD,show k<l.length by omega]
  · rintro⟨k,hk,e⟩
    refine⟨k,by omega,?_⟩
    rw[← e]
    simp[List.getD,show k<l.length by omega]
theorem ord_eq (ps:List (List UInt8)):ordV ps=refOrd ps:=by
  rw[Bool.eq_iff_iff]
  unfold ordV refOrd ordP
  simp only[List.all_eq_true,List.mem_range,Bool.and_eq_true,Bool.not_eq_true']
  constructor
  · intro h i hi y hy
    obtain⟨k,hk,rfl⟩:=(take_mem (d:=[]) (by omega)).1 hy
    refine⟨asc_all (fun j hj=>(h j hj).1) i k hk hi,?_⟩
    have h2:=(h i hi).2
    rw[← Bool.not_eq_true,nestV_iff] at h2
    rw[← Bool.not_eq_true]
    intro ha
    exact h2 ⟨_,by simp[List.getD,show k<ps.length by omega],ha⟩
  · intro h i hi
    have hasc:∀j,j<ps.length→ascP ps j=true:=by
      intro j hj
      unfold ascP
      by_cases e:j=0
      · simp[e]
      · have:=(h j hj (ps.getD (j-1) []) ((take_mem (d:=[]) (by omega)).2 ⟨j-1,by omega,rfl⟩)).1
        rw[this,Bool.or_true]
    refine⟨hasc i hi,?_⟩
    rw[← Bool.not_eq_true,nestV_iff]
    rintro⟨y,hy,ha⟩
    obtain⟨k,hk,rfl⟩:=List.mem_iff_getElem.1 hy
    have hgk:ps.getD k []=ps[k]:=by simp[List.getD,hk]
    rcases Nat.lt_trichotomy k i with hki | hki | hki
    · have:=(h i hi ps[k] ((take_mem (d:=[]) (by omega)).2 ⟨k,hki,hgk⟩)).2
      rw[ha] at this
      cases this
    · subst hki
      rw[← hgk] at ha
      unfold aboveB at ha
      simp at ha
    · have h1:=asc_all hasc k i hki hk
      rw[hgk,bl_above ha] at h1
      cases h1
def treeE (l:List FileT):Int:=if 200<l.length then 1 else if l.any (fun f=>decide (pathE f.path≠0)) then 210 else if ordV (l.map FileT.path)=true then (if l.any (fun f=>decide (checkT f.blob≠0)) then 1 else 0) else 211
def mapV (l:List FileT):List (D × D):=l.foldl (fun m f=>mset (.str f.path) (.str f.blob) m) []
theorem mapV_snoc (l:List FileT) (f:FileT):mapV (l++[f])=mset (.str f.path) (.str f.blob) (mapV l):=by
  unfold mapV
  rw[List.foldl_append]
  rfl
theorem mset_keys (k x:D) (P:D→Prop) (hk:P k):∀es:List (D × D),(∀e,e∈es→P e.1)→∀e,e∈mset k x es→P e.1
  | [],_,e,he=>by
    simp[mset] at he
    subst he
    exact hk
  | (a,y)::r,h,e,he=>by
    unfold mset at he
    split at he
    · rcases List.mem_cons.1 he with rfl | he
      · exact hk
      · exact h e (by simp[he])
    · rcases List.mem_cons.1 he with rfl | he
      · exact h _ (by simp)
      · exact mset_keys k x P hk r (fun e he=>h e (by simp[he])) e he
theorem mapV_keys (l:List FileT):∀e,e∈mapV l→∃s,e.1=.str s:=by
  have:∀(l:List FileT) (m:List (D × D)),(∀e,e∈m→∃s,e.1=D.str s)→∀e,e∈l.foldl (fun m f=>mset (.str f.path) (.str f.blob) m) m→∃s,e.1=D.str s:=by
    intro l
    induction l with
    | nil=>intro m h;exact h
    | cons f l ih=>intro m h;exact ih _ (mset_keys _ _ (fun k=>∃s,k=.str s) ⟨_,rfl⟩ m h)
  exact this l [] (by simp)
theorem mapV_ok (l:List FileT) (s:List UInt8):keysOk 1 (.str s) (mapV l):=by
  refine⟨rfl,fun e he=>?_⟩
  obtain⟨t,ht⟩:=mapV_keys l e he
  rw[ht]
  exact⟨rfl,trivial⟩
theorem mlook_mset (s t:List UInt8) (x:D):∀es:List (D × D),mlook (.str s) (mset (.str t) x es)=if s=t then some x else mlook (.str s) es
  | []=>by simp[mset,mlook,keyEq]
  | (a,y)::r=>by
    have ih:=mlook_mset s t x r
    unfold mset
    cases a with
    | str a =>
      simp only[keyEq,decide_eq_true_eq]
      by_cases h:t=a
      · subst h
        rw[if_pos rfl]
        simp only[mlook,keyEq,decide_eq_true_eq]
        by_cases h2:s=t <;> simp[h2]
      · rw[if_neg h]
        simp only[mlook,keyEq,decide_eq_true_eq,ih]
        by_cases h2:s=a
        · subst h2
          simp[show ¬s=t from fun e=>h e.symm]
        · simp[h2]
    | _=>simpa [mlook,keyEq] using ih
theorem mapV_some (l:List FileT) (s:List UInt8):(mlook (.str s) (mapV l)).isSome=decide (s∈l.map FileT.path):=by
  have:∀(n:Nat) (l:List FileT),l.length=n→(mlook (.str s) (mapV l)).isSome=decide (s∈l.map FileT.path):=by
    intro n
    induction n with
    | zero=>intro l hl;rw[List.length_eq_zero_iff] at hl;subst hl;rfl
    | succ n ih =>
      intro l hl
      have hne:l≠[]:=by intro h;subst h;simp at hl
      rw[← List.dropLast_concat_getLast hne,mapV_snoc,mlook_mset]
      have:=ih l.dropLast (by simp[hl])
      by_cases h:s=(l.getLast hne).path
      · simp[h]
      · rw[if_neg h,this]
        simp[h]
  exact this _ l rfl
end Go.AE
namespace Go.AE
@[simp] def S_tree_CheckPath:List D→Prop × D:=spec1 (α:=Str) (fun p=>p.length≤9223372036854775807) (fun p=>.int .i64 (pathE p))
def FileOk (f:FileT):Prop:=f.path.length≤9223372036854775807∧f.blob.length≤9223372036854775807
def FilesOk (l:List FileT):Prop:=l.length≤9223372036854775807∧∀f,f∈l→FileOk f
structure FileX where
  f:FileT
def filP (b:Bool) (f:FileT):Bool:=if b then decide (pathE f.path≠0) else decide (checkT f.blob≠0)
@[simp] def F_tree_Check_1:RF FileX where
  new:=0
  view a _:=⟨(a.getD 0 .any).gvd FileT⟩
  args x:=[.d (Rep.to x.f)]
  st _:=[]
  pre x:=FileOk x.f
  res x:=.d (.bool (filP true x.f))
  st' _:=[]
abbrev R_tree_Check_1:RSpec:=F_tree_Check_1.spec
theorem ct_tree_Check_1 {P:Program} {f g1:Nat} {G:Gam} (hc:CodeOf P f 1 3 [2] (x_tree_Check_1 g1)) (hG:GamOk P G) (h1:G.find g1=some S_tree_CheckPath):RSpec.Ok P f R_tree_Check_1:=by
  refine RF.ok hc.call fun x hx=>hc.rcalls hG rfl ?_
  obtain⟨⟨p,b⟩⟩:=x
  obtain⟨q1,q2⟩:=hx
  simp only at q1 q2
  by_cases e:pathE p=0
  · simp[x_tree_Check_1,startA,h1,q1,filP,e]
    exact FinR.done (by simp) (by simp) rfl (by simp[resOf,resE]) (by simp) (by simp)
  · simp[x_tree_Check_1,startA,h1,q1,filP,e]
    exact FinR.done (by simp) (by simp) rfl (by simp[resOf,resE]) (by simp) (by simp)
@[simp] def F_tree_Check_2:RF FileX where
  new:=0
  view a _:=⟨(a.getD 0 .any).gvd FileT⟩
  args x:=[.d (Rep.to x.f)]
  st _:=[]
  pre x:=FileOk x.f
  res x:=.d (.bool (filP false x.f))
  st' _:=[]
abbrev R_tree_Check_2:RSpec:=F_tree_Check_2.spec
theorem ct_tree_Check_2 {P:Program} {f g1:Nat} {G:Gam} (hc:CodeOf P f 1 3 [2] (x_tree_Check_2 g1)) (hG:GamOk P G) (h1:G.find g1=some S_text_Check):RSpec.Ok P f R_tree_Check_2:=by
  refine RF.ok hc.call fun x hx=>hc.rcalls hG rfl ?_
  obtain⟨⟨p,b⟩⟩:=x
  obtain⟨q1,q2⟩:=hx
  simp only at q1 q2
  by_cases e:checkT b=0
  · simp[x_tree_Check_2,startA,h1,q2,filP,e]
    exact FinR.done (by simp) (by simp) rfl (by simp[resOf,resE]) (by simp) (by simp)
  · simp[x_tree_Check_2,startA,h1,q2,filP,e]
    exact FinR.done (by simp) (by simp) rfl (by simp[resOf,resE]) (by simp) (by simp)
structure FilX where
  l:List FileT
  b:Bool
@[simp] def F_slices_IndexFunc_File_File (g1 g2:Nat):RF FilX where
  new:=0
  view a _:=⟨(a.getD 0 .any).gl FileT,decide ((a.getD 1 .any).gfn=g1)⟩
  args x:=[.d (Rep.to x.l),.fn (.func (if x.b then g1 else g2)) [] []]
  st _:=[]
  pre x:=FilesOk x.l∧g1≠g2
  res x:=.d (.int .i64 (match x.l.findIdx? (filP x.b) with | some i=>(i:Int) | none=>-1))
  st' _:=[]
abbrev R_slices_IndexFunc_File_File (g1 g2:Nat):RSpec:=(F_slices_IndexFunc_File_File g1 g2).spec
theorem ct_slices_IndexFunc_File_File {P:Program} {f g1 g2:Nat} {G:Gam} (hc:CodeOf P f 2 8 [2] x_slices_IndexFunc_File_File) (hG:GamOk P G) (h1:G.findR g1=some R_tree_Check_1) (h2:G.findR g2=some R_tree_Check_2):RSpec.Ok P f (R_slices_IndexFunc_File_File g1 g2):=by
  refine RF.ok hc.call fun x hx=>hc.rcalls hG rfl ?_
  obtain⟨l,b⟩:=x
  obtain⟨hl,hne⟩:=hx
  simp only at hl
  obtain⟨hl1,hl2⟩:=hl
  have hcall:∀c:FileT,FileOk c→eCallv G [] 0 [.d (Rep.to c)] (.fn (.func (if b then g1 else g2)) [] [])=⟨True,[],.d (.bool (filP b c))⟩:=fun c hc=>by
    cases b
    · simp[eCallv,eRCall,h2,hc]
    · simp[eCallv,eRCall,h1,hc]
  obtain⟨ff,hff⟩:∃ff,ff=A.fn (.func (if b then g1 else g2)) [] []:=⟨_,rfl⟩
  have hfu:∀n,A.under n ff=true:=fun n=>by rw[hff];rfl
  simp[x_slices_IndexFunc_File_File,startA]
  rw[← hff] at hcall ⊢
  refine vc_lp (σ:=Nat) (fun i=>i≤l.length∧∀k (h:k<l.length),k<i→filP b l[k]=false) (fun i=>l.length-i)
    (fun i=>[.d (Rep.to l),ff,.any,.any,.d (.int .i64 l.length),.d (.int .i64 i),.any,.any]) (fun _=>[]) 0 (by simp) (by simp) ⟨by simp,by simp⟩ ?_
  rintro i ⟨hi,hn⟩
  by_cases hil:i<l.length
  · have w1:IntKind.i64.wrap ((i:Int)+1)=(i:Int)+1:=wrap_in (by omega) (by omega)
    have hc1:=hcall l[i] (hl2 _ (List.getElem_mem hil))
    simp at hc1
    cases e:filP b l[i] with
    | true =>
      have hf:l.findIdx? (filP b)=some i:=by
        rw[List.findIdx?_eq_some_iff_getElem]
        exact⟨hil,e,fun j hj=>by simpa using hn j (by omega) hj⟩
      simp[hil,getD_map,hc1,e,hf]
      exact FinR.done (by simp) (by simp) rfl rfl (by simp) (by simp)
    | false =>
      have hnx:∀k (h:k<l.length),k<i+1→filP b l[k]=false:=fun k h hk=>by
        by_cases e2:k=i
        · subst e2;exact e
        · exact hn k h (by omega)
      simp[hil,getD_map,hc1,e,w1]
      exact Nxt.mk (i+1) (by omega) (by simp) (by simp) ⟨by omega,hnx⟩
  · have h9:i=l.length:=by omega
    subst h9
    have hf:l.findIdx? (filP b)=none:=by
      rw[List.findIdx?_eq_none_iff]
      intro y hy
      obtain⟨k,hk,rfl⟩:=List.mem_iff_getElem.1 hy
      exact hn k hk hk
    simp[hf]
    exact FinR.done (by simp) (by simp) rfl rfl (by simp) (by simp)
@[simp] def F_slices_ContainsFunc_File_File (g1 g2:Nat):RF FilX where
  new:=0
  view a _:=⟨(a.getD 0 .any).gl FileT,decide ((a.getD 1 .any).gfn=g1)⟩
  args x:=[.d (Rep.to x.l),.fn (.func (if x.b then g1 else g2)) [] []]
  st _:=[]
  pre x:=FilesOk x.l∧g1≠g2
  res x:=.d (.bool (x.l.any (filP x.b)))
  st' _:=[]
abbrev R_slices_ContainsFunc_File_File (g1 g2:Nat):RSpec:=(F_slices_ContainsFunc_File_File g1 g2).spec
theorem ct_slices_ContainsFunc_File_File {P:Program} {f g1 g2 g3:Nat} {G:Gam} (hc:CodeOf P f 2 3 [2] (x_slices_ContainsFunc_File_File g3)) (hG:GamOk P G) (h1:G.findR g1=some R_tree_Check_1) (h2:G.findR g2=some R_tree_Check_2) (h3:G.findR g3=some (R_slices_IndexFunc_File_File g1 g2)):RSpec.Ok P f (R_slices_ContainsFunc_File_File g1 g2):=by
  refine RF.ok hc.call fun x hx=>hc.rcalls hG rfl ?_
  obtain⟨l,b⟩:=x
  obtain⟨hl,hne⟩:=hx
  simp only at hl
  have hfa:=findIdx_any l (filP b)
  have hcall:eRCall G [] 0 g3 [.d (Rep.to l),.fn (.func (if b then g1 else g2)) [] []]=⟨True,[],.d (.int .i64 (match l.findIdx? (filP b) with | some i=>(i:Int) | none=>-1))⟩:=by
    cases b
    · simp[eRCall,h3,hl,hne,hne.symm]
    · simp[eRCall,h3,hl,hne]
  simp at hcall
  simp[x_slices_ContainsFunc_File_File,startA,hcall]
  exact FinR.done (by simp) (by simp) rfl (by simp[resOf,resE];exact hfa.symm) (by simp) (by simp)
structure FlX where
  l:List FileT
@[simp] def F_tree_blobs:RF FlX where
  new:=1
  view a _:=⟨(a.getD 0 .any).gl FileT⟩
  args x:=[.d (Rep.to x.l)]
  st _:=[.res]
  pre x:=FilesOk x.l
  res _:=.mp 0
  st' x:=[.map (mapV x.l)]
abbrev R_tree_blobs:RSpec:=F_tree_blobs.spec
theorem ct_tree_blobs {P:Program} {f:Nat} {G:Gam} (hc:CodeOf P f 1 8 [1] x_tree_blobs) (hG:GamOk P G):RSpec.Ok P f R_tree_blobs:=by
  refine RF.ok hc.call fun x hx=>hc.rcalls hG rfl ?_
  obtain⟨l⟩:=x
  obtain⟨hl1,hl2⟩:=hx
  simp only at hl1 hl2
  simp[x_tree_blobs,startA]
  refine vc_lp (σ:=Nat) (fun i=>i≤l.length) (fun i=>l.length-i)
    (fun i=>[.any,.any,.mp 1,.any,.d (Rep.to l),.d (.int .i64 l.length),.d (.int .i64 i),.any]) (fun i=>[.res,.map (mapV (l.take i))]) 0 (by simp) (by simp[mapV]) (by simp) ?_
  intro i hi
  by_cases hil:i<l.length
  · have w1:IntKind.i64.wrap ((i:Int)+1)=(i:Int)+1:=wrap_in (by omega) (by omega)
    have hs:mapV (l.take (i+1))=mset (.str l[i].path) (.str l[i].blob) (mapV (l.take i)):=by
      rw[List.take_succ_eq_append_getElem hil,mapV_snoc]
    have hk:=mapV_ok (l.take i) l[i].path
    simp[hil,getD_map,hk,w1]
    exact Nxt.mk (i+1) (by omega) (by simp) (by simp[hs]) (by omega)
  · have h9:i=l.length:=by omega
    subst h9
    simp
    refine⟨by simp[resPre,resE],[1],rfl,⟨by decide,by simp,rfl⟩,fun k hk=>?_,rfl,by simp[resOf,resE,A.ren,idxIn] <;> rfl,rfl⟩
    match k,hk with
    | 0,_=>exact .inr rfl
structure NestX where
  x:List UInt8
  es:List (D × D)
def Ob.es:Ob→List (D × D)
  | .map es=>es
  | _=>[]
attribute [simp] Ob.es
def nestM (es:List (D × D)) (x:List UInt8):Bool:=(List.range x.length).any fun i=>(mlook (.str (x.take i)) es).isSome && decide (x.getD i 0=47)
theorem nestM_map (l:List FileT) (x:List UInt8):nestM (mapV l) x=nestV (l.map FileT.path) x:=by
  unfold nestM nestV
  simp only[mapV_some]
@[simp] def F_tree_nested:RF NestX where
  new:=0
  view a s:=⟨(a.getD 0 .any).gs,(s.getD 0 .dead).es⟩
  args x:=[.d (.str x.x),.mp 0]
  st x:=[.map x.es]
  pre x:=x.x.length≤9223372036854775807∧∀s,keysOk 1 (.str s) x.es
  res x:=.d (.bool (nestM x.es x.x))
  st' x:=[.map x.es]
abbrev R_tree_nested:RSpec:=F_tree_nested.spec
theorem ct_tree_nested {P:Program} {f:Nat} {G:Gam} (hc:CodeOf P f 2 9 [2] x_tree_nested) (hG:GamOk P G):RSpec.Ok P f R_tree_nested:=by
  refine RF.ok hc.call fun x hx=>hc.rcalls hG rfl ?_
  obtain⟨x,es⟩:=x
  obtain⟨h1,h2⟩:=hx
  simp only at h1 h2
  simp[x_tree_nested,startA]
  refine vc_lp (σ:=Nat) (fun i=>i≤x.length∧∀k,k<i→((mlook (.str (x.take k)) es).isSome && decide (x.getD k 0=47))=false) (fun i=>x.length-i)
    (fun i=>[.d (.str x),.mp 0,.any,.any,.any,.d (.int .i64 x.length),.d (.int .i64 i),.any,.any]) (fun _=>[.map es]) 0 (by simp) (by simp) ⟨by simp,by simp⟩ ?_
  rintro i ⟨hi,hn⟩
  by_cases hil:i<x.length
  · have w1:IntKind.i64.wrap ((i:Int)+1)=(i:Int)+1:=wrap_in (by omega) (by omega)
    have hg:x.getD i 0=x[i]:=by simp[List.getD,hil]
    have hnx:((mlook (.str (x.take i)) es).isSome && decide (x.getD i 0=47))=false→∀k,k<i+1→((mlook (.str (x.take k)) es).isSome && decide (x.getD k 0=47))=false:=fun h k hk=>by
      by_cases e2:k=i
      · subst e2;exact h
      · exact hn k (by omega)
    cases c1:(mlook (.str (x.take i)) es).isSome with
    | true =>
      by_cases c2:x[i]=47
      · have hr:nestM es x=true:=by
          unfold nestM
          rw[List.any_eq_true]
          exact⟨i,List.mem_range.2 hil,by rw[c1,hg,c2];rfl⟩
        simp[hil,hi,h2,c1,c2,hr]
        exact FinR.done (by simp) (by simp) rfl rfl (by simp) (by simp)
      · have c3:=hnx (by rw[c1,hg];simp[c2])
        have c4:¬((x[i].toNat:Int)=47):=fun h=>c2 (by rw[← UInt8.toNat_inj];show x[i].toNat=47;omega)
        simp[hil,hi,h2,c1,c2,c4,w1]
        exact Nxt.mk (i+1) (by omega) (by simp) (by simp) ⟨by omega,by simpa using c3⟩
    | false =>
      have c3:=hnx (by rw[c1];rfl)
      simp[hil,hi,h2,c1,w1]
      exact Nxt.mk (i+1) (by omega) (by simp) (by simp) ⟨by omega,by simpa using c3⟩
  · have h9:i=x.length:=by omega
    subst h9
    have hr:nestM es x=false:=by
      unfold nestM
      rw[List.any_eq_false]
      intro k hk
      rw[hn k (List.mem_range.1 hk)]
      simp
    simp[hr]
    exact FinR.done (by simp) (by simp) rfl rfl (by simp) (by simp)
@[simp] def S_tree_ordered:List D→Prop × D:=spec1 (α:=List FileT) (fun l=>FilesOk l) (fun l=>.bool (ordV (l.map FileT.path)))
theorem ct_tree_ordered {P:Program} {f g1 g2:Nat} {G:Gam} (h:CodeOf P f 1 10 [1] (x_tree_ordered g1 g2)) (hG:GamOk P G) (h1:G.findR g1=some R_tree_blobs) (h2:G.findR g2=some R_tree_nested):Has P f S_tree_ordered:=h.has1 hG fun l hp=>by
  have hp':=hp
  obtain⟨p1,p2⟩:=hp
  have hk:=mapV_ok l
  have hnm:=nestM_map l
  simp[x_tree_ordered,h1,eRCall,hp']
  refine vc_lp (σ:=Nat) (fun i=>i≤l.length∧∀k,k<i→(ascP (l.map FileT.path) k && !nestV (l.map FileT.path) ((l.map FileT.path).getD k []))=true) (fun i=>l.length-i)
    (fun i=>[.d (Rep.to l),.any,.mp 0,.any,.any,.d (Rep.to l),.d (.int .i64 l.length),.d (.int .i64 i),.any,.any]) (fun _=>[.map (mapV l)]) 0 (by simp) (by simp) ⟨by simp,by simp⟩ ?_
  rintro i ⟨hi,hn⟩
  by_cases hil:i<l.length
  · have w1:IntKind.i64.wrap ((i:Int)+1)=(i:Int)+1:=wrap_in (by omega) (by omega)
    have w2:0<i→IntKind.i64.wrap ((i:Int)-1)=((i-1:Nat):Int):=fun h=>by rw[wrap_in (by omega) (by omega)];omega
    have hpi:=(p2 _ (List.getElem_mem hil)).1
    have hgi:(l.map FileT.path).getD i []=l[i].path:=by simp[List.getD,hil]
    have hbad:(ascP (l.map FileT.path) i && !nestV (l.map FileT.path) l[i].path)=false→ordV (l.map FileT.path)=false:=fun h=>by
      unfold ordV
      rw[List.all_eq_false]
      exact⟨i,List.mem_range.2 (by simpa using hil),by rw[hgi,h];simp⟩
    have hgood:(ascP (l.map FileT.path) i && !nestV (l.map FileT.path) l[i].path)=true→∀k,k<i+1→(ascP (l.map FileT.path) k && !nestV (l.map FileT.path) ((l.map FileT.path).getD k []))=true:=fun h k hk=>by
      by_cases e2:k=i
      · subst e2;rw[hgi];exact h
      · exact hn k (by omega)
    by_cases c0:i=0
    · subst c0
      have ha:ascP (l.map FileT.path) 0=true:=by simp[ascP]
      rw[ha,Bool.true_and] at hbad hgood
      cases c1:nestV (l.map FileT.path) l[0].path with
      | true =>
        have hz:=hbad (by rw[c1];rfl)
        simp[hil,getD_map,h2,eRCall,hk,hpi,hnm,c1,hz]
      | false =>
        have hz:=hgood (by rw[c1];rfl)
        simp[hil,getD_map,h2,eRCall,hk,hpi,hnm,c1]
        exact Nxt.mk 1 (by omega) (by simp;rfl) (by simp) ⟨by omega,by simpa using hz⟩
    · have hi1:i-1<l.length:=by omega
      have hip:(0:Int)<(i:Int):=by omega
      have ha:ascP (l.map FileT.path) i=Op.bytesLess l[i-1].path l[i].path:=by
        unfold ascP
        rw[hgi,show (l.map FileT.path).getD (i-1) []=l[i-1].path by simp[List.getD,hi1]]
        simp[c0]
      rw[ha] at hbad hgood
      cases c2:Op.bytesLess l[i-1].path l[i].path with
      | false =>
        have hz:=hbad (by rw[c2];rfl)
        simp[hil,hi1,getD_map,w2 (by omega),hip,c2,hz,show 0<i by omega]
      | true =>
        cases c1:nestV (l.map FileT.path) l[i].path with
        | true =>
          have hz:=hbad (by rw[c1];simp)
          simp[hil,hi1,getD_map,w2 (by omega),hip,c2,h2,eRCall,hk,hpi,hnm,c1,hz,show 0<i by omega]
        | false =>
          have hz:=hgood (by rw[c1,c2];rfl)
          simp[hil,hi1,getD_map,w2 (by omega),hip,c2,h2,eRCall,hk,hpi,hnm,c1,w1,show 0<i by omega]
          exact Nxt.mk (i+1) (by omega) (by simp) (by simp) ⟨by omega,by simpa using hz⟩
  · have h9:i=l.length:=by omega
    subst h9
    have hz:ordV (l.map FileT.path)=true:=by
      unfold ordV
      rw[List.all_eq_true]
      intro k hk
      exact hn k (by simpa using hk)
    simp[hz]
theorem treeE_eq (l:List FileT):treeE l=if 200<l.length then 1 else if l.any (filP true)=true then 210 else if ordV (l.map FileT.path)=true then (if l.any (filP false)=true then 1 else 0) else 211:=rfl
@[simp] def S_tree_Check:List D→Prop × D:=spec1 (α:=List FileT) (fun l=>FilesOk l) (fun l=>.int .i64 (treeE l))
theorem ct_tree_Check {P:Program} {f g1 g2 g3 g4:Nat} {G:Gam} (h:CodeOf P f 1 6 [1] (x_tree_Check g1 g2 g3 g4)) (hG:GamOk P G) (h1:G.find g1=some S_tree_ordered) (h2:G.findR g2=some (R_slices_ContainsFunc_File_File g3 g4)) (h3:G.findR g3=some R_tree_Check_1) (hne:decide (g3=g4)=false):Has P f S_tree_Check:=h.has1 hG fun l hp=>by
  have hne:g3≠g4:=of_decide_eq_false hne
  have hte:=treeE_eq l
  by_cases c0:(200:Int)<l.length
  · have c0':200<l.length:=by omega
    rw[if_pos c0'] at hte
    simp[x_tree_Check,c0,hte,c0']
  · have c0':¬200<l.length:=by omega
    rw[if_neg c0'] at hte
    cases c1:l.any (filP true) with
    | true =>
      rw[c1,if_pos rfl] at hte
      simp[x_tree_Check,c0,c0',hte,h2,eRCall,hp,hne,c1]
    | false =>
      rw[c1,if_neg (by simp)] at hte
      cases c2:ordV (l.map FileT.path) with
      | false =>
        rw[c2,if_neg (by simp)] at hte
        simp[x_tree_Check,c0,c0',hte,h1,h2,eRCall,hp,hne,c1,c2]
      | true =>
        rw[c2,if_pos rfl] at hte
        cases c3:l.any (filP false) with
        | true =>
          rw[c3,if_pos rfl] at hte
          simp[x_tree_Check,c0,c0',hte,h1,h2,eRCall,hp,hne,hne.symm,c1,c2,c3]
        | false =>
          rw[c3,if_neg (by simp)] at hte
          simp[x_tree_Check,c0,c0',hte,h1,h2,eRCall,hp,hne,hne.symm,c1,c2,c3]
theorem indexByte_mem (c:UInt8):∀p:List UInt8,0≤Lib.indexByte p c↔c∈p
  | []=>by simp[Lib.indexByte]
  | x::p=>by
    have ih:=indexByte_mem c p
    by_cases h:x=c
    · subst h;simp[Lib.indexByte]
    · have h':¬c=x:=fun e=>h e.symm
      simp only[Lib.indexByte,List.mem_cons,h',false_or]
      rw[← ih]
      simp[h]
      split
      · rename_i h2
        omega
      · omega
def consH (name:Str):List Str→List Str
  | x::xs=>(name++x)::xs
  | []=>[name]
theorem consH_nil {l:List Str} (h:l≠[]):consH [] l=l:=by
  cases l with
  | nil=>exact absurd rfl h
  | cons x xs=>rfl
theorem split_slash (r:Str) (name:Str):consH name (splitB (47::r))=name::consH [] (splitB r):=by
  rw[consH_nil (splitB_ne r)]
  simp[splitB,consH]
theorem split_other {c:UInt8} (h:c≠47) (r:Str) (name:Str):consH name (splitB (c::r))=consH (name++[c]) (splitB r):=by
  have hne:=splitB_ne r
  have e:∀x xs,splitB r=x::xs→splitB (c::r)=(c::x)::xs:=fun x xs hs=>by rw[splitB,if_neg h,hs]
  cases hs:splitB r with
  | nil=>exact absurd hs hne
  | cons x xs=>rw[e x xs hs];simp[consH]
structure PathX where
  i:Nat
  pre':List Str
  name:Str
def pathI (p:Str) (x:PathX):Prop:=x.i≤p.length+1∧(∀y,y∈x.pre'→badP y=false)∧(∀y,y∈p.take x.i→y≠0)∧x.name.length≤x.i∧(if x.i≤p.length then splitB p=x.pre'++consH x.name (splitB (p.drop x.i)) else splitB p=x.pre')
@[simp] def S_ref21_CheckPath:List D→Prop × D:=spec1 (α:=Str) (fun p=>p.length≤9223372036854775807) (fun p=>.int .i64 (pathE p))
theorem ct_ref21_CheckPath {P:Program} {f:Nat} {G:Gam} (h:CodeOf P f 1 9 [1] x_ref21_CheckPath) (hG:GamOk P G):Has P f S_ref21_CheckPath:=h.has1 hG fun p hp=>by
  by_cases c1:p.length<1
  · have e:p=[]:=List.length_eq_zero_iff.1 (by omega)
    subst e
    have:pathE []=210:=by decide
    simp[x_ref21_CheckPath,this]
  · have c1':¬((p.length:Int)<1):=by omega
    by_cases c2:(200:Int)<p.length
    · have e:pathE p=210:=by unfold pathE;rw[if_pos (.inl c2)]
      simp[x_ref21_CheckPath,c1',c2,e]
    · have hz:(0:UInt8)∈p→pathE p=210:=fun h=>by
        unfold pathE
        rw[if_pos (.inr ((indexByte_mem 0 p).2 h))]
      have hb:(∃x,x∈splitB p∧badP x=true)→pathE p=210:=fun h=>by
        unfold pathE
        split
        · rfl
        · rw[if_pos (List.any_eq_true.2 h)]
      have h0:(∀y,y∈p→y≠0)→(∀x,x∈splitB p→badP x=false)→pathE p=0:=fun h1 h2=>by
        unfold pathE
        have hn:¬(200<(p.length:Int)∨0≤Lib.indexByte p 0):=by
          rw[indexByte_mem]
          rintro (h | h)
          · exact c2 h
          · exact h1 _ h rfl
        rw[if_neg hn,if_neg]
        rw[Bool.not_eq_true,List.any_eq_false]
        intro x hx
        rw[h2 x hx]
        simp
      simp[x_ref21_CheckPath,c1',c2]
      refine vc_lp (σ:=PathX) (pathI p) (fun x=>p.length+1-x.i)
        (fun x=>[.d (.str p),.any,.d (.str x.name),.d (.int .i64 x.i),.any,.any,.any,.any,.any]) (fun _=>[]) ⟨0,[],[]⟩ (by simp) (by simp) ?_ ?_
      · refine⟨by simp,by simp,by simp,by simp,?_⟩
        simp[consH_nil (splitB_ne p)]
      rintro⟨i,pre,name⟩ ⟨q1,q2,q3,q4,q5⟩
      simp only at q1 q2 q3 q4 q5
      by_cases hil:i<p.length
      · have w1:IntKind.i64.wrap ((i:Int)+1)=(i:Int)+1:=wrap_in (by omega) (by omega)
        have hle:(i:Int)≤p.length:=by omega
        rw[if_pos (by omega),List.drop_eq_getElem_cons hil] at q5
        by_cases d1:p[i]=0
        · have hp0:=hz (by rw[← d1];exact List.getElem_mem hil)
          have d1':(p[i].toNat:Int)=0:=by rw[d1];rfl
          simp[hil,hle,d1,d1',hp0]
        · have d1':¬((p[i].toNat:Int)=0):=fun e=>d1 (UInt8.toNat_inj.1 (by show p[i].toNat=0;omega))
          have d1s:¬(p[i].toNat=0):=by omega
          have q3':∀y,y∈p.take (i+1)→y≠0:=fun y hy=>by
            rw[List.take_succ_eq_append_getElem hil] at hy
            rcases List.mem_append.1 hy with hy | hy
            · exact q3 y hy
            · rw[List.mem_singleton.1 hy];exact d1
          by_cases d2:p[i]=47
          · have d2':(p[i].toNat:Int)=47:=by rw[d2];rfl
            rw[d2,split_slash] at q5
            cases d3:badP name with
            | true =>
              have hpb:=hb ⟨name,by rw[q5];simp,d3⟩
              have d4:name=[]∨name=[46]∨name=[46,46]:=by
                unfold badP at d3
                simp only[Bool.or_eq_true,beq_iff_eq] at d3
                rcases d3 with (h | h) | h <;> simp[h]
              rcases d4 with rfl | rfl | rfl <;> simp[hil,hle,d1,d1',d2,d2',hpb]
            | false =>
              have d4:name≠[]∧name≠[46]∧name≠[46,46]:=by
                unfold badP at d3
                simp only[Bool.or_eq_false_iff,beq_eq_false_iff_ne] at d3
                exact⟨d3.1.1,d3.1.2,d3.2⟩
              simp[hil,hle,d1,d1',d2,d2',d4.1,d4.2.1,d4.2.2,w1]
              refine Nxt.mk (⟨i+1,pre++[name],[]⟩:PathX) (by simp;omega) (by simp) (by simp) ⟨by simp;omega,?_,q3',by simp,?_⟩
              · intro y hy
                simp only at hy
                rcases List.mem_append.1 hy with hy | hy
                · exact q2 y hy
                · rw[List.mem_singleton.1 hy];exact d3
              · simp only
                rw[if_pos (by omega),q5]
                simp
          · have d2':¬((p[i].toNat:Int)=47):=fun e=>d2 (UInt8.toNat_inj.1 (by show p[i].toNat=47;omega))
            rw[split_other d2] at q5
            have ht:(p.drop i).take 1=[p[i]]:=by rw[List.drop_eq_getElem_cons hil,List.take_succ_cons,List.take_zero]
            simp[hil,hle,d1,d1',d1s,d2,d2',w1,ht]
            refine⟨by omega,by omega,Nxt.mk (⟨i+1,pre,name++[p[i]]⟩:PathX) (by simp;omega) (by simp) (by simp) ⟨by simp;omega,q2,q3',by simp;omega,?_⟩⟩
            rw[if_pos (by simp only;omega),q5]
      · by_cases hie:i=p.length
        · subst hie
          have w1:IntKind.i64.wrap ((p.length:Int)+1)=(p.length:Int)+1:=wrap_in (by omega) (by omega)
          rw[if_pos (Nat.le_refl _),List.drop_length] at q5
          have q5:splitB p=pre++[name]:=by rw[q5];simp[splitB,consH]
          cases d3:badP name with
          | true =>
            have hpb:=hb ⟨name,by rw[q5];simp,d3⟩
            have d4:name=[]∨name=[46]∨name=[46,46]:=by
              unfold badP at d3
              simp only[Bool.or_eq_true,beq_iff_eq] at d3
              rcases d3 with (h | h) | h <;> simp[h]
            rcases d4 with rfl | rfl | rfl <;> simp[hpb]
          | false =>
            have d4:name≠[]∧name≠[46]∧name≠[46,46]:=by
              unfold badP at d3
              simp only[Bool.or_eq_false_iff,beq_eq_false_iff_ne] at d3
              exact⟨d3.1.1,d3.1.2,d3.2⟩
            simp[d4.1,d4.2.1,d4.2.2,w1]
            refine Nxt.mk (⟨p.length+1,pre++[name],[]⟩:PathX) (by simp) (by simp) (by simp) ⟨by simp,?_,?_,by simp,?_⟩
            · intro y hy
              simp only at hy
              rcases List.mem_append.1 hy with hy | hy
              · exact q2 y hy
              · rw[List.mem_singleton.1 hy];exact d3
            · intro y hy
              simp only at hy
              rw[List.take_of_length_le (by omega)] at hy
              rw[List.take_length] at q3
              exact q3 y hy
            · simp only
              rw[if_neg (by omega),q5]
        · have h9:i=p.length+1:=by omega
          subst h9
          rw[if_neg (by omega)] at q5
          rw[List.take_of_length_le (by omega)] at q3
          have hv:=h0 q3 (fun x hx=>q2 x (by rw[← q5];exact hx))
          simp[hv,show ¬((p.length:Int)+1≤p.length) by omega]
@[simp] def S_ref21_Above:List D→Prop × D:=spec2 (α:=Str) (β:=Str) (fun a b=>a.length≤9223372036854775807∧b.length≤9223372036854775807) (fun a b=>.bool (aboveB a b))
theorem ct_ref21_Above {P:Program} {f:Nat} {G:Gam} (h:CodeOf P f 2 3 [2] x_ref21_Above) (hG:GamOk P G):Has P f S_ref21_Above:=h.has2 hG fun a b hp=>by
  obtain⟨p1,p2⟩:=hp
  by_cases c1:a.length<b.length
  · have c1':(a.length:Int)<b.length:=by omega
    have hg:b.getD a.length 0=b[a.length]:=by simp[List.getD,c1]
    by_cases c2:b.take a.length=a
    · by_cases c3:b[a.length]=47
      · have hv:aboveB a b=true:=by unfold aboveB;rw[hg];simp[c1,c2,c3]
        have c3':(b[a.length].toNat:Int)=47:=by rw[c3];rfl
        simp[x_ref21_Above,c1,c1',c2,c3,c3',hv,Nat.le_of_lt c1]
      · have hv:aboveB a b=false:=by unfold aboveB;rw[hg];simp[c3]
        have c3':¬((b[a.length].toNat:Int)=47):=fun e=>c3 (UInt8.toNat_inj.1 (by show b[a.length].toNat=47;omega))
        simp[x_ref21_Above,c1,c1',c2,c3,c3',hv,Nat.le_of_lt c1]
    · have hv:aboveB a b=false:=by unfold aboveB;simp[c2]
      simp[x_ref21_Above,c1,c1',c2,hv,Nat.le_of_lt c1]
  · have c1':¬((a.length:Int)<b.length):=by omega
    have hv:aboveB a b=false:=by unfold aboveB;simp[c1]
    simp[x_ref21_Above,c1,c1',hv]
def pthB (a b:Str):Bool:=Op.bytesLess a b && !aboveB a b
theorem ordP_get {l:List FileT} {i k:Nat} (hi:i<l.length) (hk:k<i) (h:pthB l[k].path l[i].path=false):ordV (l.map FileT.path)=false:=by
  rw[ord_eq]
  unfold refOrd
  rw[List.all_eq_false]
  refine⟨i,List.mem_range.2 (by simpa using hi),?_⟩
  unfold ordP
  rw[Bool.not_eq_true,List.all_eq_false]
  have hgi:(l.map FileT.path).getD i []=l[i].path:=by simp[List.getD,hi]
  refine⟨l[k].path,(take_mem (d:=[]) (by simpa using Nat.le_of_lt hi)).2 ⟨k,hk,by simp[List.getD,show k<l.length by omega]⟩,?_⟩
  rw[hgi]
  unfold pthB at h
  rw[h]
  simp
theorem ordP_all {l:List FileT} (h:∀i k (hi:i<l.length) (hk:k<i),pthB (l[k]'(by omega)).path l[i].path=true):ordV (l.map FileT.path)=true:=by
  rw[ord_eq]
  unfold refOrd
  rw[List.all_eq_true]
  intro i hi
  have hi:i<l.length:=by simpa using hi
  unfold ordP
  rw[List.all_eq_true]
  intro y hy
  obtain⟨k,hk,rfl⟩:=(take_mem (d:=[]) (by simpa using Nat.le_of_lt hi)).1 hy
  have hgi:(l.map FileT.path).getD i []=l[i].path:=by simp[List.getD,hi]
  have hgk:(l.map FileT.path).getD k []=l[k].path:=by simp[List.getD,show k<l.length by omega]
  rw[hgi,hgk]
  exact h i k hi hk
@[simp] def S_ref21_Check:List D→Prop × D:=spec1 (α:=List FileT) (fun l=>FilesOk l) (fun l=>.int .i64 (treeE l))
theorem ct_ref21_Check {P:Program} {f g1 g2 g3:Nat} {G:Gam} (h:CodeOf P f 1 14 [1] (x_ref21_Check g1 g2 g3)) (hG:GamOk P G) (h1:G.find g1=some S_ref21_CheckPath) (h2:G.find g2=some S_ref21_Above) (h3:G.find g3=some S_ref02_Check):Has P f S_ref21_Check:=h.has1 hG fun l hp=>by
  obtain⟨p1,p2⟩:=hp
  have hte:=treeE_eq l
  by_cases c0:(200:Int)<l.length
  · have c0':200<l.length:=by omega
    rw[if_pos c0'] at hte
    simp[x_ref21_Check,c0,c0',hte]
  · have c0':¬200<l.length:=by omega
    rw[if_neg c0'] at hte
    have hpo:=fun i (h:i<l.length)=>(p2 _ (List.getElem_mem h)).1
    have hbo:=fun i (h:i<l.length)=>(p2 _ (List.getElem_mem h)).2
    simp[x_ref21_Check,c0,c0']
    refine vc_lp (σ:=Nat) (fun i=>i≤l.length∧∀k (h:k<l.length),k<i→filP true l[k]=false) (fun i=>l.length-i)
      (fun i=>[.d (Rep.to l),.any,.d (.int .i64 i),.any,.any,.any,.any,.any,.any,.any,.any,.any,.any,.any]) (fun _=>[]) 0 (by simp) (by simp) ⟨by simp,by simp⟩ ?_
    rintro i ⟨hi,hn⟩
    by_cases hil:i<l.length
    · have w1:IntKind.i64.wrap ((i:Int)+1)=(i:Int)+1:=wrap_in (by omega) (by omega)
      have hpi:=hpo i hil
      by_cases e:pathE l[i].path=0
      · have hnx:∀k (h:k<l.length),k<i+1→filP true l[k]=false:=fun k h hk=>by
          by_cases e2:k=i
          · subst e2;simp[filP,e]
          · exact hn k h (by omega)
        simp[hil,getD_map,h1,hpi,e,w1]
        exact Nxt.mk (i+1) (by omega) (by simp) (by simp) ⟨by omega,hnx⟩
      · have hz:l.any (filP true)=true:=List.any_eq_true.2 ⟨l[i],List.getElem_mem hil,by simp[filP,e]⟩
        rw[hz,if_pos rfl] at hte
        simp[hil,getD_map,h1,hpi,e,hte]
    · have h9:i=l.length:=by omega
      subst h9
      have hz:l.any (filP true)=false:=by
        rw[List.any_eq_false]
        intro c hc
        obtain⟨k,hk,rfl⟩:=List.mem_iff_getElem.1 hc
        rw[hn k hk hk]
        simp
      rw[hz,if_neg (by simp)] at hte
      clear hn hi hil
      simp
      refine vc_lp (σ:=Nat) (fun i=>i≤l.length∧∀j k (hj:j<l.length) (hk:k<j),j<i→pthB (l[k]'(by omega)).path l[j].path=true) (fun i=>l.length-i)
        (fun i=>[.d (Rep.to l),.any,.any,.d (.int .i64 i),.any,.any,.any,.any,.any,.any,.any,.any,.any,.any]) (fun _=>[]) 0 (by simp) (by simp) ⟨by simp,fun j k _ _ h=>by omega⟩ ?_
      rintro i ⟨hi,hn⟩
      by_cases hil:i<l.length
      · have w1:IntKind.i64.wrap ((i:Int)+1)=(i:Int)+1:=wrap_in (by omega) (by omega)
        have hpi:=hpo i hil
        simp[hil]
        refine vc_lp (σ:=Nat) (fun k=>k≤i∧∀m (hm:m<i),m<k→pthB (l[m]'(by omega)).path l[i].path=true) (fun k=>i-k)
          (fun k=>[.d (Rep.to l),.any,.any,.d (.int .i64 i),.d (.int .i64 k),.any,.any,.any,.any,.any,.any,.any,.any,.any]) (fun _=>[]) 0 (by simp) (by simp) ⟨by simp,fun m _ h=>by omega⟩ ?_
        rintro k ⟨hk,hm⟩
        by_cases hki:k<i
        · have hkl:k<l.length:=by omega
          have w2:IntKind.i64.wrap ((k:Int)+1)=(k:Int)+1:=wrap_in (by omega) (by omega)
          have hpk:=hpo k hkl
          have hgood:pthB l[k].path l[i].path=true→∀m (hm:m<i),m<k+1→pthB (l[m]'(by omega)).path l[i].path=true:=fun h m hmi hmk=>by
            by_cases e2:m=k
            · subst e2;exact h
            · exact hm m hmi (by omega)
          cases c1:Op.bytesLess l[k].path l[i].path with
          | false =>
            have hz:=ordP_get hil hki (by unfold pthB;rw[c1];rfl)
            rw[hz,if_neg (by simp)] at hte
            simp[hil,hki,hkl,getD_map,c1,hte]
          | true =>
            cases c2:aboveB l[k].path l[i].path with
            | true =>
              have hz:=ordP_get hil hki (by unfold pthB;rw[c1,c2];rfl)
              rw[hz,if_neg (by simp)] at hte
              simp[hil,hki,hkl,getD_map,c1,c2,h2,hpi,hpk,hte]
            | false =>
              have hz:=hgood (by unfold pthB;rw[c1,c2];rfl)
              simp[hil,hki,hkl,getD_map,c1,c2,h2,hpi,hpk,w2]
              exact Nxt.mk (k+1) (by omega) (by simp) (by simp) ⟨by omega,hz⟩
        · have h9:k=i:=by omega
          subst h9
          have hnx:∀j m (hj:j<l.length) (hk:m<j),j<k+1→pthB (l[m]'(by omega)).path l[j].path=true:=fun j m hj hmj hjk=>by
            by_cases e2:j=k
            · subst e2;exact hm m hmj hmj
            · exact hn j m hj hmj (by omega)
          simp[w1]
          exact Nxt.mk (k+1) (by omega) (by simp) (by simp) ⟨by omega,hnx⟩
      · have h9:i=l.length:=by omega
        subst h9
        have hz:=ordP_all fun i k hi hk=>hn i k hi hk hi
        rw[hz,if_pos rfl] at hte
        clear hn hi hil
        simp
        refine vc_lp (σ:=Nat) (fun i=>i≤l.length∧∀k (h:k<l.length),k<i→filP false l[k]=false) (fun i=>l.length-i)
          (fun i=>[.d (Rep.to l),.any,.any,.any,.any,.d (.int .i64 i),.any,.any,.any,.any,.any,.any,.any,.any]) (fun _=>[]) 0 (by simp) (by simp) ⟨by simp,by simp⟩ ?_
        rintro i ⟨hi,hn⟩
        by_cases hil:i<l.length
        · have w1:IntKind.i64.wrap ((i:Int)+1)=(i:Int)+1:=wrap_in (by omega) (by omega)
          have hbi:l[i].blob.length≤9223372036854775807:=hbo i hil
          by_cases e:checkT l[i].blob=0
          · have hnx:∀k (h:k<l.length),k<i+1→filP false l[k]=false:=fun k h hk=>by
              by_cases e2:k=i
              · subst e2;simp[filP,e]
              · exact hn k h (by omega)
            simp[hil,getD_map,h3,hbi,e,w1]
            exact Nxt.mk (i+1) (by omega) (by simp) (by simp) ⟨by omega,hnx⟩
          · have hz:l.any (filP false)=true:=List.any_eq_true.2 ⟨l[i],List.getElem_mem hil,by simp[filP,e]⟩
            rw[hz,if_pos rfl] at hte
            simp[hil,getD_map,h3,hbi,e,hte]
        · have h9:i=l.length:=by omega
          subst h9
          have hz:l.any (filP false)=false:=by
            rw[List.any_eq_false]
            intro c hc
            obtain⟨k,hk,rfl⟩:=List.mem_iff_getElem.1 hc
            rw[hn k hk hk]
            simp
          rw[hz,if_neg (by simp)] at hte
          simp[hte]
def markL (l:List Bool) (ps:List Int):List Bool:=ps.foldl (fun l p=>l.set p.toNat true) l
def stepR (g:List (List Int)) (l:List Bool) (c:Nat):List Bool:=if l.getD c false=true then markL l (parV g c) else l
def roundR (g:List (List Int)) (l:List Bool) (n:Nat):List Bool:=(List.range n).foldl (stepR g) l
def roundsR (g:List (List Int)) (l:List Bool):Nat→List Bool
  | 0=>l
  | k+1=>roundR g (roundsR g l k) g.length
def reachV (g:List (List Int)) (from':List Int):List Bool:=roundsR g (markL (List.replicate g.length false) from') g.length
def LeB (a b:List Bool):Prop:=a.length=b.length∧∀i:Nat,a.getD i false=true→b.getD i false=true
theorem LeB.refl (a:List Bool):LeB a a:=⟨rfl,fun _ h=>h⟩
theorem LeB.trans {a b c:List Bool} (h:LeB a b) (k:LeB b c):LeB a c:=⟨h.1.trans k.1,fun i q=>k.2 i (h.2 i q)⟩
theorem LeB.antisymm {a b:List Bool} (h:LeB a b) (k:LeB b a):a=b:=by
  apply List.ext_getElem h.1
  intro i h1 h2
  have q1:=h.2 i
  have q2:=k.2 i
  simp only[List.getD,List.getElem?_eq_getElem h1,List.getElem?_eq_getElem h2,Option.getD_some] at q1 q2
  cases ha:a[i] <;> cases hb:b[i] <;> simp_all
theorem LeB.count:∀{a b:List Bool},LeB a b→a.count true≤b.count true∧(a.count true=b.count true→a=b)
  | [],[],_=>by simp
  | [],_::_,h=>by have:=h.1;simp at this
  | _::_,[],h=>by have:=h.1;simp at this
  | x::a,y::b,h=>by
    have h1:LeB a b:=⟨by simpa using h.1,fun i q=>by simpa using h.2 (i+1) (by simpa using q)⟩
    obtain⟨q1,q2⟩:=LeB.count h1
    have h0:=h.2 0
    simp only[List.getD_cons_zero] at h0
    cases x <;> cases y <;> simp_all
    omega
theorem markL_len (ps:List Int):∀l:List Bool,(markL l ps).length=l.length:=by
  induction ps with
  | nil=>intro l;rfl
  | cons p ps ih=>intro l;unfold markL;rw[List.foldl_cons];exact (ih _).trans (by simp)
theorem getD_set (l:List Bool) (p i:Nat):(l.set p true).getD i false=true↔l.getD i false=true∨(i<l.length∧p=i):=by
  by_cases e:p=i
  · subst e
    by_cases h:p<l.length
    · simp[List.getD,h]
    · simp[List.getD,h]
  · simp[List.getD,List.getElem?_set_ne e,e]
theorem markL_get (ps:List Int):∀(l:List Bool) (i:Nat),(markL l ps).getD i false=true↔l.getD i false=true∨(i<l.length∧∃p,p∈ps∧p.toNat=i):=by
  induction ps with
  | nil=>intro l i;simp[markL]
  | cons p ps ih =>
    intro l i
    have:markL l (p::ps)=markL (l.set p.toNat true) ps:=rfl
    rw[this,ih,getD_set,List.length_set]
    constructor
    · rintro ((h | ⟨h,e⟩) | ⟨h,q,hq,e⟩)
      · exact .inl h
      · exact .inr ⟨h,p,by simp,e⟩
      · exact .inr ⟨h,q,by simp[hq],e⟩
    · rintro (h | ⟨h,q,hq,e⟩)
      · exact .inl (.inl h)
      · rcases List.mem_cons.1 hq with rfl | hq
        · exact .inl (.inr ⟨h,e⟩)
        · exact .inr ⟨h,q,hq,e⟩
theorem markL_le (l:List Bool) (ps:List Int):LeB l (markL l ps):=⟨(markL_len ps l).symm,fun i h=>(markL_get ps l i).2 (.inl h)⟩
theorem stepR_le (g:List (List Int)) (l:List Bool) (c:Nat):LeB l (stepR g l c):=by
  unfold stepR
  split
  · exact markL_le _ _
  · exact LeB.refl _
theorem roundR_succ (g:List (List Int)) (l:List Bool) (n:Nat):roundR g l (n+1)=stepR g (roundR g l n) n:=by
  unfold roundR
  rw[List.range_succ,List.foldl_append]
  rfl
theorem roundR_le (g:List (List Int)) (l:List Bool):∀n,LeB l (roundR g l n)
  | 0=>LeB.refl _
  | n+1=>by rw[roundR_succ];exact (roundR_le g l n).trans (stepR_le _ _ _)
theorem roundsR_le (g:List (List Int)) (l:List Bool):∀n,LeB l (roundsR g l n)
  | 0=>LeB.refl _
  | n+1=>(roundsR_le g l n).trans (roundR_le _ _ _)
theorem stable_step {g:List (List Int)} {l:List Bool}:∀n,roundR g l n=l→∀c,c<n→stepR g l c=l
  | 0,_,c,h=>by omega
  | n+1,h,c,hc=>by
    rw[roundR_succ] at h
    have h1:=stepR_le g (roundR g l n) n
    rw[h] at h1
    have h2:roundR g l n=l:=LeB.antisymm h1 (roundR_le g l n)
    rw[h2] at h
    by_cases e:c=n
    · subst e;exact h
    · exact stable_step n h2 c (by omega)
theorem rounds_grow (g:List (List Int)) (l:List Bool):∀k,roundR g (roundsR g l k) g.length=roundsR g l k∨k+l.count true≤(roundsR g l k).count true
  | 0=>.inr (by simp[roundsR])
  | k+1=>by
    rcases rounds_grow g l k with h | h
    · left
      show roundR g (roundR g (roundsR g l k) g.length) g.length=roundR g (roundsR g l k) g.length
      rw[h,h]
    · by_cases e:roundR g (roundsR g l k) g.length=roundsR g l k
      · left
        show roundR g (roundR g (roundsR g l k) g.length) g.length=roundR g (roundsR g l k) g.length
        rw[e,e]
      · right
        obtain⟨q1,q2⟩:=(roundR_le g (roundsR g l k) g.length).count
        show k+1+l.count true≤(roundR g (roundsR g l k) g.length).count true
        have:(roundsR g l k).count true≠(roundR g (roundsR g l k) g.length).count true:=fun h=>e (q2 h).symm
        omega
theorem reachV_len (g:List (List Int)) (fr:List Int):(reachV g fr).length=g.length:=by
  have:=(roundsR_le g (markL (List.replicate g.length false) fr) g.length).1
  unfold reachV
  rw[← this,markL_len,List.length_replicate]
theorem reach_stable (g:List (List Int)) (fr:List Int):roundR g (reachV g fr) g.length=reachV g fr:=by
  rcases rounds_grow g (markL (List.replicate g.length false) fr) g.length with h | h
  · exact h
  · have hl:=reachV_len g fr
    obtain⟨q1,q2⟩:=(roundR_le g (reachV g fr) g.length).count
    have h1:(roundR g (reachV g fr) g.length).count true≤g.length:=by
      have:=List.count_le_length (a:=true) (l:=roundR g (reachV g fr) g.length)
      have h2:=(roundR_le g (reachV g fr) g.length).1
      omega
    have h3:g.length≤(reachV g fr).count true:=by unfold reachV;omega
    exact (q2 (by omega)).symm
theorem reach_closed {g:List (List Int)} {fr:List Int} {c:Nat} (h:(reachV g fr).getD c false=true) (hc:c<g.length) {p:Int} (hp:p∈parV g c) (hl:p.toNat<g.length):(reachV g fr).getD p.toNat false=true:=by
  have h1:=stable_step _ (reach_stable g fr) c hc
  unfold stepR at h1
  rw[if_pos h] at h1
  rw[← h1,markL_get]
  exact .inr ⟨by rw[reachV_len];exact hl,p,hp,rfl⟩
theorem reach_from {g:List (List Int)} {fr:List Int} {p:Int} (hp:p∈fr) (hl:p.toNat<g.length):(reachV g fr).getD p.toNat false=true:=by
  refine (roundsR_le g (markL (List.replicate g.length false) fr) g.length).2 _ ?_
  rw[markL_get]
  exact .inr ⟨by simpa using hl,p,hp,rfl⟩
theorem getD_rep (n i:Nat):(List.replicate n false).getD i false=false:=by
  by_cases h:i<n
  · simp[List.getD,h]
  · simp[List.getD,h]
theorem reach_least {g:List (List Int)} {fr:List Int} (C:Nat→Prop) (h0:∀p,p∈fr→C p.toNat) (hc:∀c,C c→∀p,p∈parV g c→C p.toNat) {i:Nat} (h:(reachV g fr).getD i false=true):C i:=by
  have h1:∀i,(markL (List.replicate g.length false) fr).getD i false=true→C i:=fun i h=>by
    rw[markL_get,getD_rep] at h
    rcases h with h | ⟨_,p,hp,rfl⟩
    · cases h
    · exact h0 p hp
  have h2:∀l:List Bool,(∀i,l.getD i false=true→C i)→∀n i,(roundR g l n).getD i false=true→C i:=by
    intro l hl n
    induction n with
    | zero=>exact hl
    | succ n ih =>
      intro i h
      rw[roundR_succ] at h
      unfold stepR at h
      split at h
      · rename_i hq
        rw[markL_get] at h
        rcases h with h | ⟨_,p,hp,rfl⟩
        · exact ih i h
        · exact hc n (ih n hq) p hp
      · exact ih i h
  have h3:∀k i,(roundsR g (markL (List.replicate g.length false) fr) k).getD i false=true→C i:=by
    intro k
    induction k with
    | zero=>exact h1
    | succ k ih=>exact h2 _ ih _
  exact h3 _ i h
theorem reach_lt {g:List (List Int)} {fr:List Int} {i:Nat} (h:(reachV g fr).getD i false=true):i<g.length:=by
  rcases Nat.lt_or_ge i g.length with h1 | h1
  · exact h1
  · rw[List.getD,List.getElem?_eq_none (by rw[reachV_len];exact h1)] at h
    simp at h
theorem reach_sub {g:List (List Int)} (hg:DagOk g) {a b:List Int} (h:∀p,p∈a→0≤p∧(reachV g b).getD p.toNat false=true) {i:Nat} (hi:(reachV g a).getD i false=true):(reachV g b).getD i false=true :=
  reach_least (fun i=>(reachV g b).getD i false=true) (fun p hp=>(h p hp).2) (fun c hc p hp=>by
    have hl:=reach_lt hc
    have:=hg.rng c hl p hp
    exact reach_closed hc hl hp (by omega)) hi
theorem up_reach {g:List (List Int)} (hg:DagOk g):(upV g).length<g.length↔∃c:Nat,c<g.length∧(reachV g (parV g c)).getD c false=true:=by
  constructor
  · intro hlt
    apply Classical.byContradiction
    intro hno
    have hno:∀c:Nat,c<g.length→(reachV g (parV g c)).getD c false=false:=fun c hc=>by
      cases h:(reachV g (parV g c)).getD c false with
      | false=>rfl
      | true=>exact absurd ⟨c,hc,h⟩ hno
    have hall:∀d i:Nat,i<g.length→g.length-(reachV g (parV g i)).count true≤d→(i:Int)∈upV g:=by
      intro d
      induction d with
      | zero =>
        intro i hi hd
        apply Classical.byContradiction
        intro hn
        have h1:(reachV g (parV g i)).count true=g.length:=by
          have:=List.count_le_length (a:=true) (l:=reachV g (parV g i))
          rw[reachV_len] at this
          omega
        have h2:LeB (reachV g (parV g i)) (List.replicate g.length true):=⟨by simp[reachV_len],fun j hj=>by
          have:=reach_lt hj
          simp[List.getD,this]⟩
        have h3:=(h2.count).2 (by rw[h1];simp)
        have h4:=hno i hi
        rw[h3] at h4
        simp[List.getD,hi] at h4
      | succ d ih =>
        intro i hi hd
        apply Classical.byContradiction
        intro hn
        obtain⟨c,hc,hp,hcn⟩:=up_left hg hi hn
        refine hcn (ih c hc ?_)
        have h1:(reachV g (parV g c)).getD i false=true:=by
          have:=reach_from (g:=g) hp (by simpa using hi)
          simpa using this
        have h2:LeB (reachV g (parV g i)) (reachV g (parV g c)):=⟨by simp[reachV_len],fun j hj =>
          reach_sub hg (fun p hpp=>by
            have:=hg.rng i hi p hpp
            exact⟨this.1,reach_closed h1 hi hpp (by omega)⟩) hj⟩
        obtain⟨q1,q2⟩:=h2.count
        have q3:(reachV g (parV g i)).count true≠(reachV g (parV g c)).count true:=fun e=>by
          have:=hno i hi
          rw[q2 e,h1] at this
          cases this
        omega
    have:=all_le g.length (upV g) fun i hi=>hall _ i hi (Nat.le_refl _)
    omega
  · rintro⟨c,hc,h⟩
    refine up_cycle hg (fun i=>(reachV g (parV g c)).getD i false=true) h (fun i hi=>reach_lt hi) ?_
    intro i hi
    have:=reach_least (g:=g) (fr:=parV g c) (fun i=>(reachV g (parV g c)).getD i false=true∧∃k:Nat,(reachV g (parV g c)).getD k false=true∧(i:Int)∈parV g k) ?_ ?_ hi
    · exact this.2
    · intro p hp
      have hr:=hg.rng c hc p hp
      refine⟨reach_from hp (by omega),c,h,?_⟩
      rw[show ((p.toNat:Nat):Int)=p by omega]
      exact hp
    · rintro k ⟨hk,_⟩ p hp
      have hl:=reach_lt hk
      have hr:=hg.rng k hl p hp
      refine⟨reach_closed hk hl hp (by omega),k,hk,?_⟩
      rw[show ((p.toNat:Nat):Int)=p by omega]
      exact hp
end Go.AE
