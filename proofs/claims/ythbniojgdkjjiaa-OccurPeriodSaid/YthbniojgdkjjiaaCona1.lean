/-
  Contracts of the functions that make and compare inputs.
-/
import Derived.Test.YthbniojgdkjjiaaAe3
import Derived.Test.YthbniojgdkjjiaaCode1
import Derived.Lib.IndexLaws

set_option linter.unusedSimpArgs false
set_option linter.unusedVariables false
set_option linter.unnecessarySimpa false
set_option maxRecDepth 20000
set_option maxHeartbeats 1000000
namespace Go.AE
def modV (a n:Int):Int:=(a % 18446744073709551616) % n
theorem modV_lt (a:Int) {n:Int} (h:1≤n):0≤modV a n∧modV a n<n:=⟨Int.emod_nonneg _ (by omega),Int.emod_lt_of_pos _ (by omega)⟩
@[simp] def S_gen_Mod:List D→Prop × D:=spec2 (α:=Int) (β:=Int) (fun _ n=>1≤n∧n≤9223372036854775807) (fun a n=>Rep.to (modV a n))
theorem ct_gen_Mod {P:Program} {f:Nat} {G:Gam} (h:CodeOf P f 2 3 [2] x_gen_Mod) (hG:GamOk P G):Has P f S_gen_Mod:=h.has2 hG fun a n hp=>by
  obtain⟨h,h2⟩:=hp
  simp[x_gen_Mod]
  have e1:IntKind.u64.wrap n=n:=by simp[IntKind.wrap,IntKind.bits,IntKind.signed];omega
  have e2:IntKind.u64.wrap a=a % 18446744073709551616:=by simp[IntKind.wrap,IntKind.bits,IntKind.signed]
  rw[e1,e2]
  refine⟨by omega,?_⟩
  have e3:(a % 18446744073709551616).tmod n=modV a n:=by
    rw[Int.tmod_eq_emod_of_nonneg (by omega)];rfl
  have:=modV_lt a h
  rw[e3,wrap_in] <;> omega
@[simp] def S_gen_Ints:List D→Prop × D:=spec2 (α:=List Int) (β:=List Int) (fun a _=>a.length≤9223372036854775807) (fun a b=>Rep.to (decide (a=b)))
theorem ct_gen_Ints {P:Program} {f:Nat} {G:Gam} (h:CodeOf P f 2 7 [2] x_gen_Ints) (hG:GamOk P G):Has P f S_gen_Ints:=h.has2 hG fun a b h=>by
  simp[x_gen_Ints]
  refine⟨fun h1 h2=>h1 (by rw[h2]),fun h1=>?_⟩
  have h1:a.length=b.length:=by omega
  refine vc_loop _ _ _ _ _ [true,true,false,true] 0 (fun m T s=>∃i:Nat,i+m=a.length∧s=[]∧T=[.d (Rep.to a),.d (Rep.to b),.any,.d (.int .i64 i),.any,.any,.any]∧∀k (h:k<a.length) (h2:k<b.length),k<i→a[k]=b[k]) _ (Nat.le_refl _) (by simp) ⟨a.length,0,by simp⟩ ?_
  rintro m T s ⟨i,hm,rfl,rfl,hi⟩
  simp
  refine⟨fun h2=>?_,fun h2=>?_⟩
  · have h3:i<b.length:=by omega
    simp[getD_map,h2,h3,add1 h2 h,pairsOk]
    refine⟨fun h4 h5=>h4 (by simp only[h5]),fun h4=>⟨m-1,by omega,i+1,by omega,by simp,fun k k1 k2 k3=>?_⟩⟩
    rcases Nat.lt_or_ge k i with k4 | k4
    · exact hi k k1 k2 k4
    · have:k=i:=by omega
      subst this
      exact h4
  · exact List.ext_getElem h1 fun k k1 k2=>hi k k1 k2 (by omega)
def xorV (a b:Int):Int:=IntKind.u64.wrap ((a % 2 ^ IntKind.u64.bits).toNat ^^^ (b % 2 ^ IntKind.u64.bits).toNat:Nat)
def hashV (x:Int):Int:=IntKind.u64.wrap (xorV x (x.fdiv (2 ^ min 31 IntKind.u64.bits)) * 13787848793156543929)
def finV (x:Int):Int:=IntKind.i64.wrap ((xorV x (x.fdiv (2 ^ min 29 IntKind.u64.bits))).fdiv (2 ^ min 1 IntKind.u64.bits))
theorem lockT:(fun _:Int=>True)=(fun x:Int=>x=x):=funext fun _=>propext ⟨fun _=>rfl,fun _=>trivial⟩
def lock (v:Int):Int:=(cast (congrArg Subtype lockT) (⟨v,trivial⟩:{_x:Int // True}):{x:Int // x=x}).1
theorem lock_gen {p q:Int→Prop} (h:p=q) (v:Int) (hv:p v):(cast (congrArg Subtype h) (⟨v,hv⟩:Subtype p):Subtype q).1=v:=by subst h;rfl
theorem lock_eq (v:Int):lock v=v:=lock_gen lockT v trivial
def atU (raw:List Int) (k:Int):Int :=
  let x0:=IntKind.u64.wrap (IntKind.u64.wrap (IntKind.i64.wrap (k+1)) * 11400714819323198485)
  finV (hashV (if raw=[] then x0 else xorV x0 (IntKind.u64.wrap (raw.getD (k.toNat % raw.length) 0))))
def atV (raw:List Int) (k:Int):Int:=lock (atU raw k)
theorem atV_eq (raw:List Int) (k:Int):atV raw k=atU raw k:=lock_eq _
@[simp] def S_gen_At:List D→Prop × D:=spec2 (α:=List Int) (β:=Int) (fun raw k=>0≤k∧k<9223372036854775807∧raw.length≤9223372036854775807) (fun raw k=>Rep.to (atV raw k))
theorem ct_gen_At {P:Program} {f:Nat} {G:Gam} (h:CodeOf P f 2 5 [2] x_gen_At) (hG:GamOk P G):Has P f S_gen_At:=h.has2 hG fun raw k hp=>by
  obtain⟨h1,h2,h3⟩:=hp
  obtain⟨n,rfl⟩:=Int.eq_ofNat_of_zero_le h1
  simp[x_gen_At]
  refine⟨fun h4=>?_,fun h4=>?_⟩
  · have e:(n:Int).tmod raw.length=((n % raw.length:Nat):Int):=by rw[Int.tmod_eq_emod_of_nonneg (by omega)];simp
    have h5:n % raw.length<raw.length:=Nat.mod_lt _ h4
    have h6:raw≠[]:=by intro h;simp[h] at h4
    have ha:atV raw n=finV (hashV (xorV (IntKind.u64.wrap (IntKind.u64.wrap (IntKind.i64.wrap (n+1)) * 11400714819323198485)) (IntKind.u64.wrap raw[n % raw.length]))):=by
      simp[atV_eq,atU,h6,List.getD,h5]
    rw[e,ha]
    generalize n % raw.length=q at h5
    simp[h5,h6,getD_map]
    rfl
  · rw[atV_eq]
    unfold atU
    simp only[h4,if_true]
    rfl
def Bd (s:Str) (k b:Nat):Prop:=b<k∧∀i,i<b→s.getD i 0=s.getD (k-b+i) 0
theorem Bd.zero (s:Str) {k:Nat} (h:0<k):Bd s k 0:=⟨h,fun i hi=>absurd hi (by omega)⟩
theorem Bd.trans {s:Str} {k b c:Nat} (h:Bd s k b) (h2:Bd s b c):Bd s k c:=by
  refine⟨by have:=h.1;have:=h2.1;omega,fun i hi=>?_⟩
  have h3:=h.1
  have h4:=h2.1
  rw[h2.2 i hi,h.2 (b-c+i) (by omega)]
  congr 1
  omega
theorem Bd.nest {s:Str} {k b c:Nat} (h:Bd s k b) (h2:Bd s k c) (h3:c<b):Bd s b c:=by
  refine⟨h3,fun i hi=>?_⟩
  have h4:=h.1
  rw[h2.2 i hi,h.2 (b-c+i) (by omega)]
  congr 1
  omega
theorem Bd.succ {s:Str} {k c:Nat}:Bd s (k+1) (c+1)↔(Bd s k c∧s.getD c 0=s.getD k 0)∨False:=by
  constructor
  · rintro⟨h1,h2⟩
    refine .inl ⟨⟨by omega,fun i hi=>?_⟩,?_⟩
    · have:=h2 i (by omega)
      rw[this]
      congr 1
      omega
    · have:=h2 c (by omega)
      rw[this]
      congr 1
      omega
  · rintro (⟨⟨h1,h2⟩,h3⟩ | h)
    · refine⟨by omega,fun i hi=>?_⟩
      rcases Nat.lt_or_ge i c with h4 | h4
      · rw[h2 i h4]
        congr 1
        omega
      · have:i=c:=by omega
        subst this
        rw[h3]
        congr 1
        omega
    · exact h.elim
def bdB (s:Str) (k b:Nat):Bool:=decide (s.take b=(s.take k).drop (k-b))
theorem bdB_iff {s:Str} {k b:Nat} (hk:k≤s.length) (hb:b<k):bdB s k b=true↔Bd s k b:=by
  simp only[bdB,decide_eq_true_eq]
  constructor
  · intro h
    refine⟨hb,fun i hi=>?_⟩
    have h1:(s.take b).getD i 0=s.getD i 0:=by simp[List.getD,List.getElem?_take,hi]
    rw[← h1,h]
    simp[List.getD,List.getElem?_take,show k-b+i<k by omega]
  · rintro⟨_,h⟩
    apply List.ext_getElem
    · simp;omega
    · intro i h1 h2
      simp at h1
      have:=h i (by omega)
      simp only[List.getElem_take,List.getElem_drop]
      have e1:s.getD i 0=s[i]:=by simp[List.getD,show i<s.length by omega]
      have e2:s.getD (k-b+i) 0=s[k-b+i]:=by simp[List.getD,show k-b+i<s.length by omega]
      rw[← e1,this,e2]
def downV (s:Str) (k:Nat):Nat→Nat
  | 0=>0
  | b+1=>if bdB s k (b+1)=true then b+1 else downV s k b
def bordV (s:Str) (k:Nat):Nat:=downV s k (k-1)
def bordsV (s:Str):List Int:=(List.range s.length).map fun k=>(bordV s (k+1):Int)
theorem downV_spec {s:Str} {k:Nat} (hk:k≤s.length):∀b,b<k→Bd s k (downV s k b)∧downV s k b≤b∧∀c,c≤b→Bd s k c→c≤downV s k b
  | 0,hb=>⟨Bd.zero s hb,Nat.le_refl _,fun c hc _=>hc⟩
  | b+1,hb=>by
    obtain⟨h1,h2,h3⟩:=downV_spec hk b (by omega)
    simp only[downV]
    split
    · rename_i h
      exact⟨(bdB_iff hk hb).1 h,Nat.le_refl _,fun c hc _=>hc⟩
    · rename_i h
      refine⟨h1,by omega,fun c hc hb2=>?_⟩
      rcases Nat.lt_or_ge c (b+1) with h4 | h4
      · exact h3 c (by omega) hb2
      · have:c=b+1:=by omega
        subst this
        exact absurd ((bdB_iff hk hb).2 hb2) h
theorem bordV_spec {s:Str} {k:Nat} (hk:k≤s.length) (h0:0<k):Bd s k (bordV s k)∧∀c,Bd s k c→c≤bordV s k:=by
  obtain⟨h1,_,h3⟩:=downV_spec hk (k-1) (by omega)
  exact⟨h1,fun c hc=>h3 c (by have:=hc.1;omega) hc⟩
theorem bordV_eq {s:Str} {k b:Nat} (hk:k≤s.length) (h1:Bd s k b) (h2:∀c,Bd s k c→c≤b):bordV s k=b:=by
  obtain⟨h3,h4⟩:=bordV_spec hk (by have:=h1.1;omega)
  exact Nat.le_antisymm (h2 _ h3) (h4 _ h1)
theorem bordV_one {s:Str} (h:1≤s.length):bordV s 1=0:=bordV_eq h (Bd.zero s (by omega)) fun c hc=>by have:=hc.1;omega
theorem bord_step {s:Str} {k b:Nat} (hb:Bd s k b) (hm:∀c,Bd s (k+1) (c+1)→c≤b) (hk:k<s.length) :
    (s.getD b 0=s.getD k 0→bordV s (k+1)=b+1)∧(s.getD b 0≠s.getD k 0→b=0→bordV s (k+1)=0) ∧
    (s.getD b 0≠s.getD k 0→0<b→Bd s k (bordV s b)∧bordV s b<b∧∀c,Bd s (k+1) (c+1)→c≤bordV s b):=by
  have hbk:=hb.1
  refine⟨fun he=>?_,fun hne h0=>?_,fun hne h0=>?_⟩
  · refine bordV_eq hk (Bd.succ.2 (.inl ⟨hb,he⟩)) fun c hc=>?_
    cases c with
    | zero=>omega
    | succ c=>have:=hm c hc;omega
  · refine bordV_eq hk (Bd.zero s (by omega)) fun c hc=>?_
    cases c with
    | zero=>omega
    | succ c =>
      have h1:=hm c hc
      rcases Bd.succ.1 hc with ⟨h2,h3⟩ | h
      · have:c=b:=by omega
        subst this
        exact absurd h3 hne
      · exact h.elim
  · obtain⟨h1,h2⟩:=bordV_spec (s:=s) (k:=b) (by omega) h0
    refine⟨hb.trans h1,h1.1,fun c hc=>?_⟩
    have h3:=hm c hc
    rcases Bd.succ.1 hc with ⟨h4,h5⟩ | h
    · rcases Nat.lt_or_ge c b with h6 | h6
      · exact h2 c (hb.nest h4 h6)
      · have:c=b:=by omega
        subst this
        exact absurd h5 hne
    · exact h.elim
theorem bordV_grow {s:Str} {k:Nat} (hk:k<s.length) (h0:0<k):bordV s (k+1)≤bordV s k+1:=by
  obtain⟨h1,_⟩:=bordV_spec (s:=s) (k:=k+1) hk (by omega)
  obtain⟨_,h2⟩:=bordV_spec (s:=s) (k:=k) (by omega) h0
  generalize bordV s (k+1)=b at *
  cases b with
  | zero=>omega
  | succ b =>
    rcases Bd.succ.1 h1 with ⟨h3,_⟩ | h
    · have:=h2 b h3
      omega
    · exact h.elim
/-! occurrences -/
def atB (n s:Str) (i:Nat):Bool:=decide (n≠[]∧i+n.length≤s.length∧(s.drop i).take n.length=n)
def nextF (n s:Str):Nat→Nat→Option Nat
  | 0,_=>none
  | f+1,i=>if atB n s i=true then some i else nextF n s f (i+1)
def nextV (n s:Str) (i:Nat):Option Nat:=nextF n s (s.length+1-i) i
theorem nextF_spec (n s:Str):∀(f i:Nat),match nextF n s f i with
    | some j=>i≤j∧j<i+f∧atB n s j=true∧∀k,i≤k→k<j→atB n s k=false
    | none=>∀k,i≤k→k<i+f→atB n s k=false
  | 0,i=>by intro k h1 h2;omega
  | f+1,i=>by
    have ih:=nextF_spec n s f (i+1)
    by_cases h:atB n s i=true
    · simp only[nextF,h,if_true]
      exact⟨Nat.le_refl _,by omega,trivial,fun k h1 h2=>by omega⟩
    · simp only[nextF,h,if_false,Bool.false_eq_true]
      cases hq:nextF n s f (i+1) with
      | none =>
        rw[hq] at ih
        simp only at ih ⊢
        intro k h1 h2
        rcases Nat.lt_or_ge i k with h3 | h3
        · exact ih k (by omega) (by omega)
        · have:k=i:=by omega
          subst this
          simpa using h
      | some j =>
        rw[hq] at ih
        simp only at ih ⊢
        obtain⟨a1,a2,a3,a4⟩:=ih
        refine⟨by omega,by omega,a3,fun k h1 h2=>?_⟩
        rcases Nat.lt_or_ge i k with h3 | h3
        · exact a4 k (by omega) h2
        · have:k=i:=by omega
          subst this
          simpa using h
theorem atB_le {n s:Str} {i:Nat} (h:atB n s i=true):n≠[]∧i+n.length≤s.length∧(s.drop i).take n.length=n:=by simpa [atB] using h
theorem nextV_some {n s:Str} {i j:Nat} (h:nextV n s i=some j):i≤j∧atB n s j=true∧∀k,i≤k→k<j→atB n s k=false:=by
  have:=nextF_spec n s (s.length+1-i) i
  unfold nextV at h
  rw[h] at this
  exact⟨this.1,this.2.2.1,this.2.2.2⟩
theorem nextV_none {n s:Str} {i:Nat} (h:nextV n s i=none):∀k,i≤k→atB n s k=false:=by
  have:=nextF_spec n s (s.length+1-i) i
  unfold nextV at h
  rw[h] at this
  intro k hk
  by_cases h2:k<i+(s.length+1-i)
  · exact this k hk h2
  · by_cases h3:atB n s k=true
    · have:=(atB_le h3).2.1
      omega
    · simpa using h3
theorem nextV_eq {n s:Str} {i j:Nat} (h1:i≤j) (h2:atB n s j=true) (h3:∀k,i≤k→k<j→atB n s k=false):nextV n s i=some j:=by
  cases h:nextV n s i with
  | none=>have:=nextV_none h j h1;rw[h2] at this;simp at this
  | some k =>
    obtain⟨a1,a2,a3⟩:=nextV_some h
    rcases Nat.lt_trichotomy j k with h4 | h4 | h4
    · have:=a3 j h1 h4;rw[h2] at this;simp at this
    · rw[h4]
    · have:=h3 k a1 h4;rw[a2] at this;simp at this
theorem nextV_noneOf {n s:Str} {i:Nat} (h:∀k,i≤k→atB n s k=false):nextV n s i=none:=by
  cases h2:nextV n s i with
  | none=>rfl
  | some k =>
    obtain⟨a1,a2,_⟩:=nextV_some h2
    have:=h k a1
    rw[a2] at this
    simp at this
def posF (n s:Str):Nat→Nat→List Nat
  | 0,_=>[]
  | f+1,i=>match nextV n s i with
    | some j=>j::posF n s f (j+n.length)
    | none=>[]
def posV (n s:Str) (i:Nat):List Nat:=posF n s (s.length+1-i) i
theorem posF_fuel (n s:Str):∀(f g i:Nat),s.length+1-i≤f→s.length+1-i≤g→posF n s f i=posF n s g i
  | 0,0,_,_,_=>rfl
  | 0,g+1,i,h,_=>by
    have:nextV n s i=none:=nextV_noneOf fun k hk=>by
      by_cases h3:atB n s k=true
      · have:=(atB_le h3).2.1;omega
      · simpa using h3
    simp only[posF,this]
  | f+1,0,i,_,h=>by
    have:nextV n s i=none:=nextV_noneOf fun k hk=>by
      by_cases h3:atB n s k=true
      · have:=(atB_le h3).2.1;omega
      · simpa using h3
    simp only[posF,this]
  | f+1,g+1,i,h1,h2=>by
    simp only[posF]
    split
    · rename_i j hj
      obtain⟨a1,a2,_⟩:=nextV_some hj
      have h3:=atB_le a2
      have h4:0<n.length:=List.length_pos_iff.2 h3.1
      rw[posF_fuel n s f g (j+n.length) (by omega) (by omega)]
    · rfl
theorem posV_some {n s:Str} {i j:Nat} (h:nextV n s i=some j):posV n s i=j::posV n s (j+n.length):=by
  obtain⟨a1,a2,_⟩:=nextV_some h
  have h3:=atB_le a2
  have h4:0<n.length:=List.length_pos_iff.2 h3.1
  unfold posV
  rw[show s.length+1-i=(s.length-i)+1 by omega]
  simp only[posF,h]
  rw[posF_fuel n s _ (s.length+1-(j+n.length)) _ (by omega) (Nat.le_refl _)]
theorem posV_none {n s:Str} {i:Nat} (h:nextV n s i=none):posV n s i=[]:=by
  unfold posV
  cases s.length+1-i with
  | zero=>rfl
  | succ f=>simp only[posF,h]
theorem pos_induct {n s:Str} {C:Nat→Prop} (h0:∀i,nextV n s i=none→C i) (h1:∀i j,nextV n s i=some j→C (j+n.length)→C i):∀i,C i:=by
  have:∀(f i:Nat),s.length+1-i≤f→C i:=by
    intro f
    induction f with
    | zero =>
      intro i hi
      exact h0 i (nextV_noneOf fun k hk=>by
        by_cases h3:atB n s k=true
        · have:=(atB_le h3).2.1;omega
        · simpa using h3)
    | succ f ih =>
      intro i hi
      cases h:nextV n s i with
      | none=>exact h0 i h
      | some j =>
        obtain⟨a1,a2,_⟩:=nextV_some h
        have h3:=atB_le a2
        have h4:0<n.length:=List.length_pos_iff.2 h3.1
        exact h1 i j h (ih _ (by omega))
  intro i
  exact this _ i (Nat.le_refl _)
theorem posV_len (n s:Str):∀i,(posV n s i).length≤s.length-i∨(posV n s i)=[]:=by
  refine pos_induct (n:=n) (s:=s) (fun i h=>.inr (posV_none h)) fun i j h ih=>?_
  left
  obtain⟨a1,a2,_⟩:=nextV_some h
  have h3:=atB_le a2
  have h4:0<n.length:=List.length_pos_iff.2 h3.1
  rw[posV_some h,List.length_cons]
  rcases ih with ih | ih
  · omega
  · rw[ih];simp;omega
theorem posV_len' (n s:Str) (i:Nat):(posV n s i).length≤s.length:=by
  rcases posV_len n s i with h | h
  · omega
  · simp[h]
theorem posV_mono (n s:Str):∀q p,p≤q→(posV n s q).length≤(posV n s p).length:=by
  refine pos_induct (n:=n) (s:=s) (fun q h p hp=>by rw[posV_none h];simp) fun q j h ih p hp=>?_
  obtain⟨a1,a2,a3⟩:=nextV_some h
  cases h2:nextV n s p with
  | none=>have:=nextV_none h2 j (by omega);rw[a2] at this;simp at this
  | some i =>
    obtain⟨b1,b2,b3⟩:=nextV_some h2
    have:i≤j:=by
      rcases Nat.lt_or_ge j i with h4 | h4
      · have:=b3 j (by omega) h4;rw[a2] at this;simp at this
      · exact h4
    rw[posV_some h,posV_some h2]
    have:=ih (i+n.length) (by omega)
    simp only[List.length_cons]
    omega
theorem posV_pick {n s:Str} {e p:Nat} (h:e≤p) (h2:atB n s p=true):(posV n s (p+n.length)).length+1≤(posV n s e).length:=by
  cases h3:nextV n s e with
  | none=>have:=nextV_none h3 p h;rw[h2] at this;simp at this
  | some i =>
    obtain⟨b1,b2,b3⟩:=nextV_some h3
    have:i≤p:=by
      rcases Nat.lt_or_ge p i with h4 | h4
      · have:=b3 p h h4;rw[h2] at this;simp at this
      · exact h4
    rw[posV_some h3,List.length_cons]
    have:=posV_mono n s (p+n.length) (i+n.length) (by omega)
    omega
theorem u8_int (a b:UInt8):((a.toNat:Int)=b.toNat)=(a=b):=by
  apply propext
  constructor
  · intro h
    exact UInt8.toNat_inj.1 (by omega)
  · rintro rfl;rfl
@[simp] def S_ref07_At:List D→Prop × D:=spec3 (α:=Str) (β:=Str) (γ:=Int) (fun n s i=>n.length≤1048576∧s.length≤4194304∧0≤i∧i≤s.length) (fun n s i=>Rep.to (atB n s i.toNat))
theorem ct_ref07_At {P:Program} {f:Nat} {G:Gam} (h:CodeOf P f 3 4 [3] x_ref07_At) (hG:GamOk P G):Has P f S_ref07_At:=h.has3 hG fun n s i hp=>by
  obtain⟨h1,h2,h3,h4⟩:=hp
  obtain⟨i,rfl⟩:=Int.eq_ofNat_of_zero_le h3
  have w1:=wrap_in (n:=(s.length:Int)-i) (by omega) (by omega)
  have w2:=wrap_in (n:=(i:Int)+n.length) (by omega) (by omega)
  have e1:((i:Int)+n.length).toNat=i+n.length:=by omega
  by_cases h5:n=[]
  · simp[x_ref07_At,h5,atB]
  · by_cases h6:i+n.length≤s.length
    · have h6':(n.length:Int)≤s.length-i:=by omega
      simp[x_ref07_At,h5,w1,w2,h6',e1,atB,h6]
      omega
    · have h6':¬(n.length:Int)≤s.length-i:=by omega
      simp[x_ref07_At,h5,w1,w2,h6',atB,h6]
@[simp] def nextD (o:Option Nat):D:=.tup [.int .i64 ((o.getD 0:Nat):Int),.bool o.isSome]
def nextI (n s:Str) (i:Int):Option Nat:=if 0≤i∧i≤s.length then nextV n s i.toNat else none
@[simp] def S_ref07_Next:List D→Prop × D:=spec3 (α:=Str) (β:=Str) (γ:=Int) (fun n s _=>n.length≤1048576∧s.length≤4194304) (fun n s i=>nextD (nextI n s i))
theorem nextV_stop {n s:Str} {i:Nat} (h:s.length<i):nextV n s i=none:=nextV_noneOf fun k hk=>by
  by_cases h3:atB n s k=true
  · have:=(atB_le h3).2.1;omega
  · simpa using h3
theorem nextV_skip {n s:Str} {i:Nat} (h:atB n s i=false):nextV n s i=nextV n s (i+1):=by
  cases h2:nextV n s (i+1) with
  | none =>
    refine nextV_noneOf fun k hk=>?_
    rcases Nat.lt_or_ge i k with h3 | h3
    · exact nextV_none h2 k (by omega)
    · rw[show k=i by omega];exact h
  | some j =>
    obtain⟨a1,a2,a3⟩:=nextV_some h2
    refine nextV_eq (by omega) a2 fun k h3 h4=>?_
    rcases Nat.lt_or_ge i k with h5 | h5
    · exact a3 k (by omega) h4
    · rw[show k=i by omega];exact h
theorem ct_ref07_Next {P:Program} {f g:Nat} {G:Gam} (h:CodeOf P f 3 8 [3,4] (x_ref07_Next g)) (hG:GamOk P G) (hg:G.find g=some S_ref07_At):Has P f S_ref07_Next:=h.has3 hG fun n s i hp=>by
  obtain⟨h1,h2⟩:=hp
  by_cases h3:0≤i
  · obtain⟨i,rfl⟩:=Int.eq_ofNat_of_zero_le h3
    by_cases h4:i≤s.length
    · have e:nextI n s i=nextV n s i:=by unfold nextI;rw[if_pos (by omega)];rfl
      simp[x_ref07_Next,e]
      refine vc_lp (σ:=Nat) (fun k=>k≤s.length+1∧nextV n s k=nextV n s i) (fun k=>s.length+1-k) (fun k=>[.d (Rep.to n),.d (Rep.to s),.any,.any,.any,.d (.int .i64 k),.any,.any]) (fun _=>[]) i (by simp) (by simp) ⟨by omega,rfl⟩ ?_
      rintro k ⟨b1,b2⟩
      by_cases c1:k≤s.length
      · have w1:IntKind.i64.wrap ((k:Int)+1)=((k+1:Nat):Int):=by rw[wrap_in (by omega) (by omega)];push_cast;rfl
        by_cases c2:atB n s k=true
        · have e2:nextV n s k=some k:=nextV_eq (Nat.le_refl _) c2 fun j h1 h2=>by omega
          simp[c1,hg,h1,h2,c2,← b2,e2,nextD]
        · have c2:atB n s k=false:=by simpa using c2
          simp[c1,hg,h1,h2,c2,w1]
          exact Nxt.mk (k+1) (by omega) (by simp) (by simp) ⟨by omega,by rw[← b2,nextV_skip c2]⟩
      · have e2:nextV n s k=none:=nextV_stop (by omega)
        simp[c1,← b2,e2,nextD]
    · have e:nextI n s i=none:=by unfold nextI;rw[if_neg (by omega)]
      simp[x_ref07_Next,e]
      refine vc_lp (σ:=Unit) (fun _=>True) (fun _=>0) (fun _=>[.d (Rep.to n),.d (Rep.to s),.any,.any,.any,.d (.int .i64 i),.any,.any]) (fun _=>[]) () (by simp) (by simp) trivial ?_
      intro _ _
      simp[h4,nextD]
  · have e:nextI n s i=none:=by unfold nextI;rw[if_neg (by omega)]
    simp[x_ref07_Next,e]
    refine vc_lp (σ:=Unit) (fun _=>True) (fun _=>0) (fun _=>[.d (Rep.to n),.d (Rep.to s),.any,.any,.any,.d (.int .i64 i),.any,.any]) (fun _=>[]) () (by simp) (by simp) trivial ?_
    intro _ _
    simp[h3,nextD]
def posI (n s:Str):List Int:=(posV n s 0).map fun (k:Nat)=>(k:Int)
@[simp] def S_ref07_Positions:List D→Prop × D:=spec2 (α:=Str) (β:=Str) (fun n s=>n.length≤1048576∧s.length≤4194304) (fun n s=>Rep.to (posI n s))
theorem ct_ref07_Positions {P:Program} {f g:Nat} {G:Gam} (h:CodeOf P f 2 8 [2] (x_ref07_Positions g)) (hG:GamOk P G) (hg:G.find g=some S_ref07_Next):Has P f S_ref07_Positions:=h.has2 hG fun n s hp=>by
  obtain⟨h1,h2⟩:=hp
  simp[x_ref07_Positions]
  refine vc_lp (σ:=Nat × List Int) (fun x=>x.1≤s.length∧x.2.length≤x.1∧x.2++(posV n s x.1).map (fun (k:Nat)=>(k:Int))=posI n s) (fun x=>s.length+1-x.1) (fun x=>[.d (Rep.to n),.d (Rep.to s),.any,.gr 0 1 (x.2.map Rep.to),.d (.int .i64 x.1),.any,.any,.any]) (fun x=>[.tip x.2.length]) (0,[]) (by simp) (by simp) (by simp[posI]) ?_
  rintro⟨k,o⟩ ⟨b1,b2,b3⟩
  simp only at b1 b2 b3
  have e:nextI n s k=nextV n s k:=by unfold nextI;rw[if_pos (by omega)];rfl
  cases hq:nextV n s k with
  | none =>
    rw[posV_none hq,List.map_nil,List.append_nil] at b3
    simp[hg,h1,h2,e,hq,nextD,b3]
  | some j =>
    obtain⟨a1,a2,_⟩:=nextV_some hq
    have a3:=atB_le a2
    have a4:0<n.length:=List.length_pos_iff.2 a3.1
    have w1:IntKind.i64.wrap ((j:Int)+n.length)=((j+n.length:Nat):Int):=by rw[wrap_in (by omega) (by omega)];push_cast;rfl
    rw[posV_some hq] at b3
    simp[hg,h1,h2,e,hq,nextD,w1]
    refine⟨by unfold room;omega,Nxt.mk (j+n.length,o++[(j:Int)]) (by simp;omega) (by simp) (by simp) ⟨by simp;omega,by simp;omega,?_⟩⟩
    simp only
    rw[← b3]
    simp
@[simp] def S_ref07_Borders:List D→Prop × D:=spec1 (α:=Str) (fun s=>s.length≤4194304) (fun s=>Rep.to (bordsV s))
theorem bordsV_len (s:Str):(bordsV s).length=s.length:=by simp[bordsV]
theorem ct_ref07_Borders {P:Program} {f:Nat} {G:Gam} (h:CodeOf P f 1 7 [1] x_ref07_Borders) (hG:GamOk P G):Has P f S_ref07_Borders:=h.has1 hG fun s hs=>by
  simp[x_ref07_Borders]
  refine vc_lp (σ:=Nat) (fun k=>1≤k∧k≤s.length+1) (fun k=>s.length+1-k) (fun k=>[.d (Rep.to s),.any,.gr 0 1 (((bordsV s).take (k-1)).map Rep.to),.d (.int .i64 k),.any,.any,.any]) (fun k=>[.tip (k-1)]) 1 (by simp) (by simp) (by simp) ?_
  rintro k ⟨b1,b2⟩
  have hbl:=bordsV_len s
  by_cases c1:k≤s.length
  · have c1':(k:Int)≤s.length:=by omega
    have w1:IntKind.i64.wrap ((k:Int)-1)=((k-1:Nat):Int):=by rw[wrap_in (by omega) (by omega)];omega
    simp[c1,w1]
    refine vc_lp (σ:=Nat) (fun b=>b<k∧downV s k b=bordV s k) (fun b=>b) (fun b=>[.d (Rep.to s),.any,.gr 0 1 (((bordsV s).take (k-1)).map Rep.to),.d (.int .i64 k),.d (.int .i64 b),.any,.any]) (fun _=>[.tip (k-1)]) (k-1) (by simp) (by simp) ⟨by omega,rfl⟩ ?_
    rintro b ⟨d1,d2⟩
    have w2:IntKind.i64.wrap ((k:Int)-b)=((k-b:Nat):Int):=by rw[wrap_in (by omega) (by omega)];omega
    have e1:b≤s.length:=by omega
    have e2:k-b≤k:=by omega
    have e3:(s.take k).drop (k-b)=(s.drop (k-b)).take (k-(k-b)):=by rw[List.drop_take]
    by_cases d3:bdB s k b=true
    · have d4:s.take b=(s.drop (k-b)).take (k-(k-b)):=by rw[← e3];simpa [bdB] using d3
      have d5:bordV s k=b:=by
        rw[← d2]
        cases b with
        | zero=>rfl
        | succ b=>simp[downV,d3]
      have w3:IntKind.i64.wrap ((k:Int)+1)=((k+1:Nat):Int):=by rw[wrap_in (by omega) (by omega)];push_cast;rfl
      simp[w2,e1,e2,c1,d4,hbl,Nat.min_eq_left (show k-1≤s.length by omega),w3]
      refine⟨by unfold room;omega,Nxt.mk (k+1) (by omega) ?_ (by simp;omega) ⟨by omega,by omega⟩⟩
      have d6:=take_to (l:=bordsV s) (k:=k-1) (by rw[hbl];omega)
      have d7:(bordsV s)[k-1]'(by rw[hbl];omega)=(b:Int):=by simp[bordsV,show k-1+1=k by omega,d5]
      rw[d7,show k-1+1=k by omega] at d6
      simp[d6]
    · have d4:¬s.take b=(s.drop (k-b)).take (k-(k-b)):=by rw[← e3];simpa [bdB] using d3
      have d5:0<b:=by
        rcases Nat.eq_zero_or_pos b with h0 | h0
        · subst h0
          exfalso
          exact d3 ((bdB_iff c1 (by omega)).2 (Bd.zero s (by omega)))
        · exact h0
      have w3:IntKind.i64.wrap ((b:Int)-1)=((b-1:Nat):Int):=by rw[wrap_in (by omega) (by omega)];omega
      simp[w2,e1,e2,c1,d4,w3]
      refine Nxt.mk (b-1) (by omega) (by simp) (by simp) ⟨by omega,?_⟩
      rw[← d2]
      obtain⟨b,rfl⟩:∃c,b=c+1:=⟨b-1,by omega⟩
      simp[downV,d3]
  · have c2:k=s.length+1:=by omega
    subst c2
    have c1':¬(s.length:Int)+1≤s.length:=by omega
    simp[c1']
    rw[List.take_of_length_le (by simp[hbl])]
theorem occ_at {n s:Str} (hn:n≠[]) (fr i:Nat):Lib.occAt (s.drop fr) n i=atB n s (fr+i):=by
  by_cases h:fr+i+n.length≤s.length
  · rw[Lib.occAt_iff_take _ _ _ (by simp;omega),List.drop_drop]
    simp only[atB,ne_eq,hn,not_false_eq_true,h,true_and]
    exact beq_dec _ _
  · have h2:atB n s (fr+i)=false:=by simp[atB,h]
    rw[h2]
    cases h3:Lib.occAt (s.drop fr) n i with
    | false=>rfl
    | true =>
      rcases Lib.occAt_room h3 with h4 | h4
      · simp at h4
        have:0<n.length:=List.length_pos_iff.2 hn
        omega
      · exact absurd h4 hn
theorem index_next {n s:Str} (hn:n≠[]) {fr:Nat} (hf:fr≤s.length):Lib.index (s.drop fr) n=match nextV n s fr with | some j=>((j-fr:Nat):Int) | none=>-1:=by
  cases h:nextV n s fr with
  | none =>
    exact Lib.index_none fun j hj=>by rw[occ_at hn];exact nextV_none h _ (by omega)
  | some j =>
    obtain⟨a1,a2,a3⟩:=nextV_some h
    have a4:=(atB_le a2).2.1
    refine Lib.index_first (by simp;omega) (by rw[occ_at hn,show fr+(j-fr)=j by omega];exact a2) fun k hk=>?_
    rw[occ_at hn]
    exact a3 _ (by omega) (by omega)
def indOk (s n:Str):Prop:=s.length<4294967281∨n.length=1
@[simp] theorem indOk_of {s n:Str} (h:s.length<4294967281):indOk s n:=.inl h
@[simp] def S_strings_Index:List D→Prop × D:=spec2 (α:=Str) (β:=Str) indOk (fun s n=>.int .i64 (Lib.index s n))
@[simp] def S_occur_Next:List D→Prop × D:=spec3 (α:=Str) (β:=Str) (γ:=Int) (fun _ s _=>s.length≤4194304) (fun n s i=>nextD (nextI n s i))
theorem nextV_nil (s:Str) (i:Nat):nextV [] s i=none:=nextV_noneOf fun k _=>by simp[atB]
theorem ct_occur_Next {P:Program} {f g:Nat} {G:Gam} (h:CodeOf P f 3 8 [3,4] (x_occur_Next g)) (hG:GamOk P G) (hg:G.find g=some S_strings_Index):Has P f S_occur_Next:=h.has3 hG fun n s i hs=>by
  by_cases h0:n=[]
  · subst h0
    have:nextI [] s i=none:=by unfold nextI;split;exact nextV_nil _ _;rfl
    simp[x_occur_Next,this,nextD]
  by_cases h1:0≤i
  · obtain⟨i,rfl⟩:=Int.eq_ofNat_of_zero_le h1
    by_cases h2:i≤s.length
    · have e:nextI n s i=nextV n s i:=by unfold nextI;rw[if_pos (by omega)];rfl
      have e2:=index_next h0 h2
      have h2':¬((i:Int) > s.length):=by omega
      have h3:(s.drop i).length<4294967281:=by simp;omega
      have e3:List.take (s.length-i) (s.drop i)=s.drop i:=List.take_of_length_le (by simp)
      cases hq:nextV n s i with
      | none =>
        rw[hq] at e2
        simp[x_occur_Next,h0,h2,hg,e3,e2,e,hq,nextD]
        exact indOk_of h3
      | some j =>
        rw[hq] at e2
        obtain⟨a1,a2,_⟩:=nextV_some hq
        have a4:=(atB_le a2).2.1
        have w1:IntKind.i64.wrap ((i:Int)+((j-i:Nat):Int))=(j:Int):=by rw[wrap_in (by omega) (by omega)];omega
        simp only at e2
        simp[x_occur_Next,h0,h2,hg,e3,e2,e,hq,nextD,w1]
        exact indOk_of h3
    · have e:nextI n s i=none:=by unfold nextI;rw[if_neg (by omega)]
      simp[x_occur_Next,h0,h2,e,nextD]
  · have e:nextI n s i=none:=by unfold nextI;rw[if_neg (by omega)]
    simp[x_occur_Next,h0,h1,e,nextD]
@[simp] def S_occur_Positions:List D→Prop × D:=spec2 (α:=Str) (β:=Str) (fun n s=>n.length≤4194304∧s.length≤4194304) (fun n s=>Rep.to (posI n s))
theorem posI_len (n s:Str):(posI n s).length≤s.length:=by unfold posI;rw[List.length_map];exact posV_len' n s 0
theorem nextI_nat {n s:Str} {k:Nat} (h:k≤s.length):nextI n s k=nextV n s k:=by unfold nextI;rw[if_pos (by omega)];rfl
theorem ct_occur_Positions {P:Program} {f g:Nat} {G:Gam} (h:CodeOf P f 2 7 [2] (x_occur_Positions g)) (hG:GamOk P G) (hg:G.find g=some S_occur_Next):Has P f S_occur_Positions:=h.has2 hG fun n s hp=>by
  obtain⟨h1,h2⟩:=hp
  have e0:nextI n s 0=nextV n s 0:=nextI_nat (n:=n) (s:=s) (k:=0) (by omega)
  simp[x_occur_Positions,hg,h2,e0]
  refine vc_lp (σ:=Option Nat × List Int × Nat) (fun x=>x.2.2≤s.length∧x.2.1.length≤x.2.2∧x.1=nextV n s x.2.2∧x.2.1++(posV n s x.2.2).map (fun (k:Nat)=>(k:Int))=posI n s) (fun x=>s.length+1-x.2.2)
    (fun x=>[.d (Rep.to n),.d (Rep.to s),.any,.gr 0 1 (x.2.1.map Rep.to),.d (.int .i64 ((x.1.getD 0:Nat):Int)),.d (.bool x.1.isSome),.any]) (fun x=>[.tip x.2.1.length]) (nextV n s 0,[],0) (by simp) (by simp) ⟨by simp,by simp,rfl,by simp[posI]⟩ ?_
  rintro⟨c,o,k⟩ ⟨b1,b2,b3,b4⟩
  simp only at b1 b2 b3 b4
  subst b3
  cases hq:nextV n s k with
  | none =>
    rw[posV_none hq,List.map_nil,List.append_nil] at b4
    simp[b4]
  | some j =>
    obtain⟨a1,a2,_⟩:=nextV_some hq
    have a3:=atB_le a2
    have a4:0<n.length:=List.length_pos_iff.2 a3.1
    have w1:IntKind.i64.wrap ((j:Int)+n.length)=((j+n.length:Nat):Int):=by rw[wrap_in (by omega) (by omega)];push_cast;rfl
    have e1:=nextI_nat (n:=n) (s:=s) (k:=j+n.length) (by omega)
    rw[posV_some hq] at b4
    simp[hg,h2,w1]
    rw[show ((j:Int)+n.length)=((j+n.length:Nat):Int) by push_cast;rfl,e1]
    refine⟨by unfold room;omega,Nxt.mk (nextV n s (j+n.length),o++[(j:Int)],j+n.length) (by simp;omega) (by simp) (by simp) ⟨by simp;omega,by simp;omega,rfl,?_⟩⟩
    simp only
    rw[← b4]
    simp
@[simp] def S_occur_Count:List D→Prop × D:=spec2 (α:=Str) (β:=Str) (fun n s=>n.length≤4194304∧s.length≤4194304) (fun n s=>.int .i64 (posI n s).length)
theorem ct_occur_Count {P:Program} {f g:Nat} {G:Gam} (h:CodeOf P f 2 3 [2] (x_occur_Count g)) (hG:GamOk P G) (hg:G.find g=some S_occur_Positions):Has P f S_occur_Count:=h.has2 hG fun n s hp=>by
  obtain⟨h1,h2⟩:=hp
  simp[x_occur_Count,hg,h1,h2]
@[simp] def S_occur_Borders:List D→Prop × D:=spec1 (α:=Str) (fun s=>s.length≤4194304) (fun s=>Rep.to (bordsV s))
def bfill (s:Str) (k:Nat):List A:=(List.range s.length).map fun i=>.d (.int .i64 (if i<k then (bordV s (i+1):Int) else 0))
theorem bfill_len (s:Str) (k:Nat):(bfill s k).length=s.length:=by simp[bfill]
theorem bfill_get {s:Str} {k i:Nat} (h:i<k) (h2:i<(bfill s k).length):(bfill s k)[i]=.d (.int .i64 (bordV s (i+1))):=by simp[bfill,h]
theorem bfill_set {s:Str} {k:Nat} (h:k<s.length):(bfill s k).set k (.d (.int .i64 (bordV s (k+1))))=bfill s (k+1):=by
  apply List.ext_getElem
  · simp[bfill]
  · intro i h1 h2
    rw[List.getElem_set]
    by_cases h3:k=i
    · subst h3;simp[bfill]
    · simp only[bfill,h3,if_false,List.getElem_map,List.getElem_range]
      by_cases h4:i<k
      · simp[h4,show i<k+1 by omega]
      · simp[h4,show ¬i<k+1 by omega]
theorem ct_occur_Borders {P:Program} {f:Nat} {G:Gam} (h:CodeOf P f 1 8 [1] x_occur_Borders) (hG:GamOk P G):Has P f S_occur_Borders:=h.has1 hG fun s hs=>by
  simp[x_occur_Borders]
  refine⟨⟨by unfold room;omega,by omega⟩,?_⟩
  obtain⟨fl,hfl⟩:∃fl:Nat→List A,∀k,fl k=bfill s k:=⟨_,fun _=>rfl⟩
  have f1:∀k,(fl k).length=s.length:=fun k=>by rw[hfl,bfill_len]
  have f2:∀k i (h:i<(fl k).length),i<k→(fl k)[i]=.d (.int .i64 (bordV s (i+1))):=fun k i h h2=>by simp only[hfl];exact bfill_get h2 _
  have f3:s.length≤1∨True:=.inr trivial
  have f4:List.replicate s.length (A.d (D.int .i64 0))=fl 1:=by
    rw[hfl]
    apply List.ext_getElem
    · simp[bfill]
    · intro i h1 h2
      simp[bfill]
      intro h3
      subst h3
      simp at h1
      rw[show bordV s 1=0 from bordV_one (by omega)]
      rfl
  refine vc_lp (σ:=Nat) (fun k=>1≤k∧(k≤s.length∨k=1)) (fun k=>s.length+1-k) (fun k=>[.d (Rep.to s),.any,.own 0 0 0 s.length,.d (.int .i64 k),.any,.any,.any,.any]) (fun k=>[.cells 0 1 (fl k)]) 1 (by simp) (by simp[f4]) (by simp) ?_
  rintro k ⟨b1,b2⟩
  by_cases c1:k<s.length
  · have w1:IntKind.i64.wrap ((k:Int)-1)=((k-1:Nat):Int):=by rw[wrap_in (by omega) (by omega)];omega
    have c2:k-1<s.length:=by omega
    have e1:=f2 k (k-1) (by rw[f1];exact c2) (by omega)
    have c3:(1:Int)≤k:=by omega
    have c4:(k:Int)-1<s.length:=by omega
    have e2:((k:Int)-1).toNat=k-1:=by omega
    simp[c1,w1,c2,e1,f1]
    rw[show k-1+1=k by omega]
    obtain⟨g1,g2⟩:=bordV_spec (s:=s) (k:=k) (by omega) (by omega)
    refine vc_lp (σ:=Nat) (fun b=>Bd s k b∧∀c,Bd s (k+1) (c+1)→c≤b) (fun b=>b) (fun b=>[.d (Rep.to s),.any,.own 0 0 0 s.length,.d (.int .i64 k),.d (.int .i64 b),.any,.any,.any]) (fun _=>[.cells 0 1 (fl k)]) (bordV s k) (by simp) (by simp) ⟨g1,fun c hc=>?_⟩ ?_
    · rcases Bd.succ.1 hc with ⟨h1,_⟩ | h1
      · exact g2 c h1
      · exact h1.elim
    rintro b ⟨d1,d2⟩
    obtain⟨s1,s2,s3⟩:=bord_step d1 d2 c1
    have d3:=d1.1
    have q1:s.getD b 0=s[b]'(by omega):=by simp[List.getD,show b<s.length by omega]
    have q2:s.getD k 0=s[k]:=by simp[List.getD,c1]
    rw[q1,q2] at s1 s2 s3
    have hbl:b<s.length:=by omega
    have done:∀v:Nat,bordV s (k+1)=v→(fl k).set k (.d (.int .i64 v))=fl (k+1):=fun v hv=>by rw[hfl,hfl,← hv];exact bfill_set c1
    by_cases h0:0<b
    · by_cases h2:s[b]=s[k]
      · simp[h0,hbl,c1,h2,f1,add1 hbl (by omega),add1 c1 (by omega)]
        exact Nxt.mk (k+1) (by omega) (by simp) (by simp;exact done (b+1) (s1 h2)) ⟨by omega,by omega⟩
      · obtain⟨t1,t2,t3⟩:=s3 h2 h0
        have w2:IntKind.i64.wrap ((b:Int)-1)=((b-1:Nat):Int):=by rw[wrap_in (by omega) (by omega)];omega
        have e3:=f2 k (b-1) (by rw[f1];omega) (by omega)
        have hb1:b-1<s.length:=by omega
        have h2':¬((s[b].toNat:Int)=s[k].toNat):=by rw[u8_int];exact h2
        have h2'':¬(s[b].toNat=s[k].toNat):=by omega
        simp[h0,hbl,c1,h2',h2'',h2,w2,f1,hb1,e3]
        rw[show b-1+1=b by omega]
        exact Nxt.mk (bordV s b) t2 (by simp) (by simp) ⟨t1,t3⟩
    · have hb0:b=0:=by omega
      subst hb0
      by_cases h2:s[0]'(by omega)=s[k]
      · simp[hbl,c1,h2,f1,add1 c1 (by omega)]
        simp (disch:=omega) only[wrap_in]
        exact Nxt.mk (k+1) (by omega) (by simp) (by simp;exact done 1 (s1 h2)) ⟨by omega,by omega⟩
      · have h2':¬(((s[0]'(by omega)).toNat:Int)=s[k].toNat):=by rw[u8_int];exact h2
        have h2'':¬((s[0]'(by omega)).toNat=s[k].toNat):=by omega
        simp[hbl,c1,h2',h2'',h2,f1,add1 c1 (by omega)]
        exact Nxt.mk (k+1) (by omega) (by simp) (by simp;exact done 0 (s2 h2 rfl)) ⟨by omega,by omega⟩
  · have e:fl k=(bordsV s).map (fun x=>A.d (Rep.to x)):=by
      rw[hfl]
      apply List.ext_getElem
      · simp[bfill,bordsV]
      · intro i h1 h2
        simp[bfill] at h1
        simp[bfill,bordsV,show i<k by omega]
    simp[c1]
    simp only[bor,List.getD_cons_zero,e,List.drop_zero]
    have e2:List.take s.length ((bordsV s).map (fun x=>A.d (Rep.to x)))=(bordsV s).map (fun x=>A.d (Rep.to x)):=List.take_of_length_le (by simp[bordsV_len])
    rw[e2]
    refine⟨⟨trivial,?_⟩,?_⟩
    · rw[List.all_eq_true]
      intro x hx
      obtain⟨y,_,rfl⟩:=List.mem_map.1 hx
      rfl
    · rw[List.map_map]
      simp only[LeD_sl,true_and]
      rfl
end Go.AE
namespace Go.AE
def wb (raw:List Int) (j:Int):UInt8:=if modV (atV raw j) 3=2 then 98 else 97
def wordV (raw:List Int) (fr n:Int):Str:=(List.range (modV (atV raw fr) (n+1)).toNat).map fun (i:Nat)=>wb raw (fr+1+i)
theorem wordV_len {raw:List Int} {fr n:Int} (h:0≤n):(wordV raw fr n).length≤n.toNat:=by
  have:=modV_lt (atV raw fr) (n:=n+1) (by omega)
  simp[wordV]
  omega
@[simp] def S_law07_word:List D→Prop × D:=spec3 (α:=List Int) (β:=Int) (γ:=Int) (fun raw fr n=>raw.length≤9223372036854775807∧0≤fr∧fr≤1000∧0≤n∧n≤1000) (fun raw fr n=>Rep.to (wordV raw fr n))
theorem three {c:Int} (h1:0≤c) (h2:c<3):c=0∨c=1∨c=2:=by omega
theorem ct_law07_word {P:Program} {f g g2:Nat} {G:Gam} (h:CodeOf P f 3 7 [3] (x_law07_word g g2)) (hG:GamOk P G) (hg:G.find g=some S_gen_At) (hg2:G.find g2=some S_gen_Mod):Has P f S_law07_word:=h.has3 hG fun raw fr n hp=>by
  obtain⟨h1,h2,h3,h4,h5⟩:=hp
  obtain⟨m1,m2⟩:=modV_lt (atV raw fr) (n:=n+1) (by omega)
  obtain⟨m,hm⟩:=Int.eq_ofNat_of_zero_le m1
  simp[x_law07_word]
  refine vc_lp (σ:=Nat) (fun i=>i≤m) (fun i=>m-i) (fun i=>[.d (Rep.to raw),.d (.int .i64 fr),.d (.int .i64 n),.any,.d (.str ((List.range i).map fun (i:Nat)=>wb raw (fr+1+i))),.d (.int .i64 i),.any]) (fun _=>[]) 0 (by simp) (by simp) (by simp) ?_
  intro i hi
  have w1:IntKind.i64.wrap (n+1)=n+1:=wrap_in (by omega) (by omega)
  have w2:IntKind.i64.wrap (fr+1)=fr+1:=wrap_in (by omega) (by omega)
  have w3:IntKind.i64.wrap (fr+1+i)=fr+1+i:=wrap_in (by omega) (by omega)
  have w4:IntKind.i64.wrap ((i:Int)+1)=(i+1:Nat):=by rw[wrap_in (by omega) (by omega)];omega
  by_cases h6:i<m
  · obtain⟨k1,k2⟩:=modV_lt (atV raw (fr+1+i)) (n:=3) (by omega)
    have e:wb raw (fr+1+i)=if modV (atV raw (fr+1+i)) 3=2 then 98 else 97:=rfl
    have p1:(fr:Int)<9223372036854775807:=by omega
    have p2:raw.length≤9223372036854775807:=by omega
    have p3:fr+1+(i:Int)<9223372036854775807:=by omega
    have p4:0≤fr+1+(i:Int):=by omega
    have p5:1≤n+1∧n+1≤9223372036854775807:=by omega
    rcases three k1 k2 with c | c | c <;> rw[c] at e <;>
    · simp[hg,hg2,w1,w2,w3,w4,hm,h6,h2,p1,p2,p3,p4,p5,c]
      refine⟨by omega,?_⟩
      exact Nxt.mk (i+1) (by omega) (by simp[List.range_succ,e]) (by simp) (by omega)
  · have h7:i=m:=by omega
    have p1:(fr:Int)<9223372036854775807:=by omega
    have p2:raw.length≤9223372036854775807:=by omega
    have p5:1≤n+1∧n+1≤9223372036854775807:=by omega
    subst h7
    have e:wordV raw fr n=(List.range i).map fun (j:Nat)=>wb raw (fr+1+j):=by simp only[wordV,hm,Int.toNat_natCast]
    rw[e]
    clear e
    generalize wb raw=W at *
    simp[hg,h2,p1,p2]
    generalize atV raw fr=A at *
    simp[hg2,w1,hm,p5]
@[simp] def S_law07_awake:List D→Prop × D:=spec0 True (.bool true)
theorem aw1:posI [97,97] [97,97,97,97,97]=[0,2]:=by decide
theorem aw2:bordsV [97,98,97,98]=[0,0,1,2]:=by decide
theorem aw3:posI [98] [97,98,98]=[1,2]:=by decide
theorem ct_law07_awake {P:Program} {f g1 g2 g3 g4:Nat} {G:Gam} (h:CodeOf P f 0 1 [0] (x_law07_awake g1 g2 g3 g4)) (hG:GamOk P G) (h1:G.find g1=some S_occur_Positions) (h2:G.find g2=some S_gen_Ints) (h3:G.find g3=some S_occur_Borders) (h4:G.find g4=some S_occur_Count):Has P f S_law07_awake:=h.has0 hG fun _=>by
  have r:([.int .i64 0,.int .i64 2]:List D)=([0,2]:List Int).map Rep.to:=rfl
  have r2:([.int .i64 0,.int .i64 0,.int .i64 1,.int .i64 2]:List D)=([0,0,1,2]:List Int).map Rep.to:=rfl
  simp[x_law07_awake,h1,h2,h3,h4,aw1,aw2,aw3]
end Go.AE
