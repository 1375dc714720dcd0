/-
  strings.Builder at this seat: copyCheck,WriteString.
-/
import Derived.Test.YtpkaomgleagbmaaAe3
import Derived.Test.YtpkaomgleagbmaaCode1
import Derived.BigCall
import Derived.Laws.BitsLemmas
import Derived.Laws.Externs
import Derived.Laws.IdiomCopy
import Derived.Lib.AppendStr
import Derived.Lib.Builder
import Derived.Lib.IndexLaws
import Derived.Lib.Slices
import Derived.Lib.Strings
import Derived.Lib.UnsafeStr
import Derived.Lib.Walk
import Derived.Shelf.LaysM
import Derived.Shelf.RegionOpenPlain
import Derived.Shelf.Strings.Builder1
import Derived.Shelf.Strings.BuilderCap
import Derived.Shelf.Strings.BuilderF
import Derived.Shelf.Strings.BuilderK
import Derived.Shelf.Strings.BuilderX
import Derived.Shelf.Strings.Search1
import Derived.Shelf.Strings.Search2
import Derived.Shelf.Strings.Search3
import Derived.Shelf.Strings.Shaped
import Derived.Test.YtpkaomgleagbmaaProg
import Derived.WalkKit

set_option linter.unusedSimpArgs false
set_option linter.unusedVariables false
set_option linter.unnecessarySimpa false
set_option maxRecDepth 100000
set_option maxHeartbeats 4000000
set_option linter.unusedVariables false
namespace Go.Proofs
open Go.RowKit
theorem Try.sizeBuilder:(Try.prog.info? 38).map (·.size)=some 2:=by kernel_rfl
theorem Try.liesBuilder:liesAt Try.prog Try.prog.depth 38 (2 / Try.prog.cellsOf 38) 0 38 1=true:=by kernel_rfl
theorem Try.infoByte:(Try.prog.info? 5).map (fun i=>(i.zero,i.size,i.bytes))=some (some (.int .u8 0),1,1):=by kernel_rfl
set_option maxHeartbeats 1000000 in
set_option maxRecDepth 100000 in
theorem Try.copyCheck_used (b:Nat) (w:World) (h0:w.cell? ⟨b,0,none⟩=some (.pointer (some ⟨b,0,none⟩))) :
    Calls Try.prog 19 #[.pointer (some ⟨b,0,none⟩)] w fun e w'=>e=.returned (.tuple #[])∧w'=w:=by
  obtain⟨j,hj,_⟩:=Option.map_eq_some_iff.1 Try.sizeBuilder
  go_enter Try.func19,Try.ntmps19
  go_wp2
  rw[Lib.run_neq_ptr_same w _ Try.underlying35 hj]
  go_wp2
  go_end0
  exact⟨rfl,rfl⟩
set_option maxHeartbeats 1000000 in
set_option maxRecDepth 100000 in
theorem Try.copyCheck_fresh (b:Nat) (w:World) (h0:w.cell? ⟨b,0,none⟩=some (.pointer none)) (hsh:w.shape? b=some (38,2)) (hfz:w.frozen? ⟨b,0,none⟩=false) :
    Calls Try.prog 19 #[.pointer (some ⟨b,0,none⟩)] w fun e w'=>e=.returned (.tuple #[])∧w'=w.setCell ⟨b,0,none⟩ (.pointer (some ⟨b,0,none⟩)):=by
  obtain⟨j,hj,hjs⟩:=Option.map_eq_some_iff.1 Try.sizeBuilder
  go_enter Try.func19,Try.ntmps19
  go_wp2
  rw[Lib.run_to_unsafe w ⟨b,0,none⟩ Try.underlying35 Try.underlying51 hj (by rw[hjs];decide) hsh (Nat.zero_lt_succ 1)]
  simp only[Result.andThen]
  rw[Oper.upon_value]
  go_wp2
  rw[run_callFunc_extern Try.func22 (by kernel_rfl) (by kernel_rfl) (by kernel_rfl) (e:=Extern.AbiNoEscape.same) (by kernel_rfl)]
  rw[Lib.run_noEscape]
  simp only[Result.andThen]
  rw[Oper.upon_value]
  go_wp2
  rw[Lib.run_from_unsafe w ⟨b,0,none⟩ Try.underlying51 Try.underlying35 hj hsh Try.liesBuilder]
  simp only[Result.andThen]
  rw[Oper.upon_value]
  go_wp2
  go_end0
  exact⟨rfl,rfl⟩
theorem Try.copyCheck (B b:Nat) (bs:List Value) (w:World) (h:Lib.IsBuilder 38 5 B b bs w) :
    Calls Try.prog 19 #[.pointer (some ⟨b,0,none⟩)] w fun e w'=>e=.returned (.tuple #[])∧(Lib.BuilderAt 38 5 B b (.pointer (some ⟨b,0,none⟩)) bs w'∧Below B w w'):=by
  rcases h with h | h
  · refine (Try.copyCheck_fresh b w h.cell0 h.shape h.frozen0).mono ?_
    rintro e w' ⟨rfl,rfl⟩
    exact⟨rfl,h.used _,(Below.refl B w).setCell (p:=⟨b,0,none⟩) h.1 _⟩
  · refine (Try.copyCheck_used b w h.cell0).mono ?_
    rintro e w' ⟨rfl,rfl⟩
    exact⟨rfl,h,Below.refl B _⟩
set_option maxHeartbeats 2000000 in
set_option maxRecDepth 100000 in
theorem Try.writeString (B b:Nat) (bs:List Value) (s:ByteArray) (w:World) (h:Lib.IsBuilder 38 5 B b bs w) (hlen:bs.length+s.size≤140737488355328) (hBw:B≤w.heap.size) :
    Calls Try.prog 14 #[.pointer (some ⟨b,0,none⟩),.string s] w fun e w'=>e=.returned (.tuple #[.int .i64 s.size,.nilIface])∧(Lib.BuilderAt 38 5 B b (.pointer (some ⟨b,0,none⟩)) (bs++Lib.strCells s) w'∧Below B w w'):=by
  obtain⟨i0,hi,hz0,hz1,hz2⟩:=info_parts Try.infoByte
  go_enter Try.func14,Try.ntmps14
  go_wp2_with (go_at_call 19;refine (Try.copyCheck B b bs _ h).mono ?_)
  rintro e w1 ⟨rfl,h1,hb1⟩
  obtain⟨hB,v,hbk,hown,hne⟩:=h1
  have c0:w1.cell? ⟨b,0,none⟩=some (.pointer (some ⟨b,0,none⟩)):=by rw[Lib.cell_of_heap hbk];rfl
  have c1:w1.cell? ⟨b,1,none⟩=some v:=by rw[Lib.cell_of_heap hbk];rfl
  go_wp2_with (at_builtin;refine Lib.wpList_append_own_string _ rfl _ _ 36 9 rfl B 5 i0 Try.underlying36 Try.underlying9 hi hz0 hz1 hz2 _ _ _ rfl hown s rfl ?c3 ?c4 ?c5 ?_)
  case c3=>unfold maxLen;omega
  case c4=>omega
  case c5=>have:=hb1.size;omega
  intro v' w2 hown' hgrow _
  have hlt:b<w1.heap.size:=by
    rcases Nat.lt_or_ge b w1.heap.size with h' | h'
    · exact h'
    · simp[Array.getElem?_eq_none h'] at hbk
  have hb2:w2.heap[b]?=some (.cells #[.pointer (some ⟨b,0,none⟩),v] 38 (0,0)):=by
    rw[hgrow.block b hlt (fun e=>hne e.symm)]
    exact hbk
  have d0:w2.cell? ⟨b,0,none⟩=some (.pointer (some ⟨b,0,none⟩)):=by rw[Lib.cell_of_heap hb2];rfl
  have d1:w2.cell? ⟨b,1,none⟩=some v:=by rw[Lib.cell_of_heap hb2];rfl
  have f1:w2.frozen? ⟨b,1,none⟩=false:=Lib.frozen_of_heap hb2 1
  obtain⟨ao,n',cap,rfl⟩:∃ao n' cap,v'=.slice ao n' cap:=by
    rcases hown'.2 with ⟨hv,_⟩ | ⟨g,cap,cur,hv,_⟩
    · exact⟨_,_,_,hv⟩
    · exact⟨_,_,_,hv⟩
  go_wp2
  go_ret2
  refine⟨rfl,?_,?_⟩
  · exact Lib.BuilderAt.put (T:=38) (e:=5) hB hb2 (bs':=bs++Lib.strCells s) (by simpa [Lib.strCells_length] using hown') (by decide)
  · exact (hb1.grown hgrow (by have:=hb1.size;omega) (fun k hk=>(hown.lt k hk).1)).setCell (p:=⟨b,1,none⟩) hB _
end Go.Proofs
namespace Go.Proofs
open Go.Shelf
def Try.lays169_ren:Go.Shelf.Ren:=⟨fun | 169=>15 | n=>n,fun | 70=>35 | 9=>9 | 0=>0 | 72=>38 | 37=>36 | 127=>49 | 3=>3 | 5=>5 | n=>n,fun | n=>n⟩
theorem Try.lays169:Go.Proofs.Lays.n169 Try.prog Try.lays169_ren:={
  mixed:=by kernel_rfl
  f169:=Try.func15.trans (congrArg some (by kernel_rfl))
  t0:=Try.underlying0
  a0:=Try.isAgg0
  z0:=Try.sizeOf0
  v0:=Try.zeroValue0
  t3:=Try.underlying3
  a3:=Try.isAgg3
  z3:=Try.sizeOf3
  v3:=Try.zeroValue3
  t9:=Try.underlying9
  a9:=Try.isAgg9
  z9:=Try.sizeOf9
  v9:=Try.zeroValue9
  t37:=Try.underlying36
  a37:=Try.isAgg36
  z37:=Try.sizeOf36
  v37:=Try.zeroValue36
  t70:=Try.underlying35
  a70:=Try.isAgg35
  z70:=Try.sizeOf35
  v70:=Try.zeroValue35
  t72:=Try.underlying38
  a72:=Try.isAgg38
  z72:=Try.sizeOf38
  v72:=Try.zeroValue38
  t127:=Try.underlying49
  a127:=Try.isAgg49
  z127:=Try.sizeOf49
  v127:=Try.zeroValue49 }
theorem Try.Builder_Extra_169:Builder.Extra Try.prog Try.lays169_ren:={
  sizeBuilder:=by kernel_rfl
  liesBuilder:=by kernel_rfl
  t5:=Try.underlying5
  a5:=Try.isAgg5
  z5:=Try.sizeOf5
  v5:=Try.zeroValue5
  infoByte:=by kernel_rfl
  cellsByte:=by kernel_rfl
  sizeByte:=by kernel_rfl
  neB5:=by decide }
open Go.RowKit in
theorem Try.Builder_String_any (B b:Nat) (l:List UInt8) (w:World) (h:Lib.IsBuilder 38 5 B b (Lib.byteCells l) w) (hBw:B≤w.heap.size) :
    Calls Try.prog 15 #[.pointer (some ⟨b,0,none⟩)] w fun e w'=>e=.returned (.string ⟨l.toArray⟩)∧Below B w w':=Any.Builder_String_any Try.lays169 Try.Builder_Extra_169 B b l w h hBw
end Go.Proofs
namespace Go.AE
def Bd (s:Str) (k b:Nat):Prop:=b<k∧∀i,i<b→s.getD i 0=s.getD (k-b+i) 0
theorem Bd.zero (s:Str) {k:Nat} (h:0<k):Bd s k 0:=⟨h,fun i hi=>absurd hi (by omega)⟩
theorem Bd.trans {s:Str} {k b c:Nat} (h:Bd s k b) (h2:Bd s b c):Bd s k c:=by
  refine⟨by have:=h.1;have:=h2.1;omega,fun i hi=>?_⟩
  have h3:=h.1
  have h4:=h2.1
  rw[h2.2 i hi,h.2 (b-c+i) (by omega)]
  congr 1
  omega
theorem Bd.nest {s:Str} {k b c:Nat} (h:Bd s k b) (h2:Bd s k c) (h3:c<b):Bd s b c:=by
  refine⟨h3,fun i hi=>?_⟩
  have h4:=h.1
  rw[h2.2 i hi,h.2 (b-c+i) (by omega)]
  congr 1
  omega
theorem Bd.succ {s:Str} {k c:Nat}:Bd s (k+1) (c+1)↔(Bd s k c∧s.getD c 0=s.getD k 0)∨False:=by
  constructor
  · rintro⟨h1,h2⟩
    refine .inl ⟨⟨by omega,fun i hi=>?_⟩,?_⟩
    · have:=h2 i (by omega)
      rw[this]
      congr 1
      omega
    · have:=h2 c (by omega)
      rw[this]
      congr 1
      omega
  · rintro (⟨⟨h1,h2⟩,h3⟩ | h)
    · refine⟨by omega,fun i hi=>?_⟩
      rcases Nat.lt_or_ge i c with h4 | h4
      · rw[h2 i h4]
        congr 1
        omega
      · have:i=c:=by omega
        subst this
        rw[h3]
        congr 1
        omega
    · exact h.elim
def bdB (s:Str) (k b:Nat):Bool:=decide (s.take b=(s.take k).drop (k-b))
theorem bdB_iff {s:Str} {k b:Nat} (hk:k≤s.length) (hb:b<k):bdB s k b=true↔Bd s k b:=by
  simp only[bdB,decide_eq_true_eq]
  constructor
  · intro h
    refine⟨hb,fun i hi=>?_⟩
    have h1:(s.take b).getD i 0=s.getD i 0:=by simp[List.getD,List.getElem?_take,hi]
    rw[← h1,h]
    simp[List.getD,List.getElem?_take,show k-b+i<k by omega]
  · rintro⟨_,h⟩
    apply List.ext_getElem
    · simp;omega
    · intro i h1 h2
      simp at h1
      have:=h i (by omega)
      simp only[List.getElem_take,List.getElem_drop]
      have e1:s.getD i 0=s[i]:=by simp[List.getD,show i<s.length by omega]
      have e2:s.getD (k-b+i) 0=s[k-b+i]:=by simp[List.getD,show k-b+i<s.length by omega]
      rw[← e1,this,e2]
def downV (s:Str) (k:Nat):Nat→Nat
  | 0=>0
  | b+1=>if bdB s k (b+1)=true then b+1 else downV s k b
def bordV (s:Str) (k:Nat):Nat:=downV s k (k-1)
def bordsV (s:Str):List Int:=(List.range s.length).map fun k=>(bordV s (k+1):Int)
theorem downV_spec {s:Str} {k:Nat} (hk:k≤s.length):∀b,b<k→Bd s k (downV s k b)∧downV s k b≤b∧∀c,c≤b→Bd s k c→c≤downV s k b
  | 0,hb=>⟨Bd.zero s hb,Nat.le_refl _,fun c hc _=>hc⟩
  | b+1,hb=>by
    obtain⟨h1,h2,h3⟩:=downV_spec hk b (by omega)
    simp only[downV]
    split
    · rename_i h
      exact⟨(bdB_iff hk hb).1 h,Nat.le_refl _,fun c hc _=>hc⟩
    · rename_i h
      refine⟨h1,by omega,fun c hc hb2=>?_⟩
      rcases Nat.lt_or_ge c (b+1) with h4 | h4
      · exact h3 c (by omega) hb2
      · have:c=b+1:=by omega
        subst this
        exact absurd ((bdB_iff hk hb).2 hb2) h
theorem bordV_spec {s:Str} {k:Nat} (hk:k≤s.length) (h0:0<k):Bd s k (bordV s k)∧∀c,Bd s k c→c≤bordV s k:=by
  obtain⟨h1,_,h3⟩:=downV_spec hk (k-1) (by omega)
  exact⟨h1,fun c hc=>h3 c (by have:=hc.1;omega) hc⟩
theorem bordV_eq {s:Str} {k b:Nat} (hk:k≤s.length) (h1:Bd s k b) (h2:∀c,Bd s k c→c≤b):bordV s k=b:=by
  obtain⟨h3,h4⟩:=bordV_spec hk (by have:=h1.1;omega)
  exact Nat.le_antisymm (h2 _ h3) (h4 _ h1)
theorem bordV_one {s:Str} (h:1≤s.length):bordV s 1=0:=bordV_eq h (Bd.zero s (by omega)) fun c hc=>by have:=hc.1;omega
theorem bord_step {s:Str} {k b:Nat} (hb:Bd s k b) (hm:∀c,Bd s (k+1) (c+1)→c≤b) (hk:k<s.length) :
    (s.getD b 0=s.getD k 0→bordV s (k+1)=b+1)∧(s.getD b 0≠s.getD k 0→b=0→bordV s (k+1)=0) ∧
    (s.getD b 0≠s.getD k 0→0<b→Bd s k (bordV s b)∧bordV s b<b∧∀c,Bd s (k+1) (c+1)→c≤bordV s b):=by
  have hbk:=hb.1
  refine⟨fun he=>?_,fun hne h0=>?_,fun hne h0=>?_⟩
  · refine bordV_eq hk (Bd.succ.2 (.inl ⟨hb,he⟩)) fun c hc=>?_
    cases c with
    | zero=>omega
    | succ c=>have:=hm c hc;omega
  · refine bordV_eq hk (Bd.zero s (by omega)) fun c hc=>?_
    cases c with
    | zero=>omega
    | succ c =>
      have h1:=hm c hc
      rcases Bd.succ.1 hc with ⟨h2,h3⟩ | h
      · have:c=b:=by omega
        subst this
        exact absurd h3 hne
      · exact h.elim
  · obtain⟨h1,h2⟩:=bordV_spec (s:=s) (k:=b) (by omega) h0
    refine⟨hb.trans h1,h1.1,fun c hc=>?_⟩
    have h3:=hm c hc
    rcases Bd.succ.1 hc with ⟨h4,h5⟩ | h
    · rcases Nat.lt_or_ge c b with h6 | h6
      · exact h2 c (hb.nest h4 h6)
      · have:c=b:=by omega
        subst this
        exact absurd h5 hne
    · exact h.elim
def atB (n s:Str) (i:Nat):Bool:=decide (n≠[]∧i+n.length≤s.length∧(s.drop i).take n.length=n)
def nextF (n s:Str):Nat→Nat→Option Nat
  | 0,_=>none
  | f+1,i=>if atB n s i=true then some i else nextF n s f (i+1)
def nextV (n s:Str) (i:Nat):Option Nat:=nextF n s (s.length+1-i) i
theorem nextF_spec (n s:Str):∀(f i:Nat),match nextF n s f i with
    | some j=>i≤j∧j<i+f∧atB n s j=true∧∀k,i≤k→k<j→atB n s k=false
    | none=>∀k,i≤k→k<i+f→atB n s k=false
  | 0,i=>by intro k h1 h2;omega
  | f+1,i=>by
    have ih:=nextF_spec n s f (i+1)
    by_cases h:atB n s i=true
    · simp only[nextF,h,if_true]
      exact⟨Nat.le_refl _,by omega,trivial,fun k h1 h2=>by omega⟩
    · simp only[nextF,h,if_false,Bool.false_eq_true]
      cases hq:nextF n s f (i+1) with
      | none =>
        rw[hq] at ih
        simp only at ih ⊢
        intro k h1 h2
        rcases Nat.lt_or_ge i k with h3 | h3
        · exact ih k (by omega) (by omega)
        · have:k=i:=by omega
          subst this
          simpa using h
      | some j =>
        rw[hq] at ih
        simp only at ih ⊢
        obtain⟨a1,a2,a3,a4⟩:=ih
        refine⟨by omega,by omega,a3,fun k h1 h2=>?_⟩
        rcases Nat.lt_or_ge i k with h3 | h3
        · exact a4 k (by omega) h2
        · have:k=i:=by omega
          subst this
          simpa using h
theorem atB_le {n s:Str} {i:Nat} (h:atB n s i=true):n≠[]∧i+n.length≤s.length∧(s.drop i).take n.length=n:=by simpa [atB] using h
theorem nextV_some {n s:Str} {i j:Nat} (h:nextV n s i=some j):i≤j∧atB n s j=true∧∀k,i≤k→k<j→atB n s k=false:=by
  have:=nextF_spec n s (s.length+1-i) i
  unfold nextV at h
  rw[h] at this
  exact⟨this.1,this.2.2.1,this.2.2.2⟩
theorem nextV_none {n s:Str} {i:Nat} (h:nextV n s i=none):∀k,i≤k→atB n s k=false:=by
  have:=nextF_spec n s (s.length+1-i) i
  unfold nextV at h
  rw[h] at this
  intro k hk
  by_cases h2:k<i+(s.length+1-i)
  · exact this k hk h2
  · by_cases h3:atB n s k=true
    · have:=(atB_le h3).2.1
      omega
    · simpa using h3
theorem nextV_eq {n s:Str} {i j:Nat} (h1:i≤j) (h2:atB n s j=true) (h3:∀k,i≤k→k<j→atB n s k=false):nextV n s i=some j:=by
  cases h:nextV n s i with
  | none=>have:=nextV_none h j h1;rw[h2] at this;simp at this
  | some k =>
    obtain⟨a1,a2,a3⟩:=nextV_some h
    rcases Nat.lt_trichotomy j k with h4 | h4 | h4
    · have:=a3 j h1 h4;rw[h2] at this;simp at this
    · rw[h4]
    · have:=h3 k a1 h4;rw[a2] at this;simp at this
theorem nextV_noneOf {n s:Str} {i:Nat} (h:∀k,i≤k→atB n s k=false):nextV n s i=none:=by
  cases h2:nextV n s i with
  | none=>rfl
  | some k =>
    obtain⟨a1,a2,_⟩:=nextV_some h2
    have:=h k a1
    rw[a2] at this
    simp at this
def posF (n s:Str):Nat→Nat→List Nat
  | 0,_=>[]
  | f+1,i=>match nextV n s i with
    | some j=>j::posF n s f (j+n.length)
    | none=>[]
def posV (n s:Str) (i:Nat):List Nat:=posF n s (s.length+1-i) i
theorem posF_fuel (n s:Str):∀(f g i:Nat),s.length+1-i≤f→s.length+1-i≤g→posF n s f i=posF n s g i
  | 0,0,_,_,_=>rfl
  | 0,g+1,i,h,_=>by
    have:nextV n s i=none:=nextV_noneOf fun k hk=>by
      by_cases h3:atB n s k=true
      · have:=(atB_le h3).2.1;omega
      · simpa using h3
    simp only[posF,this]
  | f+1,0,i,_,h=>by
    have:nextV n s i=none:=nextV_noneOf fun k hk=>by
      by_cases h3:atB n s k=true
      · have:=(atB_le h3).2.1;omega
      · simpa using h3
    simp only[posF,this]
  | f+1,g+1,i,h1,h2=>by
    simp only[posF]
    split
    · rename_i j hj
      obtain⟨a1,a2,_⟩:=nextV_some hj
      have h3:=atB_le a2
      have h4:0<n.length:=List.length_pos_iff.2 h3.1
      rw[posF_fuel n s f g (j+n.length) (by omega) (by omega)]
    · rfl
theorem posV_some {n s:Str} {i j:Nat} (h:nextV n s i=some j):posV n s i=j::posV n s (j+n.length):=by
  obtain⟨a1,a2,_⟩:=nextV_some h
  have h3:=atB_le a2
  have h4:0<n.length:=List.length_pos_iff.2 h3.1
  unfold posV
  rw[show s.length+1-i=(s.length-i)+1 by omega]
  simp only[posF,h]
  rw[posF_fuel n s _ (s.length+1-(j+n.length)) _ (by omega) (Nat.le_refl _)]
theorem posV_none {n s:Str} {i:Nat} (h:nextV n s i=none):posV n s i=[]:=by
  unfold posV
  cases s.length+1-i with
  | zero=>rfl
  | succ f=>simp only[posF,h]
theorem pos_induct {n s:Str} {C:Nat→Prop} (h0:∀i,nextV n s i=none→C i) (h1:∀i j,nextV n s i=some j→C (j+n.length)→C i):∀i,C i:=by
  have:∀(f i:Nat),s.length+1-i≤f→C i:=by
    intro f
    induction f with
    | zero =>
      intro i hi
      exact h0 i (nextV_noneOf fun k hk=>by
        by_cases h3:atB n s k=true
        · have:=(atB_le h3).2.1;omega
        · simpa using h3)
    | succ f ih =>
      intro i hi
      cases h:nextV n s i with
      | none=>exact h0 i h
      | some j =>
        obtain⟨a1,a2,_⟩:=nextV_some h
        have h3:=atB_le a2
        have h4:0<n.length:=List.length_pos_iff.2 h3.1
        exact h1 i j h (ih _ (by omega))
  intro i
  exact this _ i (Nat.le_refl _)
theorem posV_len (n s:Str):∀i,(posV n s i).length≤s.length-i∨(posV n s i)=[]:=by
  refine pos_induct (n:=n) (s:=s) (fun i h=>.inr (posV_none h)) fun i j h ih=>?_
  left
  obtain⟨a1,a2,_⟩:=nextV_some h
  have h3:=atB_le a2
  have h4:0<n.length:=List.length_pos_iff.2 h3.1
  rw[posV_some h,List.length_cons]
  rcases ih with ih | ih
  · omega
  · rw[ih];simp;omega
theorem posV_len' (n s:Str) (i:Nat):(posV n s i).length≤s.length:=by
  rcases posV_len n s i with h | h
  · omega
  · simp[h]
def replL (m:Nat) (y s:Str):Nat→List Nat→Str
  | fr,[]=>s.drop fr
  | fr,i::r=>(s.take i).drop fr++y++replL m y s (i+m) r
def validL (m n:Nat):Nat→List Nat→Prop
  | fr,[]=>fr≤n
  | fr,i::r=>fr≤i∧i+m≤n∧validL m n (i+m) r
theorem validL.le {m n:Nat}:∀{fr:Nat} {l:List Nat},validL m n fr l→fr≤n
  | _,[],h=>h
  | _,_::_,h=>by have:=h.1;have:=h.2.1;omega
theorem replL_len (m:Nat) (y s:Str):∀(l:List Nat) (fr:Nat),validL m s.length fr l→((replL m y s fr l).length:Int)=(s.length:Int)-fr+l.length * ((y.length:Int)-m)
  | [],fr,h=>by
    have h:fr≤s.length:=h
    simp only[replL,List.length_drop,List.length_nil]
    omega
  | i::r,fr,h=>by
    obtain⟨h1,h2,h3⟩:=h
    have ih:=replL_len m y s r (i+m) h3
    simp only[replL,List.length_append,List.length_drop,List.length_take,List.length_cons]
    have e:((r.length:Int)+1) * ((y.length:Int)-m)=r.length * ((y.length:Int)-m)+((y.length:Int)-m):=by rw[Int.add_mul,Int.one_mul]
    push_cast
    rw[e]
    omega
theorem valid_pos (n s:Str):∀i,i≤s.length→validL n.length s.length i (posV n s i):=by
  refine pos_induct (n:=n) (s:=s) (fun i h hi=>?_) (fun i j h ih hi=>?_)
  · rw[posV_none h];exact hi
  · rw[posV_some h]
    obtain⟨h1,h2,_⟩:=nextV_some h
    have:=(atB_le h2).2.1
    exact⟨h1,this,ih this⟩
theorem validL.count {m n:Nat} (hm:0<m):∀{fr:Nat} {l:List Nat},validL m n fr l→fr+l.length * m≤n
  | _,[],h=>by simp;exact h
  | fr,i::r,h=>by
    obtain⟨h1,h2,h3⟩:=h
    have:=validL.count hm h3
    simp only[List.length_cons,Nat.add_mul,Nat.one_mul]
    omega
end Go.AE
set_option linter.unusedVariables false
namespace Go.Proofs
open Go.RowKit Go.AE
def PosRep (w:World) (xs:List Nat) (v:Value):Prop:=∃(a:Option Addr) (cap:Nat),v=.slice a xs.length cap∧xs.length≤cap∧∀(k:Nat) (h:k<xs.length),∃b off,a=some ⟨b,off,none⟩∧b<w.heap.size∧w.cell? ⟨b,off+k,none⟩=some (.int .i64 xs[k])
theorem cut_bytes (s:Str) (a b:Nat):(ByteArray.mk s.toArray).extract a b=⟨((s.take b).drop a).toArray⟩:=by
  apply ByteArray.ext
  rw[ByteArray.data_extract]
  simp[List.drop_take]
theorem run_cut (w:World) (s:Str) (a b:Nat) (h:a≤b) (h2:b≤s.length):(Instr.slice 9 (.string ⟨s.toArray⟩) (some (.int .i64 a)) (some (.int .i64 b)) none).run Try.prog w=.ok (.string ⟨((s.take b).drop a).toArray⟩) w:=by
  have hsz:(ByteArray.mk s.toArray).size=s.length:=by show s.toArray.size=_;simp
  rw[run_slice_string w 9 ⟨s.toArray⟩ .i64 .i64 (a:Int) (b:Int) Try.underlying9 (by omega) (by omega) (by rw[hsz];omega)]
  rw[show ((a:Int).toNat)=a from rfl,show ((b:Int).toNat)=b from rfl,cut_bytes]
theorem run_cut_from (w:World) (s:Str) (a:Nat) (h:a≤s.length):(Instr.slice 9 (.string ⟨s.toArray⟩) (some (.int .i64 a)) none none).run Try.prog w=.ok (.string ⟨(s.drop a).toArray⟩) w:=by
  have hsz:(ByteArray.mk s.toArray).size=s.length:=by show s.toArray.size=_;simp
  rw[run_slice_string_l w (t:=9) (s:=⟨s.toArray⟩) Try.underlying9 .i64 (a:Int) (by omega) (by rw[hsz];omega)]
  rw[show ((a:Int).toNat)=a from rfl,hsz,cut_bytes,List.take_length]
set_option maxHeartbeats 4000000 in
set_option maxRecDepth 1000000 in
theorem Try.replace_walk (n s y:Str) (xs:List Nat) (w:World) (hn:n.length≤1048576) (hs:s.length≤1048576) (hy:y.length≤1048576) (hx:xs.length≤1048576)
    (hv:validL n.length s.length 0 xs)
    (hP:Calls Try.prog 9 #[.string ⟨n.toArray⟩,.string ⟨s.toArray⟩] w fun e w'=>∃v,e=.returned v∧PosRep w' xs v∧Below w.heap.size w w') :
    Calls Try.prog 6 #[.string ⟨n.toArray⟩,.string ⟨s.toArray⟩,.string ⟨y.toArray⟩] w fun e w' =>
      e=.returned (if (s.length:Int)+xs.length * ((y.length:Int)-n.length) > 16777216 then .tuple #[.string ⟨#[]⟩,.int .i64 1] else .tuple #[.string ⟨(replL n.length y s 0 xs).toArray⟩,.int .i64 0])∧Below w.heap.size w w':=by
  go_enter Try.func6,Try.ntmps6
  go_wp2_with (go_at_call 9;refine hP.mono ?_)
  rintro e w1 ⟨v,rfl,⟨a,cap,rfl,hcap,hcell⟩,hb1⟩
  obtain⟨z,hz⟩:∃z:Int,(xs.length:Int) * ((y.length:Int)-n.length)=z:=⟨_,rfl⟩
  have hz1:-1099511627776≤z∧z≤1099511627776:=by
    have a1:(xs.length:Int) * ((y.length:Int)-n.length)≤1048576 * 1048576:=by
      by_cases h0:(0:Int)≤(y.length:Int)-n.length
      · exact Int.le_trans (Int.mul_le_mul_of_nonneg_right (show (xs.length:Int)≤1048576 by omega) h0) (Int.mul_le_mul_of_nonneg_left (by omega) (by omega))
      · exact Int.le_trans (Int.mul_nonpos_of_nonneg_of_nonpos (by omega) (by omega)) (by omega)
    have a2:(xs.length:Int) * ((n.length:Int)-y.length)≤1048576 * 1048576:=by
      by_cases h0:(0:Int)≤(n.length:Int)-y.length
      · exact Int.le_trans (Int.mul_le_mul_of_nonneg_right (show (xs.length:Int)≤1048576 by omega) h0) (Int.mul_le_mul_of_nonneg_left (by omega) (by omega))
      · exact Int.le_trans (Int.mul_nonpos_of_nonneg_of_nonpos (by omega) (by omega)) (by omega)
    have a3:(xs.length:Int) * ((n.length:Int)-y.length)=-((xs.length:Int) * ((y.length:Int)-n.length)):=by rw[← Int.mul_neg];congr 1;omega
    omega
  have hw1:wrap64 ((xs.length:Int) * ((y.length:Int)-n.length))=z:=by rw[hz];unfold wrap64;omega
  have hw2:wrap64 ((s.length:Int)+z)=(s.length:Int)+z:=by unfold wrap64;omega
  by_cases hc:16777216<(s.length:Int)+z
  · go_wp2
    go_ret2
    exact⟨rfl,hb1⟩
  · go_wp2
    have hsz:w.heap.size≤w1.heap.size:=hb1.size
    have htot:=replL_len n.length y s xs 0 hv
    rw[hz] at htot
    have hla:∀(acc:Str) (r:Str),acc++r=replL n.length y s 0 xs→acc.length≤16777216:=fun acc r h=>by
      have:=congrArg List.length h
      rw[List.length_append] at this
      omega
    go_loopw [10,30] (fun vf vi wr=>∃(k fr:Nat) (acc:Str),k≤xs.length∧vi=.int .i64 k∧vf=.int .i64 fr∧validL n.length s.length fr (xs.drop k)∧acc++replL n.length y s fr (xs.drop k)=replL n.length y s 0 xs∧Lib.IsBuilder 38 5 w1.heap.size w1.heap.size (Lib.byteCells acc) wr∧w1.heap.size≤wr.heap.size∧Below w1.heap.size w1 wr) (fun _ vi _=>xs.length-(intOf vi).toNat)
    case atStart =>
      refine⟨0,0,[],by omega,rfl,rfl,hv,rfl,Lib.fresh_isBuilder 38 5 w1,by simp,(Below.refl _ w1).alloc (Nat.le_refl _) _⟩
    case round =>
      obtain⟨k,fr,acc,hk,rfl,rfl,hvl,hacc,hI,hsw,hbw⟩:=hrel
      by_cases hkn:k<xs.length
      · obtain⟨b,off,rfl,hbl,hc1⟩:=hcell k hkn
        have hc2:wr.cell? ⟨b,off+k,none⟩=some (.int .i64 xs[k]):=by rw[hbw.cell (p:=⟨b,off+k,none⟩) hbl];exact hc1
        have hdr:xs.drop k=xs[k]::xs.drop (k+1):=List.drop_eq_getElem_cons hkn
        rw[hdr] at hvl hacc
        obtain⟨v1,v2,v3⟩:=hvl
        obtain⟨i,hi⟩:∃i,xs[k]=i:=⟨_,rfl⟩
        rw[hi] at hc2 v1 v2 v3 hacc
        have hsl:∀w,(Instr.slice 9 (.string ⟨s.toArray⟩) (some (.int .i64 fr)) (some (.int .i64 i)) none).run Try.prog w=.ok (.string ⟨((s.take i).drop fr).toArray⟩) w:=fun w=>run_cut w s fr i v1 (by omega)
        go_wp2_with (go_at_call 14;refine (Try.writeString w1.heap.size w1.heap.size (Lib.byteCells acc) _ _ hI ?c1 hsw).mono ?_)
        case c1 =>
          have h1:=hla _ _ hacc
          rw[Lib.byteCells_length]
          simp[ByteArray.size]
          omega
        rintro e W1 ⟨rfl,hI1,hb2⟩
        have hI1':Lib.IsBuilder 38 5 w1.heap.size w1.heap.size (Lib.byteCells (acc++(s.take i).drop fr)) W1:=by
          rw[Lib.byteCells_append]
          exact Or.inr hI1
        have hs1:w1.heap.size≤W1.heap.size:=Nat.le_trans hsw hb2.size
        go_wp2_with (go_at_call 14;refine (Try.writeString w1.heap.size w1.heap.size (Lib.byteCells (acc++(s.take i).drop fr)) _ _ hI1' ?c2 hs1).mono ?_)
        case c2 =>
          have h1:=hla (acc++(s.take i).drop fr) (y++replL n.length y s (i+n.length) (xs.drop (k+1))) (by rw[← hacc];simp only[replL,List.append_assoc])
          rw[Lib.byteCells_length]
          simp[ByteArray.size] at h1 ⊢
          omega
        rintro e W2 ⟨rfl,hI2,hb3⟩
        go_wp2
        go_roundw
        case rel =>
          refine⟨k+1,i+n.length,acc++(s.take i).drop fr++y,by omega,by go_num,by go_num,v3,?_,?_,?_,?_⟩
          · rw[← hacc];simp only[replL,List.append_assoc]
          · rw[Lib.byteCells_append];exact Or.inr hI2
          · exact Nat.le_trans hs1 hb3.size
          · exact (hbw.trans hb2).trans hb3
        case measure =>
          simp[intOf]
          omega
      · have hkx:k=xs.length:=by omega
        subst hkx
        rw[List.drop_length] at hvl hacc
        have hfs:fr≤s.length:=hvl
        have hsl:∀w,(Instr.slice 9 (.string ⟨s.toArray⟩) (some (.int .i64 fr)) none none).run Try.prog w=.ok (.string ⟨(s.drop fr).toArray⟩) w:=fun w=>run_cut_from w s fr hfs
        go_wp2_with (go_at_call 14;refine (Try.writeString w1.heap.size w1.heap.size (Lib.byteCells acc) _ _ hI ?c1 hsw).mono ?_)
        case c1 =>
          have h1:=hla _ _ hacc
          rw[Lib.byteCells_length]
          simp[ByteArray.size]
          omega
        rintro e W1 ⟨rfl,hI1,hb2⟩
        have hI1':Lib.IsBuilder 38 5 w1.heap.size w1.heap.size (Lib.byteCells (acc++s.drop fr)) W1:=by
          rw[Lib.byteCells_append]
          exact Or.inr hI1
        have hs1:w1.heap.size≤W1.heap.size:=Nat.le_trans hsw hb2.size
        go_wp2_with (go_at_call 15;refine (Try.Builder_String_any w1.heap.size w1.heap.size (acc++s.drop fr) W1 hI1' hs1).mono ?_)
        rintro e W2 ⟨rfl,hb3⟩
        go_wp2
        go_ret2
        have hacc':acc++s.drop fr=replL n.length y s 0 xs:=hacc
        rw[hacc']
        exact⟨rfl,hb1.trans (((hbw.trans hb2).trans hb3).mono hsz)⟩
end Go.Proofs
namespace Go.AE
theorem u8_int (a b:UInt8):((a.toNat:Int)=b.toNat)=(a=b):=by
  apply propext
  constructor
  · intro h
    exact UInt8.toNat_inj.1 (by omega)
  · rintro rfl;rfl
@[simp] def S_ref07_At:List D→Prop × D:=spec3 (α:=Str) (β:=Str) (γ:=Int) (fun n s i=>n.length≤1048576∧s.length≤4194304∧0≤i∧i≤s.length) (fun n s i=>Rep.to (atB n s i.toNat))
theorem ct_ref07_At {P:Program} {f:Nat} {G:Gam} (h:CodeOf P f 3 4 [3] x_ref07_At) (hG:GamOk P G):Has P f S_ref07_At:=h.has3 hG fun n s i hp=>by
  obtain⟨h1,h2,h3,h4⟩:=hp
  obtain⟨i,rfl⟩:=Int.eq_ofNat_of_zero_le h3
  have w1:=wrap_in (n:=(s.length:Int)-i) (by omega) (by omega)
  have w2:=wrap_in (n:=(i:Int)+n.length) (by omega) (by omega)
  have e1:((i:Int)+n.length).toNat=i+n.length:=by omega
  by_cases h5:n=[]
  · simp[x_ref07_At,h5,atB]
  · by_cases h6:i+n.length≤s.length
    · have h6':(n.length:Int)≤s.length-i:=by omega
      simp[x_ref07_At,h5,w1,w2,h6',e1,atB,h6]
      omega
    · have h6':¬(n.length:Int)≤s.length-i:=by omega
      simp[x_ref07_At,h5,w1,w2,h6',atB,h6]
@[simp] def nextD (o:Option Nat):D:=.tup [.int .i64 ((o.getD 0:Nat):Int),.bool o.isSome]
def nextI (n s:Str) (i:Int):Option Nat:=if 0≤i∧i≤s.length then nextV n s i.toNat else none
@[simp] def S_ref07_Next:List D→Prop × D:=spec3 (α:=Str) (β:=Str) (γ:=Int) (fun n s _=>n.length≤1048576∧s.length≤4194304) (fun n s i=>nextD (nextI n s i))
theorem nextV_stop {n s:Str} {i:Nat} (h:s.length<i):nextV n s i=none:=nextV_noneOf fun k hk=>by
  by_cases h3:atB n s k=true
  · have:=(atB_le h3).2.1;omega
  · simpa using h3
theorem nextV_skip {n s:Str} {i:Nat} (h:atB n s i=false):nextV n s i=nextV n s (i+1):=by
  cases h2:nextV n s (i+1) with
  | none =>
    refine nextV_noneOf fun k hk=>?_
    rcases Nat.lt_or_ge i k with h3 | h3
    · exact nextV_none h2 k (by omega)
    · rw[show k=i by omega];exact h
  | some j =>
    obtain⟨a1,a2,a3⟩:=nextV_some h2
    refine nextV_eq (by omega) a2 fun k h3 h4=>?_
    rcases Nat.lt_or_ge i k with h5 | h5
    · exact a3 k (by omega) h4
    · rw[show k=i by omega];exact h
theorem ct_ref07_Next {P:Program} {f g:Nat} {G:Gam} (h:CodeOf P f 3 8 [3,4] (x_ref07_Next g)) (hG:GamOk P G) (hg:G.find g=some S_ref07_At):Has P f S_ref07_Next:=h.has3 hG fun n s i hp=>by
  obtain⟨h1,h2⟩:=hp
  by_cases h3:0≤i
  · obtain⟨i,rfl⟩:=Int.eq_ofNat_of_zero_le h3
    by_cases h4:i≤s.length
    · have e:nextI n s i=nextV n s i:=by unfold nextI;rw[if_pos (by omega)];rfl
      simp[x_ref07_Next,e]
      refine vc_lp (σ:=Nat) (fun k=>k≤s.length+1∧nextV n s k=nextV n s i) (fun k=>s.length+1-k) (fun k=>[.d (Rep.to n),.d (Rep.to s),.any,.any,.any,.d (.int .i64 k),.any,.any]) (fun _=>[]) i (by simp) (by simp) ⟨by omega,rfl⟩ ?_
      rintro k ⟨b1,b2⟩
      by_cases c1:k≤s.length
      · have w1:IntKind.i64.wrap ((k:Int)+1)=((k+1:Nat):Int):=by rw[wrap_in (by omega) (by omega)];push_cast;rfl
        by_cases c2:atB n s k=true
        · have e2:nextV n s k=some k:=nextV_eq (Nat.le_refl _) c2 fun j h1 h2=>by omega
          simp[c1,hg,h1,h2,c2,← b2,e2,nextD]
        · have c2:atB n s k=false:=by simpa using c2
          simp[c1,hg,h1,h2,c2,w1]
          exact Nxt.mk (k+1) (by omega) (by simp) (by simp) ⟨by omega,by rw[← b2,nextV_skip c2]⟩
      · have e2:nextV n s k=none:=nextV_stop (by omega)
        simp[c1,← b2,e2,nextD]
    · have e:nextI n s i=none:=by unfold nextI;rw[if_neg (by omega)]
      simp[x_ref07_Next,e]
      refine vc_lp (σ:=Unit) (fun _=>True) (fun _=>0) (fun _=>[.d (Rep.to n),.d (Rep.to s),.any,.any,.any,.d (.int .i64 i),.any,.any]) (fun _=>[]) () (by simp) (by simp) trivial ?_
      intro _ _
      simp[h4,nextD]
  · have e:nextI n s i=none:=by unfold nextI;rw[if_neg (by omega)]
    simp[x_ref07_Next,e]
    refine vc_lp (σ:=Unit) (fun _=>True) (fun _=>0) (fun _=>[.d (Rep.to n),.d (Rep.to s),.any,.any,.any,.d (.int .i64 i),.any,.any]) (fun _=>[]) () (by simp) (by simp) trivial ?_
    intro _ _
    simp[h3,nextD]
def posI (n s:Str):List Int:=(posV n s 0).map fun (k:Nat)=>(k:Int)
@[simp] def S_ref07_Positions:List D→Prop × D:=spec2 (α:=Str) (β:=Str) (fun n s=>n.length≤1048576∧s.length≤4194304) (fun n s=>Rep.to (posI n s))
theorem ct_ref07_Positions {P:Program} {f g:Nat} {G:Gam} (h:CodeOf P f 2 8 [2] (x_ref07_Positions g)) (hG:GamOk P G) (hg:G.find g=some S_ref07_Next):Has P f S_ref07_Positions:=h.has2 hG fun n s hp=>by
  obtain⟨h1,h2⟩:=hp
  simp[x_ref07_Positions]
  refine vc_lp (σ:=Nat × List Int) (fun x=>x.1≤s.length∧x.2.length≤x.1∧x.2++(posV n s x.1).map (fun (k:Nat)=>(k:Int))=posI n s) (fun x=>s.length+1-x.1) (fun x=>[.d (Rep.to n),.d (Rep.to s),.any,.gr 0 1 (x.2.map Rep.to),.d (.int .i64 x.1),.any,.any,.any]) (fun x=>[.tip x.2.length]) (0,[]) (by simp) (by simp) (by simp[posI]) ?_
  rintro⟨k,o⟩ ⟨b1,b2,b3⟩
  simp only at b1 b2 b3
  have e:nextI n s k=nextV n s k:=by unfold nextI;rw[if_pos (by omega)];rfl
  cases hq:nextV n s k with
  | none =>
    rw[posV_none hq,List.map_nil,List.append_nil] at b3
    simp[hg,h1,h2,e,hq,nextD,b3]
  | some j =>
    obtain⟨a1,a2,_⟩:=nextV_some hq
    have a3:=atB_le a2
    have a4:0<n.length:=List.length_pos_iff.2 a3.1
    have w1:IntKind.i64.wrap ((j:Int)+n.length)=((j+n.length:Nat):Int):=by rw[wrap_in (by omega) (by omega)];push_cast;rfl
    rw[posV_some hq] at b3
    simp[hg,h1,h2,e,hq,nextD,w1]
    refine⟨by unfold room;omega,Nxt.mk (j+n.length,o++[(j:Int)]) (by simp;omega) (by simp) (by simp) ⟨by simp;omega,by simp;omega,?_⟩⟩
    simp only
    rw[← b3]
    simp
theorem bordsV_len (s:Str):(bordsV s).length=s.length:=by simp[bordsV]
theorem occ_at {n s:Str} (hn:n≠[]) (fr i:Nat):Lib.occAt (s.drop fr) n i=atB n s (fr+i):=by
  by_cases h:fr+i+n.length≤s.length
  · rw[Lib.occAt_iff_take _ _ _ (by simp;omega),List.drop_drop]
    simp only[atB,ne_eq,hn,not_false_eq_true,h,true_and]
    exact beq_dec _ _
  · have h2:atB n s (fr+i)=false:=by simp[atB,h]
    rw[h2]
    cases h3:Lib.occAt (s.drop fr) n i with
    | false=>rfl
    | true =>
      rcases Lib.occAt_room h3 with h4 | h4
      · simp at h4
        have:0<n.length:=List.length_pos_iff.2 hn
        omega
      · exact absurd h4 hn
theorem index_next {n s:Str} (hn:n≠[]) {fr:Nat} (hf:fr≤s.length):Lib.index (s.drop fr) n=match nextV n s fr with | some j=>((j-fr:Nat):Int) | none=>-1:=by
  cases h:nextV n s fr with
  | none =>
    exact Lib.index_none fun j hj=>by rw[occ_at hn];exact nextV_none h _ (by omega)
  | some j =>
    obtain⟨a1,a2,a3⟩:=nextV_some h
    have a4:=(atB_le a2).2.1
    refine Lib.index_first (by simp;omega) (by rw[occ_at hn,show fr+(j-fr)=j by omega];exact a2) fun k hk=>?_
    rw[occ_at hn]
    exact a3 _ (by omega) (by omega)
def indOk (s n:Str):Prop:=s.length<4294967281∨n.length=1
@[simp] theorem indOk_of {s n:Str} (h:s.length<4294967281):indOk s n:=.inl h
@[simp] def S_strings_Index:List D→Prop × D:=spec2 (α:=Str) (β:=Str) indOk (fun s n=>.int .i64 (Lib.index s n))
@[simp] def S_occur_Next:List D→Prop × D:=spec3 (α:=Str) (β:=Str) (γ:=Int) (fun _ s _=>s.length≤4194304) (fun n s i=>nextD (nextI n s i))
theorem nextV_nil (s:Str) (i:Nat):nextV [] s i=none:=nextV_noneOf fun k _=>by simp[atB]
theorem ct_occur_Next {P:Program} {f g:Nat} {G:Gam} (h:CodeOf P f 3 8 [3,4] (x_occur_Next g)) (hG:GamOk P G) (hg:G.find g=some S_strings_Index):Has P f S_occur_Next:=h.has3 hG fun n s i hs=>by
  by_cases h0:n=[]
  · subst h0
    have:nextI [] s i=none:=by unfold nextI;split;exact nextV_nil _ _;rfl
    simp[x_occur_Next,this,nextD]
  by_cases h1:0≤i
  · obtain⟨i,rfl⟩:=Int.eq_ofNat_of_zero_le h1
    by_cases h2:i≤s.length
    · have e:nextI n s i=nextV n s i:=by unfold nextI;rw[if_pos (by omega)];rfl
      have e2:=index_next h0 h2
      have h2':¬((i:Int) > s.length):=by omega
      have h3:(s.drop i).length<4294967281:=by simp;omega
      have e3:List.take (s.length-i) (s.drop i)=s.drop i:=List.take_of_length_le (by simp)
      cases hq:nextV n s i with
      | none =>
        rw[hq] at e2
        simp[x_occur_Next,h0,h2,hg,e3,e2,e,hq,nextD]
        exact indOk_of h3
      | some j =>
        rw[hq] at e2
        obtain⟨a1,a2,_⟩:=nextV_some hq
        have a4:=(atB_le a2).2.1
        have w1:IntKind.i64.wrap ((i:Int)+((j-i:Nat):Int))=(j:Int):=by rw[wrap_in (by omega) (by omega)];omega
        simp only at e2
        simp[x_occur_Next,h0,h2,hg,e3,e2,e,hq,nextD,w1]
        exact indOk_of h3
    · have e:nextI n s i=none:=by unfold nextI;rw[if_neg (by omega)]
      simp[x_occur_Next,h0,h2,e,nextD]
  · have e:nextI n s i=none:=by unfold nextI;rw[if_neg (by omega)]
    simp[x_occur_Next,h0,h1,e,nextD]
@[simp] def S_occur_Positions:List D→Prop × D:=spec2 (α:=Str) (β:=Str) (fun n s=>n.length≤4194304∧s.length≤4194304) (fun n s=>Rep.to (posI n s))
theorem nextI_nat {n s:Str} {k:Nat} (h:k≤s.length):nextI n s k=nextV n s k:=by unfold nextI;rw[if_pos (by omega)];rfl
theorem ct_occur_Positions {P:Program} {f g:Nat} {G:Gam} (h:CodeOf P f 2 7 [2] (x_occur_Positions g)) (hG:GamOk P G) (hg:G.find g=some S_occur_Next):Has P f S_occur_Positions:=h.has2 hG fun n s hp=>by
  obtain⟨h1,h2⟩:=hp
  have e0:nextI n s 0=nextV n s 0:=nextI_nat (n:=n) (s:=s) (k:=0) (by omega)
  simp[x_occur_Positions,hg,h2,e0]
  refine vc_lp (σ:=Option Nat × List Int × Nat) (fun x=>x.2.2≤s.length∧x.2.1.length≤x.2.2∧x.1=nextV n s x.2.2∧x.2.1++(posV n s x.2.2).map (fun (k:Nat)=>(k:Int))=posI n s) (fun x=>s.length+1-x.2.2)
    (fun x=>[.d (Rep.to n),.d (Rep.to s),.any,.gr 0 1 (x.2.1.map Rep.to),.d (.int .i64 ((x.1.getD 0:Nat):Int)),.d (.bool x.1.isSome),.any]) (fun x=>[.tip x.2.1.length]) (nextV n s 0,[],0) (by simp) (by simp) ⟨by simp,by simp,rfl,by simp[posI]⟩ ?_
  rintro⟨c,o,k⟩ ⟨b1,b2,b3,b4⟩
  simp only at b1 b2 b3 b4
  subst b3
  cases hq:nextV n s k with
  | none =>
    rw[posV_none hq,List.map_nil,List.append_nil] at b4
    simp[b4]
  | some j =>
    obtain⟨a1,a2,_⟩:=nextV_some hq
    have a3:=atB_le a2
    have a4:0<n.length:=List.length_pos_iff.2 a3.1
    have w1:IntKind.i64.wrap ((j:Int)+n.length)=((j+n.length:Nat):Int):=by rw[wrap_in (by omega) (by omega)];push_cast;rfl
    have e1:=nextI_nat (n:=n) (s:=s) (k:=j+n.length) (by omega)
    rw[posV_some hq] at b4
    simp[hg,h2,w1]
    rw[show ((j:Int)+n.length)=((j+n.length:Nat):Int) by push_cast;rfl,e1]
    refine⟨by unfold room;omega,Nxt.mk (nextV n s (j+n.length),o++[(j:Int)],j+n.length) (by simp;omega) (by simp) (by simp) ⟨by simp;omega,by simp;omega,rfl,?_⟩⟩
    simp only
    rw[← b4]
    simp
@[simp] def S_occur_Count:List D→Prop × D:=spec2 (α:=Str) (β:=Str) (fun n s=>n.length≤4194304∧s.length≤4194304) (fun n s=>.int .i64 (posI n s).length)
theorem ct_occur_Count {P:Program} {f g:Nat} {G:Gam} (h:CodeOf P f 2 3 [2] (x_occur_Count g)) (hG:GamOk P G) (hg:G.find g=some S_occur_Positions):Has P f S_occur_Count:=h.has2 hG fun n s hp=>by
  obtain⟨h1,h2⟩:=hp
  simp[x_occur_Count,hg,h1,h2]
@[simp] def S_occur_Borders:List D→Prop × D:=spec1 (α:=Str) (fun s=>s.length≤4194304) (fun s=>Rep.to (bordsV s))
def bfill (s:Str) (k:Nat):List A:=(List.range s.length).map fun i=>.d (.int .i64 (if i<k then (bordV s (i+1):Int) else 0))
theorem bfill_len (s:Str) (k:Nat):(bfill s k).length=s.length:=by simp[bfill]
theorem bfill_get {s:Str} {k i:Nat} (h:i<k) (h2:i<(bfill s k).length):(bfill s k)[i]=.d (.int .i64 (bordV s (i+1))):=by simp[bfill,h]
theorem bfill_set {s:Str} {k:Nat} (h:k<s.length):(bfill s k).set k (.d (.int .i64 (bordV s (k+1))))=bfill s (k+1):=by
  apply List.ext_getElem
  · simp[bfill]
  · intro i h1 h2
    rw[List.getElem_set]
    by_cases h3:k=i
    · subst h3;simp[bfill]
    · simp only[bfill,h3,if_false,List.getElem_map,List.getElem_range]
      by_cases h4:i<k
      · simp[h4,show i<k+1 by omega]
      · simp[h4,show ¬i<k+1 by omega]
theorem ct_occur_Borders {P:Program} {f:Nat} {G:Gam} (h:CodeOf P f 1 8 [1] x_occur_Borders) (hG:GamOk P G):Has P f S_occur_Borders:=h.has1 hG fun s hs=>by
  simp[x_occur_Borders]
  refine⟨⟨by unfold room;omega,by omega⟩,?_⟩
  obtain⟨fl,hfl⟩:∃fl:Nat→List A,∀k,fl k=bfill s k:=⟨_,fun _=>rfl⟩
  have f1:∀k,(fl k).length=s.length:=fun k=>by rw[hfl,bfill_len]
  have f2:∀k i (h:i<(fl k).length),i<k→(fl k)[i]=.d (.int .i64 (bordV s (i+1))):=fun k i h h2=>by simp only[hfl];exact bfill_get h2 _
  have f3:s.length≤1∨True:=.inr trivial
  have f4:List.replicate s.length (A.d (D.int .i64 0))=fl 1:=by
    rw[hfl]
    apply List.ext_getElem
    · simp[bfill]
    · intro i h1 h2
      simp[bfill]
      intro h3
      subst h3
      simp at h1
      rw[show bordV s 1=0 from bordV_one (by omega)]
      rfl
  refine vc_lp (σ:=Nat) (fun k=>1≤k∧(k≤s.length∨k=1)) (fun k=>s.length+1-k) (fun k=>[.d (Rep.to s),.any,.own 0 0 0 s.length,.d (.int .i64 k),.any,.any,.any,.any]) (fun k=>[.cells 0 1 (fl k)]) 1 (by simp) (by simp[f4]) (by simp) ?_
  rintro k ⟨b1,b2⟩
  by_cases c1:k<s.length
  · have w1:IntKind.i64.wrap ((k:Int)-1)=((k-1:Nat):Int):=by rw[wrap_in (by omega) (by omega)];omega
    have c2:k-1<s.length:=by omega
    have e1:=f2 k (k-1) (by rw[f1];exact c2) (by omega)
    have c3:(1:Int)≤k:=by omega
    have c4:(k:Int)-1<s.length:=by omega
    have e2:((k:Int)-1).toNat=k-1:=by omega
    simp[c1,w1,c2,e1,f1]
    rw[show k-1+1=k by omega]
    obtain⟨g1,g2⟩:=bordV_spec (s:=s) (k:=k) (by omega) (by omega)
    refine vc_lp (σ:=Nat) (fun b=>Bd s k b∧∀c,Bd s (k+1) (c+1)→c≤b) (fun b=>b) (fun b=>[.d (Rep.to s),.any,.own 0 0 0 s.length,.d (.int .i64 k),.d (.int .i64 b),.any,.any,.any]) (fun _=>[.cells 0 1 (fl k)]) (bordV s k) (by simp) (by simp) ⟨g1,fun c hc=>?_⟩ ?_
    · rcases Bd.succ.1 hc with ⟨h1,_⟩ | h1
      · exact g2 c h1
      · exact h1.elim
    rintro b ⟨d1,d2⟩
    obtain⟨s1,s2,s3⟩:=bord_step d1 d2 c1
    have d3:=d1.1
    have q1:s.getD b 0=s[b]'(by omega):=by simp[List.getD,show b<s.length by omega]
    have q2:s.getD k 0=s[k]:=by simp[List.getD,c1]
    rw[q1,q2] at s1 s2 s3
    have hbl:b<s.length:=by omega
    have done:∀v:Nat,bordV s (k+1)=v→(fl k).set k (.d (.int .i64 v))=fl (k+1):=fun v hv=>by rw[hfl,hfl,← hv];exact bfill_set c1
    by_cases h0:0<b
    · by_cases h2:s[b]=s[k]
      · simp[h0,hbl,c1,h2,f1,add1 hbl (by omega),add1 c1 (by omega)]
        exact Nxt.mk (k+1) (by omega) (by simp) (by simp;exact done (b+1) (s1 h2)) ⟨by omega,by omega⟩
      · obtain⟨t1,t2,t3⟩:=s3 h2 h0
        have w2:IntKind.i64.wrap ((b:Int)-1)=((b-1:Nat):Int):=by rw[wrap_in (by omega) (by omega)];omega
        have e3:=f2 k (b-1) (by rw[f1];omega) (by omega)
        have hb1:b-1<s.length:=by omega
        have h2':¬((s[b].toNat:Int)=s[k].toNat):=by rw[u8_int];exact h2
        have h2'':¬(s[b].toNat=s[k].toNat):=by omega
        simp[h0,hbl,c1,h2',h2'',h2,w2,f1,hb1,e3]
        rw[show b-1+1=b by omega]
        exact Nxt.mk (bordV s b) t2 (by simp) (by simp) ⟨t1,t3⟩
    · have hb0:b=0:=by omega
      subst hb0
      by_cases h2:s[0]'(by omega)=s[k]
      · simp[hbl,c1,h2,f1,add1 c1 (by omega)]
        simp (disch:=omega) only[wrap_in]
        exact Nxt.mk (k+1) (by omega) (by simp) (by simp;exact done 1 (s1 h2)) ⟨by omega,by omega⟩
      · have h2':¬(((s[0]'(by omega)).toNat:Int)=s[k].toNat):=by rw[u8_int];exact h2
        have h2'':¬((s[0]'(by omega)).toNat=s[k].toNat):=by omega
        simp[hbl,c1,h2',h2'',h2,f1,add1 c1 (by omega)]
        exact Nxt.mk (k+1) (by omega) (by simp) (by simp;exact done 0 (s2 h2 rfl)) ⟨by omega,by omega⟩
  · have e:fl k=(bordsV s).map (fun x=>A.d (Rep.to x)):=by
      rw[hfl]
      apply List.ext_getElem
      · simp[bfill,bordsV]
      · intro i h1 h2
        simp[bfill] at h1
        simp[bfill,bordsV,show i<k by omega]
    simp[c1]
    simp only[bor,List.getD_cons_zero,e,List.drop_zero]
    have e2:List.take s.length ((bordsV s).map (fun x=>A.d (Rep.to x)))=(bordsV s).map (fun x=>A.d (Rep.to x)):=List.take_of_length_le (by simp[bordsV_len])
    rw[e2]
    refine⟨⟨trivial,?_⟩,?_⟩
    · rw[List.all_eq_true]
      intro x hx
      obtain⟨y,_,rfl⟩:=List.mem_map.1 hx
      rfl
    · rw[List.map_map]
      simp only[LeD_sl,true_and]
      rfl
def byD (s:Str):List D:=s.map fun c=>.int .u8 c.toNat
theorem byD_app (a b:Str):byD (a++b)=byD a++byD b:=by simp[byD]
theorem byD_len (a:Str):(byD a).length=a.length:=by simp[byD]
theorem byD_u8 (a:Str):allU8 (byD a):=fun x hx=>by
  obtain⟨c,_,rfl⟩:=List.mem_map.1 hx
  exact⟨_,rfl⟩
theorem byD_back (a:Str):u8s (byD a)=a:=by
  unfold u8s byD
  rw[List.map_map]
  conv=>rhs;rw[← List.map_id a]
  apply List.map_congr_left
  intro c _
  simp
theorem src_str (S:Store) (e:Nat) (t:Str):src S e (.d (.str t))=(e=1,byD t):=rfl
theorem b2s_gr (S:Store) (l:Nat) (t:Str):eB2s S (.gr l 1 (byD t))=⟨True,[],.d (.str t)⟩:=by
  have h1:(A.notStr (.gr l 1 (byD t))=true∧(src S 1 (.gr l 1 (byD t))).1∧allU8 (src S 1 (.gr l 1 (byD t))).2)=True:=eq_true ⟨rfl,rfl,byD_u8 t⟩
  have h2:u8s (src S 1 (.gr l 1 (byD t))).2=t:=byD_back t
  unfold eB2s
  rw[h1,h2]
  rfl
def repD (n s y:Str):D:=if 16777216<((replL n.length y s 0 (posV n s 0)).length:Int) then .tup [.str [],.int .i64 1] else .tup [.str (replL n.length y s 0 (posV n s 0)),.int .i64 0]
@[simp] def S_ref07_Replace:List D→Prop × D:=spec3 (α:=Str) (β:=Str) (γ:=Str) (fun n s y=>n.length≤1048576∧s.length≤1048576∧y.length≤1048576) (fun n s y=>repD n s y)
@[simp] def S_occur_Replace:List D→Prop × D:=spec3 (α:=Str) (β:=Str) (γ:=Str) (fun n s y=>n.length≤1048576∧s.length≤1048576∧y.length≤1048576) (fun n s y=>repD n s y)
theorem ct_ref07_Replace {P:Program} {f g:Nat} {G:Gam} (h:CodeOf P f 3 11 [3,4] (x_ref07_Replace g)) (hG:GamOk P G) (h1:G.find g=some S_ref07_Positions):Has P f S_ref07_Replace:=h.has3 hG fun n s y hp=>by
  obtain⟨p1,p2,p3⟩:=hp
  have hv:=valid_pos n s 0 (by omega)
  have hpl:=posV_len' n s 0
  obtain⟨xs,hxs⟩:∃xs,posV n s 0=xs:=⟨_,rfl⟩
  have hpi:posI n s=xs.map fun (k:Nat)=>(k:Int):=by unfold posI;rw[hxs]
  unfold repD
  rw[hxs] at hv hpl ⊢
  obtain⟨tot,htot⟩:∃tot,replL n.length y s 0 xs=tot:=⟨_,rfl⟩
  have hL:=replL_len n.length y s xs 0 hv
  rw[htot] at hL ⊢
  have hbig:tot.length≤1099512676352:=by
    have a1:(xs.length:Int) * ((y.length:Int)-n.length)≤1048576 * 1048576:=by
      by_cases h0:(0:Int)≤(y.length:Int)-n.length
      · exact Int.le_trans (Int.mul_le_mul_of_nonneg_right (show (xs.length:Int)≤1048576 by omega) h0) (Int.mul_le_mul_of_nonneg_left (by omega) (by omega))
      · exact Int.le_trans (Int.mul_nonpos_of_nonneg_of_nonpos (by omega) (by omega)) (by omega)
    omega
  have hlen:(posI n s).length=xs.length:=by rw[hpi,List.length_map]
  simp[x_ref07_Replace,h1,p1,show s.length≤4194304 by omega]
  refine vc_lp (σ:=Nat × Nat × Str) (fun x=>x.1≤xs.length∧validL n.length s.length x.2.1 (xs.drop x.1)∧x.2.2++replL n.length y s x.2.1 (xs.drop x.1)=tot) (fun x=>xs.length-x.1)
    (fun x=>[.d (.str n),.d (.str s),.d (.str y),.any,.any,.d (Rep.to (posI n s)),.gr 0 1 (byD x.2.2),.d (.int .i64 x.2.1),.d (.int .i64 x.1),.any,.any])
    (fun x=>[.tip x.2.2.length]) (0,0,[]) (by simp[byD]) (by simp) ⟨by simp,by simpa using hv,by simpa using htot⟩ ?_
  rintro⟨k,fr,acc⟩ ⟨hk,hvl,hacc⟩
  simp only at hk hvl hacc
  have hal:acc.length≤tot.length:=by rw[← hacc,List.length_append];omega
  have hbl:=byD_len acc
  by_cases hkn:k<xs.length
  · have hdr:xs.drop k=xs[k]::xs.drop (k+1):=List.drop_eq_getElem_cons hkn
    rw[hdr] at hvl hacc
    obtain⟨v1,v2,v3⟩:=hvl
    have hgi:(posI n s)[k]?=some (xs[k]:Int):=by rw[hpi];simp[hkn]
    have hgi2:∀h:k<(posI n s).length,(posI n s)[k]'h=(xs[k]:Int):=fun h=>by obtain⟨_,h9⟩:=List.getElem?_eq_some_iff.1 hgi;exact h9
    obtain⟨i,hi⟩:∃i,xs[k]=i:=⟨_,rfl⟩
    rw[hi] at v1 v2 v3 hacc hgi hgi2
    have w1:IntKind.i64.wrap ((k:Int)+1)=(k:Int)+1:=wrap_in (by omega) (by omega)
    have w2:IntKind.i64.wrap ((i:Int)+n.length)=(i:Int)+n.length:=wrap_in (by omega) (by omega)
    have hdt:(s.drop fr).take (i-fr)=(s.take i).drop fr:=by rw[List.drop_take]
    have hm:∀t,(byD t).length=t.length:=byD_len
    have hal2:(acc++(s.take i).drop fr++y).length≤tot.length:=by
      rw[← hacc];simp only[replL,List.length_append];omega
    simp only[List.length_append] at hal2
    simp[hkn,hlen,hgi,hgi2,w1,w2,hbl,src_str,hdt,hm]
    simp only[List.length_drop,List.length_take] at hal2
    refine⟨⟨v1,by omega⟩,by unfold room;omega,by unfold room;omega,Nxt.mk (k+1,i+n.length,acc++(s.take i).drop fr++y) (by show xs.length-(k+1)<xs.length-k;omega) (by simp[byD_app]) (by first | (simp;done) | (simp;omega)) ⟨by simp;omega,by simpa using v3,?_⟩ (by first | (simp;done) | (simp;omega)) (.inr ⟨by simp,by simp⟩)⟩
    simp only
    rw[← hacc]
    simp only[replL,List.append_assoc]
  · have hkx:k=xs.length:=by omega
    subst hkx
    rw[List.drop_length] at hvl hacc
    have hfs:fr≤s.length:=hvl
    have hdt:(s.drop fr).take (s.length-fr)=s.drop fr:=List.take_of_length_le (by simp)
    have hacc':acc++s.drop fr=tot:=hacc
    have hm:∀t,(byD t).length=t.length:=byD_len
    have hll:acc.length+(s.drop fr).length=tot.length:=by rw[← hacc',List.length_append]
    have hb2:byD acc++byD (s.drop fr)=byD tot:=by rw[← hacc',byD_app]
    by_cases hc:16777216<(tot.length:Int)
    · simp[hlen,hbl,src_str,hdt,hm,hb2,b2s_gr,hc]
      exact⟨hfs,by unfold room;simp at hll;omega⟩
    · simp[hlen,hbl,src_str,hdt,hm,hb2,b2s_gr,hc]
      exact⟨hfs,by unfold room;simp at hll;omega⟩
end Go.AE
set_option linter.unusedVariables false
open Go Go.Proofs
namespace Go.AE.Seat
theorem arr3 {vs:Array Value} (h:vs.size=3):vs=#[vs.getD 0 undef,vs.getD 1 undef,vs.getD 2 undef]:=by
  apply Array.ext
  · simpa using h
  · intro i h2 h3
    have:i=0∨i=1∨i=2:=by simp at h3;omega
    rcases this with rfl | rfl | rfl <;> simp[Array.getD,h2]
theorem posRep {w:World} {I:Nat→Nat→Prop} {xs:List Nat} {v:Value} (h:DRep w I (.sl 1 ((xs.map fun (k:Nat)=>(k:Int)).map Rep.to)) v):PosRep w xs v:=by
  by_cases h0:xs=[]
  · subst h0
    cases h with
    | sl0 _ a cap=>exact⟨a,cap,rfl,by simp,fun k hk=>absurd hk (by simp)⟩
    | sl _ _ b off n cap u hn hcap hsz hI hc hr =>
      simp at hn
      subst hn
      exact⟨_,cap,rfl,by simp,fun k hk=>absurd hk (by simp)⟩
  · have e:∀k (hk:k<xs.length),(((xs.map fun (k:Nat)=>(k:Int)).map Rep.to).getD k default)=D.int .i64 (xs[k]:Int):=fun k hk=>by simp[List.getD,hk]
    have hl0:((xs.map fun (k:Nat)=>(k:Int)).map Rep.to).length=xs.length:=by simp
    generalize ((xs.map fun (k:Nat)=>(k:Int)).map Rep.to)=l at h e hl0
    cases h with
    | sl0 _ a cap=>exact absurd (List.eq_nil_of_length_eq_zero (by simpa using hl0.symm)) h0
    | sl _ _ b off n cap u hn hcap hsz hI hc hr =>
      have hnl:n=xs.length:=by rw[hn,hl0]
      subst hnl
      refine⟨_,cap,rfl,hcap,fun k hk=>⟨b,off,rfl,?_,?_⟩⟩
      · have h1:=hc k 0 hk (by omega)
        rcases Nat.lt_or_ge b w.heap.size with h' | h'
        · exact h'
        · simp[World.cell?,Array.getElem?_eq_none h'] at h1
      · have h1:=hc k 0 hk (by omega)
        have h2:=hr k 0 hk (by omega)
        rw[e k hk] at h2
        generalize u k 0=z at h1 h2
        have h3:DRep w I (.int .i64 (xs[k]:Int)) z:=h2
        cases h3
        simpa using h1
theorem ct_occur_Replace {G:Gam} (hG:GamOk Try.prog G) (hp:G.find 9=some S_occur_Positions):Has Try.prog 6 S_occur_Replace:=by
  refine⟨by kernel_rfl,.of3 fun n s y hpre w I vs hW hI hs hr=>?_⟩
  obtain⟨p1,p2,p3⟩:=hpre
  have h0:=hr 0 (by simp)
  have h1:=hr 1 (by simp)
  have h2:=hr 2 (by simp)
  rw[arr3 hs]
  generalize vs.getD 0 undef=a at h0 ⊢
  generalize vs.getD 1 undef=b at h1 ⊢
  generalize vs.getD 2 undef=c at h2 ⊢
  cases h0
  cases h1
  cases h2
  have hv:=valid_pos n s 0 (by omega)
  have hpl:=posV_len' n s 0
  have hP:Calls Try.prog 9 #[.string ⟨n.toArray⟩,.string ⟨s.toArray⟩] w fun e w'=>∃v,e=.returned v∧PosRep w' (posV n s 0) v∧RowKit.Below w.heap.size w w':=by
    have hf:=(hG.fs 9 _ hp).2 [.str n,.str s] (by simp;omega) w I #[.string ⟨n.toArray⟩,.string ⟨s.toArray⟩] hW hI (by simp) (fun k hk=>by
      match k,hk with
      | 0,_=>exact .str _
      | 1,_=>exact .str _)
    refine hf.mono ?_
    rintro e w' ⟨v,rfl,hd,hb⟩
    exact⟨v,rfl,posRep hd,hb⟩
  refine (Try.replace_walk n s y (posV n s 0) w p1 p2 p3 (by omega) hv hP).mono ?_
  rintro e w' ⟨rfl,hb⟩
  have hL:=replL_len n.length y s (posV n s 0) 0 hv
  have e1:(16777216<((replL n.length y s 0 (posV n s 0)).length:Int))=((s.length:Int)+(posV n s 0).length * ((y.length:Int)-n.length) > 16777216):=by
    rw[hL]
    simp
  refine⟨_,rfl,?_,hb⟩
  show DRep _ _ (repD n s y) _
  unfold repD
  rw[show (if 16777216<((replL n.length y s 0 (posV n s 0)).length:Int) then D.tup [.str [],.int .i64 1] else .tup [.str (replL n.length y s 0 (posV n s 0)),.int .i64 0])=if ((s.length:Int)+(posV n s 0).length * ((y.length:Int)-n.length) > 16777216) then D.tup [.str [],.int .i64 1] else .tup [.str (replL n.length y s 0 (posV n s 0)),.int .i64 0] from by simp only[e1]]
  split
  · refine .tup _ _ rfl fun k hk=>?_
    match k,hk with
    | 0,_=>exact .str _
    | 1,_=>exact .int _ _
  · refine .tup _ _ rfl fun k hk=>?_
    match k,hk with
    | 0,_=>exact .str _
    | 1,_=>exact .int _ _
end Go.AE.Seat
namespace Go.AE
def modV (a n:Int):Int:=(a % 18446744073709551616) % n
theorem modV_lt (a:Int) {n:Int} (h:1≤n):0≤modV a n∧modV a n<n:=⟨Int.emod_nonneg _ (by omega),Int.emod_lt_of_pos _ (by omega)⟩
@[simp] def S_gen_Mod:List D→Prop × D:=spec2 (α:=Int) (β:=Int) (fun _ n=>1≤n∧n≤9223372036854775807) (fun a n=>Rep.to (modV a n))
theorem ct_gen_Mod {P:Program} {f:Nat} {G:Gam} (h:CodeOf P f 2 3 [2] x_gen_Mod) (hG:GamOk P G):Has P f S_gen_Mod:=h.has2 hG fun a n hp=>by
  obtain⟨h,h2⟩:=hp
  simp[x_gen_Mod]
  have e1:IntKind.u64.wrap n=n:=by simp[IntKind.wrap,IntKind.bits,IntKind.signed];omega
  have e2:IntKind.u64.wrap a=a % 18446744073709551616:=by simp[IntKind.wrap,IntKind.bits,IntKind.signed]
  rw[e1,e2]
  refine⟨by omega,?_⟩
  have e3:(a % 18446744073709551616).tmod n=modV a n:=by
    rw[Int.tmod_eq_emod_of_nonneg (by omega)];rfl
  have:=modV_lt a h
  rw[e3,wrap_in] <;> omega
@[simp] def S_gen_Ints:List D→Prop × D:=spec2 (α:=List Int) (β:=List Int) (fun a _=>a.length≤9223372036854775807) (fun a b=>Rep.to (decide (a=b)))
theorem ct_gen_Ints {P:Program} {f:Nat} {G:Gam} (h:CodeOf P f 2 7 [2] x_gen_Ints) (hG:GamOk P G):Has P f S_gen_Ints:=h.has2 hG fun a b h=>by
  simp[x_gen_Ints]
  refine⟨fun h1 h2=>h1 (by rw[h2]),fun h1=>?_⟩
  have h1:a.length=b.length:=by omega
  refine vc_loop _ _ _ _ _ [true,true,false,true] 0 (fun m T s=>∃i:Nat,i+m=a.length∧s=[]∧T=[.d (Rep.to a),.d (Rep.to b),.any,.d (.int .i64 i),.any,.any,.any]∧∀k (h:k<a.length) (h2:k<b.length),k<i→a[k]=b[k]) _ (Nat.le_refl _) (by simp) ⟨a.length,0,by simp⟩ ?_
  rintro m T s ⟨i,hm,rfl,rfl,hi⟩
  simp
  refine⟨fun h2=>?_,fun h2=>?_⟩
  · have h3:i<b.length:=by omega
    simp[getD_map,h2,h3,add1 h2 h,pairsOk]
    refine⟨fun h4 h5=>h4 (by simp only[h5]),fun h4=>⟨m-1,by omega,i+1,by omega,by simp,fun k k1 k2 k3=>?_⟩⟩
    rcases Nat.lt_or_ge k i with k4 | k4
    · exact hi k k1 k2 k4
    · have:k=i:=by omega
      subst this
      exact h4
  · exact List.ext_getElem h1 fun k k1 k2=>hi k k1 k2 (by omega)
def xorV (a b:Int):Int:=IntKind.u64.wrap ((a % 2 ^ IntKind.u64.bits).toNat ^^^ (b % 2 ^ IntKind.u64.bits).toNat:Nat)
def hashV (x:Int):Int:=IntKind.u64.wrap (xorV x (x.fdiv (2 ^ min 31 IntKind.u64.bits)) * 13787848793156543929)
def finV (x:Int):Int:=IntKind.i64.wrap ((xorV x (x.fdiv (2 ^ min 29 IntKind.u64.bits))).fdiv (2 ^ min 1 IntKind.u64.bits))
theorem lockT:(fun _:Int=>True)=(fun x:Int=>x=x):=funext fun _=>propext ⟨fun _=>rfl,fun _=>trivial⟩
def lock (v:Int):Int:=(cast (congrArg Subtype lockT) (⟨v,trivial⟩:{_x:Int // True}):{x:Int // x=x}).1
theorem lock_gen {p q:Int→Prop} (h:p=q) (v:Int) (hv:p v):(cast (congrArg Subtype h) (⟨v,hv⟩:Subtype p):Subtype q).1=v:=by subst h;rfl
theorem lock_eq (v:Int):lock v=v:=lock_gen lockT v trivial
def atU (raw:List Int) (k:Int):Int :=
  let x0:=IntKind.u64.wrap (IntKind.u64.wrap (IntKind.i64.wrap (k+1)) * 11400714819323198485)
  finV (hashV (if raw=[] then x0 else xorV x0 (IntKind.u64.wrap (raw.getD (k.toNat % raw.length) 0))))
def atV (raw:List Int) (k:Int):Int:=lock (atU raw k)
theorem atV_eq (raw:List Int) (k:Int):atV raw k=atU raw k:=lock_eq _
@[simp] def S_gen_At:List D→Prop × D:=spec2 (α:=List Int) (β:=Int) (fun raw k=>0≤k∧k<9223372036854775807∧raw.length≤9223372036854775807) (fun raw k=>Rep.to (atV raw k))
theorem ct_gen_At {P:Program} {f:Nat} {G:Gam} (h:CodeOf P f 2 5 [2] x_gen_At) (hG:GamOk P G):Has P f S_gen_At:=h.has2 hG fun raw k hp=>by
  obtain⟨h1,h2,h3⟩:=hp
  obtain⟨n,rfl⟩:=Int.eq_ofNat_of_zero_le h1
  simp[x_gen_At]
  refine⟨fun h4=>?_,fun h4=>?_⟩
  · have e:(n:Int).tmod raw.length=((n % raw.length:Nat):Int):=by rw[Int.tmod_eq_emod_of_nonneg (by omega)];simp
    have h5:n % raw.length<raw.length:=Nat.mod_lt _ h4
    have h6:raw≠[]:=by intro h;simp[h] at h4
    have ha:atV raw n=finV (hashV (xorV (IntKind.u64.wrap (IntKind.u64.wrap (IntKind.i64.wrap (n+1)) * 11400714819323198485)) (IntKind.u64.wrap raw[n % raw.length]))):=by
      simp[atV_eq,atU,h6,List.getD,h5]
    rw[e,ha]
    generalize n % raw.length=q at h5
    simp[h5,h6,getD_map]
    rfl
  · rw[atV_eq]
    unfold atU
    simp only[h4,if_true]
    rfl
end Go.AE
namespace Go.AE
def wb (raw:List Int) (j:Int):UInt8:=if modV (atV raw j) 3=2 then 98 else 97
def wordV (raw:List Int) (fr n:Int):Str:=(List.range (modV (atV raw fr) (n+1)).toNat).map fun (i:Nat)=>wb raw (fr+1+i)
theorem wordV_len {raw:List Int} {fr n:Int} (h:0≤n):(wordV raw fr n).length≤n.toNat:=by
  have:=modV_lt (atV raw fr) (n:=n+1) (by omega)
  simp[wordV]
  omega
@[simp] def S_law07_word:List D→Prop × D:=spec3 (α:=List Int) (β:=Int) (γ:=Int) (fun raw fr n=>raw.length≤9223372036854775807∧0≤fr∧fr≤1000∧0≤n∧n≤1000) (fun raw fr n=>Rep.to (wordV raw fr n))
theorem three {c:Int} (h1:0≤c) (h2:c<3):c=0∨c=1∨c=2:=by omega
theorem ct_law07_word {P:Program} {f g g2:Nat} {G:Gam} (h:CodeOf P f 3 7 [3] (x_law07_word g g2)) (hG:GamOk P G) (hg:G.find g=some S_gen_At) (hg2:G.find g2=some S_gen_Mod):Has P f S_law07_word:=h.has3 hG fun raw fr n hp=>by
  obtain⟨h1,h2,h3,h4,h5⟩:=hp
  obtain⟨m1,m2⟩:=modV_lt (atV raw fr) (n:=n+1) (by omega)
  obtain⟨m,hm⟩:=Int.eq_ofNat_of_zero_le m1
  simp[x_law07_word]
  refine vc_lp (σ:=Nat) (fun i=>i≤m) (fun i=>m-i) (fun i=>[.d (Rep.to raw),.d (.int .i64 fr),.d (.int .i64 n),.any,.d (.str ((List.range i).map fun (i:Nat)=>wb raw (fr+1+i))),.d (.int .i64 i),.any]) (fun _=>[]) 0 (by simp) (by simp) (by simp) ?_
  intro i hi
  have w1:IntKind.i64.wrap (n+1)=n+1:=wrap_in (by omega) (by omega)
  have w2:IntKind.i64.wrap (fr+1)=fr+1:=wrap_in (by omega) (by omega)
  have w3:IntKind.i64.wrap (fr+1+i)=fr+1+i:=wrap_in (by omega) (by omega)
  have w4:IntKind.i64.wrap ((i:Int)+1)=(i+1:Nat):=by rw[wrap_in (by omega) (by omega)];omega
  by_cases h6:i<m
  · obtain⟨k1,k2⟩:=modV_lt (atV raw (fr+1+i)) (n:=3) (by omega)
    have e:wb raw (fr+1+i)=if modV (atV raw (fr+1+i)) 3=2 then 98 else 97:=rfl
    have p1:(fr:Int)<9223372036854775807:=by omega
    have p2:raw.length≤9223372036854775807:=by omega
    have p3:fr+1+(i:Int)<9223372036854775807:=by omega
    have p4:0≤fr+1+(i:Int):=by omega
    have p5:1≤n+1∧n+1≤9223372036854775807:=by omega
    rcases three k1 k2 with c | c | c <;> rw[c] at e <;>
    · simp[hg,hg2,w1,w2,w3,w4,hm,h6,h2,p1,p2,p3,p4,p5,c]
      refine⟨by omega,?_⟩
      exact Nxt.mk (i+1) (by omega) (by simp[List.range_succ,e]) (by simp) (by omega)
  · have h7:i=m:=by omega
    have p1:(fr:Int)<9223372036854775807:=by omega
    have p2:raw.length≤9223372036854775807:=by omega
    have p5:1≤n+1∧n+1≤9223372036854775807:=by omega
    subst h7
    have e:wordV raw fr n=(List.range i).map fun (j:Nat)=>wb raw (fr+1+j):=by simp only[wordV,hm,Int.toNat_natCast]
    rw[e]
    clear e
    generalize wb raw=W at *
    simp[hg,h2,p1,p2]
    generalize atV raw fr=A at *
    simp[hg2,w1,hm,p5]
@[simp] def S_law07_awake:List D→Prop × D:=spec0 True (.bool true)
theorem aw1:posI [97,97] [97,97,97,97,97]=[0,2]:=by decide
theorem aw2:bordsV [97,98,97,98]=[0,0,1,2]:=by decide
theorem aw3:posI [98] [97,98,98]=[1,2]:=by decide
theorem ct_law07_awake {P:Program} {f g1 g2 g3 g4:Nat} {G:Gam} (h:CodeOf P f 0 1 [0] (x_law07_awake g1 g2 g3 g4)) (hG:GamOk P G) (h1:G.find g1=some S_occur_Positions) (h2:G.find g2=some S_gen_Ints) (h3:G.find g3=some S_occur_Borders) (h4:G.find g4=some S_occur_Count):Has P f S_law07_awake:=h.has0 hG fun _=>by
  have r:([.int .i64 0,.int .i64 2]:List D)=([0,2]:List Int).map Rep.to:=rfl
  have r2:([.int .i64 0,.int .i64 0,.int .i64 1,.int .i64 2]:List D)=([0,0,1,2]:List Int).map Rep.to:=rfl
  simp[x_law07_awake,h1,h2,h3,h4,aw1,aw2,aw3]
theorem atB_iff (n s:Str) (i:Nat):atB n s i=true↔n≠[]∧∀q,q<n.length→s[i+q]?=n[q]?:=by
  constructor
  · intro h
    obtain⟨h1,h2,h3⟩:=atB_le h
    refine⟨h1,fun q hq=>?_⟩
    rw[← h3]
    rw[List.getElem?_take,if_pos (by simpa [List.length_take] using hq),List.getElem?_drop]
  · rintro⟨h1,h2⟩
    have hpos:0<n.length:=List.length_pos_iff.2 h1
    have hlen:i+n.length≤s.length:=by
      have:=h2 (n.length-1) (by omega)
      rw[List.getElem?_eq_getElem (show n.length-1<n.length by omega)] at this
      have:=(List.getElem?_eq_some_iff.1 this).1
      omega
    simp only[atB,decide_eq_true_eq]
    refine⟨h1,hlen,?_⟩
    apply List.ext_getElem?
    intro q
    rw[List.getElem?_take,List.getElem?_drop]
    by_cases hq:q<n.length
    · rw[if_pos hq,h2 q hq]
    · rw[if_neg hq,List.getElem?_eq_none (by omega)]
theorem atB_drop (n s:Str) (c i:Nat):atB n (s.drop c) i=atB n s (c+i):=by
  rw[Bool.eq_iff_iff,atB_iff,atB_iff]
  constructor
  · rintro⟨h1,h2⟩
    refine⟨h1,fun q hq=>?_⟩
    rw[← h2 q hq,List.getElem?_drop]
    congr 1;omega
  · rintro⟨h1,h2⟩
    refine⟨h1,fun q hq=>?_⟩
    rw[← h2 q hq,List.getElem?_drop]
    congr 1;omega
theorem atB_take {n s:Str} {c i:Nat}:atB n (s.take c) i=true↔(atB n s i=true∧i+n.length≤c):=by
  constructor
  · intro h
    obtain⟨h1,h2⟩:=(atB_iff n (s.take c) i).1 h
    have h3:=(atB_le h).2.1
    rw[List.length_take] at h3
    refine⟨(atB_iff n s i).2 ⟨h1,fun q hq=>?_⟩,by omega⟩
    rw[← h2 q hq,List.getElem?_take,if_pos (by omega)]
  · rintro⟨h,h3⟩
    obtain⟨h1,h2⟩:=(atB_iff n s i).1 h
    refine (atB_iff n (s.take c) i).2 ⟨h1,fun q hq=>?_⟩
    rw[← h2 q hq,List.getElem?_take,if_pos (by omega)]
theorem pos_behind (n s:Str) (c:Nat):∀i,(posV n (s.drop c) i).length=(posV n s (c+i)).length:=by
  refine pos_induct (n:=n) (s:=s.drop c) (fun i h=>?_) (fun i j h ih=>?_)
  · rw[posV_none h,posV_none (nextV_noneOf fun k hk=>?_)]
    have:=nextV_none h (k-c) (by omega)
    rw[atB_drop,show c+(k-c)=k by omega] at this
    exact this
  · obtain⟨h1,h2,h3⟩:=nextV_some h
    have e:nextV n s (c+i)=some (c+j):=nextV_eq (by omega) (by rw[← atB_drop];exact h2) fun k hk1 hk2=>by
      have:=h3 (k-c) (by omega) (by omega)
      rw[atB_drop,show c+(k-c)=k by omega] at this
      exact this
    rw[posV_some h,posV_some e,List.length_cons,List.length_cons,ih,show c+(j+n.length)=c+j+n.length by omega]
theorem pos_before (n s:Str):∀fr,∀(j:Nat) (hj:j<(posV n s fr).length),(posV n (s.take ((posV n s fr)[j]+n.length)) fr).length=j+1∧(posV n s fr).length=j+1+(posV n s ((posV n s fr)[j]+n.length)).length:=by
  refine pos_induct (n:=n) (s:=s) (fun fr h j hj=>?_) (fun fr i h ih j hj=>?_)
  · rw[posV_none h] at hj
    cases hj
  · obtain⟨h1,h2,h3⟩:=nextV_some h
    have hpos:0<n.length:=List.length_pos_iff.2 (atB_le h2).1
    have hps:=posV_some h
    have key:∀l,posV n s fr=l→∀(hj:j<l.length),l=i::posV n s (i+n.length)→(posV n (s.take (l[j]+n.length)) fr).length=j+1∧l.length=j+1+(posV n s (l[j]+n.length)).length:=by
      intro l _ hj hl
      subst hl
      have hnx:∀c,i+n.length≤c→nextV n (s.take c) fr=some i:=fun c hc=>nextV_eq h1 (atB_take.2 ⟨h2,hc⟩) fun k hk1 hk2=>by
        have:=h3 k hk1 hk2
        rw[Bool.eq_false_iff] at this ⊢
        exact fun h=>this (atB_take.1 h).1
      cases j with
      | zero =>
        simp only[List.getElem_cons_zero]
        rw[posV_some (hnx _ (Nat.le_refl _))]
        rw[posV_none (nextV_noneOf fun k hk=>?_)]
        · refine⟨rfl,?_⟩
          simp only[List.length_cons]
          omega
        · rw[Bool.eq_false_iff]
          intro h
          have:=(atB_take.1 h).2
          omega
      | succ j =>
        have hj':j<(posV n s (i+n.length)).length:=by simpa using hj
        simp only[List.getElem_cons_succ]
        obtain⟨a1,a2⟩:=ih j hj'
        have hge:i+n.length≤(posV n s (i+n.length))[j]:=by
          have hv:=valid_pos n s (i+n.length) (atB_le h2).2.1
          have:∀(l:List Nat) (m q fr:Nat),validL m q fr l→∀x,x∈l→fr≤x:=by
            intro l
            induction l with
            | nil=>intro m q fr _ x hx;cases hx
            | cons y l ihl =>
              intro m q fr hv x hx
              obtain⟨v1,v2,v3⟩:=hv
              rcases List.mem_cons.1 hx with rfl | hx
              · exact v1
              · have:=ihl m q _ v3 x hx;omega
          exact this _ _ _ _ hv _ (List.getElem_mem hj')
        rw[posV_some (hnx _ (by omega)),List.length_cons,a1]
        refine⟨rfl,?_⟩
        simp only[List.length_cons]
        omega
    exact key _ rfl hj hps
theorem rep_self (n s:Str):∀fr,fr≤s.length→replL n.length n s fr (posV n s fr)=s.drop fr:=by
  refine pos_induct (n:=n) (s:=s) (fun fr h hf=>?_) (fun fr i h ih hf=>?_)
  · rw[posV_none h];rfl
  · obtain⟨h1,h2,_⟩:=nextV_some h
    obtain⟨_,h4,h5⟩:=atB_le h2
    rw[posV_some h]
    simp only[replL]
    rw[ih h4]
    have e1:s.drop fr=(s.take i).drop fr++s.drop i:=by
      have:(s.take i++s.drop i).drop fr=(s.take i).drop fr++s.drop i:=by
        rw[List.drop_append_of_le_length (by rw[List.length_take];omega)]
      rw[← this,List.take_append_drop]
    have e2:s.drop i=n++s.drop (i+n.length):=by
      have:=List.take_append_drop n.length (s.drop i)
      rw[h5,List.drop_drop] at this
      exact this.symm
    rw[e1,e2,List.append_assoc]
theorem rep_none {n s:Str} {z:UInt8} (hz:z ∉ n):∀fr,fr≤s.length→∀p,atB n (replL n.length [z] s fr (posV n s fr)) p=false:=by
  refine pos_induct (n:=n) (s:=s) (fun fr h hf p=>?_) (fun fr i h ih hf p=>?_)
  · rw[posV_none h]
    show atB n (s.drop fr) p=false
    rw[atB_drop]
    exact nextV_none h _ (by omega)
  · obtain⟨h1,h2,h3⟩:=nextV_some h
    obtain⟨hne,h4,h5⟩:=atB_le h2
    rw[posV_some h,Bool.eq_false_iff]
    intro hat
    obtain⟨_,hq⟩:=(atB_iff _ _ _).1 hat
    have ih':=fun p=>ih h4 p
    generalize hR:replL n.length [z] s (i+n.length) (posV n s (i+n.length))=R at ih'
    simp only[replL,hR] at hq
    have hA:((s.take i).drop fr).length=i-fr:=by rw[List.length_drop,List.length_take];omega
    by_cases c1:p+n.length≤i-fr
    · have:=h3 (fr+p) (by omega) (by have:0<n.length:=List.length_pos_iff.2 hne;omega)
      rw[Bool.eq_false_iff] at this
      refine this ((atB_iff _ _ _).2 ⟨hne,fun q hq2=>?_⟩)
      rw[← hq q hq2,List.append_assoc,List.getElem?_append_left (by omega),List.getElem?_drop,List.getElem?_take,if_pos (by omega)]
      congr 1;omega
    · by_cases c2:p≤i-fr
      · have:=hq (i-fr-p) (by omega)
        rw[show p+(i-fr-p)=i-fr by omega,List.append_assoc,List.getElem?_append_right (by omega),hA,Nat.sub_self] at this
        simp at this
        exact hz (List.mem_of_getElem? this.symm)
      · have:=ih' (p-(i-fr)-1)
        rw[Bool.eq_false_iff] at this
        refine this ((atB_iff _ _ _).2 ⟨hne,fun q hq2=>?_⟩)
        rw[← hq q hq2,List.append_assoc,List.getElem?_append_right (by omega),hA,List.getElem?_append_right (by simp;omega)]
        congr 1
        simp
        omega
theorem rep_pos_nil {n s:Str} {z:UInt8} (hz:z ∉ n):posV n (replL n.length [z] s 0 (posV n s 0)) 0=[] :=
  posV_none (nextV_noneOf fun k _=>rep_none hz 0 (by omega) k)
theorem repD_cases (n s y:Str):∃(t:Str) (e:Int),repD n s y=.tup [.str t,.int .i64 e]:=by
  unfold repD
  split
  · exact⟨_,_,rfl⟩
  · exact⟨_,_,rfl⟩
@[simp] def S_law07_OccurReplaces:List D→Prop × D:=spec4 (α:=Str) (β:=Str) (γ:=Str) (δ:=List Int) (fun _ _ y raw=>y.length≤9223372036854775807∧raw.length≤9223372036854775807) (fun _ _ _ _=>.bool true)
theorem ct_law07_OccurReplaces {P:Program} {f g1 g2 g3 g4:Nat} {G:Gam} (h:CodeOf P f 4 16 [4] (x_law07_OccurReplaces g1 g2 g3 g4)) (hG:GamOk P G) (h1:G.find g1=some S_law07_awake) (h2:G.find g2=some S_occur_Replace) (h3:G.find g3=some S_ref07_Replace) (h4:G.find g4=some S_law07_word):Has P f S_law07_OccurReplaces:=h.has4 hG fun n s y raw hp=>by
  obtain⟨p1,p2⟩:=hp
  by_cases c1:20<(n.length:Int)
  · simp[x_law07_OccurReplaces,h1,c1]
  by_cases c2:60<(s.length:Int)
  · simp[x_law07_OccurReplaces,h1,c1,c2]
  by_cases c3:20<(y.length:Int)
  · simp[x_law07_OccurReplaces,h1,c1,c2,c3]
  have hn:=wordV_len (raw:=raw) (fr:=0) (n:=3) (by omega)
  have ht:=wordV_len (raw:=raw) (fr:=20) (n:=25) (by omega)
  obtain⟨t,e,r1⟩:=repD_cases n s y
  obtain⟨t2,e2,r2⟩:=repD_cases (wordV raw 0 3) (wordV raw 20 25) y
  generalize hn2:wordV raw 0 3=n2 at *
  generalize hs2:wordV raw 20 25=s2 at *
  simp[x_law07_OccurReplaces,h1,h2,h3,h4,c1,c2,c3,p2,r1,r2,hn2,hs2,show n.length≤1048576 by omega,show s.length≤1048576 by omega,show y.length≤1048576 by omega,show n2.length≤1048576 by omega,show s2.length≤1048576 by omega]
theorem word_z (raw:List Int) (fr n:Int):(122:UInt8) ∉ wordV raw fr n:=by
  intro h
  obtain⟨i,_,hi⟩:=List.mem_map.1 h
  unfold wb at hi
  split at hi <;> cases hi
@[simp] def S_law07_OccurCuts:List D→Prop × D:=spec2 (α:=List Int) (β:=Int) (fun raw _=>raw.length≤9223372036854775807) (fun _ _=>.bool true)
theorem ct_law07_OccurCuts {P:Program} {f g1 g2 g3 g4 g5 g6:Nat} {G:Gam} (h:CodeOf P f 2 13 [2] (x_law07_OccurCuts g1 g2 g3 g4 g5 g6)) (hG:GamOk P G) (h1:G.find g1=some S_law07_word) (h2:G.find g2=some S_occur_Positions) (h3:G.find g3=some S_law07_awake) (h4:G.find g4=some S_gen_Mod) (h5:G.find g5=some S_occur_Replace) (h6:G.find g6=some S_occur_Count):Has P f S_law07_OccurCuts:=h.has2 hG fun raw k p1=>by
  have hn:=wordV_len (raw:=raw) (fr:=0) (n:=4) (by omega)
  have ht:=wordV_len (raw:=raw) (fr:=20) (n:=30) (by omega)
  have hz:=word_z raw 0 4
  generalize hn2:wordV raw 0 4=n at *
  generalize hs2:wordV raw 20 30=s at *
  have hpl:=posV_len' n s 0
  have hil:(posI n s).length=(posV n s 0).length:=by unfold posI;rw[List.length_map]
  by_cases c1:(posV n s 0).length=0
  · simp[x_law07_OccurCuts,h1,h2,h3,p1,hn2,hs2,hil,c1,show n.length≤4194304 by omega,show s.length≤4194304 by omega]
  have hml:=modV_lt k (n:=((posV n s 0).length:Int)) (by omega)
  obtain⟨j,hj⟩:∃j:Nat,modV k ((posV n s 0).length:Int)=j:=Int.eq_ofNat_of_zero_le hml.1
  have hjl:j<(posV n s 0).length:=by omega
  obtain⟨a1,a2⟩:=pos_before n s 0 j hjl
  have hv:=valid_pos n s 0 (by omega)
  have hin:∀(l:List Nat) (m q fr:Nat),validL m q fr l→∀x,x∈l→x+m≤q:=by
    intro l
    induction l with
    | nil=>intro m q fr _ x hx;cases hx
    | cons y l ihl =>
      intro m q fr hv x hx
      obtain⟨v1,v2,v3⟩:=hv
      rcases List.mem_cons.1 hx with rfl | hx
      · exact v2
      · exact ihl m q _ v3 x hx
  have hcs:=hin _ _ _ _ hv _ (List.getElem_mem hjl)
  have hgi:(posI n s)[j]?=some (((posV n s 0)[j]:Nat):Int):=by unfold posI;simp[hjl]
  have hgi2:∀h:j<(posI n s).length,(posI n s)[j]'h=(((posV n s 0)[j]:Nat):Int):=fun h=>by obtain⟨_,h9⟩:=List.getElem?_eq_some_iff.1 hgi;exact h9
  obtain⟨p,hp⟩:∃p,(posV n s 0)[j]=p:=⟨_,rfl⟩
  rw[hp] at a1 a2 hcs hgi hgi2
  have hb:=pos_behind n s (p+n.length) 0
  rw[Nat.add_zero] at hb
  have hi1:∀t,(posI n t).length=(posV n t 0).length:=fun t=>by unfold posI;rw[List.length_map]
  have r1:repD n s n=.tup [.str s,.int .i64 0]:=by
    unfold repD
    rw[rep_self n s 0 (by omega),List.drop_zero,if_neg (by omega)]
  have hL:=replL_len n.length [122] s (posV n s 0) 0 hv
  have hpn:0<n.length:=by
    rcases Nat.eq_zero_or_pos n.length with h0 | h0
    · have:n=[]:=List.eq_nil_of_length_eq_zero h0
      rw[this,posV_none (nextV_noneOf fun k _=>by simp[atB])] at c1
      exact absurd rfl c1
    · exact h0
  have hcnt:=validL.count hpn hv
  have hz0:=rep_pos_nil (s:=s) hz
  obtain⟨t,ht2⟩:∃t,replL n.length [122] s 0 (posV n s 0)=t:=⟨_,rfl⟩
  rw[ht2] at hL hz0
  have hmm:((posV n s 0).length:Int) * (([122]:Str).length-(n.length:Int))=-((((posV n s 0).length:Int)) * ((n.length:Int)-1)):=by
    rw[← Int.mul_neg]
    congr 1
    simp
    omega
  rw[hmm] at hL
  have hprod:((((posV n s 0).length:Int)) * ((n.length:Int)-1))≤30 * 4∧0≤((((posV n s 0).length:Int)) * ((n.length:Int)-1)):=by
    refine⟨Int.le_trans (Int.mul_le_mul_of_nonneg_right (show ((posV n s 0).length:Int)≤30 by omega) (by omega)) (Int.mul_le_mul_of_nonneg_left (by omega) (by omega)),Int.mul_nonneg (by omega) (by omega)⟩
  have r2:repD n s [122]=.tup [.str t,.int .i64 0]:=by
    unfold repD
    rw[ht2,if_neg (by omega)]
  have w1:IntKind.i64.wrap ((p:Int)+n.length)=((p+n.length:Nat):Int):=by rw[wrap_in (by omega) (by omega)];omega
  have w2:IntKind.i64.wrap ((n.length:Int)-1)=(n.length:Int)-1:=wrap_in (by omega) (by omega)
  have w3:IntKind.i64.wrap (((posV n s 0).length:Int) * ((n.length:Int)-1))=((posV n s 0).length:Int) * ((n.length:Int)-1):=wrap_in (by omega) (by omega)
  have w4:IntKind.i64.wrap ((s.length:Int)-((posV n s 0).length:Int) * ((n.length:Int)-1))=t.length:=by rw[wrap_in (by omega) (by omega)];omega
  have w5:IntKind.i64.wrap (((posV n (s.take (p+n.length)) 0).length:Int)+((posV n (s.drop (p+n.length)) 0).length:Int))=((posV n s 0).length:Int):=by rw[a1,hb,wrap_in (by omega) (by omega)];omega
  obtain⟨c,hc⟩:∃c,p+n.length=c:=⟨_,rfl⟩
  rw[hc] at w1 w5 hcs
  have hnp:0<(posV n s 0).length:=by omega
  simp[x_law07_OccurCuts,h1,h2,h3,h4,h5,h6,p1,hn2,hs2,hil,c1,hj,hgi,hgi2,w1,w2,w3,w4,w5,r1,r2,hi1,hz0,hcs,hnp,hjl,show n.length≤4194304 by omega,show s.length≤4194304 by omega,show n.length≤1048576 by omega,show s.length≤1048576 by omega]
  have htd:(s.drop c).take (s.length-c)=s.drop c:=List.take_of_length_le (by simp)
  rw[htd,w5]
  exact⟨by omega,by omega,by omega,fun _=>by omega,rfl⟩
theorem law07_OccurReplaces_pre (n:Str) (s:Str) (y:Str) (raw:List Int) (w0:Arg.wf n) (w1:Arg.wf s) (w2:Arg.wf y) (w3:Arg.wf raw):y.length≤9223372036854775807∧raw.length≤9223372036854775807:=by
  have:=str_wf w0
  have:=str_wf w1
  have:=str_wf w2
  have:=len_wf w3
  omega
theorem law07_OccurCuts_pre (raw:List Int) (k:Int) (w0:Arg.wf raw) (w1:Arg.wf k):raw.length≤9223372036854775807:=by
  have:=len_wf w0
  omega
end Go.AE
