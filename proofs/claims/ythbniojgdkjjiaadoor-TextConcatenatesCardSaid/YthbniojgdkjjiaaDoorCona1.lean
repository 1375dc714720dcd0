/-
  Contracts of the functions that make and compare inputs.
-/
import Derived.Test.YthbniojgdkjjiaaDoorAe3
import Derived.Test.YthbniojgdkjjiaaDoorCode1
import Derived.Lib.Bytealg
import Derived.Lib.IndexLaws
import Derived.Lib.Join
import Derived.Lib.Split
import Derived.Lib.SplitLaws
import Derived.Lib.Strings

set_option linter.unusedSimpArgs false
set_option linter.unusedVariables false
set_option linter.unnecessarySimpa false
set_option maxRecDepth 20000
set_option maxHeartbeats 2000000
namespace Go.AE
def modV (a n:Int):Int:=(a % 18446744073709551616) % n
theorem modV_lt (a:Int) {n:Int} (h:1≤n):0≤modV a n∧modV a n<n:=⟨Int.emod_nonneg _ (by omega),Int.emod_lt_of_pos _ (by omega)⟩
@[simp] def S_gen_Mod:List D→Prop × D:=spec2 (α:=Int) (β:=Int) (fun _ n=>1≤n∧n≤9223372036854775807) (fun a n=>Rep.to (modV a n))
theorem ct_gen_Mod {P:Program} {f:Nat} {G:Gam} (h:CodeOf P f 2 3 [2] x_gen_Mod) (hG:GamOk P G):Has P f S_gen_Mod:=h.has2 hG fun a n hp=>by
  obtain⟨h,h2⟩:=hp
  simp[x_gen_Mod]
  have e1:IntKind.u64.wrap n=n:=by simp[IntKind.wrap,IntKind.bits,IntKind.signed];omega
  have e2:IntKind.u64.wrap a=a % 18446744073709551616:=by simp[IntKind.wrap,IntKind.bits,IntKind.signed]
  rw[e1,e2]
  refine⟨by omega,?_⟩
  have e3:(a % 18446744073709551616).tmod n=modV a n:=by
    rw[Int.tmod_eq_emod_of_nonneg (by omega)];rfl
  have:=modV_lt a h
  rw[e3,wrap_in] <;> omega
@[simp] def S_gen_Strings:List D→Prop × D:=spec2 (α:=List Str) (β:=List Str) (fun a _=>a.length≤9223372036854775807) (fun a b=>Rep.to (decide (a=b)))
theorem ct_gen_Strings {P:Program} {f:Nat} {G:Gam} (h:CodeOf P f 2 7 [2] x_gen_Strings) (hG:GamOk P G):Has P f S_gen_Strings:=h.has2 hG fun a b h=>by
  simp[x_gen_Strings]
  refine⟨fun h1 h2=>h1 (by rw[h2]),fun h1=>?_⟩
  have h1:a.length=b.length:=by omega
  refine vc_loop _ _ _ _ _ [true,true,false,true] 0 (fun m T s=>∃i:Nat,i+m=a.length∧s=[]∧T=[.d (Rep.to a),.d (Rep.to b),.any,.d (.int .i64 i),.any,.any,.any]∧∀k (h:k<a.length) (h2:k<b.length),k<i→a[k]=b[k]) _ (Nat.le_refl _) (by simp) ⟨a.length,0,by simp⟩ ?_
  rintro m T s ⟨i,hm,rfl,rfl,hi⟩
  simp
  refine⟨fun h2=>?_,fun h2=>?_⟩
  · have h3:i<b.length:=by omega
    simp[getD_map,h2,h3,add1 h2 h,pairsOk]
    refine⟨fun h4 h5=>h4 (by simp only[h5]),fun h4=>⟨m-1,by omega,i+1,by omega,by simp,fun k k1 k2 k3=>?_⟩⟩
    rcases Nat.lt_or_ge k i with k4 | k4
    · exact hi k k1 k2 k4
    · have:k=i:=by omega
      subst this
      exact h4
  · exact List.ext_getElem h1 fun k k1 k2=>hi k k1 k2 (by omega)
def lines:List Str:=[[97],[98],[99],[97,98],[98,97],[],[97,97],[98,32,97],[120,43,121],[92]]
def lineV (k:Int):Str:=lines.getD (modV k 10).toNat []
@[simp] def S_gen_Line:List D→Prop × D:=spec1 (α:=Int) (fun _=>True) (fun a=>Rep.to (lineV a))
theorem ct_gen_Line {P:Program} {f g:Nat} {G:Gam} (h:CodeOf P f 1 2 [1] (x_gen_Line g)) (hG:GamOk P G) (hg:G.find g=some S_gen_Mod):Has P f S_gen_Line:=h.has1 hG fun k _=>by
  simp[x_gen_Line,hg]
  obtain⟨h1,h2⟩:=modV_lt k (n:=10) (by omega)
  refine⟨⟨h1,h2⟩,?_⟩
  unfold lineV
  generalize modV k 10=r at *
  obtain⟨n,rfl⟩:=Int.eq_ofNat_of_zero_le h1
  have hn:n<10:=by omega
  rw[show ([D.str [97],D.str [98],D.str [99],D.str [97,98],D.str [98,97],D.str [],D.str [97,97],D.str [98,32,97],D.str [120,43,121],D.str [92]]:List D)=lines.map Rep.to from rfl]
  have e:((lines.map Rep.to)[(n:Int).toNat]?.getD default:D)=D.str (lines.getD n []):=by
    have hl:n<lines.length:=hn
    simp[hl,List.getD]
  rw[e]
  simp
def xorV (a b:Int):Int:=IntKind.u64.wrap ((a % 2 ^ IntKind.u64.bits).toNat ^^^ (b % 2 ^ IntKind.u64.bits).toNat:Nat)
def hashV (x:Int):Int:=IntKind.u64.wrap (xorV x (x.fdiv (2 ^ min 31 IntKind.u64.bits)) * 13787848793156543929)
def finV (x:Int):Int:=IntKind.i64.wrap ((xorV x (x.fdiv (2 ^ min 29 IntKind.u64.bits))).fdiv (2 ^ min 1 IntKind.u64.bits))
theorem lockT:(fun _:Int=>True)=(fun x:Int=>x=x):=funext fun _=>propext ⟨fun _=>rfl,fun _=>trivial⟩
def lock (v:Int):Int:=(cast (congrArg Subtype lockT) (⟨v,trivial⟩:{_x:Int // True}):{x:Int // x=x}).1
theorem lock_gen {p q:Int→Prop} (h:p=q) (v:Int) (hv:p v):(cast (congrArg Subtype h) (⟨v,hv⟩:Subtype p):Subtype q).1=v:=by subst h;rfl
theorem lock_eq (v:Int):lock v=v:=lock_gen lockT v trivial
def atU (raw:List Int) (k:Int):Int :=
  let x0:=IntKind.u64.wrap (IntKind.u64.wrap (IntKind.i64.wrap (k+1)) * 11400714819323198485)
  finV (hashV (if raw=[] then x0 else xorV x0 (IntKind.u64.wrap (raw.getD (k.toNat % raw.length) 0))))
def atV (raw:List Int) (k:Int):Int:=lock (atU raw k)
theorem atV_eq (raw:List Int) (k:Int):atV raw k=atU raw k:=lock_eq _
theorem atV_range (raw:List Int) (k:Int):0≤atV raw k∧atV raw k≤9223372036854775807:=by
  rw[atV_eq]
  unfold atU
  simp only
  generalize (hashV _)=y
  unfold finV
  have h1:0≤xorV y (y.fdiv (2 ^ min 29 IntKind.u64.bits))∧xorV y (y.fdiv (2 ^ min 29 IntKind.u64.bits))<18446744073709551616:=by
    unfold xorV
    generalize (_ ^^^ _:Nat)=z
    simp[IntKind.wrap,IntKind.bits,IntKind.signed]
    omega
  generalize xorV _ _=z at h1
  have h2:z.fdiv (2 ^ min 1 IntKind.u64.bits)=z / 2:=by
    rw[Int.fdiv_eq_ediv_of_nonneg _ (by simp[IntKind.bits])];rfl
  rw[h2,wrap_in] <;> omega
@[simp] def S_gen_At:List D→Prop × D:=spec2 (α:=List Int) (β:=Int) (fun raw k=>0≤k∧k<9223372036854775807∧raw.length≤9223372036854775807) (fun raw k=>Rep.to (atV raw k))
theorem ct_gen_At {P:Program} {f:Nat} {G:Gam} (h:CodeOf P f 2 5 [2] x_gen_At) (hG:GamOk P G):Has P f S_gen_At:=h.has2 hG fun raw k hp=>by
  obtain⟨h1,h2,h3⟩:=hp
  obtain⟨n,rfl⟩:=Int.eq_ofNat_of_zero_le h1
  simp[x_gen_At]
  refine⟨fun h4=>?_,fun h4=>?_⟩
  · have e:(n:Int).tmod raw.length=((n % raw.length:Nat):Int):=by rw[Int.tmod_eq_emod_of_nonneg (by omega)];simp
    have h5:n % raw.length<raw.length:=Nat.mod_lt _ h4
    have h6:raw≠[]:=by intro h;simp[h] at h4
    have ha:atV raw n=finV (hashV (xorV (IntKind.u64.wrap (IntKind.u64.wrap (IntKind.i64.wrap (n+1)) * 11400714819323198485)) (IntKind.u64.wrap raw[n % raw.length]))):=by
      simp[atV_eq,atU,h6,List.getD,h5]
    rw[e,ha]
    generalize n % raw.length=q at h5
    simp[h5,h6,getD_map]
    rfl
  · rw[atV_eq]
    unfold atU
    simp only[h4,if_true]
    rfl
def splitF (cur:Str):Str→List Str
  | []=>[cur]
  | c::s=>if c=10 then (cur++[c])::splitF [] s else splitF (cur++[c]) s
def linesF (cur:Str):Str→List Str
  | []=>if cur=[] then [] else [cur]
  | c::s=>if c=10 then (cur++[c])::linesF [] s else linesF (cur++[c]) s
def linesV (s:Str):List Str:=linesF [] s
theorem splitF_lines:∀(s cur:Str),∃l r,splitF cur s=l++[r]∧linesF cur s=if r=[] then l else l++[r]
  | [],cur=>⟨[],cur,rfl,by simp[linesF]⟩
  | c::s,cur=>by
    by_cases h:c=10
    · obtain⟨l,r,h1,h2⟩:=splitF_lines s []
      refine⟨(cur++[c])::l,r,by simp[splitF,h,h1],?_⟩
      simp only[linesF,h,if_true,h2]
      split <;> simp
    · obtain⟨l,r,h1,h2⟩:=splitF_lines s (cur++[c])
      exact⟨l,r,by simp[splitF,h,h1],by simp[linesF,h,h2]⟩
theorem occ10 (s:Str) (j:Nat):Lib.occAt s [10] j=true↔s[j]?=some 10:=by
  unfold Lib.occAt
  rw[← List.head?_drop]
  cases h:s.drop j with
  | nil=>simp
  | cons a t=>simp[List.isPrefixOf];exact eq_comm
theorem splitF_none:∀(s cur:Str),(∀j:Nat,s[j]?≠some 10)→splitF cur s=[cur++s]
  | [],cur,_=>by simp[splitF]
  | c::s,cur,h=>by
    have h0:c≠10:=by simpa using h 0
    have ih:=splitF_none s (cur++[c]) fun j=>by simpa using h (j+1)
    simp[splitF,h0,ih]
theorem splitF_some:∀(s cur:Str) (i:Nat),s[i]?=some 10→(∀j:Nat,j<i→s[j]?≠some 10)→splitF cur s=(cur++s.take (i+1))::splitF [] (s.drop (i+1))
  | [],cur,i,h,_=>by simp at h
  | c::s,cur,0,h,_=>by
    have:c=10:=by simpa using h
    simp[splitF,this]
  | c::s,cur,i+1,h,h2=>by
    have h0:c≠10:=by simpa using h2 0 (by omega)
    have ih:=splitF_some s (cur++[c]) i (by simpa using h) fun j hj=>by simpa using h2 (j+1) (by omega)
    simp[splitF,h0,ih]
theorem first10 (s:Str):(∀j:Nat,s[j]?≠some 10)∨∃i,s[i]?=some 10∧∀j:Nat,j<i→s[j]?≠some 10:=by
  induction s with
  | nil=>exact .inl fun j=>by simp
  | cons c s ih =>
    by_cases h:c=10
    · exact .inr ⟨0,by simp[h],fun j hj=>absurd hj (by omega)⟩
    · rcases ih with h1 | ⟨i,h1,h2⟩
      · refine .inl fun j=>?_
        cases j with
        | zero=>simpa using h
        | succ j=>simpa using h1 j
      · refine .inr ⟨i+1,by simpa using h1,fun j hj=>?_⟩
        cases j with
        | zero=>simpa using h
        | succ j=>simpa using h2 j (by omega)
theorem splitK_lines:∀(k:Nat) (s:Str),Lib.count s [10]=k→Lib.splitK [10] 1 k s=splitF [] s:=by
  intro k
  induction k with
  | zero =>
    intro s hk
    rcases first10 s with h | ⟨i,h1,h2⟩
    · rw[splitF_none s [] h];rfl
    · have hi:Lib.index s [10]=i:=Lib.index_first (by have:=List.getElem?_eq_some_iff.1 h1;obtain⟨h3,_⟩:=this;omega) ((occ10 s i).2 h1) fun j hj=>by
        have:=h2 j hj
        cases h3:Lib.occAt s [10] j with
        | false=>rfl
        | true=>exact absurd ((occ10 s j).1 h3) this
      have:=Lib.count_hit (by simp) hi
      omega
  | succ k ih =>
    intro s hk
    rcases first10 s with h | ⟨i,h1,h2⟩
    · have hi:Lib.index s [10]=-1:=Lib.index_none fun j hj=>by
        cases h3:Lib.occAt s [10] j with
        | false=>rfl
        | true=>exact absurd ((occ10 s j).1 h3) (h j)
      have:=Lib.count_miss hi
      omega
    · have hi:Lib.index s [10]=i:=Lib.index_first (by have:=List.getElem?_eq_some_iff.1 h1;obtain⟨h3,_⟩:=this;omega) ((occ10 s i).2 h1) fun j hj=>by
        have:=h2 j hj
        cases h3:Lib.occAt s [10] j with
        | false=>rfl
        | true=>exact absurd ((occ10 s j).1 h3) this
      have hc:=Lib.count_hit (by simp) hi
      have hn:¬((i:Int) == -1)=true:=by simp
      simp only[Lib.splitK,hi,hn,if_false,Int.toNat_natCast,List.length_singleton]
      simp only[List.length_singleton] at hc
      rw[ih _ (by omega),splitF_some s [] i h1 h2]
      simp
theorem linesF_count:∀(s cur:Str),(linesF cur s).length=s.count 10+if cur++s=[]∨(cur++s).getLast?=some 10∧s≠[] then 0 else 1
  | [],cur=>by
    by_cases h:cur=[] <;> simp[linesF,h]
  | c::s,cur=>by
    by_cases h:c=10
    · subst h
      have ih:=linesF_count s []
      simp only[linesF,if_true,List.length_cons,ih,List.nil_append,List.count_cons_self]
      by_cases hs:s=[]
      · subst hs;simp
      · simp only[hs,false_or,ne_eq,not_false_eq_true,and_true]
        have e:(cur++10::s).getLast?=s.getLast?:=by
          rw[List.getLast?_append]
          obtain⟨a,t,rfl⟩:=List.exists_cons_of_ne_nil hs
          simp[List.getLast?_cons]
        rw[e]
        simp only[List.append_eq_nil_iff,List.cons_ne_nil,and_false,reduceCtorEq,not_false_eq_true,and_true,false_or]
        omega
    · have ih:=linesF_count s (cur++[c])
      simp only[linesF,h,if_false,ih,List.append_assoc,List.singleton_append,List.count_cons_of_ne h]
      by_cases hs:s=[]
      · subst hs
        simp[h]
      · simp[hs]
theorem linesF_flat:∀(s cur:Str),(linesF cur s).flatten=cur++s
  | [],cur=>by by_cases h:cur=[] <;> simp[linesF,h]
  | c::s,cur=>by
    by_cases h:c=10
    · simp[linesF,h,linesF_flat s []]
    · simp[linesF,h,linesF_flat s (cur++[c])]
/-! what the library's functions answer -/
@[simp] def S_strings_Count:List D→Prop × D:=spec2 (α:=Str) (β:=Str) (fun _ n=>n.length=1) (fun s n=>.int .i64 (s.count (n.getD 0 0)))
@[simp] def S_strings_HasSuffix:List D→Prop × D:=spec2 (α:=Str) (β:=Str) (fun s _=>s.length≤9223372036854775807) (fun s p=>.bool (Lib.hasSuffix s p))
@[simp] def S_strings_TrimSuffix:List D→Prop × D:=spec2 (α:=Str) (β:=Str) (fun s _=>s.length≤9223372036854775807) (fun s p=>.str (Lib.trimSuffix s p))
@[simp] def S_strings_IndexByte:List D→Prop × D
  | [.str s,.int .u8 c]=>(0≤c∧c<256,.int .i64 (Lib.indexByte s c.toNat.toUInt8))
  | _=>(False,.nilp)
@[simp] def S_strings_Join:List D→Prop × D:=spec2 (α:=List Str) (β:=Str) (fun l sep=>l.length≤140737488355328∧(Lib.join l sep).length≤140737488355328) (fun l sep=>.str (Lib.join l sep))
@[simp] def S_strings_genSplit:List D→Prop × D
  | [.str s,.str sep,.int .i64 sv,.int .i64 n]=>(sep.length=1∧0≤sv∧sv≤1∧n=-1∧s.length<4294967281,Rep.to (α:=List Str) (Lib.splitK sep sv.toNat (Lib.count s sep) s))
  | _=>(False,.nilp)
@[simp] def S_strings_SplitAfter:List D→Prop × D:=spec2 (α:=Str) (β:=Str) (fun s sep=>sep.length=1∧s.length<4294967281) (fun s sep=>Rep.to (Lib.splitK sep 1 (Lib.count s sep) s))
theorem ct_strings_SplitAfter {P:Program} {f g:Nat} {G:Gam} (h:CodeOf P f 2 3 [2] (x_strings_SplitAfter g)) (hG:GamOk P G) (hg:G.find g=some S_strings_genSplit):Has P f S_strings_SplitAfter:=h.has2 hG fun s sep hp=>by
  obtain⟨h1,h2⟩:=hp
  simp[x_strings_SplitAfter,hg,h1,h2]
def endedV (s:Str):Bool:=decide (s.getLast?=some 10)
def bareV (s:Str):Str:=if endedV s then s.dropLast else s
theorem hasSuffix_ended (s:Str):Lib.hasSuffix s [10]=endedV s:=by
  unfold Lib.hasSuffix endedV
  by_cases h:s.getLast?=some 10
  · obtain⟨t,rfl⟩:=List.getLast?_eq_some_iff.1 h
    simp[List.isSuffixOf_iff_suffix]
  · simp only[h,decide_false]
    cases h2:[10].isSuffixOf s with
    | false=>rfl
    | true =>
      obtain⟨t,rfl⟩:=List.isSuffixOf_iff_suffix.1 h2
      simp at h
theorem trimSuffix_bare (s:Str):Lib.trimSuffix s [10]=bareV s:=by
  unfold Lib.trimSuffix bareV
  rw[hasSuffix_ended,List.dropLast_eq_take]
  rfl
@[simp] def S_text_Ended:List D→Prop × D:=spec1 (α:=Str) (fun s=>s.length≤9223372036854775807) (fun s=>.bool (endedV s))
theorem ct_text_Ended {P:Program} {f g:Nat} {G:Gam} (h:CodeOf P f 1 2 [1] (x_text_Ended g)) (hG:GamOk P G) (hg:G.find g=some S_strings_HasSuffix):Has P f S_text_Ended:=h.has1 hG fun s hp=>by
  simp[x_text_Ended,hg,hp,hasSuffix_ended]
@[simp] def S_text_Bare:List D→Prop × D:=spec1 (α:=Str) (fun s=>s.length≤9223372036854775807) (fun s=>.str (bareV s))
theorem ct_text_Bare {P:Program} {f g:Nat} {G:Gam} (h:CodeOf P f 1 2 [1] (x_text_Bare g)) (hG:GamOk P G) (hg:G.find g=some S_strings_TrimSuffix):Has P f S_text_Bare:=h.has1 hG fun s hp=>by
  simp[x_text_Bare,hg,hp,trimSuffix_bare]
theorem linesV_len (s:Str):(linesV s).length=s.count 10+if s≠[]∧endedV s=false then 1 else 0:=by
  rw[linesV,linesF_count]
  simp only[List.nil_append]
  by_cases h:s=[]
  · subst h;simp[endedV]
  · by_cases h2:s.getLast?=some 10 <;> simp[h,h2,endedV]
def checkT (s:Str):Int:=if s.length≤1048576∧(linesV s).length≤4096 then 0 else 1
def lenOk (s:Str):Prop:=s.length≤9223372036854775807
@[simp] theorem lenOk_4 {s:Str} (h:s.length≤4194304):lenOk s:=by unfold lenOk;omega
@[simp] theorem lenOk_1 {s:Str} (h:s.length≤1048576):lenOk s:=by unfold lenOk;omega
@[simp] theorem lenOk_9 {s:Str} (h:s.length≤9223372036854775807):lenOk s:=h
@[simp] def S_text_Check:List D→Prop × D:=spec1 (α:=Str) lenOk (fun s=>.int .i64 (checkT s))
theorem ct_text_Check {P:Program} {f g1 g2:Nat} {G:Gam} (h:CodeOf P f 1 5 [1] (x_text_Check g1 g2)) (hG:GamOk P G) (h1:G.find g1=some S_strings_Count) (h2:G.find g2=some S_text_Ended):Has P f S_text_Check:=h.has1 hG fun s hp=>by
  have hc:s.count 10≤s.length:=List.count_le_length
  have hl:=linesV_len s
  have hp':s.length≤9223372036854775807:=hp
  have key:∀m:Nat,(linesV s).length=m→checkT s=if (1048576:Int)<s.length then 1 else if (4096:Int)<m then 1 else 0:=by
    intro m hm
    unfold checkT
    rw[hm]
    by_cases a:(1048576:Int)<s.length
    · rw[if_neg (by omega),if_pos a]
    · rw[if_neg a]
      by_cases b:(4096:Int)<m
      · rw[if_neg (by omega),if_pos b]
      · rw[if_pos (by omega),if_neg b]
  by_cases c0:s≠[]∧endedV s=false
  · obtain⟨c1,c2⟩:=c0
    have hlt:s.count 10<s.length:=by
      rcases Nat.lt_or_ge (s.count 10) s.length with h | h
      · exact h
      · have h2:=List.count_eq_length.1 (Nat.le_antisymm hc h)
        have h3:=h2 _ (List.getLast_mem c1)
        rw[endedV,List.getLast?_eq_some_getLast c1,← h3] at c2
        simp at c2
    have w1:IntKind.i64.wrap ((s.count 10:Int)+1)=(s.count 10:Int)+1:=wrap_in (by omega) (by omega)
    rw[if_pos ⟨c1,c2⟩] at hl
    have k:=key _ hl
    rw[k]
    by_cases a:(1048576:Int)<s.length <;> by_cases b:(4096:Int)<((s.count 10+1:Nat):Int) <;>
      (have b':=b;push_cast at b';simp[x_text_Check,h1,h2,hp',c1,c2,w1,a,b,b'])
  · rw[if_neg c0] at hl
    have k:=key _ hl
    rw[k]
    by_cases c1:s=[]
    · subst c1
      simp[x_text_Check,h1,h2]
    · have c2:endedV s=true:=by
        cases h3:endedV s with
        | true=>rfl
        | false=>exact absurd ⟨c1,h3⟩ c0
      simp only[Nat.add_zero]
      by_cases a:(1048576:Int)<s.length <;> by_cases b:(4096:Int)<((s.count 10:Nat):Int) <;>
        simp[x_text_Check,h1,h2,hp',c1,c2,a,b]
def splitD (s:Str):D:=if checkT s=0 then .tup [Rep.to (linesV s),.int .i64 0] else .tup [.nilsl,.int .i64 1]
@[simp] def S_text_Split:List D→Prop × D:=spec1 (α:=Str) (fun s=>s.length≤4194304) (fun s=>splitD s)
theorem ct_text_Split {P:Program} {f g1 g2:Nat} {G:Gam} (h:CodeOf P f 1 7 [1,2] (x_text_Split g1 g2)) (hG:GamOk P G) (h1:G.find g1=some S_text_Check) (h2:G.find g2=some S_strings_SplitAfter):Has P f S_text_Split:=h.has1 hG fun s hp=>by
  have hp':s.length<4294967281:=by omega
  by_cases c:checkT s=0
  · obtain⟨l,r,e1,e2⟩:=splitF_lines s []
    have e3:=splitK_lines _ s rfl
    rw[e1] at e3
    have e4:linesV s=if r=[] then l else l++[r]:=e2
    have hll:l.length≤4096:=by
      have:checkT s=0:=c
      unfold checkT at this
      split at this
      · rename_i h3
        rw[e4] at h3
        split at h3
        · exact h3.2
        · have:=h3.2;simp at this;omega
      · simp at this
    have w1:IntKind.i64.wrap (l.length:Int)=(l.length:Int):=wrap_in (by omega) (by omega)
    have e5:splitD s=.tup [Rep.to (linesV s),.int .i64 0]:=if_pos c
    rw[e5,e4]
    by_cases hr:r=[]
    · simp[x_text_Split,h1,h2,hp,hp',c,e3,w1,hr]
      omega
    · simp[x_text_Split,h1,h2,hp,hp',c,e3,w1,hr]
      omega
  · have c1:checkT s=1:=by
      unfold checkT at *
      split at c <;> simp_all
    have e5:splitD s=.tup [.nilsl,.int .i64 1]:=if_neg c
    rw[e5]
    simp[x_text_Split,h1,hp,c1]
@[simp] def S_ref02_Ended:List D→Prop × D:=spec1 (α:=Str) (fun s=>s.length≤9223372036854775807) (fun s=>.bool (endedV s))
theorem ct_ref02_Ended {P:Program} {f:Nat} {G:Gam} (h:CodeOf P f 1 2 [1] x_ref02_Ended) (hG:GamOk P G):Has P f S_ref02_Ended:=h.has1 hG fun s hp=>by
  rcases List.eq_nil_or_concat s with rfl | ⟨t,c,rfl⟩
  · simp[x_ref02_Ended,endedV]
  · simp only[List.concat_eq_append] at *
    simp at hp
    have w:IntKind.i64.wrap (t.length:Int)=t.length:=wrap_in (by omega) (by omega)
    have e:((c.toNat:Int)=10)=(c=10):=by
      apply propext
      constructor
      · intro h
        exact UInt8.toNat_inj.1 (by simp;omega)
      · rintro rfl;rfl
    simp[x_ref02_Ended,endedV,w,e]
    omega
@[simp] def S_ref02_Bare:List D→Prop × D:=spec1 (α:=Str) (fun s=>s.length≤9223372036854775807) (fun s=>.str (bareV s))
theorem ct_ref02_Bare {P:Program} {f g:Nat} {G:Gam} (h:CodeOf P f 1 3 [1] (x_ref02_Bare g)) (hG:GamOk P G) (hg:G.find g=some S_ref02_Ended):Has P f S_ref02_Bare:=h.has1 hG fun s hp=>by
  cases c:endedV s with
  | false=>simp[x_ref02_Bare,hg,hp,c,bareV]
  | true =>
    have h1:1≤s.length:=by
      cases s with
      | nil=>simp[endedV] at c
      | cons a t=>simp
    have w:IntKind.i64.wrap ((s.length:Int)-1)=((s.length-1:Nat):Int):=by rw[wrap_in (by omega) (by omega)];omega
    simp[x_ref02_Bare,hg,hp,c,bareV,w,List.dropLast_eq_take]
@[simp] def S_ref02_Lines:List D→Prop × D:=spec1 (α:=Str) (fun s=>s.length≤4194304) (fun s=>Rep.to (linesV s))
theorem ct_ref02_Lines {P:Program} {f:Nat} {G:Gam} (h:CodeOf P f 1 7 [1] x_ref02_Lines) (hG:GamOk P G):Has P f S_ref02_Lines:=h.has1 hG fun s hp=>by
  simp[x_ref02_Lines]
  refine vc_lp (σ:=Nat × Nat × List Str) (fun x=>x.1≤x.2.1∧x.2.1≤s.length∧x.2.2.length≤x.2.1∧(x.2.1<s.length∨x.1=x.2.1)∧x.2.2++linesF ((s.take x.2.1).drop x.1) (s.drop x.2.1)=linesV s) (fun x=>s.length-x.2.1)
    (fun x=>[.d (Rep.to s),.any,.gr 0 1 (x.2.2.map Rep.to),.d (.int .i64 x.1),.d (.int .i64 x.2.1),.any,.any]) (fun x=>[.tip x.2.2.length]) (0,0,[]) (by simp) (by simp) ⟨by simp,by simp,by simp,by simp,by simp[linesV]⟩ ?_
  rintro⟨fr,i,o⟩ ⟨b1,b2,b3,b5,b4⟩
  simp only at b1 b2 b3 b4 b5
  by_cases hi:i<s.length
  · have w1:IntKind.i64.wrap ((i:Int)+1)=((i+1:Nat):Int):=by rw[wrap_in (by omega) (by omega)];omega
    have ed:s.drop i=s[i]::s.drop (i+1):=List.drop_eq_getElem_cons hi
    have et:(s.take (i+1)).drop fr=(s.take i).drop fr++[s[i]]:=by
      rw[List.take_succ_eq_append_getElem hi,List.drop_append_of_le_length (by simp;omega)]
    have es:List.take (i+1-fr) (s.drop fr)=(s.take (i+1)).drop fr:=by rw[List.drop_take]
    rw[ed] at b4
    simp only[linesF,← et] at b4
    have i2:(i:Int)+1≤s.length:=by omega
    have i3:(fr:Int)≤(i:Int)+1:=by omega
    have e:((s[i].toNat:Int)=10)=(s[i]=10):=by
      apply propext
      constructor
      · intro h
        exact UInt8.toNat_inj.1 (by simp;omega)
      · intro h;rw[h];rfl
    have en:(s.take (i+1)).drop (i+1)=[]:=List.drop_eq_nil_of_le (by simp;omega)
    by_cases c:s[i]=10
    · rw[if_pos c] at b4
      simp[hi,w1,e,c,i2,i3]
      rw[es]
      exact⟨by unfold room;omega,Nxt.mk (i+1,i+1,o++[(s.take (i+1)).drop fr]) (by simp;omega) (by simp) (by simp) ⟨by simp,by simp;omega,by simp;omega,by simp,by simp only[en];rw[← b4];simp⟩⟩
    · rw[if_neg c] at b4
      by_cases l:i+1=s.length
      · have l':s.length=i+1:=by omega
        have ez:s.drop (i+1)=[]:=List.drop_eq_nil_of_le (by omega)
        have ec:(s.take (i+1)).drop fr≠[]:=by
          intro hh
          have:=congrArg List.length hh
          simp at this
          omega
        rw[ez] at b4
        simp only[linesF,ec,if_false] at b4
        have i4:(i:Int)<(i:Int)+1:=by omega
        simp[l',w1,e,c,i3,i4]
        rw[es]
        refine⟨by unfold room;omega,Nxt.mk (i+1,i+1,o++[(s.take (i+1)).drop fr]) (by simp) (by simp) (by simp) ⟨by simp,by simp,by simp;omega,by simp,?_⟩⟩
        simp only[en,ez,linesF,if_true]
        rw[← b4]
        simp
      · have l':¬((i:Int)+1=s.length):=by omega
        simp[hi,w1,e,c,l']
        exact Nxt.mk (fr,i+1,o) (by simp;omega) (by simp) (by simp) ⟨by simp only;omega,by simp only;omega,by simp only;omega,by simp only;omega,by simpa using b4⟩
  · have h1:i=s.length:=by omega
    subst h1
    have h2:fr=s.length:=by omega
    subst h2
    simp[linesF] at b4
    simp[b4]
@[simp] def S_ref02_Check:List D→Prop × D:=spec1 (α:=Str) lenOk (fun s=>.int .i64 (checkT s))
theorem ct_ref02_Check {P:Program} {f g:Nat} {G:Gam} (h:CodeOf P f 1 3 [1] (x_ref02_Check g)) (hG:GamOk P G) (hg:G.find g=some S_ref02_Lines):Has P f S_ref02_Check:=h.has1 hG fun s hp=>by
  by_cases a:s.length≤1048576
  · have a':¬((1048576:Int)<s.length):=by omega
    have hp:s.length≤4194304:=by omega
    by_cases b:(linesV s).length≤4096
    · have b':¬((4096:Int)<(linesV s).length):=by omega
      simp[x_ref02_Check,hg,hp,a,a',b,b',checkT]
    · have b':((4096:Int)<(linesV s).length):=by omega
      simp[x_ref02_Check,hg,hp,a,a',b,b',checkT]
  · have a':((1048576:Int)<s.length):=by omega
    simp[x_ref02_Check,a,a',checkT]
@[simp] def S_ref02_Split:List D→Prop × D:=spec1 (α:=Str) (fun s=>s.length≤4194304) (fun s=>splitD s)
theorem ct_ref02_Split {P:Program} {f g1 g2:Nat} {G:Gam} (h:CodeOf P f 1 4 [1,2] (x_ref02_Split g1 g2)) (hG:GamOk P G) (h1:G.find g1=some S_ref02_Check) (h2:G.find g2=some S_ref02_Lines):Has P f S_ref02_Split:=h.has1 hG fun s hp=>by
  by_cases c:checkT s=0
  · simp[x_ref02_Split,h1,h2,hp,c,splitD]
  · have c1:checkT s=1:=by
      unfold checkT at *
      split at c <;> simp_all
    simp[x_ref02_Split,h1,hp,c1,splitD]
def okL (x:Str):Bool:=decide (x≠[]∧(10:UInt8) ∉ x.dropLast)
def listV:List Str→Bool
  | []=>true
  | [x]=>okL x
  | x::y::r=>okL x && endedV x && listV (y::r)
theorem listV_cons {x:Str} {l:List Str} (h1:okL x=true) (h2:endedV x=true) (h3:listV l=true):listV (x::l)=true:=by
  cases l with
  | nil=>exact h1
  | cons y r=>simp[listV,h1,h2,h3]
theorem listV_lines:∀(s cur:Str),(10:UInt8) ∉ cur→listV (linesF cur s)=true
  | [],cur,h=>by
    by_cases hc:cur=[]
    · simp[linesF,hc,listV]
    · simp only[linesF,hc,if_false,listV,okL,ne_eq,not_false_eq_true,true_and,decide_eq_true_eq]
      exact fun hm=>h (List.dropLast_subset _ hm)
  | c::s,cur,h=>by
    by_cases hc:c=10
    · subst hc
      simp only[linesF,if_true]
      exact listV_cons (by simp[okL,h]) (by simp[endedV]) (listV_lines s [] (by simp))
    · simp only[linesF,hc,if_false]
      refine listV_lines s (cur++[c]) ?_
      simp[h]
      exact fun e=>hc e.symm
theorem indexByte_last:∀(t:Str) (c:UInt8),((10:UInt8)∈t→0≤Lib.indexByte (t++[c]) 10∧Lib.indexByte (t++[c]) 10<t.length)∧((10:UInt8) ∉ t→Lib.indexByte (t++[c]) 10=if c=10 then (t.length:Int) else -1)
  | [],c=>by
    by_cases h:c=10 <;> simp[Lib.indexByte,h]
  | a::t,c=>by
    obtain⟨h1,h2⟩:=indexByte_last t c
    by_cases ha:a=10
    · subst ha
      simp[Lib.indexByte]
    · have ha':¬(10:UInt8)=a:=fun e=>ha e.symm
      have e:Lib.indexByte (a::t++[c]) 10=if Lib.indexByte (t++[c]) 10=-1 then -1 else Lib.indexByte (t++[c]) 10+1:=by
        simp[Lib.indexByte,ha]
      rw[e]
      constructor
      · intro h
        have h':(10:UInt8)∈t:=by simpa [ha'] using h
        have:=h1 h'
        rw[if_neg (by omega)]
        simp
        omega
      · intro h
        have h':(10:UInt8) ∉ t:=fun hm=>h (by simp[hm])
        rw[h2 h']
        by_cases hc:c=10
        · simp only[hc,if_true]
          rw[if_neg (by omega)]
          simp
        · simp[hc]
def blobS (raw:List Int) (fr kinds:Int) (k:Nat):Str:=(List.range k).flatMap fun (i:Nat)=>lineV (modV (atV raw (fr+1+i)) kinds)++[10]
theorem blobS_succ (raw:List Int) (fr kinds:Int) (k:Nat):blobS raw fr kinds (k+1)=blobS raw fr kinds k++lineV (modV (atV raw (fr+1+k)) kinds)++[10]:=by
  simp[blobS,List.range_succ]
def blobV (raw:List Int) (fr n kinds:Int):Str :=
  let s:=blobS raw fr kinds (modV (atV raw fr) (n+1)).toNat
  if (atV raw (fr+90)).tmod 4=0∧1<s.length∧s.getD (s.length-2) 0≠10 then s.dropLast else s
theorem lines_good:∀x,x∈lines→x.length≤3∧x.count 10=0:=by decide
theorem lineV_good (k:Int):(lineV k).length≤3∧(lineV k).count 10=0:=by
  obtain⟨h1,h2⟩:=modV_lt k (n:=10) (by omega)
  unfold lineV
  have hl:(modV k 10).toNat<lines.length:=by
    have:lines.length=10:=rfl
    omega
  have e:lines.getD (modV k 10).toNat []=lines[(modV k 10).toNat]:=by simp[List.getD,hl]
  rw[e]
  exact lines_good _ (List.getElem_mem hl)
theorem blobS_good (raw:List Int) (fr kinds:Int):∀k,(blobS raw fr kinds k).length≤4 * k∧(blobS raw fr kinds k).count 10=k
  | 0=>by simp[blobS]
  | k+1=>by
    obtain⟨h1,h2⟩:=blobS_good raw fr kinds k
    obtain⟨h3,h4⟩:=lineV_good (modV (atV raw (fr+1+k)) kinds)
    rw[blobS_succ]
    simp only[List.length_append,List.count_append,List.length_singleton,h2,h4]
    simp
    omega
theorem blobV_good (raw:List Int) (fr kinds:Int) {n:Int} (hn:0≤n):(blobV raw fr n kinds).length≤4 * n.toNat∧(blobV raw fr n kinds).count 10≤n.toNat:=by
  obtain⟨m1,m2⟩:=modV_lt (atV raw fr) (n:=n+1) (by omega)
  obtain⟨h1,h2⟩:=blobS_good raw fr kinds (modV (atV raw fr) (n+1)).toNat
  have e:(modV (atV raw fr) (n+1)).toNat≤n.toNat:=by omega
  unfold blobV
  generalize blobS raw fr kinds (modV (atV raw fr) (n+1)).toNat=s at *
  simp only
  split
  · have hs:=(List.dropLast_sublist s).count_le 10
    simp only[List.length_dropLast]
    omega
  · omega
theorem check_of {s:Str} (h1:s.length≤1048576) (h2:s.count 10≤4095):checkT s=0:=by
  have h3:(linesV s).length≤4096:=by
    rw[linesV_len]
    split <;> omega
  simp[checkT,h1,h3]
theorem lines_flat (s:Str):(linesV s).flatten=s:=by
  rw[linesV,linesF_flat];rfl
end Go.AE
namespace Go.AE
@[simp] def S_gen_Blob:List D→Prop × D:=spec4 (α:=List Int) (β:=Int) (γ:=Int) (δ:=Int) (fun raw fr n kinds=>raw.length≤9223372036854775807∧0≤fr∧fr≤100000∧0≤n∧n≤1000∧1≤kinds∧kinds≤1000) (fun raw fr n kinds=>Rep.to (blobV raw fr n kinds))
theorem ct_gen_Blob {P:Program} {f g1 g2 g3:Nat} {G:Gam} (h:CodeOf P f 4 9 [4] (x_gen_Blob g1 g2 g3)) (hG:GamOk P G) (h1:G.find g1=some S_gen_At) (h2:G.find g2=some S_gen_Mod) (h3:G.find g3=some S_gen_Line):Has P f S_gen_Blob:=h.has4 hG fun raw fr n kinds hp=>by
  obtain⟨p1,p2,p3,p4,p5,p6,p7⟩:=hp
  obtain⟨m1,m2⟩:=modV_lt (atV raw fr) (n:=n+1) (by omega)
  have q1:(fr:Int)<9223372036854775807:=by omega
  have q2:raw.length≤9223372036854775807:=by omega
  have q3:1≤n+1∧n+1≤9223372036854775807:=by omega
  have q4:1≤kinds∧kinds≤9223372036854775807:=by omega
  have w0:IntKind.i64.wrap (n+1)=n+1:=wrap_in (by omega) (by omega)
  have w2:IntKind.i64.wrap (fr+1)=fr+1:=wrap_in (by omega) (by omega)
  have w3:IntKind.i64.wrap (fr+90)=fr+90:=wrap_in (by omega) (by omega)
  obtain⟨m,hm⟩:=Int.eq_ofNat_of_zero_le m1
  have hv:blobV raw fr n kinds=if (atV raw (fr+90)).tmod 4=0∧1<(blobS raw fr kinds m).length∧(blobS raw fr kinds m).getD ((blobS raw fr kinds m).length-2) 0≠10 then (blobS raw fr kinds m).dropLast else blobS raw fr kinds m:=by
    unfold blobV
    rw[hm]
    rfl
  have hr:=atV_range raw (fr+90)
  obtain⟨hb,_⟩:=blobS_good raw fr kinds m
  have r1:0≤fr+90∧fr+90<9223372036854775807:=by omega
  rw[hv]
  clear hv
  simp[x_gen_Blob,h1,h2,p2,q1,q2,q3,w0]
  rw[hm]
  refine vc_lp (σ:=Nat) (fun i=>i≤m) (fun i=>m-i) (fun i=>[.d (Rep.to raw),.d (.int .i64 fr),.d (.int .i64 m),.d (.int .i64 kinds),.any,.d (.str (blobS raw fr kinds i)),.d (.int .i64 i),.any,.any]) (fun _=>[]) 0 (by simp[blobS]) (by simp) (by simp) ?_
  intro i hi
  by_cases h6:i<m
  · have w1:IntKind.i64.wrap (fr+1+i)=fr+1+i:=wrap_in (by omega) (by omega)
    have w4:IntKind.i64.wrap ((i:Int)+1)=(i:Int)+1:=wrap_in (by omega) (by omega)
    have r2:0≤fr+1+(i:Int)∧fr+1+(i:Int)<9223372036854775807:=by omega
    obtain⟨hl,_⟩:=lineV_good (modV (atV raw (fr+1+i)) kinds)
    obtain⟨hbi,_⟩:=blobS_good raw fr kinds i
    simp[h1,h2,h3,w1,w2,w4,h6,q2,q4,r2]
    refine⟨by omega,by omega,?_⟩
    exact Nxt.mk (i+1) (by omega) (by simp[blobS_succ]) (by simp) (by omega)
  · have h7:i=m:=by omega
    subst h7
    generalize blobS raw fr kinds i=s at *
    simp[h1,q2,w3,r1]
    generalize atV raw (fr+90)=z at *
    refine⟨fun c1=>⟨fun c2=>?_,fun c2 c3 c4=>by omega⟩,fun a b=>absurd b a⟩
    have c2':1<s.length:=by omega
    have wA:IntKind.i64.wrap ((s.length:Int)-2)=((s.length-2:Nat):Int):=by rw[wrap_in (by omega) (by omega)];omega
    have wB:IntKind.i64.wrap ((s.length:Int)-1)=((s.length-1:Nat):Int):=by rw[wrap_in (by omega) (by omega)];omega
    rw[wA,wB]
    simp only[Int.toNat_natCast]
    refine⟨by omega,fun c3=>⟨by omega,?_⟩,fun c3 _ _ c4=>?_⟩
    · have c4:¬s[s.length-2]?.getD 0=10:=fun e=>c3 (by rw[e];rfl)
      rw[if_pos ⟨c1,c2',c4⟩,List.dropLast_eq_take]
    · exact absurd (UInt8.toNat_inj.1 (by simp;omega)) c4
def flen (l:List Str):Nat:=l.flatten.length
theorem flen_take (l:List Str) (k:Nat):flen l=flen (l.take k)+flen (l.drop k):=by
  unfold flen
  rw[← List.length_append,← List.flatten_append,List.take_append_drop]
theorem flen_succ {l:List Str} {i:Nat} (hi:i<l.length):flen (l.take (i+1))=flen (l.take i)+l[i].length:=by
  unfold flen
  rw[List.take_succ_eq_append_getElem hi,List.flatten_append,List.length_append]
  congr 1
  rw[List.flatten_cons,List.flatten_nil,List.append_nil]
def joinD (l:List Str):D:=if listV l=true then (if flen l≤1048576∧l.length≤4096 then .tup [.str (Lib.join l []),.int .i64 0] else .tup [.str [],.int .i64 1]) else .tup [.str [],.int .i64 2]
theorem join_flat (l:List Str):Lib.join l []=l.flatten:=by
  cases l with
  | nil=>rfl
  | cons x r =>
    rw[Lib.join_cons]
    simp[Lib.joinTail]
theorem listV_drop {l:List Str} {i:Nat} (h:i<l.length):listV (l.drop i)=(okL l[i] && (decide (i+1=l.length) || endedV l[i]) && listV (l.drop (i+1))):=by
  rw[List.drop_eq_getElem_cons h]
  cases h2:l.drop (i+1) with
  | nil =>
    have h3:l.length≤i+1:=List.drop_eq_nil_iff.1 h2
    have h4:i+1=l.length:=by omega
    simp[listV,h4]
  | cons y r =>
    have h4:¬i+1=l.length:=by
      intro h5
      have:l.drop (i+1)=[]:=List.drop_eq_nil_iff.2 (by omega)
      rw[this] at h2
      simp at h2
    simp[listV,h4]
@[simp] def S_text_Join:List D→Prop × D:=spec1 (α:=List Str) (fun l=>flen l≤4194304∧l.length≤4194304) (fun l=>joinD l)
theorem ct_text_Join {P:Program} {f g1 g2:Nat} {G:Gam} (h:CodeOf P f 1 13 [1,2] (x_text_Join g1 g2)) (hG:GamOk P G) (h1:G.find g1=some S_strings_IndexByte) (h2:G.find g2=some S_strings_Join):Has P f S_text_Join:=h.has1 hG fun l hp=>by
  obtain⟨p1,p2⟩:=hp
  simp[x_text_Join]
  refine vc_lp (σ:=Nat) (fun i=>i≤l.length∧listV l=listV (l.drop i)) (fun i=>l.length-i) (fun i=>[.d (Rep.to l),.any,.any,.d (.int .i64 (flen (l.take i))),.any,.any,.any,.d (Rep.to l),.d (.int .i64 l.length),.d (.int .i64 i),.any,.any,.any]) (fun _=>[]) 0 (by simp[flen]) (by simp) ⟨by simp,by simp⟩ ?_
  rintro i ⟨i1,i2⟩
  by_cases hi:i<l.length
  · have w1:IntKind.i64.wrap ((i:Int)+1)=(i:Int)+1:=wrap_in (by omega) (by omega)
    have w2:IntKind.i64.wrap ((l.length:Int)-1)=(l.length:Int)-1:=wrap_in (by omega) (by omega)
    rw[listV_drop hi] at i2
    have ef:=flen_succ hi
    have el:=flen_take l (i+1)
    rw[ef] at el
    have hx:l[i]=l[i]:=rfl
    generalize hq:l[i]=x at *
    rcases List.eq_nil_or_concat x with rfl | ⟨t,c,rfl⟩
    · have hb:listV l=false:=by rw[i2];simp[okL]
      simp[h1,hi,getD_map,hq,joinD,hb]
    · simp only[List.concat_eq_append] at *
      obtain⟨b1,b2⟩:=indexByte_last t c
      have hl0:(t++[c]).length=t.length+1:=by simp
      have w4:IntKind.i64.wrap (t.length:Int)=t.length:=wrap_in (by omega) (by omega)
      have hne:t++[c]≠[]:=by simp
      rw[hl0] at ef el
      have w3:IntKind.i64.wrap ((flen (l.take i):Int)+((t.length:Int)+1))=flen (l.take (i+1)):=by rw[wrap_in (by omega) (by omega),ef];omega
      generalize hz:Lib.indexByte (t++[c]) 10=z at *
      by_cases ht:(10:UInt8)∈t
      · obtain⟨b3,b4⟩:=b1 ht
        have hb:listV l=false:=by rw[i2];simp[okL,ht]
        simp[h1,hi,getD_map,hq,joinD,hb,hz,b3,b4,w4,w2]
      · have b3:=b2 ht
        have ok:okL (t++[c])=true:=by simp[okL,ht]
        by_cases hc:c=10
        · rw[if_pos hc] at b3
          have en:endedV (t++[c])=true:=by simp[endedV,hc]
          rw[ok,en] at i2
          simp at i2
          subst b3
          have hn:¬((t.length:Int)<0):=by omega
          simp[h1,hi,getD_map,hq,hz,w4,w2,w3,w1,hn]
          exact Nxt.mk (i+1) (by omega) (by simp) (by simp) ⟨by omega,i2⟩
        · rw[if_neg hc] at b3
          have en:endedV (t++[c])=false:=by simp[endedV,hc]
          rw[ok,en] at i2
          simp at i2
          subst b3
          by_cases hlast:i+1=l.length
          · have hl2:¬((i:Int)<(l.length:Int)-1):=by omega
            simp[h1,hi,getD_map,hq,hz,w4,w2,hl2,w3,w1]
            exact Nxt.mk (i+1) (by omega) (by simp) (by simp) ⟨by omega,by rw[i2];simp[hlast]⟩
          · have hl2:((i:Int)<(l.length:Int)-1):=by omega
            have hb:listV l=false:=by rw[i2];simp[hlast]
            simp[h1,hi,getD_map,hq,hz,w4,w2,hl2,joinD,hb]
  · have hi2:i=l.length:=by omega
    subst hi2
    have hb:listV l=true:=by rw[i2];simp[listV]
    have hj:=join_flat l
    have ht:l.take l.length=l:=List.take_length
    by_cases a:(1048576:Int)<flen l
    · have a':¬(flen l≤1048576):=by omega
      simp[joinD,hb,a,a',ht]
    · by_cases b:(4096:Int)<l.length
      · have b':¬(l.length≤4096):=by omega
        simp[joinD,hb,a,b,b',ht]
      · have a':flen l≤1048576:=by omega
        have b':l.length≤4096:=by omega
        have a2:(Lib.join l []).length≤140737488355328:=by rw[hj];unfold flen at a';omega
        have b2:l.length≤140737488355328:=by omega
        simp[h2,joinD,hb,a,b,a',b',a2,b2,ht]
theorem splitD_ok {s:Str} (h:checkT s=0):splitD s=.tup [Rep.to (linesV s),.int .i64 0]:=if_pos h
theorem joinD_lines {s:Str} (h:checkT s=0):joinD (linesV s)=.tup [.str s,.int .i64 0]:=by
  have h1:s.length≤1048576∧(linesV s).length≤4096:=by
    unfold checkT at h
    split at h
    · assumption
    · simp at h
  have h2:flen (linesV s)=s.length:=by unfold flen;rw[lines_flat]
  unfold joinD
  rw[if_pos (show listV (linesV s)=true from listV_lines s [] (by simp)),h2,if_pos h1,join_flat,lines_flat]
theorem aw02a:linesV [97,10,10,98]=[[97,10],[10],[98]]:=by decide
theorem aw02b:checkT [97,10,10,98]=0:=by decide
theorem aw02c:listV [[97],[98]]=false:=by decide
theorem aw02d:bareV [120,10]=[120]:=by decide
theorem aw02e:endedV [120,10]=true:=by decide
@[simp] def S_law02_awake:List D→Prop × D:=spec0 True (.bool true)
theorem ct_law02_awake {P:Program} {f g1 g2 g3 g4 g5:Nat} {G:Gam} (h:CodeOf P f 0 4 [0] (x_law02_awake g1 g2 g3 g4 g5)) (hG:GamOk P G) (h1:G.find g1=some S_text_Split) (h2:G.find g2=some S_text_Join) (h3:G.find g3=some S_gen_Strings) (h4:G.find g4=some S_text_Ended) (h5:G.find g5=some S_text_Bare):Has P f S_law02_awake:=h.has0 hG fun _=>by
  have r:([.str [97,10],.str [10],.str [98]]:List D)=([[97,10],[10],[98]]:List Str).map Rep.to:=rfl
  have r2:([.str [97],.str [98]]:List D)=([[97],[98]]:List Str).map Rep.to:=rfl
  have e1:=splitD_ok aw02b
  rw[aw02a] at e1
  have e2:joinD [[97],[98]]=.tup [.str [],.int .i64 2]:=by unfold joinD;rw[if_neg (by rw[aw02c];simp)]
  simp[x_law02_awake,h1,h2,h3,h4,h5,e1,e2,aw02d,aw02e,flen]
@[simp] def S_law02_TextSplits:List D→Prop × D:=spec2 (α:=Str) (β:=List Int) (fun s raw=>s.length≤9223372036854775807∧raw.length≤9223372036854775807) (fun _ _=>.bool true)
theorem law02_TextSplits_pre (s:Str) (raw:List Int) (w0:Arg.wf s) (w1:Arg.wf raw):s.length≤9223372036854775807∧raw.length≤9223372036854775807:=by
  have:=str_wf w0
  have:=len_wf w1
  omega
theorem linesV_le (s:Str):(linesV s).length≤s.length+1:=by
  have:s.count 10≤s.length:=List.count_le_length
  rw[linesV_len]
  split <;> omega
theorem ct_law02_TextSplits {P:Program} {f g1 g2 g3 g4 g5 g6 g7 g8 g9 g10 g11 g12:Nat} {G:Gam} (h:CodeOf P f 2 11 [2] (x_law02_TextSplits g1 g2 g3 g4 g5 g6 g7 g8 g9 g10 g11 g12)) (hG:GamOk P G) (h1:G.find g1=some S_law02_awake) (h2:G.find g2=some S_gen_Blob) (h3:G.find g3=some S_text_Split) (h4:G.find g4=some S_ref02_Split) (h5:G.find g5=some S_text_Check) (h6:G.find g6=some S_ref02_Check) (h7:G.find g7=some S_gen_Strings) (h8:G.find g8=some S_ref02_Lines) (h9:G.find g9=some S_text_Bare) (h10:G.find g10=some S_ref02_Bare) (h11:G.find g11=some S_text_Ended) (h12:G.find g12=some S_ref02_Ended):Has P f S_law02_TextSplits:=h.has2 hG fun s raw hp=>by
  obtain⟨p1,p2⟩:=hp
  by_cases c:s.length≤200
  · have c':¬(200<(s.length:Int)):=by omega
    obtain⟨b1,b2⟩:=blobV_good raw 0 10 (n:=12) (by omega)
    have q1:s.length≤4194304:=by omega
    have q2:s.length≤9223372036854775807:=by omega
    have hc:s.count 10≤s.length:=List.count_le_length
    have k1:=check_of (s:=s) (by omega) (by omega)
    have e1:=splitD_ok k1
    have l1:=linesV_le s
    have l2:=linesV_le (blobV raw 0 12 10)
    have k2:=check_of (s:=blobV raw 0 12 10) (by omega) (by omega)
    have e2:=splitD_ok k2
    have b3:(blobV raw 0 12 10).length≤4194304:=by omega
    have l1':(linesV s).length≤9223372036854775807:=by omega
    have l2':(linesV (blobV raw 0 12 10)).length≤9223372036854775807:=by omega
    simp[x_law02_TextSplits,h1,h2,h3,h4,h5,h6,h7,h8,h9,h10,h11,h12,p2,c',q1,q2,k1,e1,e2,b3,l1',l2']
  · have c':200<(s.length:Int):=by omega
    simp[x_law02_TextSplits,h1,c']
@[simp] def S_law02_TextRoundTrip:List D→Prop × D:=spec2 (α:=Str) (β:=List Int) (fun s raw=>s.length≤9223372036854775807∧raw.length≤9223372036854775807) (fun _ _=>.bool true)
theorem law02_TextRoundTrip_pre (s:Str) (raw:List Int) (w0:Arg.wf s) (w1:Arg.wf raw):s.length≤9223372036854775807∧raw.length≤9223372036854775807:=by
  have:=str_wf w0
  have:=len_wf w1
  omega
theorem ct_law02_TextRoundTrip {P:Program} {f g1 g2 g3 g4 g5:Nat} {G:Gam} (h:CodeOf P f 2 15 [2] (x_law02_TextRoundTrip g1 g2 g3 g4 g5)) (hG:GamOk P G) (h1:G.find g1=some S_law02_awake) (h2:G.find g2=some S_text_Split) (h3:G.find g3=some S_text_Join) (h4:G.find g4=some S_gen_Blob) (h5:G.find g5=some S_gen_Strings):Has P f S_law02_TextRoundTrip:=h.has2 hG fun s raw hp=>by
  obtain⟨p1,p2⟩:=hp
  by_cases c:s.length≤200
  · have c':¬(200<(s.length:Int)):=by omega
    obtain⟨b1,b2⟩:=blobV_good raw 0 10 (n:=9) (by omega)
    have q1:s.length≤4194304:=by omega
    have hc:s.count 10≤s.length:=List.count_le_length
    have k1:=check_of (s:=s) (by omega) (by omega)
    have e1:=splitD_ok k1
    have j1:=joinD_lines k1
    have l1:=linesV_le s
    have l2:=linesV_le (blobV raw 0 9 10)
    have k2:=check_of (s:=blobV raw 0 9 10) (by omega) (by omega)
    have e2:=splitD_ok k2
    have j2:=joinD_lines k2
    have b3:(blobV raw 0 9 10).length≤4194304:=by omega
    have f1:flen (linesV s)≤4194304:=by unfold flen;rw[lines_flat];omega
    have f2:flen (linesV (blobV raw 0 9 10))≤4194304:=by unfold flen;rw[lines_flat];omega
    have l1':(linesV s).length≤4194304:=by omega
    have l2':(linesV (blobV raw 0 9 10)).length≤4194304:=by omega
    have l2'':(linesV (blobV raw 0 9 10)).length≤9223372036854775807:=by omega
    simp[x_law02_TextRoundTrip,h1,h2,h3,h4,h5,p2,c',q1,k1,e1,e2,j1,j2,f1,f2,b3,l1',l2',l2'']
  · have c':200<(s.length:Int):=by omega
    simp[x_law02_TextRoundTrip,h1,c']
theorem linesF_app:∀(s cur t:Str),(s=[]∧cur=[]∨s.getLast?=some 10)→linesF cur (s++t)=linesF cur s++linesF [] t
  | [],cur,t,h=>by
    have hc:cur=[]:=by rcases h with h | h <;> simp_all
    simp[linesF,hc]
  | c::s,cur,t,h=>by
    have h':(c::s).getLast?=some 10:=by rcases h with h | h <;> simp_all
    rw[List.getLast?_cons] at h'
    by_cases hc:c=10
    · subst hc
      simp only[List.cons_append,linesF,if_true]
      rw[linesF_app s [] t ?_]
      cases s with
      | nil=>exact .inl ⟨rfl,rfl⟩
      | cons a r=>exact .inr (by rw[List.getLast?_cons] at h' ⊢;simpa using h')
    · simp only[List.cons_append,linesF,hc,if_false]
      refine linesF_app s (cur++[c]) t ?_
      cases s with
      | nil=>simp at h';exact absurd h' hc
      | cons a r=>exact .inr (by rw[List.getLast?_cons] at h' ⊢;simpa using h')
@[simp] def S_law02_TextConcatenates:List D→Prop × D:=spec2 (α:=Str) (β:=Str) (fun s t=>s.length≤9223372036854775807∧t.length≤9223372036854775807) (fun _ _=>.bool true)
theorem law02_TextConcatenates_pre (s:Str) (t:Str) (w0:Arg.wf s) (w1:Arg.wf t):s.length≤9223372036854775807∧t.length≤9223372036854775807:=by
  have:=str_wf w0
  have:=str_wf w1
  omega
theorem concat_body {s t:Str} (hs:s.length≤101) (ht:t.length≤100) (h:s=[]∨endedV s=true) :
    splitD s=.tup [Rep.to (linesV s),.int .i64 0]∧splitD t=.tup [Rep.to (linesV t),.int .i64 0]∧splitD (s++t)=.tup [Rep.to (linesV s++linesV t),.int .i64 0]∧(linesV s).length≤102∧(linesV t).length≤101:=by
  have c1:s.count 10≤s.length:=List.count_le_length
  have c2:t.count 10≤t.length:=List.count_le_length
  have c3:(s++t).count 10≤(s++t).length:=List.count_le_length
  have c4:(s++t).length=s.length+t.length:=by simp
  have e:linesV (s++t)=linesV s++linesV t:=by
    refine linesF_app s [] t ?_
    rcases h with h | h
    · exact .inl ⟨h,rfl⟩
    · exact .inr (by simpa [endedV] using h)
  have l1:=linesV_le s
  have l2:=linesV_le t
  refine⟨splitD_ok (check_of (by omega) (by omega)),splitD_ok (check_of (by omega) (by omega)),?_,by omega,by omega⟩
  rw[← e]
  exact splitD_ok (check_of (by omega) (by omega))
theorem ct_law02_TextConcatenates {P:Program} {f g1 g2 g3 g4:Nat} {G:Gam} (h:CodeOf P f 2 11 [2] (x_law02_TextConcatenates g1 g2 g3 g4)) (hG:GamOk P G) (h1:G.find g1=some S_law02_awake) (h2:G.find g2=some S_text_Ended) (h3:G.find g3=some S_text_Split) (h4:G.find g4=some S_gen_Strings):Has P f S_law02_TextConcatenates:=h.has2 hG fun s t hp=>by
  obtain⟨p1,p2⟩:=hp
  by_cases c:s.length≤100
  · have c':¬(100<(s.length:Int)):=by omega
    by_cases d:t.length≤100
    · have d':¬(100<(t.length:Int)):=by omega
      have q1:s.length≤9223372036854775807:=by omega
      by_cases e:s=[]∨endedV s=true
      · obtain⟨a1,a2,a3,a4,a5⟩:=concat_body (s:=s) (t:=t) (by omega) d e
        have g1:s.length≤4194304:=by omega
        have g2:t.length≤4194304:=by omega
        have g3:s.length+t.length≤4194304:=by omega
        have g4:(linesV s).length+(linesV t).length≤9223372036854775807:=by omega
        rcases e with e | e
        · subst e
          simp[x_law02_TextConcatenates,h1,h3,h4,c',d',g2,a1,a2,a3]
          exact⟨by omega,by unfold room;omega,by unfold room;omega,by omega,rfl⟩
        · simp[x_law02_TextConcatenates,h1,h2,h3,h4,c',d',q1,e,g1,g2,g3,g4,a1,a2,a3]
          exact⟨fun _=>⟨by omega,by unfold room;omega,by unfold room;omega⟩,fun _=>⟨by omega,by unfold room;omega,by unfold room;omega⟩⟩
      · have e1:s≠[]:=fun h=>e (.inl h)
        have e2:endedV s=false:=by
          cases h9:endedV s with
          | false=>rfl
          | true=>exact absurd (.inr h9) e
        obtain⟨a1,a2,a3,a4,a5⟩:=concat_body (s:=s++[10]) (t:=t) (by simp;omega) d (.inr (by simp[endedV]))
        have g1:s.length≤4194303:=by omega
        have g2:t.length≤4194304:=by omega
        have a3':splitD (s++10::t)=.tup [Rep.to (linesV (s++[10])++linesV t),.int .i64 0]:=by
          rw[← a3]
          simp
        have g3:s.length+(t.length+1)≤4194304:=by omega
        have g4:(linesV (s++[10])).length+(linesV t).length≤9223372036854775807:=by omega
        simp[x_law02_TextConcatenates,h1,h2,h3,h4,c',d',q1,e1,e2,g1,g2,g3,g4,a1,a2,a3']
        refine⟨by omega,by omega,by unfold room;omega,by unfold room;omega⟩
    · have d':100<(t.length:Int):=by omega
      simp[x_law02_TextConcatenates,h1,c',d']
  · have c':100<(s.length:Int):=by omega
    simp[x_law02_TextConcatenates,h1,c']
end Go.AE
