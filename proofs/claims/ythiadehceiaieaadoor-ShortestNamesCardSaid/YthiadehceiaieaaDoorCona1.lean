/-
  Contracts of the functions that make and compare inputs.
-/
import Derived.Test.YthiadehceiaieaaDoorAe3
import Derived.Test.YthiadehceiaieaaDoorCode1
import Derived.Lib.Bytealg
import Derived.Lib.IndexLaws
import Derived.Lib.Join
import Derived.Lib.Repeat
import Derived.Lib.Split
import Derived.Lib.SplitLaws
import Derived.Lib.Strings

set_option linter.unusedSimpArgs false
set_option linter.unusedVariables false
set_option linter.unnecessarySimpa false
set_option maxRecDepth 20000
set_option maxHeartbeats 4000000
namespace Go.AE
def modV (a n:Int):Int:=(a % 18446744073709551616) % n
theorem modV_lt (a:Int) {n:Int} (h:1≤n):0≤modV a n∧modV a n<n:=⟨Int.emod_nonneg _ (by omega),Int.emod_lt_of_pos _ (by omega)⟩
@[simp] def S_gen_Mod:List D→Prop × D:=spec2 (α:=Int) (β:=Int) (fun _ n=>1≤n∧n≤9223372036854775807) (fun a n=>Rep.to (modV a n))
theorem ct_gen_Mod {P:Program} {f:Nat} {G:Gam} (h:CodeOf P f 2 3 [2] x_gen_Mod) (hG:GamOk P G):Has P f S_gen_Mod:=h.has2 hG fun a n hp=>by
  obtain⟨h,h2⟩:=hp
  simp[x_gen_Mod]
  have e1:IntKind.u64.wrap n=n:=by simp[IntKind.wrap,IntKind.bits,IntKind.signed];omega
  have e2:IntKind.u64.wrap a=a % 18446744073709551616:=by simp[IntKind.wrap,IntKind.bits,IntKind.signed]
  rw[e1,e2]
  refine⟨by omega,?_⟩
  have e3:(a % 18446744073709551616).tmod n=modV a n:=by
    rw[Int.tmod_eq_emod_of_nonneg (by omega)];rfl
  have:=modV_lt a h
  rw[e3,wrap_in] <;> omega
def lines:List Str:=[[97],[98],[99],[97,98],[98,97],[],[97,97],[98,32,97],[120,43,121],[92]]
def lineV (k:Int):Str:=lines.getD (modV k 10).toNat []
@[simp] def S_gen_Line:List D→Prop × D:=spec1 (α:=Int) (fun _=>True) (fun a=>Rep.to (lineV a))
theorem ct_gen_Line {P:Program} {f g:Nat} {G:Gam} (h:CodeOf P f 1 2 [1] (x_gen_Line g)) (hG:GamOk P G) (hg:G.find g=some S_gen_Mod):Has P f S_gen_Line:=h.has1 hG fun k _=>by
  simp[x_gen_Line,hg]
  obtain⟨h1,h2⟩:=modV_lt k (n:=10) (by omega)
  refine⟨⟨h1,h2⟩,?_⟩
  unfold lineV
  generalize modV k 10=r at *
  obtain⟨n,rfl⟩:=Int.eq_ofNat_of_zero_le h1
  have hn:n<10:=by omega
  rw[show ([D.str [97],D.str [98],D.str [99],D.str [97,98],D.str [98,97],D.str [],D.str [97,97],D.str [98,32,97],D.str [120,43,121],D.str [92]]:List D)=lines.map Rep.to from rfl]
  have e:((lines.map Rep.to)[(n:Int).toNat]?.getD default:D)=D.str (lines.getD n []):=by
    have hl:n<lines.length:=hn
    simp[hl,List.getD]
  rw[e]
  simp
def xorV (a b:Int):Int:=IntKind.u64.wrap ((a % 2 ^ IntKind.u64.bits).toNat ^^^ (b % 2 ^ IntKind.u64.bits).toNat:Nat)
def hashV (x:Int):Int:=IntKind.u64.wrap (xorV x (x.fdiv (2 ^ min 31 IntKind.u64.bits)) * 13787848793156543929)
def finV (x:Int):Int:=IntKind.i64.wrap ((xorV x (x.fdiv (2 ^ min 29 IntKind.u64.bits))).fdiv (2 ^ min 1 IntKind.u64.bits))
theorem lockT:(fun _:Int=>True)=(fun x:Int=>x=x):=funext fun _=>propext ⟨fun _=>rfl,fun _=>trivial⟩
def lock (v:Int):Int:=(cast (congrArg Subtype lockT) (⟨v,trivial⟩:{_x:Int // True}):{x:Int // x=x}).1
theorem lock_gen {p q:Int→Prop} (h:p=q) (v:Int) (hv:p v):(cast (congrArg Subtype h) (⟨v,hv⟩:Subtype p):Subtype q).1=v:=by subst h;rfl
theorem lock_eq (v:Int):lock v=v:=lock_gen lockT v trivial
def atU (raw:List Int) (k:Int):Int :=
  let x0:=IntKind.u64.wrap (IntKind.u64.wrap (IntKind.i64.wrap (k+1)) * 11400714819323198485)
  finV (hashV (if raw=[] then x0 else xorV x0 (IntKind.u64.wrap (raw.getD (k.toNat % raw.length) 0))))
def atV (raw:List Int) (k:Int):Int:=lock (atU raw k)
theorem atV_eq (raw:List Int) (k:Int):atV raw k=atU raw k:=lock_eq _
theorem atV_range (raw:List Int) (k:Int):0≤atV raw k∧atV raw k≤9223372036854775807:=by
  rw[atV_eq]
  unfold atU
  simp only
  generalize (hashV _)=y
  unfold finV
  have h1:0≤xorV y (y.fdiv (2 ^ min 29 IntKind.u64.bits))∧xorV y (y.fdiv (2 ^ min 29 IntKind.u64.bits))<18446744073709551616:=by
    unfold xorV
    generalize (_ ^^^ _:Nat)=z
    simp[IntKind.wrap,IntKind.bits,IntKind.signed]
    omega
  generalize xorV _ _=z at h1
  have h2:z.fdiv (2 ^ min 1 IntKind.u64.bits)=z / 2:=by
    rw[Int.fdiv_eq_ediv_of_nonneg _ (by simp[IntKind.bits])];rfl
  rw[h2,wrap_in] <;> omega
@[simp] def S_gen_At:List D→Prop × D:=spec2 (α:=List Int) (β:=Int) (fun raw k=>0≤k∧k<9223372036854775807∧raw.length≤9223372036854775807) (fun raw k=>Rep.to (atV raw k))
theorem ct_gen_At {P:Program} {f:Nat} {G:Gam} (h:CodeOf P f 2 5 [2] x_gen_At) (hG:GamOk P G):Has P f S_gen_At:=h.has2 hG fun raw k hp=>by
  obtain⟨h1,h2,h3⟩:=hp
  obtain⟨n,rfl⟩:=Int.eq_ofNat_of_zero_le h1
  simp[x_gen_At]
  refine⟨fun h4=>?_,fun h4=>?_⟩
  · have e:(n:Int).tmod raw.length=((n % raw.length:Nat):Int):=by rw[Int.tmod_eq_emod_of_nonneg (by omega)];simp
    have h5:n % raw.length<raw.length:=Nat.mod_lt _ h4
    have h6:raw≠[]:=by intro h;simp[h] at h4
    have ha:atV raw n=finV (hashV (xorV (IntKind.u64.wrap (IntKind.u64.wrap (IntKind.i64.wrap (n+1)) * 11400714819323198485)) (IntKind.u64.wrap raw[n % raw.length]))):=by
      simp[atV_eq,atU,h6,List.getD,h5]
    rw[e,ha]
    generalize n % raw.length=q at h5
    simp[h5,h6,getD_map]
    rfl
  · rw[atV_eq]
    unfold atU
    simp only[h4,if_true]
    rfl
@[simp] def S_gen_Changes:List D→Prop × D:=spec2 (α:=List ChangeT) (β:=List ChangeT) (fun a _=>a.length≤9223372036854775807) (fun a b=>Rep.to (decide (a=b)))
theorem ct_gen_Changes {P:Program} {f:Nat} {G:Gam} (h:CodeOf P f 2 7 [2] x_gen_Changes) (hG:GamOk P G):Has P f S_gen_Changes:=h.has2 hG fun a b h=>by
  simp[x_gen_Changes]
  refine⟨fun h1 h2=>h1 (by rw[h2]),fun h1=>?_⟩
  have h1:a.length=b.length:=by omega
  refine vc_ghost (σ:=Nat) [true,true,false,true] 0 (fun i=>i≤a.length∧∀k (h:k<a.length) (h2:k<b.length),k<i→a[k]=b[k]) (fun i=>a.length-i) (fun i=>[.d (Rep.to a),.d (Rep.to b),.any,.d (.int .i64 i),.any,.any,.any]) (fun _=>[]) 0 (Nat.le_refl _) (by simp) (by simp) ?_
  rintro i ⟨hm,hi⟩
  simp
  refine⟨fun h2=>?_,fun h2=>?_⟩
  · have h3:i<b.length:=by omega
    have key:a[i]=b[i]↔a[i].old=b[i].old∧a[i].oldLen=b[i].oldLen∧a[i].new=b[i].new∧a[i].newLen=b[i].newLen:=by
      constructor
      · intro h;rw[h];simp
      · intro h
        generalize a[i]=x at *
        generalize b[i]=y at *
        cases x;cases y;simp_all
    simp[getD_map,h2,h3,add1 h2 h,pairsOk,eSeq,cellsEq,cellEq]
    refine⟨fun h4 h5=>?_,fun q1 q2 q3 q4=>⟨i+1,by omega,by simp,by omega,fun k k1 k2 k3=>?_⟩⟩
    · have:=key.1 (by simp only[h5])
      omega
    · rcases Nat.lt_or_ge k i with k4 | k4
      · exact hi k k1 k2 k4
      · have:k=i:=by omega
        subst this
        exact key.2 ⟨q1,q2,q3,q4⟩
  · exact List.ext_getElem h1 fun k k1 k2=>hi k k1 k2 (by omega)
def splitF (cur:Str):Str→List Str
  | []=>[cur]
  | c::s=>if c=10 then (cur++[c])::splitF [] s else splitF (cur++[c]) s
def linesF (cur:Str):Str→List Str
  | []=>if cur=[] then [] else [cur]
  | c::s=>if c=10 then (cur++[c])::linesF [] s else linesF (cur++[c]) s
def linesV (s:Str):List Str:=linesF [] s
theorem splitF_lines:∀(s cur:Str),∃l r,splitF cur s=l++[r]∧linesF cur s=if r=[] then l else l++[r]
  | [],cur=>⟨[],cur,rfl,by simp[linesF]⟩
  | c::s,cur=>by
    by_cases h:c=10
    · obtain⟨l,r,h1,h2⟩:=splitF_lines s []
      refine⟨(cur++[c])::l,r,by simp[splitF,h,h1],?_⟩
      simp only[linesF,h,if_true,h2]
      split <;> simp
    · obtain⟨l,r,h1,h2⟩:=splitF_lines s (cur++[c])
      exact⟨l,r,by simp[splitF,h,h1],by simp[linesF,h,h2]⟩
theorem occ10 (s:Str) (j:Nat):Lib.occAt s [10] j=true↔s[j]?=some 10:=by
  unfold Lib.occAt
  rw[← List.head?_drop]
  cases h:s.drop j with
  | nil=>simp
  | cons a t=>simp[List.isPrefixOf];exact eq_comm
theorem splitF_none:∀(s cur:Str),(∀j:Nat,s[j]?≠some 10)→splitF cur s=[cur++s]
  | [],cur,_=>by simp[splitF]
  | c::s,cur,h=>by
    have h0:c≠10:=by simpa using h 0
    have ih:=splitF_none s (cur++[c]) fun j=>by simpa using h (j+1)
    simp[splitF,h0,ih]
theorem splitF_some:∀(s cur:Str) (i:Nat),s[i]?=some 10→(∀j:Nat,j<i→s[j]?≠some 10)→splitF cur s=(cur++s.take (i+1))::splitF [] (s.drop (i+1))
  | [],cur,i,h,_=>by simp at h
  | c::s,cur,0,h,_=>by
    have:c=10:=by simpa using h
    simp[splitF,this]
  | c::s,cur,i+1,h,h2=>by
    have h0:c≠10:=by simpa using h2 0 (by omega)
    have ih:=splitF_some s (cur++[c]) i (by simpa using h) fun j hj=>by simpa using h2 (j+1) (by omega)
    simp[splitF,h0,ih]
theorem first10 (s:Str):(∀j:Nat,s[j]?≠some 10)∨∃i,s[i]?=some 10∧∀j:Nat,j<i→s[j]?≠some 10:=by
  induction s with
  | nil=>exact .inl fun j=>by simp
  | cons c s ih =>
    by_cases h:c=10
    · exact .inr ⟨0,by simp[h],fun j hj=>absurd hj (by omega)⟩
    · rcases ih with h1 | ⟨i,h1,h2⟩
      · refine .inl fun j=>?_
        cases j with
        | zero=>simpa using h
        | succ j=>simpa using h1 j
      · refine .inr ⟨i+1,by simpa using h1,fun j hj=>?_⟩
        cases j with
        | zero=>simpa using h
        | succ j=>simpa using h2 j (by omega)
theorem splitK_lines:∀(k:Nat) (s:Str),Lib.count s [10]=k→Lib.splitK [10] 1 k s=splitF [] s:=by
  intro k
  induction k with
  | zero =>
    intro s hk
    rcases first10 s with h | ⟨i,h1,h2⟩
    · rw[splitF_none s [] h];rfl
    · have hi:Lib.index s [10]=i:=Lib.index_first (by have:=List.getElem?_eq_some_iff.1 h1;obtain⟨h3,_⟩:=this;omega) ((occ10 s i).2 h1) fun j hj=>by
        have:=h2 j hj
        cases h3:Lib.occAt s [10] j with
        | false=>rfl
        | true=>exact absurd ((occ10 s j).1 h3) this
      have:=Lib.count_hit (by simp) hi
      omega
  | succ k ih =>
    intro s hk
    rcases first10 s with h | ⟨i,h1,h2⟩
    · have hi:Lib.index s [10]=-1:=Lib.index_none fun j hj=>by
        cases h3:Lib.occAt s [10] j with
        | false=>rfl
        | true=>exact absurd ((occ10 s j).1 h3) (h j)
      have:=Lib.count_miss hi
      omega
    · have hi:Lib.index s [10]=i:=Lib.index_first (by have:=List.getElem?_eq_some_iff.1 h1;obtain⟨h3,_⟩:=this;omega) ((occ10 s i).2 h1) fun j hj=>by
        have:=h2 j hj
        cases h3:Lib.occAt s [10] j with
        | false=>rfl
        | true=>exact absurd ((occ10 s j).1 h3) this
      have hc:=Lib.count_hit (by simp) hi
      have hn:¬((i:Int) == -1)=true:=by simp
      simp only[Lib.splitK,hi,hn,if_false,Int.toNat_natCast,List.length_singleton]
      simp only[List.length_singleton] at hc
      rw[ih _ (by omega),splitF_some s [] i h1 h2]
      simp
theorem linesF_count:∀(s cur:Str),(linesF cur s).length=s.count 10+if cur++s=[]∨(cur++s).getLast?=some 10∧s≠[] then 0 else 1
  | [],cur=>by
    by_cases h:cur=[] <;> simp[linesF,h]
  | c::s,cur=>by
    by_cases h:c=10
    · subst h
      have ih:=linesF_count s []
      simp only[linesF,if_true,List.length_cons,ih,List.nil_append,List.count_cons_self]
      by_cases hs:s=[]
      · subst hs;simp
      · simp only[hs,false_or,ne_eq,not_false_eq_true,and_true]
        have e:(cur++10::s).getLast?=s.getLast?:=by
          rw[List.getLast?_append]
          obtain⟨a,t,rfl⟩:=List.exists_cons_of_ne_nil hs
          simp[List.getLast?_cons]
        rw[e]
        simp only[List.append_eq_nil_iff,List.cons_ne_nil,and_false,reduceCtorEq,not_false_eq_true,and_true,false_or]
        omega
    · have ih:=linesF_count s (cur++[c])
      simp only[linesF,h,if_false,ih,List.append_assoc,List.singleton_append,List.count_cons_of_ne h]
      by_cases hs:s=[]
      · subst hs
        simp[h]
      · simp[hs]
theorem linesF_flat:∀(s cur:Str),(linesF cur s).flatten=cur++s
  | [],cur=>by by_cases h:cur=[] <;> simp[linesF,h]
  | c::s,cur=>by
    by_cases h:c=10
    · simp[linesF,h,linesF_flat s []]
    · simp[linesF,h,linesF_flat s (cur++[c])]
/-! what the library's functions answer -/
@[simp] def S_strings_Count:List D→Prop × D:=spec2 (α:=Str) (β:=Str) (fun _ n=>n.length=1) (fun s n=>.int .i64 (s.count (n.getD 0 0)))
@[simp] def S_strings_HasSuffix:List D→Prop × D:=spec2 (α:=Str) (β:=Str) (fun s _=>s.length≤9223372036854775807) (fun s p=>.bool (Lib.hasSuffix s p))
@[simp] def S_strings_genSplit:List D→Prop × D
  | [.str s,.str sep,.int .i64 sv,.int .i64 n]=>(sep.length=1∧0≤sv∧sv≤1∧n=-1∧s.length<4294967281,Rep.to (α:=List Str) (Lib.splitK sep sv.toNat (Lib.count s sep) s))
  | _=>(False,.nilp)
@[simp] def S_strings_SplitAfter:List D→Prop × D:=spec2 (α:=Str) (β:=Str) (fun s sep=>sep.length=1∧s.length<4294967281) (fun s sep=>Rep.to (Lib.splitK sep 1 (Lib.count s sep) s))
theorem ct_strings_SplitAfter {P:Program} {f g:Nat} {G:Gam} (h:CodeOf P f 2 3 [2] (x_strings_SplitAfter g)) (hG:GamOk P G) (hg:G.find g=some S_strings_genSplit):Has P f S_strings_SplitAfter:=h.has2 hG fun s sep hp=>by
  obtain⟨h1,h2⟩:=hp
  simp[x_strings_SplitAfter,hg,h1,h2]
def endedV (s:Str):Bool:=decide (s.getLast?=some 10)
theorem hasSuffix_ended (s:Str):Lib.hasSuffix s [10]=endedV s:=by
  unfold Lib.hasSuffix endedV
  by_cases h:s.getLast?=some 10
  · obtain⟨t,rfl⟩:=List.getLast?_eq_some_iff.1 h
    simp[List.isSuffixOf_iff_suffix]
  · simp only[h,decide_false]
    cases h2:[10].isSuffixOf s with
    | false=>rfl
    | true =>
      obtain⟨t,rfl⟩:=List.isSuffixOf_iff_suffix.1 h2
      simp at h
@[simp] def S_text_Ended:List D→Prop × D:=spec1 (α:=Str) (fun s=>s.length≤9223372036854775807) (fun s=>.bool (endedV s))
theorem ct_text_Ended {P:Program} {f g:Nat} {G:Gam} (h:CodeOf P f 1 2 [1] (x_text_Ended g)) (hG:GamOk P G) (hg:G.find g=some S_strings_HasSuffix):Has P f S_text_Ended:=h.has1 hG fun s hp=>by
  simp[x_text_Ended,hg,hp,hasSuffix_ended]
theorem linesV_len (s:Str):(linesV s).length=s.count 10+if s≠[]∧endedV s=false then 1 else 0:=by
  rw[linesV,linesF_count]
  simp only[List.nil_append]
  by_cases h:s=[]
  · subst h;simp[endedV]
  · by_cases h2:s.getLast?=some 10 <;> simp[h,h2,endedV]
def checkT (s:Str):Int:=if s.length≤1048576∧(linesV s).length≤4096 then 0 else 1
def lenOk (s:Str):Prop:=s.length≤9223372036854775807
@[simp] theorem lenOk_4 {s:Str} (h:s.length≤4194304):lenOk s:=by unfold lenOk;omega
@[simp] theorem lenOk_1 {s:Str} (h:s.length≤1048576):lenOk s:=by unfold lenOk;omega
@[simp] theorem lenOk_9 {s:Str} (h:s.length≤9223372036854775807):lenOk s:=h
@[simp] def S_text_Check:List D→Prop × D:=spec1 (α:=Str) lenOk (fun s=>.int .i64 (checkT s))
theorem ct_text_Check {P:Program} {f g1 g2:Nat} {G:Gam} (h:CodeOf P f 1 5 [1] (x_text_Check g1 g2)) (hG:GamOk P G) (h1:G.find g1=some S_strings_Count) (h2:G.find g2=some S_text_Ended):Has P f S_text_Check:=h.has1 hG fun s hp=>by
  have hc:s.count 10≤s.length:=List.count_le_length
  have hl:=linesV_len s
  have hp':s.length≤9223372036854775807:=hp
  have key:∀m:Nat,(linesV s).length=m→checkT s=if (1048576:Int)<s.length then 1 else if (4096:Int)<m then 1 else 0:=by
    intro m hm
    unfold checkT
    rw[hm]
    by_cases a:(1048576:Int)<s.length
    · rw[if_neg (by omega),if_pos a]
    · rw[if_neg a]
      by_cases b:(4096:Int)<m
      · rw[if_neg (by omega),if_pos b]
      · rw[if_pos (by omega),if_neg b]
  by_cases c0:s≠[]∧endedV s=false
  · obtain⟨c1,c2⟩:=c0
    have hlt:s.count 10<s.length:=by
      rcases Nat.lt_or_ge (s.count 10) s.length with h | h
      · exact h
      · have h2:=List.count_eq_length.1 (Nat.le_antisymm hc h)
        have h3:=h2 _ (List.getLast_mem c1)
        rw[endedV,List.getLast?_eq_some_getLast c1,← h3] at c2
        simp at c2
    have w1:IntKind.i64.wrap ((s.count 10:Int)+1)=(s.count 10:Int)+1:=wrap_in (by omega) (by omega)
    rw[if_pos ⟨c1,c2⟩] at hl
    have k:=key _ hl
    rw[k]
    by_cases a:(1048576:Int)<s.length <;> by_cases b:(4096:Int)<((s.count 10+1:Nat):Int) <;>
      (have b':=b;push_cast at b';simp[x_text_Check,h1,h2,hp',c1,c2,w1,a,b,b'])
  · rw[if_neg c0] at hl
    have k:=key _ hl
    rw[k]
    by_cases c1:s=[]
    · subst c1
      simp[x_text_Check,h1,h2]
    · have c2:endedV s=true:=by
        cases h3:endedV s with
        | true=>rfl
        | false=>exact absurd ⟨c1,h3⟩ c0
      simp only[Nat.add_zero]
      by_cases a:(1048576:Int)<s.length <;> by_cases b:(4096:Int)<((s.count 10:Nat):Int) <;>
        simp[x_text_Check,h1,h2,hp',c1,c2,a,b]
def splitD (s:Str):D:=if checkT s=0 then .tup [Rep.to (linesV s),.int .i64 0] else .tup [.nilsl,.int .i64 1]
@[simp] def S_text_Split:List D→Prop × D:=spec1 (α:=Str) (fun s=>s.length≤4194304) (fun s=>splitD s)
theorem ct_text_Split {P:Program} {f g1 g2:Nat} {G:Gam} (h:CodeOf P f 1 7 [1,2] (x_text_Split g1 g2)) (hG:GamOk P G) (h1:G.find g1=some S_text_Check) (h2:G.find g2=some S_strings_SplitAfter):Has P f S_text_Split:=h.has1 hG fun s hp=>by
  have hp':s.length<4294967281:=by omega
  by_cases c:checkT s=0
  · obtain⟨l,r,e1,e2⟩:=splitF_lines s []
    have e3:=splitK_lines _ s rfl
    rw[e1] at e3
    have e4:linesV s=if r=[] then l else l++[r]:=e2
    have hll:l.length≤4096:=by
      have:checkT s=0:=c
      unfold checkT at this
      split at this
      · rename_i h3
        rw[e4] at h3
        split at h3
        · exact h3.2
        · have:=h3.2;simp at this;omega
      · simp at this
    have w1:IntKind.i64.wrap (l.length:Int)=(l.length:Int):=wrap_in (by omega) (by omega)
    have e5:splitD s=.tup [Rep.to (linesV s),.int .i64 0]:=if_pos c
    rw[e5,e4]
    by_cases hr:r=[]
    · simp[x_text_Split,h1,h2,hp,hp',c,e3,w1,hr]
      omega
    · simp[x_text_Split,h1,h2,hp,hp',c,e3,w1,hr]
      omega
  · have c1:checkT s=1:=by
      unfold checkT at *
      split at c <;> simp_all
    have e5:splitD s=.tup [.nilsl,.int .i64 1]:=if_neg c
    rw[e5]
    simp[x_text_Split,h1,hp,c1]
@[simp] def S_ref02_Lines:List D→Prop × D:=spec1 (α:=Str) (fun s=>s.length≤4194304) (fun s=>Rep.to (linesV s))
theorem ct_ref02_Lines {P:Program} {f:Nat} {G:Gam} (h:CodeOf P f 1 7 [1] x_ref02_Lines) (hG:GamOk P G):Has P f S_ref02_Lines:=h.has1 hG fun s hp=>by
  simp[x_ref02_Lines]
  refine vc_lp (σ:=Nat × Nat × List Str) (fun x=>x.1≤x.2.1∧x.2.1≤s.length∧x.2.2.length≤x.2.1∧(x.2.1<s.length∨x.1=x.2.1)∧x.2.2++linesF ((s.take x.2.1).drop x.1) (s.drop x.2.1)=linesV s) (fun x=>s.length-x.2.1)
    (fun x=>[.d (Rep.to s),.any,.gr 0 1 (x.2.2.map Rep.to),.d (.int .i64 x.1),.d (.int .i64 x.2.1),.any,.any]) (fun x=>[.tip x.2.2.length]) (0,0,[]) (by simp) (by simp) ⟨by simp,by simp,by simp,by simp,by simp[linesV]⟩ ?_
  rintro⟨fr,i,o⟩ ⟨b1,b2,b3,b5,b4⟩
  simp only at b1 b2 b3 b4 b5
  by_cases hi:i<s.length
  · have w1:IntKind.i64.wrap ((i:Int)+1)=((i+1:Nat):Int):=by rw[wrap_in (by omega) (by omega)];omega
    have ed:s.drop i=s[i]::s.drop (i+1):=List.drop_eq_getElem_cons hi
    have et:(s.take (i+1)).drop fr=(s.take i).drop fr++[s[i]]:=by
      rw[List.take_succ_eq_append_getElem hi,List.drop_append_of_le_length (by simp;omega)]
    have es:List.take (i+1-fr) (s.drop fr)=(s.take (i+1)).drop fr:=by rw[List.drop_take]
    rw[ed] at b4
    simp only[linesF,← et] at b4
    have i2:(i:Int)+1≤s.length:=by omega
    have i3:(fr:Int)≤(i:Int)+1:=by omega
    have e:((s[i].toNat:Int)=10)=(s[i]=10):=by
      apply propext
      constructor
      · intro h
        exact UInt8.toNat_inj.1 (by simp;omega)
      · intro h;rw[h];rfl
    have en:(s.take (i+1)).drop (i+1)=[]:=List.drop_eq_nil_of_le (by simp;omega)
    by_cases c:s[i]=10
    · rw[if_pos c] at b4
      simp[hi,w1,e,c,i2,i3]
      rw[es]
      exact⟨by unfold room;omega,Nxt.mk (i+1,i+1,o++[(s.take (i+1)).drop fr]) (by simp;omega) (by simp) (by simp) ⟨by simp,by simp;omega,by simp;omega,by simp,by simp only[en];rw[← b4];simp⟩⟩
    · rw[if_neg c] at b4
      by_cases l:i+1=s.length
      · have l':s.length=i+1:=by omega
        have ez:s.drop (i+1)=[]:=List.drop_eq_nil_of_le (by omega)
        have ec:(s.take (i+1)).drop fr≠[]:=by
          intro hh
          have:=congrArg List.length hh
          simp at this
          omega
        rw[ez] at b4
        simp only[linesF,ec,if_false] at b4
        have i4:(i:Int)<(i:Int)+1:=by omega
        simp[l',w1,e,c,i3,i4]
        rw[es]
        refine⟨by unfold room;omega,Nxt.mk (i+1,i+1,o++[(s.take (i+1)).drop fr]) (by simp) (by simp) (by simp) ⟨by simp,by simp,by simp;omega,by simp,?_⟩⟩
        simp only[en,ez,linesF,if_true]
        rw[← b4]
        simp
      · have l':¬((i:Int)+1=s.length):=by omega
        simp[hi,w1,e,c,l']
        exact Nxt.mk (fr,i+1,o) (by simp;omega) (by simp) (by simp) ⟨by simp only;omega,by simp only;omega,by simp only;omega,by simp only;omega,by simpa using b4⟩
  · have h1:i=s.length:=by omega
    subst h1
    have h2:fr=s.length:=by omega
    subst h2
    simp[linesF] at b4
    simp[b4]
@[simp] def S_ref02_Check:List D→Prop × D:=spec1 (α:=Str) lenOk (fun s=>.int .i64 (checkT s))
theorem ct_ref02_Check {P:Program} {f g:Nat} {G:Gam} (h:CodeOf P f 1 3 [1] (x_ref02_Check g)) (hG:GamOk P G) (hg:G.find g=some S_ref02_Lines):Has P f S_ref02_Check:=h.has1 hG fun s hp=>by
  by_cases a:s.length≤1048576
  · have a':¬((1048576:Int)<s.length):=by omega
    have hp:s.length≤4194304:=by omega
    by_cases b:(linesV s).length≤4096
    · have b':¬((4096:Int)<(linesV s).length):=by omega
      simp[x_ref02_Check,hg,hp,a,a',b,b',checkT]
    · have b':((4096:Int)<(linesV s).length):=by omega
      simp[x_ref02_Check,hg,hp,a,a',b,b',checkT]
  · have a':((1048576:Int)<s.length):=by omega
    simp[x_ref02_Check,a,a',checkT]
@[simp] def S_ref02_Split:List D→Prop × D:=spec1 (α:=Str) (fun s=>s.length≤4194304) (fun s=>splitD s)
theorem ct_ref02_Split {P:Program} {f g1 g2:Nat} {G:Gam} (h:CodeOf P f 1 4 [1,2] (x_ref02_Split g1 g2)) (hG:GamOk P G) (h1:G.find g1=some S_ref02_Check) (h2:G.find g2=some S_ref02_Lines):Has P f S_ref02_Split:=h.has1 hG fun s hp=>by
  by_cases c:checkT s=0
  · simp[x_ref02_Split,h1,h2,hp,c,splitD]
  · have c1:checkT s=1:=by
      unfold checkT at *
      split at c <;> simp_all
    simp[x_ref02_Split,h1,hp,c1,splitD]
def blobS (raw:List Int) (fr kinds:Int) (k:Nat):Str:=(List.range k).flatMap fun (i:Nat)=>lineV (modV (atV raw (fr+1+i)) kinds)++[10]
theorem blobS_succ (raw:List Int) (fr kinds:Int) (k:Nat):blobS raw fr kinds (k+1)=blobS raw fr kinds k++lineV (modV (atV raw (fr+1+k)) kinds)++[10]:=by
  simp[blobS,List.range_succ]
def blobV (raw:List Int) (fr n kinds:Int):Str :=
  let s:=blobS raw fr kinds (modV (atV raw fr) (n+1)).toNat
  if (atV raw (fr+90)).tmod 4=0∧1<s.length∧s.getD (s.length-2) 0≠10 then s.dropLast else s
theorem lines_good:∀x,x∈lines→x.length≤3∧x.count 10=0:=by decide
theorem lineV_good (k:Int):(lineV k).length≤3∧(lineV k).count 10=0:=by
  obtain⟨h1,h2⟩:=modV_lt k (n:=10) (by omega)
  unfold lineV
  have hl:(modV k 10).toNat<lines.length:=by
    have:lines.length=10:=rfl
    omega
  have e:lines.getD (modV k 10).toNat []=lines[(modV k 10).toNat]:=by simp[List.getD,hl]
  rw[e]
  exact lines_good _ (List.getElem_mem hl)
theorem blobS_good (raw:List Int) (fr kinds:Int):∀k,(blobS raw fr kinds k).length≤4 * k∧(blobS raw fr kinds k).count 10=k
  | 0=>by simp[blobS]
  | k+1=>by
    obtain⟨h1,h2⟩:=blobS_good raw fr kinds k
    obtain⟨h3,h4⟩:=lineV_good (modV (atV raw (fr+1+k)) kinds)
    rw[blobS_succ]
    simp only[List.length_append,List.count_append,List.length_singleton,h2,h4]
    simp
    omega
theorem blobV_good (raw:List Int) (fr kinds:Int) {n:Int} (hn:0≤n):(blobV raw fr n kinds).length≤4 * n.toNat∧(blobV raw fr n kinds).count 10≤n.toNat:=by
  obtain⟨m1,m2⟩:=modV_lt (atV raw fr) (n:=n+1) (by omega)
  obtain⟨h1,h2⟩:=blobS_good raw fr kinds (modV (atV raw fr) (n+1)).toNat
  have e:(modV (atV raw fr) (n+1)).toNat≤n.toNat:=by omega
  unfold blobV
  generalize blobS raw fr kinds (modV (atV raw fr) (n+1)).toNat=s at *
  simp only
  split
  · have hs:=(List.dropLast_sublist s).count_le 10
    simp only[List.length_dropLast]
    omega
  · omega
theorem check_of {s:Str} (h1:s.length≤1048576) (h2:s.count 10≤4095):checkT s=0:=by
  have h3:(linesV s).length≤4096:=by
    rw[linesV_len]
    split <;> omega
  simp[checkT,h1,h3]
theorem lines_flat (s:Str):(linesV s).flatten=s:=by
  rw[linesV,linesF_flat];rfl
@[simp] def S_gen_Blob:List D→Prop × D:=spec4 (α:=List Int) (β:=Int) (γ:=Int) (δ:=Int) (fun raw fr n kinds=>raw.length≤9223372036854775807∧0≤fr∧fr≤100000∧0≤n∧n≤1000∧1≤kinds∧kinds≤1000) (fun raw fr n kinds=>Rep.to (blobV raw fr n kinds))
theorem ct_gen_Blob {P:Program} {f g1 g2 g3:Nat} {G:Gam} (h:CodeOf P f 4 9 [4] (x_gen_Blob g1 g2 g3)) (hG:GamOk P G) (h1:G.find g1=some S_gen_At) (h2:G.find g2=some S_gen_Mod) (h3:G.find g3=some S_gen_Line):Has P f S_gen_Blob:=h.has4 hG fun raw fr n kinds hp=>by
  obtain⟨p1,p2,p3,p4,p5,p6,p7⟩:=hp
  obtain⟨m1,m2⟩:=modV_lt (atV raw fr) (n:=n+1) (by omega)
  have q1:(fr:Int)<9223372036854775807:=by omega
  have q2:raw.length≤9223372036854775807:=by omega
  have q3:1≤n+1∧n+1≤9223372036854775807:=by omega
  have q4:1≤kinds∧kinds≤9223372036854775807:=by omega
  have w0:IntKind.i64.wrap (n+1)=n+1:=wrap_in (by omega) (by omega)
  have w2:IntKind.i64.wrap (fr+1)=fr+1:=wrap_in (by omega) (by omega)
  have w3:IntKind.i64.wrap (fr+90)=fr+90:=wrap_in (by omega) (by omega)
  obtain⟨m,hm⟩:=Int.eq_ofNat_of_zero_le m1
  have hv:blobV raw fr n kinds=if (atV raw (fr+90)).tmod 4=0∧1<(blobS raw fr kinds m).length∧(blobS raw fr kinds m).getD ((blobS raw fr kinds m).length-2) 0≠10 then (blobS raw fr kinds m).dropLast else blobS raw fr kinds m:=by
    unfold blobV
    rw[hm]
    rfl
  have hr:=atV_range raw (fr+90)
  obtain⟨hb,_⟩:=blobS_good raw fr kinds m
  have r1:0≤fr+90∧fr+90<9223372036854775807:=by omega
  rw[hv]
  clear hv
  simp[x_gen_Blob,h1,h2,p2,q1,q2,q3,w0]
  rw[hm]
  refine vc_lp (σ:=Nat) (fun i=>i≤m) (fun i=>m-i) (fun i=>[.d (Rep.to raw),.d (.int .i64 fr),.d (.int .i64 m),.d (.int .i64 kinds),.any,.d (.str (blobS raw fr kinds i)),.d (.int .i64 i),.any,.any]) (fun _=>[]) 0 (by simp[blobS]) (by simp) (by simp) ?_
  intro i hi
  by_cases h6:i<m
  · have w1:IntKind.i64.wrap (fr+1+i)=fr+1+i:=wrap_in (by omega) (by omega)
    have w4:IntKind.i64.wrap ((i:Int)+1)=(i:Int)+1:=wrap_in (by omega) (by omega)
    have r2:0≤fr+1+(i:Int)∧fr+1+(i:Int)<9223372036854775807:=by omega
    obtain⟨hl,_⟩:=lineV_good (modV (atV raw (fr+1+i)) kinds)
    obtain⟨hbi,_⟩:=blobS_good raw fr kinds i
    simp[h1,h2,h3,w1,w2,w4,h6,q2,q4,r2]
    refine⟨by omega,by omega,?_⟩
    exact Nxt.mk (i+1) (by omega) (by simp[blobS_succ]) (by simp) (by omega)
  · have h7:i=m:=by omega
    subst h7
    generalize blobS raw fr kinds i=s at *
    simp[h1,q2,w3,r1]
    generalize atV raw (fr+90)=z at *
    refine⟨fun c1=>⟨fun c2=>?_,fun c2 c3 c4=>by omega⟩,fun a b=>absurd b a⟩
    have c2':1<s.length:=by omega
    have wA:IntKind.i64.wrap ((s.length:Int)-2)=((s.length-2:Nat):Int):=by rw[wrap_in (by omega) (by omega)];omega
    have wB:IntKind.i64.wrap ((s.length:Int)-1)=((s.length-1:Nat):Int):=by rw[wrap_in (by omega) (by omega)];omega
    rw[wA,wB]
    simp only[Int.toNat_natCast]
    refine⟨by omega,fun c3=>⟨by omega,?_⟩,fun c3 _ _ c4=>?_⟩
    · have c4:¬s[s.length-2]?.getD 0=10:=fun e=>c3 (by rw[e];rfl)
      rw[if_pos ⟨c1,c2',c4⟩,List.dropLast_eq_take]
    · exact absurd (UInt8.toNat_inj.1 (by simp;omega)) c4
def flen (l:List Str):Nat:=l.flatten.length
theorem flen_take (l:List Str) (k:Nat):flen l=flen (l.take k)+flen (l.drop k):=by
  unfold flen
  rw[← List.length_append,← List.flatten_append,List.take_append_drop]
theorem flen_succ {l:List Str} {i:Nat} (hi:i<l.length):flen (l.take (i+1))=flen (l.take i)+l[i].length:=by
  unfold flen
  rw[List.take_succ_eq_append_getElem hi,List.flatten_append,List.length_append]
  congr 1
  rw[List.flatten_cons,List.flatten_nil,List.append_nil]
def nearOne (raw:List Int) (fr:Int) (i:Nat) (x:Str):Str :=
  if (atV raw (fr+i)).tmod 6=0 then [] else if (atV raw (fr+i)).tmod 6=1 then lineV (atV raw (fr+40+i))++[10]++x else x
def nearS (l:List Str) (raw:List Int) (fr:Int) (k:Nat):Str:=(List.range k).flatMap fun i=>nearOne raw fr i (l.getD i [])
def nearV (blob:Str) (raw:List Int) (fr:Int):Str:=nearS (linesV blob) raw fr (linesV blob).length
theorem nearS_succ (l:List Str) (raw:List Int) (fr:Int) (k:Nat):nearS l raw fr (k+1)=nearS l raw fr k++nearOne raw fr k (l.getD k []):=by
  simp[nearS,List.range_succ]
theorem nearOne_good (raw:List Int) (fr:Int) (i:Nat) (x:Str):(nearOne raw fr i x).length≤4+x.length∧(nearOne raw fr i x).count 10≤1+x.count 10:=by
  obtain⟨h1,h2⟩:=lineV_good (atV raw (fr+40+i))
  unfold nearOne
  split
  · simp
  · split
    · simp only[List.length_append,List.count_append,h2,List.length_singleton]
      simp
      omega
    · omega
theorem nearS_good (l:List Str) (raw:List Int) (fr:Int):∀k,k≤l.length→(nearS l raw fr k).length≤4 * k+flen (l.take k)∧(nearS l raw fr k).count 10≤k+(l.take k).flatten.count 10
  | 0,_=>by simp[nearS]
  | k+1,h=>by
    have hk:k<l.length:=by omega
    obtain⟨h1,h2⟩:=nearS_good l raw fr k (by omega)
    obtain⟨h3,h4⟩:=nearOne_good raw fr k (l.getD k [])
    have e:l.getD k []=l[k]:=by simp[List.getD,hk]
    rw[e] at h3 h4
    have ef:=flen_succ hk
    have ec:(l.take (k+1)).flatten.count 10=(l.take k).flatten.count 10+l[k].count 10:=by
      rw[List.take_succ_eq_append_getElem hk,List.flatten_append,List.count_append]
      simp
    rw[nearS_succ,List.length_append,List.count_append,ef,ec,e]
    omega
theorem nearV_good (blob:Str) (raw:List Int) (fr:Int):(nearV blob raw fr).length≤4 * (linesV blob).length+blob.length∧(nearV blob raw fr).count 10≤(linesV blob).length+blob.count 10:=by
  have h:=nearS_good (linesV blob) raw fr _ (Nat.le_refl _)
  rw[List.take_length,lines_flat] at h
  have:flen (linesV blob)=blob.length:=by unfold flen;rw[lines_flat]
  rw[this] at h
  exact h
@[simp] def S_gen_Near:List D→Prop × D:=spec3 (α:=Str) (β:=List Int) (γ:=Int) (fun blob raw fr=>blob.length≤4096∧raw.length≤9223372036854775807∧0≤fr∧fr≤1000000) (fun blob raw fr=>Rep.to (nearV blob raw fr))
theorem ct_gen_Near {P:Program} {f g1 g2 g3:Nat} {G:Gam} (h:CodeOf P f 3 11 [3] (x_gen_Near g1 g2 g3)) (hG:GamOk P G) (h1:G.find g1=some S_ref02_Lines) (h2:G.find g2=some S_gen_At) (h3:G.find g3=some S_gen_Line):Has P f S_gen_Near:=h.has3 hG fun blob raw fr hp=>by
  obtain⟨p1,p2,p3,p4⟩:=hp
  have p1':blob.length≤4194304:=by omega
  have hll:=linesV_len blob
  have hcl:blob.count 10≤blob.length:=List.count_le_length
  have hfl:flen (linesV blob)=blob.length:=by unfold flen;rw[lines_flat]
  have hn:(linesV blob).length≤4097:=by rw[hll];split <;> omega
  simp[x_gen_Near,h1,p1']
  have hv:nearV blob raw fr=nearS (linesV blob) raw fr (linesV blob).length:=rfl
  rw[hv]
  clear hv hll
  generalize linesV blob=l at *
  have q2:raw.length≤9223372036854775807:=by omega
  refine vc_lp (σ:=Nat) (fun i=>i≤l.length) (fun i=>l.length-i) (fun i=>[.any,.d (Rep.to raw),.d (.int .i64 fr),.any,.d (Rep.to l),.d (.str (nearS l raw fr i)),.d (.int .i64 i),.any,.any,.any,.any]) (fun _=>[]) 0 (by simp[nearS]) (by simp) (by simp) ?_
  intro i hi
  by_cases hk:i<l.length
  · have w1:IntKind.i64.wrap ((i:Int)+1)=(i:Int)+1:=wrap_in (by omega) (by omega)
    have w2:IntKind.i64.wrap (fr+i)=fr+i:=wrap_in (by omega) (by omega)
    have w3:IntKind.i64.wrap (fr+40)=fr+40:=wrap_in (by omega) (by omega)
    have w4:IntKind.i64.wrap (fr+40+i)=fr+40+i:=wrap_in (by omega) (by omega)
    have r1:0≤fr+(i:Int)∧fr+(i:Int)<9223372036854775807:=by omega
    have r2:0≤fr+40+(i:Int)∧fr+40+(i:Int)<9223372036854775807:=by omega
    have hs:=nearS_succ l raw fr i
    have e:l.getD i []=l[i]:=by simp[List.getD,hk]
    rw[e] at hs
    unfold nearOne at hs
    obtain⟨g1',g2'⟩:=nearS_good l raw fr i (by omega)
    have ft:=flen_take l i
    have fs:=flen_take l (i+1)
    rw[flen_succ hk] at fs
    obtain⟨b1,b2⟩:=lineV_good (atV raw (fr+40+i))
    generalize hz:atV raw (fr+i)=z at *
    by_cases c0:z.tmod 6=0
    · rw[if_pos c0,List.append_nil] at hs
      simp[hk,h2,q2,w1,w2,r1,hz,c0]
      exact Nxt.mk (i+1) (by omega) (by simp[hs]) (by simp) (by omega)
    · rw[if_neg c0] at hs
      by_cases c1:z.tmod 6=1
      · rw[if_pos c1] at hs
        simp[hk,getD_map,h2,h3,q2,w1,w2,w3,w4,r1,r2,hz,c0,c1]
        refine⟨by omega,by omega,by omega,Nxt.mk (i+1) (by omega) (by simp[hs]) (by simp) (by omega)⟩
      · rw[if_neg c1] at hs
        simp[hk,getD_map,h2,q2,w1,w2,r1,hz,c0,c1]
        exact⟨by omega,Nxt.mk (i+1) (by omega) (by simp[hs]) (by simp) (by omega)⟩
  · have h9:i=l.length:=by omega
    subst h9
    simp
theorem lines_blob (raw:List Int) (fr kinds:Int) {n:Int} (hn:0≤n):(linesV (blobV raw fr n kinds)).length≤n.toNat+1:=by
  obtain⟨h1,h2⟩:=blobV_good raw fr kinds hn
  rw[linesV_len]
  split <;> omega
def placeV (l:List Str) (x:Str):Int:=match l.findIdx? (· == x) with | some i=>(i:Int) | none=>-1
theorem placeV_some {l:List Str} {x:Str} {i:Nat} (h:i<l.length) (h1:l[i]=x) (h2:∀k (h:k<l.length),k<i→l[k]≠x):placeV l x=i:=by
  have:l.findIdx? (· == x)=some i:=by
    rw[List.findIdx?_eq_some_iff_getElem]
    exact⟨h,by simpa using h1,fun j hj=>by simpa using h2 j (by omega) hj⟩
  simp[placeV,this]
theorem placeV_none {l:List Str} {x:Str} (h2:∀k (h:k<l.length),l[k]≠x):placeV l x=-1:=by
  have:l.findIdx? (· == x)=none:=by
    rw[List.findIdx?_eq_none_iff]
    intro y hy
    obtain⟨k,hk,rfl⟩:=List.getElem_of_mem hy
    simpa using h2 k hk
  simp[placeV,this]
@[simp] def S_ref03_place:List D→Prop × D:=spec2 (α:=List Str) (β:=Str) (fun a _=>a.length≤9223372036854775807) (fun a b=>Rep.to (placeV a b))
theorem ct_ref03_place {P:Program} {f:Nat} {G:Gam} (h:CodeOf P f 2 6 [2] x_ref03_place) (hG:GamOk P G):Has P f S_ref03_place:=h.has2 hG fun l x h=>by
  simp[x_ref03_place]
  refine vc_ghost (σ:=Nat) [true,true,false,true] 0 (fun i=>i≤l.length∧∀k (h:k<l.length),k<i→l[k]≠x) (fun i=>l.length-i) (fun i=>[.d (Rep.to l),.d (Rep.to x),.any,.d (.int .i64 i),.any,.any]) (fun i=>[]) 0 (Nat.le_refl _) (by simp) (by simp) ?_
  rintro i ⟨hm,hi⟩
  simp
  refine⟨fun h2=>?_,fun h2=>?_⟩
  · simp[getD_map,h2,add1 h2 h]
    refine⟨fun h3=>(placeV_some h2 h3 hi).symm,fun h3=>⟨i+1,by omega,by simp,by omega,fun k k1 k2=>?_⟩⟩
    rcases Nat.lt_or_ge k i with k4 | k4
    · exact hi k k1 k4
    · have:k=i:=by omega
      subst this
      exact h3
  · exact (placeV_none fun k k1=>hi k k1 (by omega)).symm
def addV (out:List Str) (x:Str):List Str:=if x∈out then out else out++[x]
def namesV (l:List (List Str)):List Str:=l.flatten.foldl addV []
theorem addV_len (out:List Str) (x:Str):(addV out x).length≤out.length+1:=by
  unfold addV;split <;> simp
theorem fold_len (xs:List Str):∀out:List Str,(xs.foldl addV out).length≤out.length+xs.length:=by
  induction xs with
  | nil=>intro out;simp
  | cons x xs ih=>intro out;have:=ih (addV out x);have:=addV_len out x;simp;omega
theorem take_flat_le {α:Type} (l:List (List α)) (i:Nat):(l.take i).flatten.length≤l.flatten.length:=by
  have:l.flatten=(l.take i).flatten++(l.drop i).flatten:=by rw[← List.flatten_append,List.take_append_drop]
  rw[this];simp
theorem mem_flat_le {α:Type} {l:List (List α)} {i:Nat} (h:i<l.length):(l.take i).flatten.length+l[i].length≤l.flatten.length:=by
  have h1:=take_flat_le l (i+1)
  rw[take_snoc h] at h1
  simpa only[List.flatten_append,List.length_append,List.flatten_cons,List.flatten_nil,List.append_nil] using h1
def part (l:List (List Str)) (i j:Nat):List Str:=((l.take i).flatten++(l.getD i []).take j).foldl addV []
theorem part_step {l:List (List Str)} {i j:Nat} (h:i<l.length) (hj:j<l[i].length):part l i (j+1)=addV (part l i j) l[i][j]:=by
  unfold part
  have:l.getD i []=l[i]:=by simp[List.getD,h]
  rw[this,take_snoc hj,← List.append_assoc,List.foldl_append]
  rfl
theorem part_next {l:List (List Str)} {i:Nat} (h:i<l.length):part l i l[i].length=part l (i+1) 0:=by
  unfold part
  have:l.getD i []=l[i]:=by simp[List.getD,h]
  rw[this,take_snoc h]
  simp only[List.flatten_append,List.flatten_cons,List.flatten_nil,List.append_nil,List.take_zero,List.take_length]
theorem part_end (l:List (List Str)):part l l.length 0=namesV l:=by simp[part,namesV]
theorem part_len {l:List (List Str)} {i j:Nat} (h:i<l.length) (hj:j≤l[i].length):(part l i j).length≤l.flatten.length:=by
  have h1:=fold_len ((l.take i).flatten++(l.getD i []).take j) []
  have:l.getD i []=l[i]:=by simp[List.getD,h]
  have h2:=mem_flat_le h
  rw[this] at h1
  simp only[List.length_append,List.length_take,List.length_nil] at h1
  unfold part
  rw[this]
  omega
theorem addV_in {out:List Str} {x:Str} (h:placeV out x ≥ 0):addV out x=out:=by
  unfold addV
  by_cases hx:x∈out
  · simp[hx]
  · exfalso
    rw[placeV_none (fun k hk (he:out[k]=x)=>hx (by rw[← he];exact List.getElem_mem _))] at h
    omega
theorem addV_out {out:List Str} {x:Str} (h:placeV out x<0):addV out x=out++[x]:=by
  unfold addV
  have:x ∉ out:=by
    intro hx
    unfold placeV at h
    cases hf:out.findIdx? (· == x) with
    | some i=>rw[hf] at h;simp only at h;omega
    | none =>
      rw[List.findIdx?_eq_none_iff] at hf
      simpa using hf x hx
  simp[this]
def smallL (l:List (List Str)):Prop:=l.length≤1048576∧l.flatten.length≤1048576
@[simp] def S_ref03_Names:List D→Prop × D:=spec1 (α:=List (List Str)) smallL (fun a=>Rep.to (namesV a))
theorem ct_ref03_Names {P:Program} {f g:Nat} {G:Gam} (h:CodeOf P f 1 8 [1] (x_ref03_Names g)) (hG:GamOk P G) (hg:G.find g=some S_ref03_place):Has P f S_ref03_Names:=h.has1 hG fun l hp=>by
  obtain⟨h,h0⟩:=hp
  simp[x_ref03_Names]
  refine vc_loop _ _ _ _ _ [true,false,true,true] 1 (fun m T s=>∃i:Nat,i+m=l.length∧s=[.tip (part l i 0).length]∧T=[.d (Rep.to l),.any,.gr 0 1 ((part l i 0).map Rep.to),.d (.int .i64 i),.any,.any,.any,.any]) _ (by omega) (by simp[inScope]) ⟨l.length,0,by simp[part]⟩ ?_
  rintro m T s ⟨i,hm,rfl,rfl⟩
  simp
  refine⟨fun h1=>?_,fun h1=>?_⟩
  · refine vc_loop _ _ _ _ _ [true,false,true,true,true] 1 (fun m T s=>∃j:Nat,j+m=l[i].length∧s=[.tip (part l i j).length]∧T=[.d (Rep.to l),.any,.gr 0 1 ((part l i j).map Rep.to),.d (.int .i64 i),.d (.int .i64 j),.any,.any,.any]) _ (by omega) (by simp[inScope]) ⟨l[i].length,0,by simp⟩ ?_
    rintro m2 T s ⟨j,hm2,rfl,rfl⟩
    have h2:=mem_flat_le h1
    simp[getD_map,h1]
    refine⟨fun h3=>?_,fun h3=>?_⟩
    · have h4:=part_len (l:=l) h1 (j:=j) (by omega)
      have e:=add1 h3 (by omega:l[i].length≤_)
      simp[getD_map,h1,h3,e,inScope,hg]
      refine⟨by omega,fun h5=>⟨by unfold room;omega,m2-1,by omega,j+1,by omega,?_⟩,fun h5=>⟨m2-1,by omega,j+1,by omega,?_⟩⟩
      · rw[part_step h1 h3,addV_out h5]
        simp
      · rw[part_step h1 h3,addV_in h5]
        simp
    · have h5:j=l[i].length:=by omega
      subst h5
      simp[getD_map,h1,add1 h1 (by omega:l.length≤_),inScope]
      refine⟨m-1,by omega,i+1,by omega,?_⟩
      rw[part_next h1]
      simp
  · have:i=l.length:=by omega
    subst this
    simp[part_end]
theorem namesV_len (l:List (List Str)):(namesV l).length≤l.flatten.length:=by
  have:=fold_len l.flatten []
  simpa [namesV] using this
def idsV (l:List (List Str)):List (List Int):=l.map fun x=>x.map (placeV (namesV l))
theorem elem_flat_le {α:Type} {l:List (List α)} {i:Nat} (h:i<l.length):l[i].length≤l.flatten.length:=by
  have:=mem_flat_le h;omega
@[simp] def S_ref03_Ids:List D→Prop × D:=spec1 (α:=List (List Str)) smallL (fun a=>Rep.to (idsV a))
theorem ct_ref03_Ids {P:Program} {f g1 g2:Nat} {G:Gam} (h:CodeOf P f 1 9 [1] (x_ref03_Ids g1 g2)) (hG:GamOk P G) (hg1:G.find g1=some S_ref03_Names) (hg2:G.find g2=some S_ref03_place):Has P f S_ref03_Ids:=h.has1 hG fun l hp=>by
  obtain⟨h,h0⟩:=hp
  have hn:=namesV_len l
  have hN:(namesV l).length≤9223372036854775807:=by omega
  simp[x_ref03_Ids,hg1]
  refine⟨⟨h,h0⟩,?_⟩
  refine vc_loop _ _ _ _ _ [true,false,true,true,true] 1 (fun m T s=>∃(i:Nat) (out:List (List Int)),i+m=l.length∧s=[.tip i]∧T=[.d (Rep.to l),.any,.d (Rep.to (namesV l)),.gr 0 1 (out.map Rep.to),.d (.int .i64 i),.any,.any,.any,.any]∧out.length=i∧Eqv out ((l.take i).map fun x=>x.map (placeV (namesV l)))) _ (by omega) (by simp[inScope]) ⟨l.length,0,[],by simp[Eqv]⟩ ?_
  rintro m T s ⟨i,out,hm,rfl,rfl,hol,ho⟩
  simp
  refine⟨fun h1=>?_,fun h1=>?_⟩
  · refine vc_loop _ _ _ _ _ [true,false,true,true,true,true,true] 2 (fun m T s=>∃(j:Nat) (o2:List Int),j+m=l[i].length∧s=[.tip i,.tip j]∧T=[.d (Rep.to l),.any,.d (Rep.to (namesV l)),.gr 0 1 (out.map Rep.to),.d (.int .i64 i),.gr 1 1 (o2.map Rep.to),.d (.int .i64 j),.any,.any]∧o2.length=j∧Eqv o2 ((l[i].take j).map (placeV (namesV l)))) _ (by omega) (by simp[inScope]) ⟨l[i].length,0,[],by simp[Eqv]⟩ ?_
    rintro m2 T s ⟨j,o2,hm2,rfl,rfl,hol2,ho2⟩
    have h2:=elem_flat_le h1
    simp[getD_map,h1]
    refine⟨fun h3=>?_,fun h3=>?_⟩
    · have e:=add1 h3 (by omega:l[i].length≤_)
      simp[getD_map,h1,h3,e,inScope,hN,hol2,hg2]
      refine⟨by unfold room;omega,m2-1,by omega,j+1,by omega,rfl,o2++[placeV (namesV l) l[i][j]],⟨by simp,by simp⟩,by simp[hol2],?_⟩
      unfold Eqv at *
      rw[← List.map_take,take_snoc h3,List.map_append,← ho2];rfl
    · have h5:j=l[i].length:=by omega
      simp[getD_map,h1,add1 h1 (by omega:l.length≤_),inScope,hol]
      refine⟨by unfold room;omega,m-1,by omega,i+1,by omega,rfl,out++[o2],⟨by simp,by simp⟩,by simp[hol],?_⟩
      unfold Eqv at *
      rw[← List.map_take,take_snoc h1,List.map_append,← ho,ho2,h5,List.take_length];rfl
  · have:i=l.length:=by omega
    unfold Eqv at ho
    rw[this,List.take_length] at ho
    rw[ho]
    rfl
def tabV:Nat→List Str→List (D × D)
  | _,[]=>[]
  | k,x::r=>(.str x,.int .i64 k)::tabV (k+1) r
theorem tabV_snoc (x:Str):∀(k:Nat) (l:List Str),tabV k (l++[x])=tabV k l++[(.str x,.int .i64 ((k+l.length:Nat):Int))]:=by
  intro k l
  induction l generalizing k with
  | nil=>simp[tabV]
  | cons y l ih =>
    simp only[List.cons_append,tabV,ih,List.length_cons]
    rw[show k+1+l.length=k+(l.length+1) by omega]
theorem placeV_cons (y:Str) (l:List Str) (x:Str):placeV (y::l) x=if y=x then 0 else if x∈l then placeV l x+1 else -1:=by
  by_cases h:y=x
  · rw[if_pos h];exact placeV_some (i:=0) (by simp) h (fun k _ hk=>by omega)
  · rw[if_neg h]
    by_cases hx:x∈l
    · rw[if_pos hx]
      unfold placeV
      rw[List.findIdx?_cons]
      have:(y == x)=false:=by simpa using h
      simp only[this]
      cases hf:l.findIdx? (· == x) with
      | none =>
        rw[List.findIdx?_eq_none_iff] at hf
        exact absurd (hf x hx) (by simp)
      | some i=>simp
    · rw[if_neg hx]
      refine placeV_none (fun k hk=>?_)
      cases k with
      | zero=>simpa using h
      | succ k =>
        simp only[List.length_cons,List.getElem_cons_succ] at hk ⊢
        intro he
        exact hx (by rw[← he];exact List.getElem_mem _)
theorem mlook_tab (x:Str):∀(k:Nat) (l:List Str),mlook (.str x) (tabV k l)=if x∈l then some (.int .i64 (k+placeV l x)) else none:=by
  intro k l
  induction l generalizing k with
  | nil=>rfl
  | cons y l ih =>
    simp only[tabV,mlook,keyEq,decide_eq_true_eq,ih,placeV_cons,List.mem_cons]
    by_cases h:x=y
    · subst h;simp
    · have h2:¬y=x:=fun e=>h e.symm
      simp only[h,h2,if_false,false_or]
      by_cases hx:x∈l
      · simp only[hx,if_true,Option.some.injEq,D.int.injEq,true_and]
        omega
      · simp[hx]
theorem mset_tab {x:Str} (v:D):∀(k:Nat) (l:List Str),x ∉ l→mset (.str x) v (tabV k l)=tabV k l++[(.str x,v)]:=by
  intro k l
  induction l generalizing k with
  | nil=>intro _;rfl
  | cons y l ih =>
    intro h
    simp only[List.mem_cons,not_or] at h
    simp[tabV,mset,keyEq,h.1,ih (k+1) h.2]
theorem keys_tab (x:Str) (k:Nat) (l:List Str):keysOk 1 (.str x) (tabV k l):=by
  refine⟨rfl,?_⟩
  induction l generalizing k with
  | nil=>intro e he;simp[tabV] at he
  | cons y l ih =>
    intro e he
    simp only[tabV,List.mem_cons] at he
    rcases he with rfl | he
    · exact⟨rfl,trivial⟩
    · exact ih (k+1) e he
def tabS (v:Nat) (nil:Bool) (names:List Str):Store :=
  if nil=true then [.cells v 2 [.agg [.mp 1,.d .nilsl]],.map [],.res] else [.cells v 2 [.agg [.mp 1,.gr 2 1 (names.map Rep.to)]],.map (tabV 0 names),.tip names.length]
theorem id_old {P:Program} {f:Nat} (hc:CodeOf P f 2 6 [2] x_intern_table_id) {v:Nat} {names:List Str} {x:Str} (h:x∈names):RCalls P f [.ref 0 v 0 0,.d (.str x)] (tabS v false names) (.d (.int .i64 (placeV names x))) (tabS v false names):=by
  refine hc.rcalls (GamOk.nil _) rfl ?_
  simp[x_intern_table_id,tabS,startA,mlook_tab,h,keys_tab]
  exact⟨by simp[resPre],[0,1,2],rfl,⟨by decide,by simp,rfl⟩,fun k hk=>.inl (by match k,hk with | 0,_=>rfl | 1,_=>rfl | 2,_=>rfl),rfl,rfl,rfl⟩
theorem id_new {P:Program} {f:Nat} (hc:CodeOf P f 2 6 [2] x_intern_table_id) {v:Nat} {names:List Str} {x:Str} (h:x ∉ names) (hn:names.length≤1048576):RCalls P f [.ref 0 v 0 0,.d (.str x)] (tabS v false names) (.d (.int .i64 names.length)) (tabS v false (names++[x])):=by
  refine hc.rcalls (GamOk.nil _) rfl ?_
  simp[x_intern_table_id,tabS,startA,mlook_tab,h,keys_tab,mset_tab]
  refine⟨by unfold room;omega,by simp[resPre],[0,1,2],rfl,⟨by decide,by simp,rfl⟩,fun k hk=>.inl (by match k,hk with | 0,_=>rfl | 1,_=>rfl | 2,_=>rfl),?_,rfl,rfl⟩
  rw[tabV_snoc]
  simp
theorem id_nil {P:Program} {f:Nat} (hc:CodeOf P f 2 6 [2] x_intern_table_id) {v:Nat} {x:Str}:RCalls P f [.ref 0 v 0 0,.d (.str x)] (tabS v true []) (.d (.int .i64 0)) (tabS v false [x]):=by
  refine hc.rcalls (GamOk.nil _) rfl ?_
  simp[x_intern_table_id,tabS,startA,mlook,mset]
  exact⟨⟨rfl,fun e he=>by simp at he⟩,by unfold room;omega,by simp[resPre],[0,1,3],rfl,⟨by decide,by simp,rfl⟩,fun k hk=>(by match k,hk with | 0,_=>exact .inl rfl | 1,_=>exact .inl rfl | 2,_=>exact .inr rfl),rfl,rfl,rfl⟩
def idRen (args:List A) (s:Store) (nw:Nat):List Nat :=
  match args with
  | [.ref t _ 0 0,.d (.str _)]=>match s.getD t .dead with
    | .cells _ 2 [.agg [.mp m,.gr l 1 _]]=>[t,m,l]
    | .cells _ 2 [.agg [.mp m,.d .nilsl]]=>[t,m,nw]
    | _=>[t]
  | _=>[]
def idSpec (args:List A) (s0:Store):Prop × Store × A :=
  match args,s0 with
  | [.ref 0 v 0 0,.d (.str x)],[.cells v' 2 [.agg [.mp 1,.d .nilsl]],.map [],.res]=>(v=v',tabS v false [x],.d (.int .i64 0))
  | [.ref 0 v 0 0,.d (.str x)],[.cells v' 2 [.agg [.mp 1,.gr 2 1 ns]],.map es,.tip n]=>match ofAll (Rep.of (α:=Str)) ns with
    | some names=>(v=v'∧ns=names.map Rep.to∧es=tabV 0 names∧n=names.length∧names.length≤1048576,tabS v false (addV names x),.d (.int .i64 (placeV (addV names x) x)))
    | none=>(False,[],.any)
  | _,_=>(False,[],.any)
theorem placeV_snoc {names:List Str} {x:Str} (h:x ∉ names):placeV (names++[x]) x=names.length:=by
  refine placeV_some (i:=names.length) (by simp) (by simp) (fun k hk hlt he=>h ?_)
  rw[List.getElem_append_left hlt] at he
  rw[← he]
  exact List.getElem_mem _
abbrev R_intern_table_id:RSpec:=⟨idRen,idSpec⟩
theorem ct_intern_table_id {P:Program} {f:Nat} (hc:CodeOf P f 2 6 [2] x_intern_table_id):RSpec.Ok P f R_intern_table_id:=by
  refine⟨hc.call,?_,?_⟩
  · intro args s s2 nw h
    simp only[idRen] at h ⊢
    split at h
    · rename_i t u x
      have ht:s2.getD t .dead=s.getD t .dead:=by
        apply h
        split <;> simp
      simp only[ht]
    · rfl
  · intro args s0 hp
    simp only[idSpec] at hp ⊢
    split at hp
    · rename_i v x v'
      simp only at hp
      subst hp
      exact id_nil hc
    · rename_i v x v' ns es n
      split at hp
      · rename_i names hn
        obtain⟨rfl,rfl,rfl,rfl,h5⟩:=hp
        simp only[ofAll_to]
        by_cases hx:x∈names
        · have e:addV names x=names:=by simp[addV,hx]
          rw[e]
          exact id_old hc hx
        · have e:addV names x=names++[x]:=by simp[addV,hx]
          rw[e,placeV_snoc hx]
          exact id_new hc hx h5
      · exact hp.elim
    · exact hp.elim
theorem eR_id {G:Gam} {f:Nat} (hf:G.findR f=some R_intern_table_id) {s:Store} {nw t m l v:Nat} {names:List Str} {x:Str} (h1:s.getD t .dead=.cells v 2 [.agg [.mp m,.gr l 1 (names.map Rep.to)]]) (h2:s.getD m .dead=.map (tabV 0 names))
    (h3:s.getD l .dead=.tip names.length) (h4:t≠m∧t≠l∧m≠l) (h5:t<s.length∧m<s.length∧l<s.length) (h6:names.length≤1048576) :
    eRCall G s nw f [.ref t v 0 0,.d (.str x)]=⟨True,[(t,.cells v 2 [.agg [.mp m,.gr l 1 ((addV names x).map Rep.to)]]),(m,.map (tabV 0 (addV names x))),(l,.tip (addV names x).length)],.d (.int .i64 (placeV (addV names x) x))⟩:=by
  obtain⟨n1,n2,n3⟩:=h4
  obtain⟨l1,l2,l3⟩:=h5
  have i0:idxIn [t,m,l] t=0:=by simp[idxIn,List.idxOf?,List.findIdx?_cons]
  have i1:idxIn [t,m,l] m=1:=by simp[idxIn,List.idxOf?,List.findIdx?_cons,n1]
  have i2:idxIn [t,m,l] l=2:=by simp[idxIn,List.idxOf?,List.findIdx?_cons,n2,n3]
  unfold eRCall
  rw[hf]
  have hr:idRen [.ref t v 0 0,.d (.str x)] s nw=[t,m,l]:=by simp only[idRen,h1]
  simp only[hr,List.map_cons,List.map_nil,h1,h2,h3]
  simp[A.ren,A.rens,Ob.ren,i0,i1,i2,h1,h2,h3,idSpec,ofAll_to,h6,n1,n2,n3,l1,l2,l3,tabS]
theorem fold_pre (xs:List Str):∀out:List Str,∃r,xs.foldl addV out=out++r:=by
  induction xs with
  | nil=>intro out;exact⟨[],by simp⟩
  | cons x xs ih =>
    intro out
    obtain⟨r,h⟩:=ih (addV out x)
    unfold addV at h ⊢
    split at h
    · rename_i hx;exact⟨r,by simp[hx,h]⟩
    · rename_i hx;exact⟨x::r,by simp[hx,h]⟩
theorem placeV_app {a b:List Str} {x:Str} (h:x∈a):placeV (a++b) x=placeV a x:=by
  unfold placeV
  rw[List.findIdx?_append]
  have:(a.findIdx? (· == x)).isSome=true:=by
    rw[List.findIdx?_isSome];simpa using h
  cases hf:a.findIdx? (· == x) with
  | none=>rw[hf] at this;simp at this
  | some i=>simp
theorem mem_addV (out:List Str) (x:Str):x∈addV out x:=by unfold addV;split <;> simp_all
theorem place_part {l:List (List Str)} {i j:Nat} (h:i<l.length) (hj:j<l[i].length):placeV (addV (part l i j) l[i][j]) l[i][j]=placeV (namesV l) l[i][j]:=by
  have h1:l.flatten=((l.take i).flatten++l[i].take (j+1))++(l[i].drop (j+1)++(l.drop (i+1)).flatten):=by
    conv=>lhs;rw[← List.take_append_drop i l,List.drop_eq_getElem_cons h]
    simp only[List.flatten_append,List.flatten_cons,List.append_assoc]
    conv=>lhs;rw[← List.take_append_drop (j+1) l[i]]
    simp only[List.append_assoc]
  have h2:namesV l=(l[i].drop (j+1)++(l.drop (i+1)).flatten).foldl addV (part l i (j+1)):=by
    unfold namesV part
    rw[h1,List.foldl_append]
    have:l.getD i []=l[i]:=by simp[List.getD,h]
    rw[this]
  obtain⟨r,h3⟩:=fold_pre (l[i].drop (j+1)++(l.drop (i+1)).flatten) (part l i (j+1))
  rw[h2,h3,part_step h hj,placeV_app (mem_addV _ _)]
@[simp] def S_intern_number:List D→Prop × D:=spec1 (α:=List (List Str)) smallL (fun l=>.tup [Rep.to (idsV l),Rep.to (namesV l)])
theorem ct_intern_number {P:Program} {f g:Nat} {G:Gam} (h:CodeOf P f 1 16 [1,2] (x_intern_number g)) (hG:GamOk P G) (hg:G.findR g=some R_intern_table_id):Has P f S_intern_number:=h.has1 hG fun l hp=>by
  obtain⟨h,h0⟩:=hp
  simp[x_intern_number]
  refine⟨by unfold room;omega,?_⟩
  obtain⟨Tf,hT⟩:∃Tf:Nat→List A,∀i,Tf i=[.any,.any,.any,.ref 0 0 0 0,.own 2 0 0 l.length,.any,.any,.any,.d (Rep.to l),.d (.int .i64 l.length),.d (.int .i64 i),.any,.any,.any,.any,.any]:=⟨_,fun _=>rfl⟩
  obtain⟨out,ho⟩:∃out:Nat→List A,∀i,out i=((idsV l).take i).map (fun x=>.d (Rep.to x))++List.replicate (l.length-i) (.d .nilsl):=⟨_,fun _=>rfl⟩
  obtain⟨sf,hs⟩:∃sf:Nat→Store,∀i,sf i=[.cells 0 2 [.agg [.mp 1,.gr 3 1 ((part l i 0).map Rep.to)]],.map (tabV 0 (part l i 0)),.cells 0 1 (out i),.tip (part l i 0).length]:=⟨_,fun _=>rfl⟩
  have hil:(idsV l).length=l.length:=by simp[idsV]
  have hol:∀i,i≤l.length→(out i).length=l.length:=by intro i hi;rw[ho];simp[hil];omega
  have hof:∀i,∀x,x∈out i→x.fits 1=true:=by
    intro i x hx
    rw[ho] at hx
    rcases List.mem_append.1 hx with hx | hx
    · obtain⟨y,_,rfl⟩:=List.mem_map.1 hx
      rfl
    · rw[(List.mem_replicate.1 hx).2]
      rfl
  have hou5:∀i,∀x,x∈out i→∀n,x.under n=true:=by
    intro i x hx n
    rw[ho] at hx
    rcases List.mem_append.1 hx with hx | hx
    · obtain⟨y,_,rfl⟩:=List.mem_map.1 hx
      rfl
    · rw[(List.mem_replicate.1 hx).2]
      rfl
  have hoi:∀i,i<l.length→(out i).getD i .any=.d .nilsl:=by
    intro i hi
    rw[ho]
    have e:(((idsV l).take i).map (fun x=>A.d (Rep.to x))).length=i:=by simp[hil];omega
    rw[List.getD,List.getElem?_append_right (by omega),e]
    have:0<l.length-i:=by omega
    simp[this]
  have hos:∀i (hi:i<l.length),(out i).set i (.d (.sl 1 ((l[i].map (placeV (namesV l))).map Rep.to)))=out (i+1):=by
    intro i hi
    have e:(((idsV l).take i).map (fun x=>A.d (Rep.to x))).length=i:=by simp[hil];omega
    rw[ho,ho,List.set_append,if_neg (by omega),e,Nat.sub_self,show l.length-i=(l.length-(i+1))+1 by omega,List.replicate_succ,List.set_cons_zero,take_snoc (by omega),List.map_append]
    simp[idsV]
  refine vc_ghostR (σ:=Nat) (fun i=>i≤l.length) (fun i=>l.length-i) Tf sf 0 ⟨?_,by omega⟩ ?_
  · rw[hT,hs,ho]
    refine Re.norm (s':=[.cells 0 2 [.agg [.mp 1,.gr 3 1 []]],.map [],.cells 0 1 (List.replicate l.length (.d .nilsl))]) [false,false,false,true,true,false,false,false,true,true,true,false,false,false,false,false] [1,0,2] [.tip 0] (by simp) ⟨by decide,by simp,?_⟩ (by decide) (by simp) ?_ ?_ ?_ ?_
    · simp[pickS]
    · simp 
    · simp 
    · simp[pickS]
      exact .cellsL (by simp;exact Wk.fresh _ _ _ 0 rfl)
    · simp[part,tabV]
  · intro i hi
    rw[hT,hs]
    simp
    refine⟨fun h1=>?_,fun h1=>?_⟩
    · simp[getD_map,h1]
      obtain⟨T2,hT2⟩:∃Tf:Nat→List A,∀j,Tf j=[.any,.any,.any,.ref 0 0 0 0,.own 2 0 0 l.length,.d (.int .i64 i),.any,.any,.d (Rep.to l),.d (.int .i64 l.length),.d (.int .i64 i),.any,.d (Rep.to l[i]),.d (.int .i64 l[i].length),.d (.int .i64 j),.any]:=⟨_,fun _=>rfl⟩
      obtain⟨row,hrow⟩:∃row:Nat→List Int,∀j,row j=(l[i].take j).map (placeV (namesV l)):=⟨_,fun _=>rfl⟩
      obtain⟨s2,hs2⟩:∃sf:Nat→Store,∀j,sf j=[.cells 0 2 [.agg [.mp 1,.gr 3 1 ((part l i j).map Rep.to)]],.map (tabV 0 (part l i j)),.cells 0 1 ((out i).set i (.gr 4 1 ((row j).map Rep.to))),.tip (part l i j).length,.tip j]:=⟨_,fun _=>rfl⟩
      refine vc_ghostR (σ:=Nat) (fun j=>j≤l[i].length) (fun j=>l[i].length-j) T2 s2 0 ⟨?_,by omega⟩ ?_
      · rw[hT2,hs2]
        refine Re.wn (s':=[.cells 0 2 [.agg [.mp 1,.gr 3 1 ((part l i 0).map Rep.to)]],.map (tabV 0 (part l i 0)),.cells 0 1 ((out i).set i (.gr 4 1 [])),.tip (part l i 0).length]) [false,false,false,true,true,true,false,false,true,true,true,false,true,true,true] [.tip 0] (by simp) (by omega) (by simp) ?_ (by simp[hrow])
        simp
        refine .cells (.set (hof i) rfl ?_)
        rw[hoi i h1]
        simp
        exact .fresh _ _ _ 0 rfl
      · intro j hj
        rw[hT2,hs2]
        simp
        refine⟨fun h2=>?_,fun h2=>?_⟩
        · have hpl:=part_len (l:=l) h1 (j:=j) (by omega)
          simp[getD_map,h2,hol i hi,h1]
          rw[eR_id hg (t:=0) (m:=1) (l:=3) (names:=part l i j) (by simp) (by simp) (by simp) (by simp) (by simp) (by omega)]
          simp[hol i hi,h1,pairsOk,disj,add1 h2 (by have:=elem_flat_le h1;omega)]
          have hrl:(row j).length=j:=by rw[hrow];simp;omega
          refine⟨⟨hrl.symm,by rw[hrl];have:=elem_flat_le h1;unfold room;omega⟩,j+1,by omega,?_,by omega⟩
          rw[hT2,hs2,part_step h1 h2]
          refine Re.wf _ [false,false,false,true,true,true,false,false,true,true,true,false,true,true,true] 5 (by omega) (by simp) (WkS.refl _ _ _) ?_ ?_ ?_
          · right
            simp
            intro x hx
            rcases List.mem_or_eq_of_mem_set hx with hx | hx
            · exact hou5 i x hx _
            · rw[hx];rfl
          · simp
          · have hr:(row (j+1)).map Rep.to=(row j).map Rep.to++[D.int .i64 (placeV (namesV l) l[i][j])]:=by rw[hrow,hrow,take_snoc h2];simp only[List.map_append,List.map_cons,List.map_nil,to_int]
            rw[place_part h1 h2,hr]
            simp only[List.take_succ_cons,List.take_zero]
        · have h3:j=l[i].length:=by omega
          refine⟨i+1,by omega,?_,by omega⟩
          subst h3
          rw[hT,hs,← hos i h1,part_next h1,hrow,List.take_length]
          refine Re.wf [.cells 0 2 [.agg [.mp 1,.gr 3 1 ((part l (i+1) 0).map Rep.to)]],.map (tabV 0 (part l (i+1) 0)),.cells 0 1 ((out i).set i (.d (.sl 1 ((l[i].map (placeV (namesV l))).map Rep.to)))),.tip (part l (i+1) 0).length,.tip l[i].length] [false,false,false,true,true,false,false,false,true,true,true,false,false,false,false] 4 (by omega) (by simp) ?_ ?_ ?_ ?_
          · simp only[WkS_cons,WkO_refl,WkS_nil,and_true,true_and]
            exact .cells (.setset (hof i) rfl (by simp only[acells_gr,acells_dsl,WkL_cons,Wk_gr,WkL_nil,and_true]))
          · right
            simp
            intro x hx
            rcases List.mem_or_eq_of_mem_set hx with hx | hx
            · exact hou5 i x hx _
            · rw[hx];rfl
          · simp[add1 h1 (by omega)]
          · simp
    · have h2:i=l.length:=by omega
      subst h2
      have hoe:out l.length=(idsV l).map (fun x=>.d (Rep.to x)):=by rw[ho,List.take_of_length_le (by omega)];simp
      refine⟨?_,?_,?_⟩
      · simp only[bor,List.getD_cons_succ,List.getD_cons_zero,hoe,List.drop_zero]
        refine⟨trivial,?_⟩
        rw[List.all_eq_true]
        intro x hx
        obtain⟨y,_,rfl⟩:=List.mem_map.1 (List.mem_of_mem_take hx)
        rfl
      · simp only[bor,List.getD_cons_succ,List.getD_cons_zero,hoe,List.drop_zero]
        rw[List.take_of_length_le (by simp[hil]),List.map_map]
        simp only[LeD_sl,true_and]
        rfl
      · rw[part_end]
@[simp] def S_intern_Ids:List D→Prop × D:=spec1 (α:=List (List Str)) smallL (fun l=>Rep.to (idsV l))
theorem ct_intern_Ids {P:Program} {f g:Nat} {G:Gam} (h:CodeOf P f 1 3 [1] (x_intern_Ids g)) (hG:GamOk P G) (hg:G.find g=some S_intern_number):Has P f S_intern_Ids:=h.has1 hG fun l hp=>by
  simp[x_intern_Ids,hg]
  exact hp
abbrev R_slices_Clip_Span_Span:RSpec:=⟨fun _ _ nw=>[nw],fun args s0=>match args,s0 with
  | [.d (.sl e xs)],[.res]=>(e=2,[.tip xs.length],.gr 0 2 xs)
  | _,_=>(False,[],.any)⟩
theorem ct_slices_Clip_Span_Span {P:Program} {f:Nat} (hc:CodeOf P f 1 2 [1] x_slices_Clip_Span_Span):RSpec.Ok P f R_slices_Clip_Span_Span:=by
  refine⟨hc.call,fun _ _ _ _ _=>rfl,?_⟩
  intro args s0 hp
  simp only at hp ⊢
  split at hp
  · rename_i e xs
    simp only at hp
    subst hp
    refine hc.rcalls (GamOk.nil _) rfl ?_
    simp[x_slices_Clip_Span_Span,startA]
    exact⟨by simp[resPre],[1],rfl,⟨by decide,by simp,rfl⟩,fun k hk=>by match k,hk with | 0,_=>exact .inr rfl,rfl,rfl,rfl⟩
  · exact hp.elim
theorem eR_clip {G:Gam} {f:Nat} (hf:G.findR f=some R_slices_Clip_Span_Span) {s:Store} {nw:Nat} {xs:List D} (h1:s.getD nw .dead=.res) (h2:nw<s.length) :
    eRCall G s nw f [.d (.sl 2 xs)]=⟨True,[(nw,.tip xs.length)],.gr nw 2 xs⟩:=by
  unfold eRCall
  rw[hf]
  simp only[List.map_cons,List.map_nil,h1]
  simp[h2]
def dist:List Int→List Int→Nat
  | [],b=>b.length
  | x::a,[]=>a.length+1
  | x::a,y::b=>if x=y then dist a b else 1+min (dist a (y::b)) (dist (x::a) b)
termination_by a b=>a.length+b.length
theorem dist_nil (b:List Int):dist [] b=b.length:=by rw[dist]
theorem dist_nil' (a:List Int):dist a []=a.length:=by cases a <;> rw[dist] <;> rfl
theorem dist_eq (x:Int) (a b:List Int):dist (x::a) (x::b)=dist a b:=by rw[dist];simp
theorem dist_ne {x y:Int} (h:x≠y) (a b:List Int):dist (x::a) (y::b)=1+min (dist a (y::b)) (dist (x::a) b):=by rw[dist];simp[h]
theorem dist_comm:∀a b:List Int,dist a b=dist b a
  | [],b=>by rw[dist_nil,dist_nil']
  | x::a,[]=>by rw[dist_nil,dist_nil']
  | x::a,y::b=>by
    by_cases h:x=y
    · subst h
      rw[dist_eq,dist_eq,dist_comm a b]
    · rw[dist_ne h,dist_ne (Ne.symm h),dist_comm a (y::b),dist_comm (x::a) b,Nat.min_comm]
termination_by a b=>a.length+b.length
theorem dist_steps:∀(n:Nat) (a b:List Int),a.length+b.length≤n→(∀x,dist (x::a) b≤dist a b+1)∧(∀y,dist a b≤dist a (y::b)+1):=by
  intro n
  induction n with
  | zero =>
    intro a b h
    have ha:a=[]:=List.eq_nil_of_length_eq_zero (by omega)
    have hb:b=[]:=List.eq_nil_of_length_eq_zero (by omega)
    subst ha hb
    exact⟨fun x=>by rw[dist_nil',dist_nil];simp,fun y=>by rw[dist_nil];simp⟩
  | succ n ih =>
    intro a b h
    have L:∀y,dist a b≤dist a (y::b)+1:=by
      intro y
      cases a with
      | nil=>rw[dist_nil,dist_nil];simp;omega
      | cons x a =>
        simp only[List.length_cons] at h
        have u:=(ih a b (by omega)).1 x
        have l:=(ih a b (by omega)).2 y
        by_cases hxy:x=y
        · subst hxy
          rw[dist_eq]
          exact u
        · rw[dist_ne hxy]
          omega
    refine⟨fun x=>?_,L⟩
    cases b with
    | nil=>rw[dist_nil',dist_nil'];simp
    | cons y b =>
      simp only[List.length_cons] at h
      by_cases hxy:x=y
      · subst hxy
        rw[dist_eq]
        exact (ih a b (by omega)).2 x
      · rw[dist_ne hxy]
        omega
theorem dist_del (x:Int) (a b:List Int):dist (x::a) b≤dist a b+1:=(dist_steps _ a b (Nat.le_refl _)).1 x
theorem dist_ins (y:Int) (a b:List Int):dist a (y::b)≤dist a b+1:=by rw[dist_comm a,dist_comm a];exact dist_del y b a
inductive Ed:List Int→List Int→Nat→Prop where
  | nil:Ed [] [] 0
  | del (x:Int) {a b:List Int} {n:Nat} (h:Ed a b n):Ed (x::a) b (n+1)
  | ins (y:Int) {a b:List Int} {n:Nat} (h:Ed a b n):Ed a (y::b) (n+1)
  | keep (x:Int) {a b:List Int} {n:Nat} (h:Ed a b n):Ed (x::a) (x::b) n
theorem Ed.le {a b:List Int} {n:Nat} (h:Ed a b n):dist a b≤n:=by
  induction h with
  | nil=>rw[dist_nil];simp
  | del x h ih=>exact Nat.le_trans (dist_del _ _ _) (by omega)
  | ins y h ih=>exact Nat.le_trans (dist_ins _ _ _) (by omega)
  | keep x h ih=>rw[dist_eq];exact ih
theorem ed_dist:∀a b:List Int,Ed a b (dist a b)
  | [],[]=>by rw[dist_nil];exact .nil
  | [],y::b=>by
    have:=ed_dist [] b
    rw[dist_nil] at this ⊢
    exact .ins y this
  | x::a,[]=>by
    have:=ed_dist a []
    rw[dist_nil'] at this ⊢
    exact .del x this
  | x::a,y::b=>by
    by_cases h:x=y
    · subst h
      rw[dist_eq]
      exact .keep x (ed_dist a b)
    · rw[dist_ne h]
      rcases Nat.le_total (dist a (y::b)) (dist (x::a) b) with h1 | h1
      · rw[Nat.min_eq_left h1,Nat.add_comm]
        exact .del x (ed_dist a (y::b))
      · rw[Nat.min_eq_right h1,Nat.add_comm]
        exact .ins y (ed_dist (x::a) b)
termination_by a b=>a.length+b.length
theorem Ed.trans {a b:List Int} {n:Nat} (h:Ed a b n):∀{c:List Int} {m:Nat},Ed b c m→∃k,k≤n+m∧Ed a c k:=by
  induction h with
  | nil=>intro c m k;exact⟨m,by omega,k⟩
  | del x h ih =>
    intro c m k
    obtain⟨j,h1,h2⟩:=ih k
    exact⟨j+1,by omega,.del x h2⟩
  | @ins y a b n h ih =>
    intro c m k
    generalize hb:y::b=b' at k
    induction k with
    | nil=>simp at hb
    | del z k _ =>
      simp at hb
      obtain⟨rfl,rfl⟩:=hb
      obtain⟨j,h1,h2⟩:=ih k
      exact⟨j,by omega,h2⟩
    | ins z k ih2 =>
      obtain⟨j,h1,h2⟩:=ih2 hb
      exact⟨j+1,by omega,.ins z h2⟩
    | keep z k _ =>
      simp at hb
      obtain⟨rfl,rfl⟩:=hb
      obtain⟨j,h1,h2⟩:=ih k
      exact⟨j+1,by omega,.ins y h2⟩
  | @keep x a b n h ih =>
    intro c m k
    generalize hb:x::b=b' at k
    induction k with
    | nil=>simp at hb
    | del z k _ =>
      simp at hb
      obtain⟨rfl,rfl⟩:=hb
      obtain⟨j,h1,h2⟩:=ih k
      exact⟨j+1,by omega,.del x h2⟩
    | ins z k ih2 =>
      obtain⟨j,h1,h2⟩:=ih2 hb
      exact⟨j+1,by omega,.ins z h2⟩
    | keep z k _ =>
      simp at hb
      obtain⟨rfl,rfl⟩:=hb
      obtain⟨j,h1,h2⟩:=ih k
      exact⟨j,by omega,.keep x h2⟩
theorem Ed.len {a b:List Int} {n:Nat} (h:Ed a b n):a.length≤b.length+n∧b.length≤a.length+n∧n≤a.length+b.length∧(a.length+b.length-n) % 2=0:=by
  induction h with
  | nil=>simp
  | del x h ih=>simp only[List.length_cons];omega
  | ins y h ih=>simp only[List.length_cons];omega
  | keep x h ih=>simp only[List.length_cons];omega
theorem dist_bounds (a b:List Int):a.length≤b.length+dist a b∧b.length≤a.length+dist a b∧dist a b≤a.length+b.length∧(a.length+b.length-dist a b) % 2=0:=(ed_dist a b).len
theorem Ed.zero {a b:List Int} {n:Nat} (h:Ed a b n):n=0→a=b:=by
  induction h with
  | nil=>intro _;rfl
  | del x h ih=>intro h;omega
  | ins y h ih=>intro h;omega
  | keep x h ih=>intro h;rw[ih h]
def walkV:List Int→List Int→Int→Int→List SpanT
  | [],_,_,_=>[]
  | x::a,[],_,_=>[]
  | x::a,y::b,i,j=>if x=y then ⟨i,j⟩::walkV a b (i+1) (j+1) else if dist a (y::b)+1=dist (x::a) (y::b) then walkV a (y::b) (i+1) j else walkV (x::a) b i (j+1)
termination_by a b=>a.length+b.length
theorem walkV_nil (b:List Int) (i j:Int):walkV [] b i j=[]:=by rw[walkV]
theorem walkV_nil' (a:List Int) (i j:Int):walkV a [] i j=[]:=by cases a <;> rw[walkV]
theorem walkV_eq (x:Int) (a b:List Int) (i j:Int):walkV (x::a) (x::b) i j=⟨i,j⟩::walkV a b (i+1) (j+1):=by rw[walkV];simp
theorem walkV_ne {x y:Int} (h:x≠y) (a b:List Int) (i j:Int):walkV (x::a) (y::b) i j=if dist a (y::b)+1=dist (x::a) (y::b) then walkV a (y::b) (i+1) j else walkV (x::a) b i (j+1):=by rw[walkV];simp[h]
def chgV:List SpanT→Int→Int→List ChangeT
  | [],_,_=>[]
  | s::q,i,j=>if s.fr > i∨s.to > j then ⟨i,s.fr-i,j,s.to-j⟩::chgV q (s.fr+1) (s.to+1) else chgV q (s.fr+1) (s.to+1)
def madeV (p:List SpanT) (m n:Int):List ChangeT:=chgV (p++[⟨m,n⟩]) 0 0
@[simp] def S_script_length:List D→Prop × D:=spec1 (α:=Int) (fun _=>True) (fun n=>Rep.to (decide (0≤n∧n≤4096)))
theorem ct_script_length {P:Program} {f:Nat} {G:Gam} (h:CodeOf P f 1 2 [1] x_script_length) (hG:GamOk P G):Has P f S_script_length:=h.has1 hG fun n _=>by
  simp[x_script_length]
  omega
def numOk (n:Int):Prop:=-1000000≤n∧n≤1000000
@[simp] def S_script_fromPairs:List D→Prop × D:=spec3 (α:=List SpanT) (β:=Int) (γ:=Int) (fun p m n=>p.length≤100000∧numOk m∧numOk n∧∀s,s∈p→numOk s.fr∧numOk s.to) (fun p m n=>Rep.to (madeV p m n))
theorem ct_script_fromPairs {P:Program} {f g:Nat} {G:Gam} (h:CodeOf P f 3 13 [3] (x_script_fromPairs g)) (hG:GamOk P G) (hg:G.findR g=some R_slices_Clip_Span_Span):Has P f S_script_fromPairs:=h.has3 hG fun p m n hp=>by
  obtain⟨hp,hm,hn,hs⟩:=hp
  simp[x_script_fromPairs]
  rw[eR_clip hg (by simp) (by simp)]
  simp
  refine⟨by unfold room;omega,?_⟩
  obtain⟨q,hq⟩:∃q,q=p++[SpanT.mk m n]:=⟨_,rfl⟩
  have hqm:(List.map Rep.to p++[D.agg [D.int .i64 m,D.int .i64 n]]:List D)=q.map Rep.to:=by rw[hq];simp
  have hql:q.length=p.length+1:=by rw[hq];simp
  have hqs:∀k (h:k<q.length),numOk q[k].fr∧numOk q[k].to:=by
    intro k h
    have hm':q[k]∈p++[SpanT.mk m n]:=by rw[← hq];exact List.getElem_mem h
    rcases List.mem_append.1 hm' with h1 | h1
    · exact hs _ h1
    · rw[List.mem_singleton.1 h1];exact⟨hm,hn⟩
  rw[hqm]
  have hgoal:madeV p m n=chgV q 0 0:=by rw[hq];rfl
  rw[hgoal]
  obtain⟨Tf,hT⟩:∃Tf:Nat × List ChangeT × Int × Int→List A,∀x,Tf x=[.any,.any,.any,.any,.gr 0 4 (x.2.1.map Rep.to),.d (.int .i64 x.2.2.1),.d (.int .i64 x.2.2.2),.any,.gr 1 2 (q.map Rep.to),.d (.int .i64 q.length),.d (.int .i64 x.1),.any,.any]:=⟨_,fun _=>rfl⟩
  obtain⟨sf,hsf⟩:∃sf:Nat × List ChangeT × Int × Int→Store,∀x,sf x=[.tip x.2.1.length,.tip q.length]:=⟨_,fun _=>rfl⟩
  refine vc_ghost (σ:=Nat × List ChangeT × Int × Int) [false,false,false,false,true,true,true,false,true,true,true] 2 (fun x=>x.1≤q.length∧x.2.1.length≤x.1∧x.2.1++chgV (q.drop x.1) x.2.2.1 x.2.2.2=chgV q 0 0∧-1000001≤x.2.2.1∧x.2.2.1≤1000001∧-1000001≤x.2.2.2∧x.2.2.2≤1000001)
    (fun x=>q.length-x.1) Tf sf (0,[],0,0) (by omega) ?_ ?_ ?_
  · simp[inScope]
  · simp[hT,hsf,hql]
  rintro⟨k,out,i,j⟩ ⟨h1,h2,h3,h4,h5,h6,h7⟩
  simp only at h1 h2 h3 h4 h5 h6 h7
  rw[hT,hsf]
  simp
  refine⟨fun h8=>?_,fun h8=>?_⟩
  · obtain⟨⟨f1,f2⟩,f3,f4⟩:=hqs k h8
    rw[List.drop_eq_getElem_cons h8] at h3
    generalize hg':q[k]=sp at *
    obtain⟨fr,to⟩:=sp
    simp only at f1 f2 f3 f4
    have e1:=add1 h8 (by omega)
    have w1:=wrap_in (n:=fr+1) (by omega) (by omega)
    have w2:=wrap_in (n:=to+1) (by omega) (by omega)
    have w3:=wrap_in (n:=fr-i) (by omega) (by omega)
    have w4:=wrap_in (n:=to-j) (by omega) (by omega)
    simp[getD_map,h8,hg',inScope,pairsOk,disj,w1,w2,w3,w4,e1]
    have r1:room (out.length+1) 32:=by unfold room;omega
    have c1:(i<fr∨j<to)→out++[(⟨i,fr-i,j,to-j⟩:ChangeT)]++chgV (q.drop (k+1)) (fr+1) (to+1)=chgV q 0 0:=by
      intro h
      rw[← h3]
      simp only[chgV,gt_iff_lt,h,if_true,List.append_assoc,List.cons_append,List.nil_append]
    have c2:¬(i<fr∨j<to)→out++chgV (q.drop (k+1)) (fr+1) (to+1)=chgV q 0 0:=by
      intro h
      rw[← h3]
      simp only[chgV,gt_iff_lt,h,if_false]
    refine⟨fun h9=>⟨r1,k+1,by omega,out++[⟨i,fr-i,j,to-j⟩],fr+1,to+1,?_,?_,by omega,by simp;omega,c1 (.inl h9),by omega,by omega,by omega,by omega⟩,
      fun h9=>⟨fun h10=>⟨r1,k+1,by omega,out++[⟨i,fr-i,j,to-j⟩],fr+1,to+1,?_,?_,by omega,by simp;omega,c1 (.inr h10),by omega,by omega,by omega,by omega⟩,
        fun h10=>⟨k+1,by omega,out,fr+1,to+1,?_,?_,by omega,by omega,c2 (by omega),by omega,by omega,by omega,by omega⟩⟩⟩
    all_goals first | (rw[hT];simp;done) | (rw[hsf];simp;done) | (rw[hsf];done)
  · have h9:k=q.length:=by omega
    subst h9
    rw[List.drop_length] at h3
    simp only[chgV,List.append_nil] at h3
    rw[h3]
def ascB:List SpanT→Int→Int→Int→Int→Bool
  | [],_,_,_,_=>true
  | s::p,i,j,m,n=>decide (i≤s.fr) && decide (s.fr<m) && decide (j≤s.to) && decide (s.to<n) && ascB p (s.fr+1) (s.to+1) m n
theorem ascB_mem:∀{p:List SpanT} {i j m n:Int},ascB p i j m n=true→∀s,s∈p→i≤s.fr∧s.fr<m∧j≤s.to∧s.to<n
  | [],_,_,_,_,_,s,hs=>by simp at hs
  | x::p,i,j,m,n,h,s,hs=>by
    simp only[ascB,Bool.and_eq_true,decide_eq_true_eq] at h
    obtain⟨⟨⟨⟨h1,h2⟩,h3⟩,h4⟩,h5⟩:=h
    rcases List.mem_cons.1 hs with rfl | hs
    · exact⟨h1,h2,h3,h4⟩
    · have:=ascB_mem h5 s hs
      omega
def fromPairsV (p:List SpanT) (m n:Int):List ChangeT × Int :=
  if ¬(0≤m∧m≤4096∧0≤n∧n≤4096) then ([],80) else if ascB p 0 0 m n=true then (madeV p m n,0) else ([],3)
@[simp] def S_script_FromPairs:List D→Prop × D:=spec3 (α:=List SpanT) (β:=Int) (γ:=Int) (fun p m n=>p.length≤100000) (fun p m n=>.tup [Rep.to (fromPairsV p m n).1,.int .i64 (fromPairsV p m n).2])
theorem ct_script_FromPairs {P:Program} {f g1 g2:Nat} {G:Gam} (h:CodeOf P f 3 13 [3,4] (x_script_FromPairs g1 g2)) (hG:GamOk P G) (hg1:G.find g1=some S_script_length) (hg2:G.find g2=some S_script_fromPairs):Has P f S_script_FromPairs:=h.has3 hG fun p m n hp=>by
  simp[x_script_FromPairs,hg1]
  have bad:(m<0∨4096<m∨n<0∨4096<n)→fromPairsV p m n=([],80):=by
    intro h
    unfold fromPairsV
    rw[if_pos (by omega)]
  refine⟨fun h=>by rw[bad (by omega)];simp,fun m0 m1=>⟨fun h=>by rw[bad (by omega)];simp,fun n0 n1=>?_⟩⟩
  obtain⟨Tf,hT⟩:∃Tf:Nat × Int × Int→List A,∀x,Tf x=[.d (Rep.to p),.d (.int .i64 m),.d (.int .i64 n),.any,.any,.ref 0 0 0 0,.any,.any,.d (Rep.to p),.d (.int .i64 p.length),.d (.int .i64 x.1),.any,.any]:=⟨_,fun _=>rfl⟩
  obtain⟨sf,hsf⟩:∃sf:Nat × Int × Int→Store,∀x,sf x=[.cells 0 2 [.agg [.d (.int .i64 x.2.1),.d (.int .i64 x.2.2)]]]:=⟨_,fun _=>rfl⟩
  have hv:∀b,ascB p 0 0 m n=b→fromPairsV p m n=if b=true then (madeV p m n,0) else ([],3):=by
    intro b hb
    unfold fromPairsV
    rw[if_neg (by omega),hb]
  refine vc_ghost (σ:=Nat × Int × Int) [true,true,true,false,false,true,false,false,true,true,true] 1 (fun x=>x.1≤p.length∧ascB (p.drop x.1) (x.2.1+1) (x.2.2+1) m n=ascB p 0 0 m n)
    (fun x=>p.length-x.1) Tf sf (0,-1,-1) (by omega) ?_ ?_ ?_
  · simp[inScope]
  · simp[hT,hsf]
  rintro⟨k,lf,lt⟩ ⟨h1,h2⟩
  simp only at h1 h2
  rw[hT,hsf]
  simp
  refine⟨fun h3=>?_,fun h3=>?_⟩
  · rw[List.drop_eq_getElem_cons h3] at h2
    generalize hg':p[k]=sp at *
    obtain⟨fr,to⟩:=sp
    have e1:=add1 h3 (by omega)
    simp[getD_map,h3,hg',inScope,pairsOk,disj,e1]
    have bad2:(fr≤lf∨m≤fr∨to≤lt∨n≤to)→(fromPairsV p m n).fst=[]∧3=(fromPairsV p m n).snd:=by
      intro h
      have:ascB (⟨fr,to⟩::p.drop (k+1)) (lf+1) (lt+1) m n=false:=by
        simp only[ascB,Bool.and_eq_false_iff,decide_eq_false_iff_not]
        omega
      rw[this] at h2
      rw[hv _ h2.symm]
      simp
    refine⟨fun h=>bad2 (by omega),fun c1=>⟨fun h=>bad2 (by omega),fun c2=>⟨fun h=>bad2 (by omega),fun c3=>⟨fun h=>bad2 (by omega),fun c4=>⟨k+1,by omega,fr,to,?_,?_,by omega,?_⟩⟩⟩⟩⟩
    · rw[hT];simp
    · rw[hsf]
    · rw[← h2]
      simp only[ascB]
      have:decide (lf+1≤fr)=true∧decide (fr<m)=true∧decide (lt+1≤to)=true∧decide (to<n)=true:=by simp only[decide_eq_true_eq];omega
      simp only[this,Bool.true_and]
  · have h9:k=p.length:=by omega
    subst h9
    rw[List.drop_length] at h2
    have ha:=hv _ h2.symm
    have hm:=ascB_mem h2.symm
    simp[hg2,ha,ascB]
    refine⟨hp,⟨by omega,by omega⟩,⟨by omega,by omega⟩,fun s hs=>?_⟩
    have:=hm s hs
    exact⟨⟨by omega,by omega⟩,⟨by omega,by omega⟩⟩
@[simp] def S_shortest_limited:List D→Prop × D:=spec2 (α:=List Int) (β:=List Int) (fun _ _=>True) (fun a b=>Rep.to (decide (a.length≤4096∧b.length≤4096)))
theorem ct_shortest_limited {P:Program} {f:Nat} {G:Gam} (h:CodeOf P f 2 3 [2] x_shortest_limited) (hG:GamOk P G):Has P f S_shortest_limited:=h.has2 hG fun a b _=>by
  simp[x_shortest_limited]
  refine⟨fun h1=>?_,by omega⟩
  have h2:a.length≤4096:=by omega
  simp[h2]
  omega
def begV:List Int→List Int→Nat
  | x::a,y::b=>if x=y then begV a b+1 else 0
  | _,_=>0
theorem begV_le (a b:List Int):begV a b≤a.length∧begV a b≤b.length:=by
  induction a generalizing b with
  | nil=>simp[begV]
  | cons x a ih =>
    cases b with
    | nil=>simp[begV]
    | cons y b =>
      simp only[begV]
      split
      · have:=ih b;simp;omega
      · simp
@[simp] def S_shortest_beginning:List D→Prop × D:=spec2 (α:=List Int) (β:=List Int) (fun a _=>a.length≤9223372036854775807) (fun a b=>Rep.to ((begV a b:Nat):Int))
theorem ct_shortest_beginning {P:Program} {f:Nat} {G:Gam} (h:CodeOf P f 2 5 [2] x_shortest_beginning) (hG:GamOk P G):Has P f S_shortest_beginning:=h.has2 hG fun a b ha=>by
  simp[x_shortest_beginning]
  refine vc_ghost (σ:=Nat) [true,true,false,true] 0 (fun i=>i≤a.length∧i≤b.length∧begV (a.drop i) (b.drop i)+i=begV a b) (fun i=>a.length-i) (fun i=>[.d (Rep.to a),.d (Rep.to b),.any,.d (.int .i64 i),.any]) (fun _=>[]) 0 (Nat.le_refl _) (by simp) (by simp) ?_
  rintro i ⟨h1,h2,h3⟩
  simp
  refine⟨fun h4=>⟨fun h5=>?_,fun h5=>?_⟩,fun h4=>?_⟩
  · have e:=add1 h4 ha
    rw[List.drop_eq_getElem_cons h4,List.drop_eq_getElem_cons h5] at h3
    simp[getD_map,h4,h5,e,pairsOk]
    refine⟨fun h6=>⟨i+1,by omega,by simp,by omega,by omega,?_⟩,fun h6=>?_⟩
    · rw[begV,if_pos h6] at h3
      omega
    · rw[begV,if_neg h6] at h3
      omega
  · have:b.drop i=[]:=List.drop_eq_nil_of_le (by omega)
    rw[this] at h3
    cases hq:a.drop i <;> rw[hq] at h3 <;> simp[begV] at h3 <;> omega
  · have:a.drop i=[]:=List.drop_eq_nil_of_le (by omega)
    rw[this] at h3
    simp[begV] at h3
    omega
/-! the distances of all rests -/
def restV (a b:List Int) (k:Nat):Nat:=dist (a.drop (k / (b.length+1))) (b.drop (k % (b.length+1)))
def tabN (a b:List Int):Nat:=(a.length+1) * (b.length+1)
def tabD (a b:List Int):D:=.sl 1 ((List.range (tabN a b)).map fun k=>.int .u16 (restV a b k))
def fillP (a b:List Int) (p:Nat→Bool):List A:=(List.range (tabN a b)).map fun k=>.d (.int .u16 (if p k=true then (restV a b k:Int) else 0))
theorem fillP_len (a b:List Int) (p:Nat→Bool):(fillP a b p).length=tabN a b:=by simp[fillP]
theorem fillP_get {a b:List Int} {p:Nat→Bool} {k:Nat} (h1:p k=true) (h2:k<tabN a b):(fillP a b p).getD k .any=.d (.int .u16 (restV a b k)):=by
  simp[fillP,List.getD,h2,h1]
theorem fillP_eq {a b:List Int} {p q:Nat→Bool} (h:∀k,k<tabN a b→p k=q k∨restV a b k=0):fillP a b p=fillP a b q:=by
  refine List.map_congr_left fun k hk=>?_
  rcases h k (by simpa using hk) with h1 | h1
  · rw[h1]
  · rw[h1];simp
theorem fillP_set {a b:List Int} {p q:Nat→Bool} {c:Nat} (hc:q c=true) (h:∀k,k≠c→p k=q k):(fillP a b p).set c (.d (.int .u16 (restV a b c)))=fillP a b q:=by
  apply List.ext_getElem
  · simp[fillP]
  · intro k h1 h2
    simp only[fillP,List.length_set,List.length_map,List.length_range] at h1
    rw[List.getElem_set]
    by_cases hk:c=k
    · subst hk
      simp[fillP,hc]
    · simp only[hk,if_false,fillP,List.getElem_map,List.getElem_range,h k (Ne.symm hk)]
theorem restV_row {a b:List Int} {i j:Nat} (hj:j≤b.length):restV a b (i * (b.length+1)+j)=dist (a.drop i) (b.drop j):=by
  unfold restV
  have h1:(i * (b.length+1)+j) / (b.length+1)=i:=by
    rw[Nat.add_comm,Nat.add_mul_div_right _ _ (by omega),Nat.div_eq_of_lt (by omega)];omega
  have h2:(i * (b.length+1)+j) % (b.length+1)=j:=by
    rw[Nat.add_comm,Nat.add_mul_mod_self_right,Nat.mod_eq_of_lt (by omega)]
  rw[h1,h2]
theorem fill_lt {a b:List Int} {i j:Nat} (hi:i≤a.length) (hj:j≤b.length):i * (b.length+1)+j<tabN a b:=by
  unfold tabN
  have:i * (b.length+1)≤a.length * (b.length+1):=Nat.mul_le_mul_right _ hi
  rw[Nat.add_mul]
  omega
@[simp] def S_shortest_distances:List D→Prop × D:=spec2 (α:=List Int) (β:=List Int) (fun a b=>a.length≤4096∧b.length≤4096) (fun a b=>tabD a b)
theorem ct_shortest_distances {P:Program} {f:Nat} {G:Gam} (h:CodeOf P f 2 16 [2] x_shortest_distances) (hG:GamOk P G):Has P f S_shortest_distances:=h.has2 hG fun a b hp=>by
  obtain⟨ha,hb⟩:=hp
  have w1:=wrap_in (n:=(b.length:Int)+1) (by omega) (by omega)
  have w2:=wrap_in (n:=(a.length:Int)+1) (by omega) (by omega)
  have hN:tabN a b≤4097 * 4097:=Nat.mul_le_mul (by omega) (by omega)
  have w3:IntKind.i64.wrap (((a.length:Int)+1) * ((b.length:Int)+1))=(tabN a b:Int):=by
    rw[wrap_in]
    · unfold tabN;push_cast;rfl
    · have:(0:Int)≤((a.length:Int)+1) * ((b.length:Int)+1):=Int.mul_nonneg (by omega) (by omega)
      omega
    · have:((tabN a b:Nat):Int)=((a.length:Int)+1) * ((b.length:Int)+1):=by unfold tabN;push_cast;rfl
      omega
  obtain⟨q,hq⟩:∃q:Nat→Nat,∀i,q i=i * (b.length+1):=⟨_,fun _=>rfl⟩
  obtain⟨r,hr⟩:∃r:Nat→Nat→Nat,∀i j,r i j=i * (b.length+1)+j:=⟨_,fun _ _=>rfl⟩
  have hqM:∀i:Nat,i≤a.length+1→q i≤tabN a b:=fun i hi=>by rw[hq];exact Nat.mul_le_mul_right _ hi
  have hq1:∀i:Nat,q (i+1)=q i+(b.length+1):=fun i=>by rw[hq,hq,Nat.add_mul];omega
  have hqr:∀i j:Nat,r i j=q i+j:=fun i j=>by rw[hq,hr]
  have hrl:∀i j:Nat,i≤a.length→j≤b.length→r i j<tabN a b:=fun i j hi hj=>by rw[hr];exact fill_lt hi hj
  have hrv:∀i j:Nat,j≤b.length→restV a b (r i j)=dist (a.drop i) (b.drop j):=fun i j hj=>by rw[hr];exact restV_row hj
  have cM:∀i:Nat,i≤a.length+1→IntKind.i64.wrap ((i:Int) * ((b.length:Int)+1))=(q i:Int):=by
    intro i hi
    have e:(i:Int) * ((b.length:Int)+1)=(q i:Int):=by rw[hq];push_cast;rfl
    have:=hqM i hi
    rw[e,wrap_in (by omega) (by omega)]
  have cA:∀i j:Nat,i≤a.length→j≤b.length→IntKind.i64.wrap ((q i:Int)+(j:Int))=(r i j:Int):=by
    intro i j hi hj
    have:=hrl i j hi hj
    have e:(q i:Int)+(j:Int)=(r i j:Int):=by rw[hqr];push_cast;rfl
    rw[e,wrap_in (by omega) (by omega)]
  simp[x_shortest_distances,w1,w2,w3]
  refine⟨⟨by unfold room;omega,by omega⟩,?_⟩
  obtain⟨T1,hT1⟩:∃Tf:Nat→List A,∀j,Tf j=[.d (Rep.to a),.d (Rep.to b),.any,.d (.int .i64 (b.length+1)),.own 0 0 0 (tabN a b),.any,.any,.any,.any,.any,.d (.int .i64 b.length),.d (.int .i64 j),.any,.any,.any,.any]:=⟨_,fun _=>rfl⟩
  obtain⟨f1,hf1⟩:∃f:Nat→List A,∀j,f j=fillP a b (fun k=>decide (q a.length≤k) && decide (k<q a.length+j)):=⟨_,fun _=>rfl⟩
  have f1l:∀j,(f1 j).length=tabN a b:=fun j=>by rw[hf1,fillP_len]
  refine vc_ghost (σ:=Nat) [true,true,false,true,true,false,false,false,false,false,true,true] 1 (fun j=>j≤b.length) (fun j=>b.length-j) T1 (fun j=>[.cells 0 1 (f1 j)]) 0 (by omega) (by simp[inScope]) ?_ ?_
  · refine⟨by simp[hT1],?_,by omega⟩
    simp only[List.take_succ_cons,List.take_zero,List.cons.injEq,Ob.cells.injEq,true_and,and_true]
    rw[hf1]
    apply List.ext_getElem
    · simp[fillP]
    · intro k h1 h2
      have:¬(q a.length≤k∧k<q a.length+0):=by omega
      simp[fillP]
      omega
  · intro j hj
    rw[hT1]
    simp
    refine⟨fun h1=>?_,fun h1=>?_⟩
    · have c1:=cM a.length (by omega)
      have c2:=cA a.length j (by omega) (by omega)
      have c3:=add1 h1 (by omega)
      have c4:=wrap_in (n:=(b.length:Int)-j) (by omega) (by omega)
      have c6:=hrl a.length j (by omega) (by omega)
      have c5:IntKind.u16.wrap ((b.length:Int)-j)=(restV a b (r a.length j):Int):=by
        rw[hrv _ _ (by omega),List.drop_length,dist_nil]
        simp[IntKind.wrap,IntKind.bits,IntKind.signed]
        omega
      simp[c1,c2,c3,c4,c5,c6,f1l]
      refine⟨by simp[inScope],j+1,by omega,by rw[hT1];simp,?_,by omega⟩
      rw[hf1,hf1]
      have e:=hqr a.length j
      exact fillP_set (by simp;omega) (fun k hk=>by
        by_cases h2:q a.length≤k <;> simp[h2]
        omega)
    · have h2:j=b.length:=by omega
      obtain⟨f2,hf2⟩:∃f:Nat→List A,∀c,f c=fillP a b (fun k=>decide (c≤k)):=⟨_,fun _=>rfl⟩
      have f2l:∀j,(f2 j).length=tabN a b:=fun j=>by rw[hf2,fillP_len]
      have e1:f1 j=f2 (q a.length):=by
        rw[hf1,hf2]
        refine fillP_eq fun k hk=>?_
        rcases Nat.lt_or_ge k (q a.length+j) with h3 | h3
        · left;simp[h3]
        · right
          have e9:k=r a.length b.length:=by
            rw[hqr]
            have:tabN a b=q a.length+(b.length+1):=by rw[hq];unfold tabN;rw[Nat.add_mul];omega
            omega
          rw[e9,hrv _ _ (Nat.le_refl _),List.drop_length,List.drop_length,dist_nil]
          rfl
      have w4:=wrap_in (n:=(a.length:Int)-1) (by omega) (by omega)
      rw[e1]
      obtain⟨T2,hT2⟩:∃Tf:Nat→List A,∀i,Tf i=[.d (Rep.to a),.d (Rep.to b),.any,.d (.int .i64 (b.length+1)),.own 0 0 0 (tabN a b),.any,.d (.int .i64 ((i:Int)-1)),.any,.any,.any,.any,.any,.any,.any,.any,.any]:=⟨_,fun _=>rfl⟩
      simp[w4]
      refine vc_ghost (σ:=Nat) [true,true,false,true,true,false,true] 1 (fun i=>i≤a.length) (fun i=>i) T2 (fun i=>[.cells 0 1 (f2 (q i))]) a.length (by omega) (by simp[inScope]) ?_ ?_
      · exact⟨by simp[hT2],by simp,by omega⟩
      · intro i hi
        rcases Nat.eq_zero_or_pos i with h0 | h0
        · subst h0
          rw[hT2]
          simp
          have q0:q 0=0:=by rw[hq];simp
          have hall:f2 (q 0)=(List.range (tabN a b)).map fun k=>.d (.int .u16 (restV a b k)):=by
            rw[hf2,q0]
            exact List.map_congr_left fun k hk=>by simp
          rw[hall]
          simp only[bor,List.getD_cons_zero,List.drop_zero]
          rw[List.take_of_length_le (by simp)]
          refine⟨⟨trivial,?_⟩,?_⟩
          · rw[List.all_eq_true]
            intro x hx
            obtain⟨k,_,rfl⟩:=List.mem_map.1 hx
            rfl
          · rw[List.map_map]
            simp only[tabD,LeD_sl,true_and]
            rfl
        · obtain⟨p,rfl⟩:∃p,i=p+1:=⟨i-1,by omega⟩
          have e2:(((p+1:Nat):Int))-1=(p:Int):=by omega
          have e3:=wrap_in (n:=(p:Int)+1) (by omega) (by omega)
          have e4:=wrap_in (n:=(p:Int)+2) (by omega) (by omega)
          have g0:=cM p (by omega)
          have g1:IntKind.i64.wrap (((p:Int)+1) * ((b.length:Int)+1))=(q (p+1):Int):=by have:=cM (p+1) (by omega);push_cast at this;exact this
          have g2:IntKind.i64.wrap (((p:Int)+2) * ((b.length:Int)+1))=(q (p+2):Int):=by have:=cM (p+2) (by omega);push_cast at this;exact this
          have g3:=hq1 p
          have g4:q (p+2)=q (p+1)+(b.length+1):=hq1 (p+1)
          have g5:=hqM (p+2) (by omega)
          have hap:p<a.length:=by omega
          have w5:=wrap_in (n:=(b.length:Int)-1) (by omega) (by omega)
          have w6:=wrap_in (n:=(a.length:Int)-p) (by omega) (by omega)
          have w7:IntKind.u16.wrap ((a.length:Int)-p)=(restV a b (r p b.length):Int):=by
            rw[hrv _ _ (by omega),List.drop_length,dist_nil']
            simp[IntKind.wrap,IntKind.bits,IntKind.signed]
            omega
          have w8:=wrap_in (n:=(p:Int)-1) (by omega) (by omega)
          have e5:(f2 (q (p+1))).set (q p+b.length) (.d (.int .u16 (restV a b (r p b.length))))=f2 (r p b.length):=by
            rw[hf2,hf2,← hqr]
            have:=hqr p b.length
            exact fillP_set (by simp) (fun k hk=>by simp;omega)
          rw[hT2,e2]
          simp[e3,e4,g0,g1,g2,f2l,w5,w6,w7,e5]
          refine⟨by omega,by omega,by omega,by omega,?_⟩
          obtain⟨T3,hT3⟩:∃Tf:Nat→List A,∀j,Tf j=[.d (Rep.to a),.d (Rep.to b),.any,.d (.int .i64 (b.length+1)),.own 0 0 0 (tabN a b),.any,.d (.int .i64 p),.own 0 0 (q p) (q (p+1)-q p),.own 0 0 (q (p+1)) (q (p+2)-q (p+1)),.d (.int .i64 ((j:Int)-1)),.any,.any,.any,.any,.any,.any]:=⟨_,fun _=>rfl⟩
          refine vc_ghost (σ:=Nat) [true,true,false,true,true,false,true,true,true,true] 1 (fun j=>j≤b.length) (fun j=>j) T3 (fun j=>[.cells 0 1 (f2 (r p j))]) b.length (by omega) (by simp[inScope]) ?_ ?_
          · exact⟨by simp[hT3],by simp,by omega⟩
          · intro j hj
            rcases Nat.eq_zero_or_pos j with j0 | j0
            · subst j0
              rw[hT3]
              simp[w8]
              refine⟨by simp[inScope],p,by omega,?_,?_,by omega⟩
              · rw[hT2];simp
              · rw[hqr];rfl
            · obtain⟨t,rfl⟩:∃t,j=t+1:=⟨j-1,by omega⟩
              have e6:(((t+1:Nat):Int))-1=(t:Int):=by omega
              have hbt:t<b.length:=by omega
              have e7:=wrap_in (n:=(t:Int)+1) (by omega) (by omega)
              have e8:=wrap_in (n:=(t:Int)-1) (by omega) (by omega)
              rw[hT3,e6]
              have fg:∀x y:Nat,r p (t+1)≤q x+y→q x+y<tabN a b→y≤b.length→(f2 (r p (t+1)))[q x+y]?=some (.d (.int .u16 (dist (a.drop x) (b.drop y):Nat))):=by
                intro x y h1 h2 h3
                have:=fillP_get (a:=a) (b:=b) (p:=fun k=>decide (r p (t+1)≤k)) (k:=q x+y) (by simpa using h1) h2
                rw[← hqr,hrv x y h3] at this
                rw[← hf2] at this
                rw[← hqr]
                have h4:r x y<(f2 (r p (t+1))).length:=by rw[f2l,hqr];exact h2
                rw[getD_lt _ _ h4] at this
                rw[List.getElem?_eq_getElem h4,this]
              have k1:=hqr p (t+1)
              have k2:=fg (p+1) (t+1) (by omega) (by omega) (by omega)
              have k3:=fg (p+1) t (by omega) (by omega) (by omega)
              have k4:=fg p (t+1) (by omega) (by omega) (by omega)
              have k5:∀v:Nat,v=dist (a.drop p) (b.drop t)→(f2 (r p (t+1))).set (q p+t) (.d (.int .u16 v))=f2 (r p t):=by
                intro v hv
                have e:=hrv p t (by omega)
                rw[hv,← e,hf2,hf2,← hqr]
                have:=hqr p t
                exact fillP_set (by simp) (fun k hk=>by simp;omega)
              have da:a.drop p=a[p]::a.drop (p+1):=List.drop_eq_getElem_cons hap
              have db:b.drop t=b[t]::b.drop (t+1):=List.drop_eq_getElem_cons hbt
              have b1:=(dist_bounds (a.drop (p+1)) (b.drop t)).2.2.1
              simp only[List.length_drop] at b1
              have w9:a[p]≠b[t]→IntKind.u16.wrap (min (dist (a.drop (p+1)) (b.drop t):Int) (dist (a.drop p) (b.drop (t+1)):Int)+1)=((dist (a.drop p) (b.drop t):Nat):Int):=by
                intro hne
                have e:dist (a.drop p) (b.drop t)=1+min (dist (a.drop (p+1)) (b.drop t)) (dist (a.drop p) (b.drop (t+1))):=by
                  conv=>lhs;rw[da,db,dist_ne hne,← da,← db]
                rw[e]
                simp only[IntKind.wrap,IntKind.bits,IntKind.signed]
                simp
                omega
              have hsc:∀v:Nat,inScope 1 [A.d (D.sl 1 (List.map Rep.to a)),A.d (D.sl 1 (List.map Rep.to b)),A.any,A.d (D.int .i64 (b.length+1)),A.own 0 0 0 (tabN a b),A.any,A.d (D.int .i64 p),A.own 0 0 (q p) (q (p+1)-q p),A.own 0 0 (q (p+1)) (q (p+2)-q (p+1)),A.d (D.int .i64 ((t:Int)-1)),A.any,A.any,A.any,A.any,A.any,A.any] [Ob.cells 0 1 ((f2 (r p (t+1))).set (q p+t) (A.d (D.int .u16 v)))]:=fun v=>.inl (by simp)
              simp[getD_map,hap,hbt,e7,e8,f2l,k2,k3,k4]
              refine⟨fun hq=>⟨by omega,by omega,by omega,by omega,hsc _,t,by omega,?_,?_,by omega⟩,fun hne=>⟨by omega,by omega,by omega,by omega,by omega,by omega,?_,t,by omega,?_,?_,by omega⟩⟩
              · rw[hT3];simp
              · exact k5 _ (by rw[da,db,hq,dist_eq])
              · rw[w9 hne];exact hsc _
              · rw[hT3];simp
              · rw[w9 hne];exact k5 _ rfl
def walkS (args:List A) (s0:Store):Prop × Store × A :=
  match args,s0 with
  | [.d (.int .i64 i),.d (.int .i64 j),.ref 0 v 0 0,.ref 1 u 0 0],[.cells v' 1 [.d (.sl 1 xs)],.cells u' 1 [.d (.sl 1 ys)]] =>
    match xs.getD (i.toNat * (ys.length+1)+j.toNat) default with
    | .int .u16 n=>(v=v'∧u=u'∧0≤i∧i≤4096∧0≤j∧j≤4096∧ys.length≤4096∧i.toNat * (ys.length+1)+j.toNat<xs.length∧0≤n∧n≤65535,[.cells v 1 [.d (.sl 1 xs)],.cells u 1 [.d (.sl 1 ys)]],.d (.int .i64 n))
    | _=>(False,[],.any)
  | _,_=>(False,[],.any)
def walkR (args:List A) (_:Store) (_:Nat):List Nat :=
  match args with
  | [_,_,.ref l _ _ _,.ref m _ _ _]=>[l,m]
  | _=>[]
abbrev R_shortest_walk_1:RSpec:=⟨walkR,walkS⟩
theorem ct_shortest_walk_1 {P:Program} {f:Nat} (hc:CodeOf P f 4 5 [4] x_shortest_walk_1):RSpec.Ok P f R_shortest_walk_1:=by
  refine⟨hc.call,fun _ _ _ _ _=>rfl,?_⟩
  intro args s0 hp
  simp only[walkS] at hp ⊢
  split at hp
  · rename_i i j v u v' xs u' ys
    split at hp
    · rename_i n hn
      obtain⟨rfl,rfl,h1,h2,h3,h4,h5,h6,h7,h8⟩:=hp
      obtain⟨p,rfl⟩:=Int.eq_ofNat_of_zero_le h1
      obtain⟨q,rfl⟩:=Int.eq_ofNat_of_zero_le h3
      simp only[Int.toNat_natCast] at hn h6 ⊢
      refine hc.rcalls (GamOk.nil _) rfl ?_
      have hm:p * (ys.length+1)≤4096 * 4097:=Nat.mul_le_mul (by omega) (by omega)
      have w1:=wrap_in (n:=(ys.length:Int)+1) (by omega) (by omega)
      obtain⟨k,hk⟩:∃k,k=p * (ys.length+1):=⟨_,rfl⟩
      have w2:IntKind.i64.wrap ((p:Int) * ((ys.length:Int)+1))=(k:Int):=by
        have e:(p:Int) * ((ys.length:Int)+1)=(k:Int):=by rw[hk];push_cast;rfl
        rw[e,wrap_in (by omega) (by omega)]
      have w3:IntKind.i64.wrap ((k:Int)+(q:Int))=((k+q:Nat):Int):=by rw[wrap_in (by omega) (by omega)];rfl
      rw[← hk] at hn h6
      have w4:=wrap_in (n:=n) (by omega) (by omega)
      rw[List.getD,List.getElem?_eq_getElem h6] at hn
      simp only[Option.getD_some] at hn
      simp[x_shortest_walk_1,startA,w1,w2]
      rw[w3]
      generalize k+q=c at *
      simp[h6,hn,w4]
      exact⟨by simp[resPre],[0,1],rfl,⟨by decide,by simp,rfl⟩,fun k hk=>.inl (by match k,hk with | 0,_=>rfl | 1,_=>rfl),rfl,rfl,rfl⟩
    · exact hp.elim
  · exact hp.elim
theorem eR_walk1 {G:Gam} {f:Nat} (hf:G.findR f=some R_shortest_walk_1) {s:Store} {nw l m v u i j:Nat} {a b:List Int} (h1:s.getD l .dead=.cells v 1 [.d (tabD a b)]) (h2:s.getD m .dead=.cells u 1 [.d (.sl 1 (b.map Rep.to))])
    (h3:l≠m) (h4:l<s.length∧m<s.length) (h5:i≤a.length∧j≤b.length) (h6:a.length≤4096∧b.length≤4096) {x y:Int} (hx:x=i) (hy:y=j) :
    eRCall G s nw f [.d (.int .i64 x),.d (.int .i64 y),.ref l v 0 0,.ref m u 0 0]=⟨True,[(l,.cells v 1 [.d (tabD a b)]),(m,.cells u 1 [.d (.sl 1 (b.map Rep.to))])],.d (.int .i64 ((dist (a.drop i) (b.drop j):Nat):Int))⟩:=by
  subst hx hy
  obtain⟨l1,l2⟩:=h4
  have hlt:=fill_lt (a:=a) (b:=b) h5.1 h5.2
  have hrow:=restV_row (a:=a) (b:=b) (i:=i) h5.2
  have hb:=(dist_bounds (a.drop i) (b.drop j)).2.2.1
  simp only[List.length_drop] at hb
  have hv:((List.range (tabN a b)).map fun k=>D.int .u16 (restV a b k)).getD (i * (b.length+1)+j) default=.int .u16 (dist (a.drop i) (b.drop j):Nat):=by
    rw[getD_lt _ _ (by simpa using hlt),List.getElem_map,List.getElem_range,hrow]
  unfold eRCall
  rw[hf]
  simp only[walkR,List.map_cons,List.map_nil,h1,h2]
  have q1:i≤4096:=by omega
  have q2:j≤4096:=by omega
  have q3:dist (a.drop i) (b.drop j)≤65535:=by omega
  simp only[tabD] at *
  simp[walkS,h3,l1,l2,h6.2,hlt,-List.getD_eq_getElem?_getD,hv]
  omega
theorem walkV_beg:∀(a b:List Int) (i j:Int),walkV a b i j=(List.range (begV a b)).map (fun k=>(⟨i+(k:Nat),j+(k:Nat)⟩:SpanT))++walkV (a.drop (begV a b)) (b.drop (begV a b)) (i+(begV a b:Nat)) (j+(begV a b:Nat))
  | [],b,i,j=>by simp[begV,walkV_nil]
  | x::a,[],i,j=>by simp[begV,walkV_nil']
  | x::a,y::b,i,j=>by
    by_cases h:x=y
    · subst h
      rw[walkV_eq,walkV_beg a b (i+1) (j+1)]
      simp only[begV,if_true,List.range_succ_eq_map,List.map_cons,List.map_map,List.cons_append,List.drop_succ_cons]
      congr 1
      · simp
      · congr 1
        · refine List.map_congr_left fun k _=>?_
          simp only[Function.comp,SpanT.mk.injEq]
          omega
        · congr 1 <;> push_cast <;> omega
    · simp[begV,h]
@[simp] def S_shortest_walk:List D→Prop × D:=spec2 (α:=List Int) (β:=List Int) (fun a b=>a.length≤4096∧b.length≤4096) (fun a b=>Rep.to (walkV a b 0 0))
theorem ct_shortest_walk {P:Program} {f g1 g2 g3:Nat} {G:Gam} (h:CodeOf P f 2 17 [3] (x_shortest_walk g1 g2 g3)) (hG:GamOk P G) (hg1:G.find g1=some S_shortest_beginning) (hg2:G.find g2=some S_shortest_distances) (hg3:G.findR g3=some R_shortest_walk_1):Has P f S_shortest_walk:=h.has2 hG fun a b hp=>by
  obtain⟨ha,hb⟩:=hp
  obtain⟨b1,b2⟩:=begV_le a b
  simp[x_shortest_walk,hg1]
  refine⟨by omega,?_⟩
  obtain⟨n,hn⟩:∃n,n=begV a b:=⟨_,rfl⟩
  rw[← hn] at b1 b2 ⊢
  obtain⟨pre,hpre⟩:∃pre:Nat→List SpanT,∀k,pre k=(List.range k).map (fun k=>(⟨(k:Nat),(k:Nat)⟩:SpanT)):=⟨_,fun _=>rfl⟩
  have hpl:∀k,(pre k).length=k:=fun k=>by rw[hpre];simp
  have hps:∀k,pre (k+1)=pre k++[⟨(k:Nat),(k:Nat)⟩]:=fun k=>by rw[hpre,hpre,List.range_succ,List.map_append];rfl
  obtain⟨T1,hT1⟩:∃Tf:Nat→List A,∀k,Tf k=[.d (Rep.to a),.any,.ref 0 0 0 0,.any,.gr 1 2 ((pre k).map Rep.to),.d (.int .i64 n),.any,.any,.any,.any,.any,.d (.int .i64 n),.d (.int .i64 k),.any,.any,.any,.any]:=⟨_,fun _=>rfl⟩
  refine vc_ghost (σ:=Nat) [true,false,true,false,true,true,false,false,false,false,false,true,true] 2 (fun k=>k≤n) (fun k=>n-k) T1 (fun k=>[.cells 0 1 [.d (Rep.to b)],.tip k]) 0 (by omega) (by simp[inScope]) ?_ ?_
  · exact⟨by simp[hT1,hpre],by simp,by omega⟩
  intro k hk
  rw[hT1]
  simp
  refine⟨fun h1=>?_,fun h1=>?_⟩
  · have e:=add1 h1 (by omega)
    simp[hpl,e]
    refine⟨by unfold room;omega,by simp[inScope],k+1,by omega,?_,rfl,by omega⟩
    rw[hT1,hps]
    simp
  · have hkn:k=n:=by omega
    subst hkn
    obtain⟨a',ha'⟩:∃a',a'=a.drop k:=⟨_,rfl⟩
    obtain⟨b',hb'⟩:∃b',b'=b.drop k:=⟨_,rfl⟩
    have la:a'.length=a.length-k:=by rw[ha'];simp
    have lb:b'.length=b.length-k:=by rw[hb'];simp
    have ma:(List.take (a.length-k) (List.drop k (List.map Rep.to a)):List D)=a'.map Rep.to:=by rw[← List.map_drop,← ha',List.take_of_length_le (by simp;omega)]
    have mb:(List.take (b.length-k) (List.drop k (List.map Rep.to b)):List D)=b'.map Rep.to:=by rw[← List.map_drop,← hb',List.take_of_length_le (by simp;omega)]
    have hw:=walkV_beg a b 0 0
    rw[← hn,← ha',← hb'] at hw
    simp only[Int.zero_add] at hw
    rw[← hpre] at hw
    simp[ma,mb,hg2,pairsOk,b1,b2]
    refine⟨⟨by omega,by omega⟩,by simp[tabD],?_⟩
    obtain⟨T2,hT2⟩:∃Tf:List SpanT × Nat × Nat→List A,∀x,Tf x=[.d (Rep.to a'),.any,.ref 0 0 0 0,.any,.gr 1 2 (x.1.map Rep.to),.d (.int .i64 k),.any,.any,.fn (.func g3) [] [.ref 2 0 0 0,.ref 0 0 0 0],.d (.int .i64 x.2.1),.d (.int .i64 x.2.2),.any,.any,.any,.any,.any,.any]:=⟨_,fun _=>rfl⟩
    obtain⟨s2,hs2⟩:∃sf:List SpanT × Nat × Nat→Store,∀x,sf x=[.cells 0 1 [.d (Rep.to b')],.tip x.1.length,.cells 0 1 [.d (tabD a' b')]]:=⟨_,fun _=>rfl⟩
    refine vc_ghost (σ:=List SpanT × Nat × Nat) [true,false,true,false,true,true,false,false,true,true,true] 3 (fun x=>x.2.1≤a'.length∧x.2.2≤b'.length∧x.1.length≤k+x.2.1∧x.1++walkV (a'.drop x.2.1) (b'.drop x.2.2) (k+x.2.1) (k+x.2.2)=walkV a b 0 0)
      (fun x=>(a'.length-x.2.1)+(b'.length-x.2.2)) T2 s2 (pre k,0,0) (by omega) (by simp[inScope]) ?_ ?_
    · refine⟨by simp[hT2],by simp[hs2,hpl],by simp,by simp,by simp[hpl],?_⟩
      rw[hw]
      simp
    rintro⟨out,i,j⟩ ⟨h2,h3,h4,h5⟩
    simp only at h2 h3 h4 h5
    have e1:=wrap_in (n:=(i:Int)+1) (by omega) (by omega)
    have e2:=wrap_in (n:=(j:Int)+1) (by omega) (by omega)
    have e3:=wrap_in (n:=(k:Int)+i) (by omega) (by omega)
    have e4:=wrap_in (n:=(k:Int)+j) (by omega) (by omega)
    have hr2:∀(s:Store) (nw:Nat),s.getD 2 .dead=.cells 0 1 [.d (tabD a' b')]→s.getD 0 .dead=.cells 0 1 [.d (.sl 1 (b'.map Rep.to))]→2<s.length→eRCall G s nw g3 [.d (.int .i64 i),.d (.int .i64 j),.ref 2 0 0 0,.ref 0 0 0 0]=⟨True,[(2,.cells 0 1 [.d (tabD a' b')]),(0,.cells 0 1 [.d (.sl 1 (b'.map Rep.to))])],.d (.int .i64 ((dist (a'.drop i) (b'.drop j):Nat):Int))⟩ :=
      fun s nw q1 q2 q3=>eR_walk1 hg3 q1 q2 (by omega) ⟨q3,by omega⟩ ⟨h2,h3⟩ ⟨by omega,by omega⟩ rfl rfl
    have hr1:i<a'.length→∀(s:Store) (nw:Nat),s.getD 2 .dead=.cells 0 1 [.d (tabD a' b')]→s.getD 0 .dead=.cells 0 1 [.d (.sl 1 (b'.map Rep.to))]→2<s.length→eRCall G s nw g3 [.d (.int .i64 (i+1)),.d (.int .i64 j),.ref 2 0 0 0,.ref 0 0 0 0]=⟨True,[(2,.cells 0 1 [.d (tabD a' b')]),(0,.cells 0 1 [.d (.sl 1 (b'.map Rep.to))])],.d (.int .i64 ((dist (a'.drop (i+1)) (b'.drop j):Nat):Int))⟩ :=
      fun h s nw q1 q2 q3=>eR_walk1 hg3 q1 q2 (by omega) ⟨q3,by omega⟩ ⟨h,h3⟩ ⟨by omega,by omega⟩ rfl rfl
    have db:=(dist_bounds (a'.drop (i+1)) (b'.drop j)).2.2.1
    simp only[List.length_drop] at db
    have e5:=wrap_in (n:=((dist (a'.drop (i+1)) (b'.drop j):Nat):Int)+1) (by omega) (by omega)
    rw[hT2,hs2]
    have hro:room (out.length+1) 16:=by unfold room;omega
    by_cases hi:i<a'.length <;> by_cases hj:j<b'.length
    · have ea:a'.drop i=a'[i]::a'.drop (i+1):=List.drop_eq_getElem_cons hi
      have eb:b'.drop j=b'[j]::b'.drop (j+1):=List.drop_eq_getElem_cons hj
      have c1:a'[i]=b'[j]→out++[(⟨k+i,k+j⟩:SpanT)]++walkV (a'.drop (i+1)) (b'.drop (j+1)) (k+(i+1)) (k+(j+1))=walkV a b 0 0:=by
        intro he
        rw[ea,eb,he,walkV_eq] at h5
        rw[← h5,Int.add_assoc,Int.add_assoc]
        simp
      have c2:a'[i]≠b'[j]→dist (a'.drop (i+1)) (b'.drop j)+1=dist (a'.drop i) (b'.drop j)→out++walkV (a'.drop (i+1)) (b'.drop j) (k+(i+1)) (k+j)=walkV a b 0 0:=by
        intro he hd
        rw[ea,eb,walkV_ne he,← ea,← eb,if_pos hd] at h5
        rw[← h5,Int.add_assoc]
      have c3:a'[i]≠b'[j]→¬(dist (a'.drop (i+1)) (b'.drop j)+1=dist (a'.drop i) (b'.drop j))→out++walkV (a'.drop i) (b'.drop (j+1)) (k+i) (k+(j+1))=walkV a b 0 0:=by
        intro he hd
        rw[ea,eb,walkV_ne he,← ea,← eb,if_neg hd] at h5
        rw[← h5,Int.add_assoc]
      simp[hi,hj,getD_map,pairsOk,e1,e2,e3,e4,e5,hro,eCallv,hr1 hi,hr2]
      refine⟨fun he=>⟨by simp[inScope],out++[⟨k+i,k+j⟩],i+1,j+1,by omega,?_,?_,hi,hj,by simp;omega,c1 he⟩,
        fun he=>⟨fun hd=>⟨by simp[inScope],out,i+1,j,by omega,?_,?_,hi,h3,by omega,c2 he (by omega)⟩,fun hd=>⟨by simp[inScope],out,i,j+1,by omega,?_,?_,h2,hj,h4,c3 he (by omega)⟩⟩⟩
      all_goals first | (rw[hT2];simp;done) | (rw[hs2];simp;done)
    · have hj2:b'.drop j=[]:=List.drop_eq_nil_of_le (by omega)
      rw[hj2,walkV_nil'] at h5
      have hd0:dist (a'.drop (i+1)) (b'.drop j)+1=dist (a'.drop i) (b'.drop j):=by
        rw[hj2,dist_nil',dist_nil',List.length_drop,List.length_drop];omega
      simp[hi,hj,getD_map,pairsOk,e1,e2,e3,e4,e5,hro,eCallv,hr1 hi,hr2]
      refine⟨fun hd=>⟨by simp[inScope],out,i+1,j,by omega,?_,?_,hi,h3,by omega,?_⟩,fun hd=>absurd (by omega) hd⟩
      · rw[hT2];simp
      · rw[hs2];simp
      · rw[hj2,walkV_nil'];exact h5
    · have hi2:a'.drop i=[]:=List.drop_eq_nil_of_le (by omega)
      rw[hi2,walkV_nil] at h5
      simp[hi,hj,getD_map,pairsOk,e1,e2,e3,e4,e5,hro,eCallv,hr2]
      refine⟨by simp[inScope],out,i,j+1,by omega,?_,?_,h2,hj,h4,?_⟩
      · rw[hT2];simp
      · rw[hs2];simp
      · rw[hi2,walkV_nil];exact h5
    · have hi2:a'.drop i=[]:=List.drop_eq_nil_of_le (by omega)
      rw[hi2,walkV_nil,List.append_nil] at h5
      simp[hi,hj,getD_map,pairsOk,e1,e2,e3,e4,e5,hro,eCallv,hr2]
      rw[h5]
def scriptV (a b:List Int):List ChangeT:=madeV (walkV a b 0 0) a.length b.length
def longV (a b:List Int):Prop:=¬(a.length≤4096∧b.length≤4096)
instance (a b:List Int):Decidable (longV a b):=inferInstanceAs (Decidable (¬_))
theorem walkV_asc:∀(a b:List Int) (i j:Int),ascB (walkV a b i j) i j (i+a.length) (j+b.length)=true:=by
  have mono:∀(p:List SpanT) (i j i' j' m n m' n':Int),i'≤i→j'≤j→m≤m'→n≤n'→ascB p i j m n=true→ascB p i' j' m' n'=true:=by
    intro p
    induction p with
    | nil=>intros;rfl
    | cons s p ih =>
      intro i j i' j' m n m' n' h1 h2 h3 h4 h
      simp only[ascB,Bool.and_eq_true,decide_eq_true_eq] at h ⊢
      obtain⟨⟨⟨⟨k1,k2⟩,k3⟩,k4⟩,k5⟩:=h
      exact⟨⟨⟨⟨by omega,by omega⟩,by omega⟩,by omega⟩,ih _ _ _ _ _ _ _ _ (Int.le_refl _) (Int.le_refl _) h3 h4 k5⟩
  intro a b
  generalize hn:a.length+b.length=n
  induction n using Nat.strongRecOn generalizing a b with
  | _ n ih =>
    intro i j
    cases a with
    | nil=>rw[walkV_nil];rfl
    | cons x a =>
      cases b with
      | nil=>rw[walkV_nil'];rfl
      | cons y b =>
        simp only[List.length_cons] at hn ⊢
        by_cases h:x=y
        · subst h
          rw[walkV_eq]
          simp only[ascB,Bool.and_eq_true,decide_eq_true_eq]
          refine⟨⟨⟨⟨by omega,by omega⟩,by omega⟩,by omega⟩,?_⟩
          have:=ih (a.length+b.length) (by omega) a b rfl (i+1) (j+1)
          exact mono _ _ _ _ _ _ _ _ _ (Int.le_refl _) (Int.le_refl _) (by omega) (by omega) this
        · rw[walkV_ne h]
          split
          · have:=ih (a.length+(b.length+1)) (by omega) a (y::b) (by simp) (i+1) j
            simp only[List.length_cons] at this
            exact mono _ _ _ _ _ _ _ _ _ (by omega) (by omega) (by omega) (by omega) this
          · have:=ih ((a.length+1)+b.length) (by omega) (x::a) b (by simp) i (j+1)
            simp only[List.length_cons] at this
            exact mono _ _ _ _ _ _ _ _ _ (by omega) (by omega) (by omega) (by omega) this
theorem walkV_len (a b:List Int) (i j:Int):(walkV a b i j).length≤a.length:=by
  generalize hn:a.length+b.length=n
  induction n using Nat.strongRecOn generalizing a b i j with
  | _ n ih =>
    cases a with
    | nil=>rw[walkV_nil];simp
    | cons x a =>
      cases b with
      | nil=>rw[walkV_nil'];simp
      | cons y b =>
        simp only[List.length_cons] at hn ⊢
        by_cases h:x=y
        · subst h
          rw[walkV_eq]
          have:=ih (a.length+b.length) (by omega) a b (i+1) (j+1) rfl
          simp only[List.length_cons]
          omega
        · rw[walkV_ne h]
          split
          · have:=ih (a.length+(b.length+1)) (by omega) a (y::b) (i+1) j (by simp)
            omega
          · have:=ih ((a.length+1)+b.length) (by omega) (x::a) b i (j+1) (by simp)
            simpa using this
@[simp] def S_shortest_Distance:List D→Prop × D:=spec2 (α:=List Int) (β:=List Int) (fun a b=>a.length≤1048576∧b.length≤1048576) (fun a b=>.tup [.int .i64 (if longV a b then 0 else (dist a b:Nat)),.int .i64 (if longV a b then 1 else 0)])
theorem dist_beg (a b:List Int):dist (a.drop (begV a b)) (b.drop (begV a b))=dist a b:=by
  induction a generalizing b with
  | nil=>simp[begV]
  | cons x a ih =>
    cases b with
    | nil=>simp[begV]
    | cons y b =>
      simp only[begV]
      split
      · rename_i h;subst h;simp only[List.drop_succ_cons,dist_eq,ih b]
      · rfl
theorem ct_shortest_Distance {P:Program} {f g1 g2 g3:Nat} {G:Gam} (h:CodeOf P f 2 6 [2,3] (x_shortest_Distance g1 g2 g3)) (hG:GamOk P G) (hg1:G.find g1=some S_shortest_limited) (hg2:G.find g2=some S_shortest_beginning) (hg3:G.find g3=some S_shortest_distances):Has P f S_shortest_Distance:=h.has2 hG fun a b hp=>by
  obtain⟨ha,hb⟩:=hp
  simp[x_shortest_Distance,hg1]
  have hL:longV a b↔(4096<a.length∨4096<b.length):=by unfold longV;omega
  refine⟨fun h=>?_,fun h1 h2=>?_⟩
  · have:=hL.2 h
    simp[this]
  · have hnl:¬longV a b:=by rw[hL];omega
    obtain⟨b1,b2⟩:=begV_le a b
    have hd:=dist_beg a b
    simp[hg2,hnl]
    refine⟨by omega,?_⟩
    generalize begV a b=k at *
    have ma:(List.take (a.length-k) (List.drop k (List.map Rep.to a)):List D)=(a.drop k).map Rep.to:=by rw[← List.map_drop,List.take_of_length_le (by simp)]
    have mb:(List.take (b.length-k) (List.drop k (List.map Rep.to b)):List D)=(b.drop k).map Rep.to:=by rw[← List.map_drop,List.take_of_length_le (by simp)]
    have hN:0<tabN (a.drop k) (b.drop k):=Nat.mul_pos (by omega) (by omega)
    have hb:=(dist_bounds a b).2.2.1
    have w:=wrap_in (n:=(dist a b:Int)) (by omega) (by omega)
    have h0:restV (a.drop k) (b.drop k) 0=dist a b:=by
      unfold restV
      simp only[Nat.zero_div,Nat.zero_mod,List.drop_zero]
      exact hd
    simp[b1,b2,ma,mb,hg3,tabD,hN,h0,w,pairsOk]
    omega
@[simp] def S_shortest_Script:List D→Prop × D:=spec2 (α:=List Int) (β:=List Int) (fun a b=>a.length≤1048576∧b.length≤1048576) (fun a b=>.tup [Rep.to (if longV a b then [] else scriptV a b),.int .i64 (if longV a b then 1 else 0)])
theorem ct_shortest_Script {P:Program} {f g1 g2 g3:Nat} {G:Gam} (h:CodeOf P f 2 5 [2,3] (x_shortest_Script g1 g2 g3)) (hG:GamOk P G) (hg1:G.find g1=some S_shortest_limited) (hg2:G.find g2=some S_shortest_walk) (hg3:G.find g3=some S_script_FromPairs):Has P f S_shortest_Script:=h.has2 hG fun a b hp=>by
  obtain⟨ha,hb⟩:=hp
  simp[x_shortest_Script,hg1]
  have hL:longV a b↔(4096<a.length∨4096<b.length):=by unfold longV;omega
  refine⟨fun h=>?_,fun h1 h2=>?_⟩
  · have:=hL.2 h
    simp[this]
  · have hnl:¬longV a b:=by rw[hL];omega
    have hw:=walkV_asc a b 0 0
    simp only[Int.zero_add] at hw
    have hl:=walkV_len a b 0 0
    have hfp:fromPairsV (walkV a b 0 0) a.length b.length=(scriptV a b,0):=by
      unfold fromPairsV
      rw[if_neg (by omega),if_pos hw]
      rfl
    simp[hg2,hg3,hnl,h1,h2,hfp]
    omega
@[simp] def S_law09_awake:List D→Prop × D:=spec0 True (Rep.to true)
theorem ct_law09_awake {P:Program} {f g1 g2 g3:Nat} {G:Gam} (h:CodeOf P f 0 5 [0] (x_law09_awake g1 g2 g3)) (hG:GamOk P G) (h1:G.find g1=some S_shortest_Script) (h2:G.find g2=some S_shortest_Distance) (h3:G.find g3=some S_gen_Changes):Has P f S_law09_awake:=h.has0 hG fun _=>by
  have e1:scriptV [1,2,3] [2,4]=[⟨0,1,0,0⟩,⟨2,1,1,1⟩]:=by decide +kernel
  have e2:dist [1,2,3] [2,4]=3:=by decide +kernel
  have e3:¬longV [1,2,3] [2,4]:=by decide
  simp[x_law09_awake,h1,h2,h3,Rep.of,ofAll,e1,e2,e3]
end Go.AE
namespace Go.AE
theorem chgV_len:∀(q:List SpanT) (i j:Int),(chgV q i j).length≤q.length
  | [],_,_=>by simp[chgV]
  | s::q,i,j=>by
    have:=chgV_len q (s.fr+1) (s.to+1)
    simp only[chgV]
    split <;> simp <;> omega
theorem scriptV_len (a b:List Int):(scriptV a b).length≤a.length+1:=by
  unfold scriptV madeV
  have h1:=chgV_len (walkV a b 0 0++[⟨a.length,b.length⟩]) 0 0
  have h2:=walkV_len a b 0 0
  simp only[List.length_append,List.length_cons,List.length_nil] at h1
  omega
@[simp] def S_ref08_Made:List D→Prop × D:=spec3 (α:=List SpanT) (β:=Int) (γ:=Int) (fun p m n=>p.length≤100000∧numOk m∧numOk n∧∀s,s∈p→numOk s.fr∧numOk s.to) (fun p m n=>Rep.to (madeV p m n))
theorem ct_ref08_Made {P:Program} {f:Nat} {G:Gam} (h:CodeOf P f 3 12 [3] x_ref08_Made) (hG:GamOk P G):Has P f S_ref08_Made:=h.has3 hG fun p m n hp=>by
  obtain⟨hp,hm,hn,hs⟩:=hp
  simp[x_ref08_Made]
  obtain⟨q,hq⟩:∃q,q=p++[SpanT.mk m n]:=⟨_,rfl⟩
  have hql:q.length=p.length+1:=by rw[hq];simp
  have hqs:∀k (h:k<q.length),numOk q[k].fr∧numOk q[k].to:=by
    intro k h
    have hm':q[k]∈p++[SpanT.mk m n]:=by rw[← hq];exact List.getElem_mem h
    rcases List.mem_append.1 hm' with h1 | h1
    · exact hs _ h1
    · rw[List.mem_singleton.1 h1];exact⟨hm,hn⟩
  have hgoal:madeV p m n=chgV q 0 0:=by rw[hq];rfl
  rw[hgoal]
  obtain⟨Tf,hT⟩:∃Tf:Nat × List ChangeT × Int × Int→List A,∀x,Tf x=[.d (Rep.to p),.d (.int .i64 m),.d (.int .i64 n),.any,.gr 0 4 (x.2.1.map Rep.to),.d (.int .i64 x.2.2.1),.d (.int .i64 x.2.2.2),.d (.int .i64 x.1),.any,.any,.any,.any]:=⟨_,fun _=>rfl⟩
  obtain⟨sf,hsf⟩:∃sf:Nat × List ChangeT × Int × Int→Store,∀x,sf x=[.tip x.2.1.length]:=⟨_,fun _=>rfl⟩
  refine vc_ghost (σ:=Nat × List ChangeT × Int × Int) [true,true,true,false,true,true,true,true] 1 (fun x=>x.1≤q.length∧x.2.1.length≤x.1∧x.2.1++chgV (q.drop x.1) x.2.2.1 x.2.2.2=chgV q 0 0∧-1000001≤x.2.2.1∧x.2.2.1≤1000001∧-1000001≤x.2.2.2∧x.2.2.2≤1000001)
    (fun x=>q.length-x.1) Tf sf (0,[],0,0) (by omega) ?_ ?_ ?_
  · simp[inScope]
  · simp[hT,hsf]
  rintro⟨k,out,i,j⟩ ⟨h1,h2,h3,h4,h5,h6,h7⟩
  simp only at h1 h2 h3 h4 h5 h6 h7
  have w0:=wrap_in (n:=(k:Int)+1) (by omega) (by omega)
  rw[hT,hsf]
  by_cases h8:k<q.length
  · obtain⟨⟨f1,f2⟩,f3,f4⟩:=hqs k h8
    rw[List.drop_eq_getElem_cons h8] at h3
    have hk0:k≤p.length:=by omega
    have hpk:∀h9:k<p.length,p[k]=q[k]:=by intro h9;subst hq;rw[List.getElem_append_left h9]
    have hlast:¬k<p.length→(m=q[k].fr∧n=q[k].to):=by
      intro h9
      have e:k=p.length:=by omega
      subst hq
      subst e
      rw[List.getElem_append_right (Nat.le_refl _)]
      simp
    generalize hg':q[k]=sp at *
    obtain⟨fr,to⟩:=sp
    simp only at f1 f2 f3 f4
    have w1:=wrap_in (n:=fr+1) (by omega) (by omega)
    have w2:=wrap_in (n:=to+1) (by omega) (by omega)
    have w3:=wrap_in (n:=fr-i) (by omega) (by omega)
    have w4:=wrap_in (n:=to-j) (by omega) (by omega)
    have r1:room (out.length+1) 32:=by unfold room;omega
    have c1:(i<fr∨j<to)→out++[(⟨i,fr-i,j,to-j⟩:ChangeT)]++chgV (q.drop (k+1)) (fr+1) (to+1)=chgV q 0 0:=by
      intro h
      rw[← h3]
      simp only[chgV,gt_iff_lt,h,if_true,List.append_assoc,List.cons_append,List.nil_append]
    have c2:¬(i<fr∨j<to)→out++chgV (q.drop (k+1)) (fr+1) (to+1)=chgV q 0 0:=by
      intro h
      rw[← h3]
      simp only[chgV,gt_iff_lt,h,if_false]
    by_cases h9:k<p.length
    · have hpk:=hpk h9
      simp[hk0,h9,getD_map,hpk,inScope,pairsOk,disj,w0,w1,w2,w3,w4]
      refine⟨fun h9=>⟨r1,k+1,by omega,out++[⟨i,fr-i,j,to-j⟩],fr+1,to+1,?_,?_,by omega,by simp;omega,c1 (.inl h9),by omega,by omega,by omega,by omega⟩,
        fun h9=>⟨fun h10=>⟨r1,k+1,by omega,out++[⟨i,fr-i,j,to-j⟩],fr+1,to+1,?_,?_,by omega,by simp;omega,c1 (.inr h10),by omega,by omega,by omega,by omega⟩,
          fun h10=>⟨k+1,by omega,out,fr+1,to+1,?_,?_,by omega,by omega,c2 (by omega),by omega,by omega,by omega,by omega⟩⟩⟩
      all_goals first | (rw[hT];simp;done) | (rw[hsf];simp;done) | (rw[hsf];done)
    · obtain⟨e1,e2⟩:=hlast h9
      simp only at e1 e2
      subst e1 e2
      simp[hk0,h9,getD_map,inScope,pairsOk,disj,w0,w1,w2,w3,w4]
      refine⟨fun h9=>⟨r1,k+1,by omega,out++[⟨i,m-i,j,n-j⟩],m+1,n+1,?_,?_,by omega,by simp;omega,c1 (.inl h9),by omega,by omega,by omega,by omega⟩,
        fun h9=>⟨fun h10=>⟨r1,k+1,by omega,out++[⟨i,m-i,j,n-j⟩],m+1,n+1,?_,?_,by omega,by simp;omega,c1 (.inr h10),by omega,by omega,by omega,by omega⟩,
          fun h10=>⟨k+1,by omega,out,m+1,n+1,?_,?_,by omega,by omega,c2 (by omega),by omega,by omega,by omega,by omega⟩⟩⟩
      all_goals first | (rw[hT];simp;done) | (rw[hsf];simp;done) | (rw[hsf];done)
  · have h9:k=q.length:=by omega
    have h10:¬k≤p.length:=by omega
    have h11:p.length<k:=by omega
    simp[h10,h11]
    subst h9
    rw[List.drop_length] at h3
    simp only[chgV,List.append_nil] at h3
    rw[h3]
end Go.AE
namespace Go.AE
def rowM (a b:List Int) (i:Nat):List Int:=(List.range (b.length+1)).map fun j=>(dist (a.drop i) (b.drop j):Int)
def tabM (a b:List Int):List (List Int):=(List.range (a.length+1)).map (rowM a b)
@[simp] def S_ref09_Table:List D→Prop × D:=spec2 (α:=List Int) (β:=List Int) (fun a b=>a.length≤4096∧b.length≤4096) (fun a b=>Rep.to (tabM a b))
theorem ct_ref09_Table {P:Program} {f:Nat} {G:Gam} (h:CodeOf P f 2 11 [2] x_ref09_Table) (hG:GamOk P G):Has P f S_ref09_Table:=h.has2 hG fun a b hp=>by
  obtain⟨ha,hb⟩:=hp
  have w1:=wrap_in (n:=(b.length:Int)+1) (by omega) (by omega)
  have w2:=wrap_in (n:=(a.length:Int)+1) (by omega) (by omega)
  simp[x_ref09_Table,w1,w2]
  refine⟨⟨by omega,by unfold room;omega,by omega⟩,?_⟩
  obtain⟨out,ho⟩:∃out:Nat→List A,∀i,out i=(List.range (a.length+1)).map (fun k=>if k<i then A.d .nilsl else .d (Rep.to (rowM a b k))):=⟨_,fun _=>rfl⟩
  obtain⟨row,hr⟩:∃row:Nat→Nat→List A,∀i j,row i j=(List.range (b.length+1)).map (fun k=>if k<j then A.d (.int .i64 0) else .d (.int .i64 (dist (a.drop i) (b.drop k):Int))):=⟨_,fun _ _=>rfl⟩
  have hol:∀i,(out i).length=a.length+1:=fun i=>by rw[ho];simp
  have hrl:∀i j,(row i j).length=b.length+1:=fun i j=>by rw[hr];simp
  obtain⟨Tf,hT⟩:∃Tf:Nat→List A,∀i,Tf i=[.d (Rep.to a),.d (Rep.to b),.any,.own 0 0 0 (a.length+1),.d (.int .i64 ((i:Int)-1)),.any,.any,.any,.any,.any,.any]:=⟨_,fun _=>rfl⟩
  obtain⟨sf,hsf⟩:∃sf:Nat→Store,∀i,sf i=[.cells 0 1 (out i)]:=⟨_,fun _=>rfl⟩
  have hoi:∀i,i≤a.length→∀x,((out (i+1)).set i x).getD i .any=x:=by
    intro i hi x
    have:i<((out (i+1)).set i x).length:=by rw[List.length_set,hol];omega
    rw[List.getD,List.getElem?_eq_getElem this]
    simp
  have hos:∀i,i≤a.length→(out (i+1)).set i (.d (Rep.to (rowM a b i)))=out i:=by
    intro i hi
    rw[ho,ho]
    apply List.ext_getElem
    · simp
    · intro k h1 h2
      rw[List.getElem_set]
      simp
      by_cases h3:i=k
      · subst h3;simp
      · by_cases h4:k<i
        · simp[h3,h4,show k<i+1 by omega]
        · simp[h3,h4,show ¬k<i+1 by omega]
  have hon:∀i k,i<k→k≤a.length→(out i).getD k .any=.d (Rep.to (rowM a b k)):=by
    intro i k h1 h2
    rw[ho]
    have:k<a.length+1:=by omega
    simp[List.getD,this,show ¬k<i by omega]
  have hrow:∀k,(rowM a b k).length=b.length+1:=fun k=>by simp[rowM]
  have hrg:∀k j,j≤b.length→((rowM a b k).map Rep.to)[j]?.getD default=D.int .i64 (dist (a.drop k) (b.drop j):Int):=by
    intro k j hj
    have:j<b.length+1:=by omega
    simp[rowM,this]
  have hrr:∀i j k,j≤k→k≤b.length→(row i j)[k]?.getD .any=.d (.int .i64 (dist (a.drop i) (b.drop k):Int)):=by
    intro i j k h1 h2
    have:k<b.length+1:=by omega
    rw[hr]
    simp[this,show ¬k<j by omega]
  have hrs:∀i j,j≤b.length→(row i (j+1)).set j (.d (.int .i64 (dist (a.drop i) (b.drop j):Int)))=row i j:=by
    intro i j hj
    rw[hr,hr]
    apply List.ext_getElem
    · simp
    · intro k h1 h2
      rw[List.getElem_set]
      simp
      by_cases h3:j=k
      · subst h3;simp
      · by_cases h4:k<j
        · simp[h3,h4,show k<j+1 by omega]
        · simp[h3,h4,show ¬k<j+1 by omega]
  have hnx:∀i x,i<a.length→((out (i+1)).set i x)[i+1]?.getD .any=.d (Rep.to (rowM a b (i+1))):=by
    intro i x h1
    have:=hon (i+0) (i+1) (by omega) (by omega)
    rw[List.getElem?_set_ne (by omega),ho]
    have:i+1<a.length+1:=by omega
    simp[this]
  have hng:∀i (h:i+1<(out (i+1)).length),(out (i+1))[i+1]=.d (Rep.to (rowM a b (i+1))):=by
    intro i h
    simp[ho]
  have hrg':∀k j (h:j<(rowM a b k).length),(rowM a b k)[j]=(dist (a.drop k) (b.drop j):Int):=by
    intro k j h
    simp[rowM]
  have hrr':∀i j (h:j<(row i j).length),(row i j)[j]=.d (.int .i64 (dist (a.drop i) (b.drop j):Int)):=by
    intro i j h
    simp[hr]
  have hcm:∀k,k≤a.length→∀j,j≤b.length→dist (a.drop k) (b.drop j)≤10000:=by
    intro k hk j hj
    have:=(dist_bounds (a.drop k) (b.drop j)).2.2.1
    simp at this
    omega
  refine vc_ghostR (σ:=Nat) (fun i=>i≤a.length+1) (fun i=>i) Tf sf (a.length+1) ⟨?_,by omega⟩ ?_
  · rw[hT,hsf]
    refine Re.wf _ [true,true,false,true,true] 1 (by omega) (by simp) (WkS.refl _ _ _) ?_ ?_ ?_
    · simp[inScope]
    · simp
    · simp
      rw[ho]
      apply List.ext_getElem
      · simp
      · intro k h1 h2
        simp at h1
        simp[h1]
  · intro i hi
    rw[hT,hsf]
    rcases i with _ | i
    · simp
      have hoe:out 0=(tabM a b).map (fun x=>A.d (Rep.to x)):=by rw[ho,tabM];simp
      have hol0:=hol 0
      refine⟨?_,?_⟩
      · simp only[bor,List.getD_cons_zero,hoe,List.drop_zero]
        refine⟨trivial,?_⟩
        rw[List.all_eq_true]
        intro x hx
        obtain⟨y,_,rfl⟩:=List.mem_map.1 (List.mem_of_mem_take hx)
        rfl
      · simp only[bor,List.getD_cons_zero,hoe,List.drop_zero]
        rw[List.take_of_length_le (by simp[tabM]),List.map_map]
        simp only[LeD_sl,true_and]
        rfl
    · have w3:((i+1:Nat):Int)-1=(i:Int):=by omega
      have hla:i<a.length+1:=by omega
      simp[w3,w1,hla,hol]
      refine⟨by unfold room;omega,by omega,?_⟩
      obtain⟨T2,hT2⟩:∃Tf:Nat→List A,∀j,Tf j=[.d (Rep.to a),.d (Rep.to b),.any,.own 0 0 0 (a.length+1),.d (.int .i64 i),.d (.int .i64 ((j:Int)-1)),.any,.any,.any,.any,.any]:=⟨_,fun _=>rfl⟩
      obtain⟨s2,hs2⟩:∃sf:Nat→Store,∀j,sf j=[.cells 0 1 ((out (i+1)).set i (.own 1 0 0 (b.length+1))),.cells 0 1 (row i j)]:=⟨_,fun _=>rfl⟩
      refine vc_ghostR (σ:=Nat) (fun j=>j≤b.length+1) (fun j=>j) T2 s2 (b.length+1) ⟨?_,by omega⟩ ?_
      · rw[hT2,hs2]
        refine Re.wf _ [true,true,false,true,true,true] 2 (by omega) (by simp) (WkS.refl _ _ _) ?_ ?_ ?_
        · simp[inScope]
        · simp
        · simp
          rw[hr]
          apply List.ext_getElem
          · simp
          · intro k h1 h2
            simp at h1
            simp[h1]
      · intro j hj
        rw[hT2,hs2]
        rcases j with _ | j
        · have w6:=wrap_in (n:=(i:Int)-1) (by omega) (by omega)
          simp[w6]
          have hrw0:row i 0=(rowM a b i).map (fun x=>A.d (Rep.to x)):=by rw[hr,rowM];simp
          have hfz:(((row i 0).drop 0).take (b.length+1)).all A.isD=true:=by
            rw[hrw0,List.drop_zero,List.take_of_length_le (by simp[hrow]),List.all_eq_true]
            intro x hx
            obtain⟨y,_,rfl⟩:=List.mem_map.1 hx
            rfl
          have hfr:=Fz.own 1 0 1 0 (b.length+1) (row i 0) hfz
          have e0:(((row i 0).drop 0).take (b.length+1)).map A.toD=(rowM a b i).map Rep.to:=by
            rw[hrw0,List.drop_zero,List.take_of_length_le (by simp[hrow]),List.map_map]
            rfl
          rw[e0] at hfr
          refine⟨i,by omega,?_,by omega⟩
          rw[hT,hsf]
          refine Re.trans (Re.freeze (s':=[.cells 0 1 (out i),.dead]) 1 0 1 (row i 0) rfl (FzL.refl _ _ _ _ _) ⟨rfl,?_⟩ rfl) ?_
          · intro k hk h0
            have hk0:k=0:=by simp at hk;omega
            subst hk0
            refine .inr ⟨0,1,_,_,rfl,rfl,by simp[hol],?_⟩
            intro k hk
            rw[← hos i (by omega)]
            have hkl:k<(out (i+1)).length:=by simp at hk;exact hk
            by_cases h1:i=k
            · subst h1
              simp[List.getD,hkl]
              exact hfr
            · simp[List.getD,hkl,List.getElem_set_ne h1]
              simp[ho]
              by_cases h2:k<i+1
              · simp[h2,A.cells]
              · simp[h2,A.cells]
          · refine Re.wf _ [true,true,false,true,true] 1 (by omega) (by simp) (WkS.refl _ _ _) ?_ ?_ ?_
            · simp[inScope]
              intro x hx
              rw[ho] at hx
              obtain⟨y,_,rfl⟩:=List.mem_map.1 hx
              by_cases h1:y<i <;> simp[h1]
            · simp
            · simp
        · have w4:((j+1:Nat):Int)-1=(j:Int):=by omega
          have hlb:j<b.length+1:=by omega
          have fin:∀v:Int,v=(dist (a.drop i) (b.drop j):Int)→∀c1 c2 c3 c4 c5:A,Re 0 [.d (Rep.to a),.d (Rep.to b),.any,.own 0 0 0 (a.length+1),.d (.int .i64 i),.d (.int .i64 ((j:Int)-1)),c1,c2,c3,c4,c5]
              [.cells 0 1 ((out (i+1)).set i (.own 1 0 0 (b.length+1))),.cells 0 1 ((row i (j+1)).set j (.d (.int .i64 v)))] (T2 j) (s2 j):=by
            intro v hv c1 c2 c3 c4 c5
            rw[hv,hrs i j (by omega),hT2,hs2]
            refine Re.wf _ [true,true,false,true,true,true] 2 (by omega) (by simp) (WkS.refl _ _ _) ?_ ?_ ?_
            · simp[inScope]
            · simp
            · simp
          have w5:=wrap_in (n:=(j:Int)-1) (by omega) (by omega)
          by_cases h1:i=a.length
          · subst h1
            simp[w4,hol,hrl,hla,hlb,w5]
            refine⟨by omega,by omega,j,by omega,fin _ ?_ _ _ _ _ _,by omega⟩
            rw[List.drop_length,dist_nil,List.length_drop,wrap_in (n:=(b.length:Int)-j) (by omega) (by omega)]
            omega
          · have h1':¬(i:Int)=a.length:=by omega
            by_cases h2:j=b.length
            · subst h2
              simp[w4,hol,hrl,hla,hlb,w5,h1']
              refine⟨by omega,by omega,b.length,by omega,fin _ ?_ _ _ _ _ _,by omega⟩
              rw[List.drop_length,dist_nil',List.length_drop,wrap_in (n:=(a.length:Int)-i) (by omega) (by omega)]
              omega
            · have h2':¬(j:Int)=b.length:=by omega
              have h3:i<a.length:=by omega
              have h4:j<b.length:=by omega
              have e1:=hnx i (.own 1 0 0 (b.length+1)) h3
              have e2:=hrg (i+1) (j+1) (by omega)
              have e3:=hrg (i+1) j (by omega)
              have e4:=hrr i (j+1) (j+1) (by omega) (by omega)
              by_cases h5:a[i]=b[j]
              · simp[w4,hol,hrl,hla,hlb,w5,h1',h2',h3,h4,getD_map,h5,pairsOk,disj,add1 h3 (by omega),add1 h4 (by omega),hng,hrg',hrow]
                refine⟨by omega,by omega,by omega,by omega,j,by omega,fin _ ?_ _ _ _ _ _,by omega⟩
                rw[List.drop_eq_getElem_cons h3,List.drop_eq_getElem_cons h4,h5,dist_eq]
              · have b1:=hcm (i+1) (by omega) j (by omega)
                have b2:=hcm i (by omega) (j+1) (by omega)
                simp[w4,hol,hrl,hla,hlb,w5,h1',h2',h3,h4,getD_map,h5,pairsOk,disj,add1 h3 (by omega),add1 h4 (by omega),hng,hrg',hrr',hrow]
                refine⟨by omega,by omega,by omega,by omega,by omega,by omega,j,by omega,fin _ ?_ _ _ _ _ _,by omega⟩
                rw[wrap_in (by omega) (by omega),List.drop_eq_getElem_cons h3,List.drop_eq_getElem_cons h4,dist_ne h5,← List.drop_eq_getElem_cons h3,← List.drop_eq_getElem_cons h4]
                omega
theorem tabM_len (a b:List Int):(tabM a b).length=a.length+1:=by simp[tabM]
theorem tabM_get (a b:List Int) (i:Nat) (h:i<(tabM a b).length):(tabM a b)[i]=rowM a b i:=by simp[tabM]
theorem rowM_len (a b:List Int) (i:Nat):(rowM a b i).length=b.length+1:=by simp[rowM]
theorem rowM_get (a b:List Int) (i j:Nat) (h:j<(rowM a b i).length):(rowM a b i)[j]=(dist (a.drop i) (b.drop j):Int):=by simp[rowM]
@[simp] def S_ref09_Walk:List D→Prop × D:=spec2 (α:=List Int) (β:=List Int) (fun a b=>a.length≤4096∧b.length≤4096) (fun a b=>Rep.to (scriptV a b))
theorem ct_ref09_Walk {P:Program} {f g1 g2:Nat} {G:Gam} (h:CodeOf P f 2 10 [2] (x_ref09_Walk g1 g2)) (hG:GamOk P G) (hg1:G.find g1=some S_ref09_Table) (hg2:G.find g2=some S_ref08_Made):Has P f S_ref09_Walk:=h.has2 hG fun a b hp=>by
  obtain⟨ha,hb⟩:=hp
  simp[x_ref09_Walk,hg1,hg2]
  refine⟨⟨ha,hb⟩,?_⟩
  have hasc:=walkV_asc a b 0 0
  simp only[Int.zero_add] at hasc
  obtain⟨W,hW⟩:∃W,W=walkV a b 0 0:=⟨_,rfl⟩
  have hWl:W.length≤4096:=by rw[hW];have:=walkV_len a b 0 0;omega
  have hWm:∀s,s∈W→numOk s.fr∧numOk s.to:=by
    intro s hs
    have:=ascB_mem hasc s (by rw[← hW];exact hs)
    unfold numOk
    omega
  have hWs:scriptV a b=madeV W a.length b.length:=by rw[hW];rfl
  obtain⟨Tf,hT⟩:∃Tf:Nat × Nat × List SpanT→List A,∀x,Tf x=[.d (Rep.to a),.d (Rep.to b),.any,.d (Rep.to (tabM a b)),.gr 0 2 (x.2.2.map Rep.to),.d (.int .i64 x.1),.d (.int .i64 x.2.1),.any,.any,.any]:=⟨_,fun _=>rfl⟩
  obtain⟨sf,hsf⟩:∃sf:Nat × Nat × List SpanT→Store,∀x,sf x=[.tip x.2.2.length]:=⟨_,fun _=>rfl⟩
  refine vc_ghost (σ:=Nat × Nat × List SpanT) [true,true,false,true,true,true,true] 1 (fun x=>x.1≤a.length∧x.2.1≤b.length∧x.2.2++walkV (a.drop x.1) (b.drop x.2.1) x.1 x.2.1=W)
    (fun x=>a.length-x.1+(b.length-x.2.1)) Tf sf (0,0,[]) (by omega) (by simp[inScope]) ?_ ?_
  · simp[hT,hsf,hW]
  rintro⟨i,j,out⟩ ⟨h1,h2,h3⟩
  simp only at h1 h2 h3
  rw[hT,hsf]
  have hol:out.length≤W.length:=by rw[← h3];simp
  have r1:room (out.length+1) 16:=by unfold room;omega
  have h7:i<a.length+1:=by omega
  have h8:j<b.length+1:=by omega
  have hcm:∀k l,dist (a.drop k) (b.drop l)≤10000:=by
    intro k l
    have:=(dist_bounds (a.drop k) (b.drop l)).2.2.1
    simp at this
    omega
  have b1:=hcm (i+1) j
  have w7:=wrap_in (n:=(dist (a.drop (i+1)) (b.drop j):Int)+1) (by omega) (by omega)
  by_cases h4:i<a.length
  · have h4':(i:Int)<a.length:=by omega
    by_cases h5:j<b.length
    · have h5':(j:Int)<b.length:=by omega
      by_cases h6:a[i]=b[j]
      · simp[h4,h5,h4',h5',h6,getD_map,inScope,pairsOk,disj,add1 h4 (by omega),add1 h5 (by omega)]
        rw[List.drop_eq_getElem_cons h4,List.drop_eq_getElem_cons h5,h6,walkV_eq] at h3
        refine⟨r1,i+1,j+1,by omega,out++[⟨i,j⟩],by rw[hT];simp,by rw[hsf];simp,by omega,by omega,?_⟩
        rw[← h3]
        simp
      · simp[h4,h5,h4',h5',h6,getD_map,inScope,pairsOk,disj,add1 h4 (by omega),add1 h5 (by omega),tabM_len,tabM_get,rowM_len,rowM_get,h7,h8,w7]
        have e3:walkV (a.drop i) (b.drop j) i j=if dist (a.drop (i+1)) (b.drop j)+1=dist (a.drop i) (b.drop j) then walkV (a.drop (i+1)) (b.drop j) (i+1) j else walkV (a.drop i) (b.drop (j+1)) i (j+1):=by
          rw[List.drop_eq_getElem_cons h4,List.drop_eq_getElem_cons h5,walkV_ne h6]
        rw[e3] at h3
        refine⟨by omega,by omega,by omega,by omega,fun h9=>⟨i+1,j,by omega,out,by rw[hT];simp,by rw[hsf],by omega,by omega,?_⟩,fun h9=>⟨i,j+1,by omega,out,by rw[hT];simp,by rw[hsf],by omega,by omega,?_⟩⟩
        · rw[if_pos (by omega)] at h3
          exact h3
        · rw[if_neg (by omega)] at h3
          exact h3
    · have h5':¬(j:Int)<b.length:=by omega
      simp[h4,h5,h4',h5',getD_map,inScope,pairsOk,disj,add1 h4 (by omega),tabM_len,tabM_get,rowM_len,rowM_get,h7,h8,w7]
      have e1:j=b.length:=by omega
      have e2:dist (a.drop i) (b.drop j)=dist (a.drop (i+1)) (b.drop j)+1:=by
        subst e1
        rw[List.drop_length,dist_nil',dist_nil',List.length_drop,List.length_drop]
        omega
      have e3:walkV (a.drop i) (b.drop j) i j=walkV (a.drop (i+1)) (b.drop j) ((i+1:Nat):Int) j:=by
        subst e1
        rw[List.drop_length,walkV_nil',walkV_nil']
      refine⟨by omega,by omega,by omega,by omega,fun h9=>⟨i+1,j,by omega,out,by rw[hT];simp,by rw[hsf],by omega,by omega,by rw[← h3,e3]⟩,fun h9=>?_⟩
      exact absurd (by rw[e2];push_cast;rfl) h9
  · have h4':¬(i:Int)<a.length:=by omega
    by_cases h5:j<b.length
    · have h5':(j:Int)<b.length:=by omega
      simp[h4,h5,h4',h5',getD_map,inScope,pairsOk,disj,add1 h5 (by omega),tabM_len,tabM_get,rowM_len,rowM_get,h7,h8,w7]
      have e1:i=a.length:=by omega
      subst e1
      rw[List.drop_length,walkV_nil] at h3
      exact⟨a.length,j+1,by omega,out,by rw[hT];simp,by rw[hsf],by omega,by omega,by rw[List.drop_length,walkV_nil];exact h3⟩
    · have h5':¬(j:Int)<b.length:=by omega
      simp[h4,h5,h4',h5',hg2]
      have e1:i=a.length:=by omega
      subst e1
      rw[List.drop_length,walkV_nil,List.append_nil] at h3
      subst h3
      refine⟨⟨by omega,by unfold numOk;omega,by unfold numOk;omega,hWm⟩,?_⟩
      rw[hWs]
end Go.AE
namespace Go.AE
end Go.AE
namespace Go.AE
end Go.AE
namespace Go.AE
end Go.AE
namespace Go.AE
end Go.AE
namespace Go.AE
end Go.AE
namespace Go.AE
end Go.AE
namespace Go.AE
def A.gvd (α:Type) [Rep α] [Inhabited α] (x:A):α:=(Rep.of x.toD).getD default
attribute [simp] A.gvd
end Go.AE
namespace Go.AE
def A.gfn:A→Nat
  | .fn (.func g) _ _=>g
  | _=>0
attribute [simp] A.gfn
theorem FinR.drop {rs:List Nat} {o:Ob} {r:D} {T:List A} (h:resOf rs T [o,.dead]=.d r) (ho:o.under 1=true) (hp:resPre rs T [o,.dead]):FinR rs [o] (.d r) [o] .ret T [o,.dead]:=by
  refine FinR.done (by simp) ?_ rfl h.symm ?_ rfl hp
  · simp
  · simpa using ho
end Go.AE
namespace Go.AE
end Go.AE
namespace Go.AE
@[simp] theorem SbS_self:∀s:Store,SbS s s=True
  | []=>rfl
  | x::s=>by rw[SbS_cons,SbO_refl,SbS_self s];simp
def Ob.len:Ob→Nat
  | .cells _ _ xs=>xs.length
  | _=>0
def Ob.agn:Ob→Nat→A
  | .cells _ _ (.agg cs::_),j=>cs.getD j .any
  | _,_=>.any
def A.dl:A→List D
  | .d (.sl _ xs)=>xs
  | _=>[]
attribute [simp] A.dl Ob.agn
end Go.AE
namespace Go.AE
end Go.AE
namespace Go.AE
end Go.AE
namespace Go.AE
@[simp] def S_ref09_Lines:List D→Prop × D:=spec2 (α:=List Str) (β:=List Str) (fun a b=>a.length≤4096∧b.length≤4096) (fun a b=>Rep.to (scriptV ((idsV [a,b]).getD 0 []) ((idsV [a,b]).getD 1 [])))
theorem ct_ref09_Lines {P:Program} {f g1 g2:Nat} {G:Gam} (h:CodeOf P f 2 4 [2] (x_ref09_Lines g1 g2)) (hG:GamOk P G) (h1:G.find g1=some S_ref03_Ids) (h2:G.find g2=some S_ref09_Walk):Has P f S_ref09_Lines:=h.has2 hG fun a b hp=>by
  obtain⟨p1,p2⟩:=hp
  have hsm:smallL [a,b]:=⟨by simp,by simp;omega⟩
  have hi:idsV [a,b]=[a.map (placeV (namesV [a,b])),b.map (placeV (namesV [a,b]))]:=rfl
  simp[x_ref09_Lines,h1,h2,hsm,hi,p1,p2]
def blobsD (a b:Str):D:=if checkT a=0 then (if checkT b=0 then .tup [Rep.to (scriptV ((idsV [linesV a,linesV b]).getD 0 []) ((idsV [linesV a,linesV b]).getD 1 [])),.int .i64 0] else .tup [.nilsl,.int .i64 1]) else .tup [.nilsl,.int .i64 1]
@[simp] def S_ref09_Blobs:List D→Prop × D:=spec2 (α:=Str) (β:=Str) (fun a b=>a.length≤4194304∧b.length≤4194304) (fun a b=>blobsD a b)
theorem checkT_lines {s:Str} (h:checkT s=0):(linesV s).length≤4096:=by
  unfold checkT at h
  split at h
  · rename_i h2;exact h2.2
  · cases h
theorem ct_ref09_Blobs {P:Program} {f g1 g2:Nat} {G:Gam} (h:CodeOf P f 2 9 [2,3] (x_ref09_Blobs g1 g2)) (hG:GamOk P G) (h1:G.find g1=some S_ref02_Split) (h2:G.find g2=some S_ref09_Lines):Has P f S_ref09_Blobs:=h.has2 hG fun a b hp=>by
  obtain⟨p1,p2⟩:=hp
  by_cases c1:checkT a=0
  · have:=checkT_lines c1
    by_cases c2:checkT b=0
    · have:=checkT_lines c2
      simp[x_ref09_Blobs,h1,h2,splitD,c1,c2,p1,p2,blobsD, *]
    · simp[x_ref09_Blobs,h1,h2,splitD,c1,c2,p1,p2,blobsD]
  · simp[x_ref09_Blobs,h1,h2,splitD,c1,p1,p2,blobsD]
@[simp] def S_shortest_Blobs:List D→Prop × D:=spec2 (α:=Str) (β:=Str) (fun a b=>a.length≤4194304∧b.length≤4194304) (fun a b=>blobsD a b)
theorem ct_shortest_Blobs {P:Program} {f g1 g2 g3:Nat} {G:Gam} (h:CodeOf P f 2 10 [2,3] (x_shortest_Blobs g1 g2 g3)) (hG:GamOk P G) (h1:G.find g1=some S_text_Split) (h2:G.find g2=some S_intern_Ids) (h3:G.find g3=some S_shortest_Script):Has P f S_shortest_Blobs:=h.has2 hG fun a b hp=>by
  obtain⟨p1,p2⟩:=hp
  by_cases c1:checkT a=0
  · have l1:=checkT_lines c1
    by_cases c2:checkT b=0
    · have l2:=checkT_lines c2
      have hsm:smallL [linesV a,linesV b]:=⟨by simp,by simp;omega⟩
      have hi:idsV [linesV a,linesV b]=[(linesV a).map (placeV (namesV [linesV a,linesV b])),(linesV b).map (placeV (namesV [linesV a,linesV b]))]:=rfl
      have hlg:¬longV ((linesV a).map (placeV (namesV [linesV a,linesV b]))) ((linesV b).map (placeV (namesV [linesV a,linesV b]))):=by unfold longV;simp;omega
      simp[x_shortest_Blobs,h1,h2,h3,splitD,c1,c2,p1,p2,blobsD,hsm,hi,hlg]
      omega
    · simp[x_shortest_Blobs,h1,h2,splitD,c1,c2,p1,p2,blobsD]
  · simp[x_shortest_Blobs,h1,h2,splitD,c1,p1,p2,blobsD]
theorem blobsD_small {a b:Str} (ha:a.length≤200) (hb:b.length≤200):∃l:List ChangeT,blobsD a b=.tup [Rep.to l,.int .i64 0]∧l.length≤5000:=by
  have ck:∀s:Str,s.length≤200→checkT s=0:=fun s h=>check_of (by omega) (by have:s.count 10≤s.length:=List.count_le_length;omega)
  refine⟨_,by unfold blobsD;rw[if_pos (ck a ha),if_pos (ck b hb)],?_⟩
  have h1:=scriptV_len ((idsV [linesV a,linesV b]).getD 0 []) ((idsV [linesV a,linesV b]).getD 1 [])
  have h2:((idsV [linesV a,linesV b]).getD 0 []).length=(linesV a).length:=by
    show ((linesV a).map _).length=_
    simp
  have h3:=checkT_lines (ck a ha)
  omega
@[simp] def S_law09_ShortestBlobs:List D→Prop × D:=spec3 (α:=List Int) (β:=Str) (γ:=Str) (fun raw _ _=>raw.length≤9223372036854775807) (fun _ _ _=>.bool true)
theorem ct_law09_ShortestBlobs {P:Program} {f g1 g2 g3 g4 g5 g6:Nat} {G:Gam} (h:CodeOf P f 3 15 [3] (x_law09_ShortestBlobs g1 g2 g3 g4 g5 g6)) (hG:GamOk P G) (h1:G.find g1=some S_law09_awake) (h2:G.find g2=some S_gen_Blob) (h3:G.find g3=some S_gen_Near) (h4:G.find g4=some S_shortest_Blobs) (h5:G.find g5=some S_ref09_Blobs) (h6:G.find g6=some S_gen_Changes):Has P f S_law09_ShortestBlobs:=h.has3 hG fun raw s t p1=>by
  by_cases c1:40<(s.length:Int)
  · simp[x_law09_ShortestBlobs,h1,c1]
  by_cases c2:40<(t.length:Int)
  · simp[x_law09_ShortestBlobs,h1,c1,c2]
  have b1:=(blobV_good raw 0 5 (n:=9) (by omega)).1
  have b2:=(nearV_good (blobV raw 0 9 5) raw 100).1
  have b3:=lines_blob raw 0 5 (n:=9) (by omega)
  obtain⟨l,e1,e2⟩:=blobsD_small (a:=blobV raw 0 9 5) (b:=nearV (blobV raw 0 9 5) raw 100) (by omega) (by omega)
  obtain⟨m,e3,e4⟩:=blobsD_small (a:=s) (b:=t) (by omega) (by omega)
  generalize hA:blobV raw 0 9 5=A at *
  generalize hB:nearV A raw 100=B at *
  simp[x_law09_ShortestBlobs,h1,h2,h3,h4,h5,h6,c1,c2,p1,hA,hB,e1,e3,show A.length≤4096 by omega,show A.length≤4194304 by omega,show B.length≤4194304 by omega,show s.length≤4194304 by omega,show t.length≤4194304 by omega,show l.length≤9223372036854775807 by omega,show m.length≤9223372036854775807 by omega]
theorem law09_ShortestBlobs_pre (raw:List Int) (s:Str) (t:Str) (w0:Arg.wf raw) (w1:Arg.wf s) (w2:Arg.wf t):raw.length≤9223372036854775807:=by
  have:=len_wf w0
  have:=str_wf w1
  have:=str_wf w2
  omega
end Go.AE
