/-
  Contracts: a strings.Builder that is handed on.
-/
import Derived.Test.YtafcebkjmeinnaaGreatDoorAe3
import Derived.Test.YtafcebkjmeinnaaGreatDoorCode1
import Derived.Lib.Bytealg
import Derived.Lib.Index
import Derived.Lib.IndexLaws
import Derived.Lib.IndexMore
import Derived.Lib.ItoaNum
import Derived.Lib.Join
import Derived.Lib.Split
import Derived.Lib.SplitLaws
import Derived.Lib.Strings

set_option linter.unusedSimpArgs false
set_option linter.unusedVariables false
set_option linter.unnecessarySimpa false
set_option maxRecDepth 20000
set_option maxHeartbeats 8000000
namespace Go.AE
def A.gbs:A→List UInt8
  | .bgr _ _ bs=>bs
  | _=>[]
@[simp] theorem gbs_bgr (l:Nat) (t:TypeId) (bs:List UInt8):A.gbs (.bgr l t bs)=bs:=rfl
@[simp] def buS (bs:Str):Store:=[.cells 0 2 [.agg [.tref 0 0 106,.bgr 1 5 bs]],.tip bs.length]
@[simp] def F_copyCheck:RF Str where
  new:=0
  view _ st:=((st.getD 0 .dead).at 0 1).gbs
  args _:=[.ref 0 0 0 0]
  st bs:=buS bs
  pre _:=True
  res _:=.tup []
  st' bs:=buS bs
abbrev R___strings_Builder__copyCheck:RSpec:=F_copyCheck.spec
structure BwX where
  bs:Str
  s:Str
@[simp] def F_WriteString:RF BwX where
  new:=0
  view a st:=⟨((st.getD 0 .dead).at 0 1).gbs,(a.getD 1 .any).gs⟩
  args x:=[.ref 0 0 0 0,.d (.str x.s)]
  st x:=buS x.bs
  pre x:=x.bs.length+x.s.length≤140737488355328
  res x:=.tup [.d (.int .i64 x.s.length),.d .nilif]
  st' x:=buS (x.bs++x.s)
abbrev R___strings_Builder__WriteString:RSpec:=F_WriteString.spec
theorem ct___strings_Builder__WriteString {P:Program} {f g1:Nat} {G:Gam} (hc:CodeOf P f 2 4 [2,3] (x___strings_Builder__WriteString g1)) (hG:GamOk P G) (h1:G.findR g1=some R___strings_Builder__copyCheck):RSpec.Ok P f R___strings_Builder__WriteString:=by
  refine RF.ok hc.call fun x hx=>hc.rcalls hG rfl ?_
  obtain⟨bs,s⟩:=x
  have hx:bs.length+s.length≤140737488355328:=hx
  simp[x___strings_Builder__WriteString,startA,eRCall,h1]
  exact⟨by unfold room;omega,FinR.done (by simp) (by simp) rfl (by simp[resOf,resE]) (by simp) (by simp)⟩
structure BcX where
  bs:Str
  c:Int
@[simp] def F_WriteByte:RF BcX where
  new:=0
  view a st:=⟨((st.getD 0 .dead).at 0 1).gbs,(a.getD 1 .any).gi⟩
  args x:=[.ref 0 0 0 0,.d (.int .u8 x.c)]
  st x:=buS x.bs
  pre x:=x.bs.length+1≤140737488355328∧0≤x.c∧x.c<256
  res x:=.d .nilif
  st' x:=buS (x.bs++[UInt8.ofNat x.c.toNat])
abbrev R___strings_Builder__WriteByte:RSpec:=F_WriteByte.spec
theorem ct___strings_Builder__WriteByte {P:Program} {f g1:Nat} {G:Gam} (hc:CodeOf P f 2 3 [2] (x___strings_Builder__WriteByte g1)) (hG:GamOk P G) (h1:G.findR g1=some R___strings_Builder__copyCheck):RSpec.Ok P f R___strings_Builder__WriteByte:=by
  refine RF.ok hc.call fun x hx=>hc.rcalls hG rfl ?_
  obtain⟨bs,c⟩:=x
  obtain⟨p1,p2,p3⟩:=hx
  simp only at p1 p2 p3
  simp[x___strings_Builder__WriteByte,startA,eRCall,h1]
  exact⟨by unfold room;omega,FinR.done (by simp) (by simp) rfl (by simp[resOf,resE]) (by simp) (by simp)⟩
@[simp] def F_String:RF Str where
  new:=0
  view _ st:=((st.getD 0 .dead).at 0 1).gbs
  args _:=[.ref 0 0 0 0]
  st bs:=buS bs
  pre bs:=bs≠[]∧bs.length≤140737488355328
  res bs:=.d (.str bs)
  st' _:=[.dead,.dead]
abbrev R___strings_Builder__String:RSpec:=F_String.spec
def modV (a n:Int):Int:=(a % 18446744073709551616) % n
theorem modV_lt (a:Int) {n:Int} (h:1≤n):0≤modV a n∧modV a n<n:=⟨Int.emod_nonneg _ (by omega),Int.emod_lt_of_pos _ (by omega)⟩
@[simp] def S_gen_Mod:List D→Prop × D:=spec2 (α:=Int) (β:=Int) (fun _ n=>1≤n∧n≤9223372036854775807) (fun a n=>Rep.to (modV a n))
theorem ct_gen_Mod {P:Program} {f:Nat} {G:Gam} (h:CodeOf P f 2 3 [2] x_gen_Mod) (hG:GamOk P G):Has P f S_gen_Mod:=h.has2 hG fun a n hp=>by
  obtain⟨h,h2⟩:=hp
  simp[x_gen_Mod]
  have e1:IntKind.u64.wrap n=n:=by simp[IntKind.wrap,IntKind.bits,IntKind.signed];omega
  have e2:IntKind.u64.wrap a=a % 18446744073709551616:=by simp[IntKind.wrap,IntKind.bits,IntKind.signed]
  rw[e1,e2]
  refine⟨by omega,?_⟩
  have e3:(a % 18446744073709551616).tmod n=modV a n:=by
    rw[Int.tmod_eq_emod_of_nonneg (by omega)];rfl
  have:=modV_lt a h
  rw[e3,wrap_in] <;> omega
def lines:List Str:=[[97],[98],[99],[97,98],[98,97],[],[97,97],[98,32,97],[120,43,121],[92]]
def lineV (k:Int):Str:=lines.getD (modV k 10).toNat []
@[simp] def S_gen_Line:List D→Prop × D:=spec1 (α:=Int) (fun _=>True) (fun a=>Rep.to (lineV a))
theorem ct_gen_Line {P:Program} {f g:Nat} {G:Gam} (h:CodeOf P f 1 2 [1] (x_gen_Line g)) (hG:GamOk P G) (hg:G.find g=some S_gen_Mod):Has P f S_gen_Line:=h.has1 hG fun k _=>by
  simp[x_gen_Line,hg]
  obtain⟨h1,h2⟩:=modV_lt k (n:=10) (by omega)
  refine⟨⟨h1,h2⟩,?_⟩
  unfold lineV
  generalize modV k 10=r at *
  obtain⟨n,rfl⟩:=Int.eq_ofNat_of_zero_le h1
  have hn:n<10:=by omega
  rw[show ([D.str [97],D.str [98],D.str [99],D.str [97,98],D.str [98,97],D.str [],D.str [97,97],D.str [98,32,97],D.str [120,43,121],D.str [92]]:List D)=lines.map Rep.to from rfl]
  have e:((lines.map Rep.to)[(n:Int).toNat]?.getD default:D)=D.str (lines.getD n []):=by
    have hl:n<lines.length:=hn
    simp[hl,List.getD]
  rw[e]
  simp
def xorV (a b:Int):Int:=IntKind.u64.wrap ((a % 2 ^ IntKind.u64.bits).toNat ^^^ (b % 2 ^ IntKind.u64.bits).toNat:Nat)
def hashV (x:Int):Int:=IntKind.u64.wrap (xorV x (x.fdiv (2 ^ min 31 IntKind.u64.bits)) * 13787848793156543929)
def finV (x:Int):Int:=IntKind.i64.wrap ((xorV x (x.fdiv (2 ^ min 29 IntKind.u64.bits))).fdiv (2 ^ min 1 IntKind.u64.bits))
theorem lockT:(fun _:Int=>True)=(fun x:Int=>x=x):=funext fun _=>propext ⟨fun _=>rfl,fun _=>trivial⟩
def lock (v:Int):Int:=(cast (congrArg Subtype lockT) (⟨v,trivial⟩:{_x:Int // True}):{x:Int // x=x}).1
theorem lock_gen {p q:Int→Prop} (h:p=q) (v:Int) (hv:p v):(cast (congrArg Subtype h) (⟨v,hv⟩:Subtype p):Subtype q).1=v:=by subst h;rfl
theorem lock_eq (v:Int):lock v=v:=lock_gen lockT v trivial
def atU (raw:List Int) (k:Int):Int :=
  let x0:=IntKind.u64.wrap (IntKind.u64.wrap (IntKind.i64.wrap (k+1)) * 11400714819323198485)
  finV (hashV (if raw=[] then x0 else xorV x0 (IntKind.u64.wrap (raw.getD (k.toNat % raw.length) 0))))
def atV (raw:List Int) (k:Int):Int:=lock (atU raw k)
theorem atV_eq (raw:List Int) (k:Int):atV raw k=atU raw k:=lock_eq _
theorem atV_range (raw:List Int) (k:Int):0≤atV raw k∧atV raw k≤9223372036854775807:=by
  rw[atV_eq]
  unfold atU
  simp only
  generalize (hashV _)=y
  unfold finV
  have h1:0≤xorV y (y.fdiv (2 ^ min 29 IntKind.u64.bits))∧xorV y (y.fdiv (2 ^ min 29 IntKind.u64.bits))<18446744073709551616:=by
    unfold xorV
    generalize (_ ^^^ _:Nat)=z
    simp[IntKind.wrap,IntKind.bits,IntKind.signed]
    omega
  generalize xorV _ _=z at h1
  have h2:z.fdiv (2 ^ min 1 IntKind.u64.bits)=z / 2:=by
    rw[Int.fdiv_eq_ediv_of_nonneg _ (by simp[IntKind.bits])];rfl
  rw[h2,wrap_in] <;> omega
@[simp] def S_gen_At:List D→Prop × D:=spec2 (α:=List Int) (β:=Int) (fun raw k=>0≤k∧k<9223372036854775807∧raw.length≤9223372036854775807) (fun raw k=>Rep.to (atV raw k))
theorem ct_gen_At {P:Program} {f:Nat} {G:Gam} (h:CodeOf P f 2 5 [2] x_gen_At) (hG:GamOk P G):Has P f S_gen_At:=h.has2 hG fun raw k hp=>by
  obtain⟨h1,h2,h3⟩:=hp
  obtain⟨n,rfl⟩:=Int.eq_ofNat_of_zero_le h1
  simp[x_gen_At]
  refine⟨fun h4=>?_,fun h4=>?_⟩
  · have e:(n:Int).tmod raw.length=((n % raw.length:Nat):Int):=by rw[Int.tmod_eq_emod_of_nonneg (by omega)];simp
    have h5:n % raw.length<raw.length:=Nat.mod_lt _ h4
    have h6:raw≠[]:=by intro h;simp[h] at h4
    have ha:atV raw n=finV (hashV (xorV (IntKind.u64.wrap (IntKind.u64.wrap (IntKind.i64.wrap (n+1)) * 11400714819323198485)) (IntKind.u64.wrap raw[n % raw.length]))):=by
      simp[atV_eq,atU,h6,List.getD,h5]
    rw[e,ha]
    generalize n % raw.length=q at h5
    simp[h5,h6,getD_map]
    rfl
  · rw[atV_eq]
    unfold atU
    simp only[h4,if_true]
    rfl
def splitF (cur:Str):Str→List Str
  | []=>[cur]
  | c::s=>if c=10 then (cur++[c])::splitF [] s else splitF (cur++[c]) s
def linesF (cur:Str):Str→List Str
  | []=>if cur=[] then [] else [cur]
  | c::s=>if c=10 then (cur++[c])::linesF [] s else linesF (cur++[c]) s
def linesV (s:Str):List Str:=linesF [] s
theorem splitF_lines:∀(s cur:Str),∃l r,splitF cur s=l++[r]∧linesF cur s=if r=[] then l else l++[r]
  | [],cur=>⟨[],cur,rfl,by simp[linesF]⟩
  | c::s,cur=>by
    by_cases h:c=10
    · obtain⟨l,r,h1,h2⟩:=splitF_lines s []
      refine⟨(cur++[c])::l,r,by simp[splitF,h,h1],?_⟩
      simp only[linesF,h,if_true,h2]
      split <;> simp
    · obtain⟨l,r,h1,h2⟩:=splitF_lines s (cur++[c])
      exact⟨l,r,by simp[splitF,h,h1],by simp[linesF,h,h2]⟩
theorem occ10 (s:Str) (j:Nat):Lib.occAt s [10] j=true↔s[j]?=some 10:=by
  unfold Lib.occAt
  rw[← List.head?_drop]
  cases h:s.drop j with
  | nil=>simp
  | cons a t=>simp[List.isPrefixOf];exact eq_comm
theorem splitF_none:∀(s cur:Str),(∀j:Nat,s[j]?≠some 10)→splitF cur s=[cur++s]
  | [],cur,_=>by simp[splitF]
  | c::s,cur,h=>by
    have h0:c≠10:=by simpa using h 0
    have ih:=splitF_none s (cur++[c]) fun j=>by simpa using h (j+1)
    simp[splitF,h0,ih]
theorem splitF_some:∀(s cur:Str) (i:Nat),s[i]?=some 10→(∀j:Nat,j<i→s[j]?≠some 10)→splitF cur s=(cur++s.take (i+1))::splitF [] (s.drop (i+1))
  | [],cur,i,h,_=>by simp at h
  | c::s,cur,0,h,_=>by
    have:c=10:=by simpa using h
    simp[splitF,this]
  | c::s,cur,i+1,h,h2=>by
    have h0:c≠10:=by simpa using h2 0 (by omega)
    have ih:=splitF_some s (cur++[c]) i (by simpa using h) fun j hj=>by simpa using h2 (j+1) (by omega)
    simp[splitF,h0,ih]
theorem first10 (s:Str):(∀j:Nat,s[j]?≠some 10)∨∃i,s[i]?=some 10∧∀j:Nat,j<i→s[j]?≠some 10:=by
  induction s with
  | nil=>exact .inl fun j=>by simp
  | cons c s ih =>
    by_cases h:c=10
    · exact .inr ⟨0,by simp[h],fun j hj=>absurd hj (by omega)⟩
    · rcases ih with h1 | ⟨i,h1,h2⟩
      · refine .inl fun j=>?_
        cases j with
        | zero=>simpa using h
        | succ j=>simpa using h1 j
      · refine .inr ⟨i+1,by simpa using h1,fun j hj=>?_⟩
        cases j with
        | zero=>simpa using h
        | succ j=>simpa using h2 j (by omega)
theorem splitK_lines:∀(k:Nat) (s:Str),Lib.count s [10]=k→Lib.splitK [10] 1 k s=splitF [] s:=by
  intro k
  induction k with
  | zero =>
    intro s hk
    rcases first10 s with h | ⟨i,h1,h2⟩
    · rw[splitF_none s [] h];rfl
    · have hi:Lib.index s [10]=i:=Lib.index_first (by have:=List.getElem?_eq_some_iff.1 h1;obtain⟨h3,_⟩:=this;omega) ((occ10 s i).2 h1) fun j hj=>by
        have:=h2 j hj
        cases h3:Lib.occAt s [10] j with
        | false=>rfl
        | true=>exact absurd ((occ10 s j).1 h3) this
      have:=Lib.count_hit (by simp) hi
      omega
  | succ k ih =>
    intro s hk
    rcases first10 s with h | ⟨i,h1,h2⟩
    · have hi:Lib.index s [10]=-1:=Lib.index_none fun j hj=>by
        cases h3:Lib.occAt s [10] j with
        | false=>rfl
        | true=>exact absurd ((occ10 s j).1 h3) (h j)
      have:=Lib.count_miss hi
      omega
    · have hi:Lib.index s [10]=i:=Lib.index_first (by have:=List.getElem?_eq_some_iff.1 h1;obtain⟨h3,_⟩:=this;omega) ((occ10 s i).2 h1) fun j hj=>by
        have:=h2 j hj
        cases h3:Lib.occAt s [10] j with
        | false=>rfl
        | true=>exact absurd ((occ10 s j).1 h3) this
      have hc:=Lib.count_hit (by simp) hi
      have hn:¬((i:Int) == -1)=true:=by simp
      simp only[Lib.splitK,hi,hn,if_false,Int.toNat_natCast,List.length_singleton]
      simp only[List.length_singleton] at hc
      rw[ih _ (by omega),splitF_some s [] i h1 h2]
      simp
theorem linesF_count:∀(s cur:Str),(linesF cur s).length=s.count 10+if cur++s=[]∨(cur++s).getLast?=some 10∧s≠[] then 0 else 1
  | [],cur=>by
    by_cases h:cur=[] <;> simp[linesF,h]
  | c::s,cur=>by
    by_cases h:c=10
    · subst h
      have ih:=linesF_count s []
      simp only[linesF,if_true,List.length_cons,ih,List.nil_append,List.count_cons_self]
      by_cases hs:s=[]
      · subst hs;simp
      · simp only[hs,false_or,ne_eq,not_false_eq_true,and_true]
        have e:(cur++10::s).getLast?=s.getLast?:=by
          rw[List.getLast?_append]
          obtain⟨a,t,rfl⟩:=List.exists_cons_of_ne_nil hs
          simp[List.getLast?_cons]
        rw[e]
        simp only[List.append_eq_nil_iff,List.cons_ne_nil,and_false,reduceCtorEq,not_false_eq_true,and_true,false_or]
        omega
    · have ih:=linesF_count s (cur++[c])
      simp only[linesF,h,if_false,ih,List.append_assoc,List.singleton_append,List.count_cons_of_ne h]
      by_cases hs:s=[]
      · subst hs
        simp[h]
      · simp[hs]
theorem linesF_flat:∀(s cur:Str),(linesF cur s).flatten=cur++s
  | [],cur=>by by_cases h:cur=[] <;> simp[linesF,h]
  | c::s,cur=>by
    by_cases h:c=10
    · simp[linesF,h,linesF_flat s []]
    · simp[linesF,h,linesF_flat s (cur++[c])]
/-! what the library's functions answer -/
@[simp] def S_strings_Count:List D→Prop × D:=spec2 (α:=Str) (β:=Str) (fun _ n=>n.length=1) (fun s n=>.int .i64 (s.count (n.getD 0 0)))
@[simp] def S_strings_HasSuffix:List D→Prop × D:=spec2 (α:=Str) (β:=Str) (fun s _=>s.length≤9223372036854775807) (fun s p=>.bool (Lib.hasSuffix s p))
@[simp] def S_strings_TrimSuffix:List D→Prop × D:=spec2 (α:=Str) (β:=Str) (fun s _=>s.length≤9223372036854775807) (fun s p=>.str (Lib.trimSuffix s p))
@[simp] def S_strings_IndexByte:List D→Prop × D
  | [.str s,.int .u8 c]=>(0≤c∧c<256,.int .i64 (Lib.indexByte s c.toNat.toUInt8))
  | _=>(False,.nilp)
@[simp] def S_strings_Join:List D→Prop × D:=spec2 (α:=List Str) (β:=Str) (fun l sep=>l.length≤140737488355328∧(Lib.join l sep).length≤140737488355328) (fun l sep=>.str (Lib.join l sep))
@[simp] def S_strings_genSplit:List D→Prop × D
  | [.str s,.str sep,.int .i64 sv,.int .i64 n]=>(sep.length=1∧0≤sv∧sv≤1∧n=-1∧s.length<4294967281,Rep.to (α:=List Str) (Lib.splitK sep sv.toNat (Lib.count s sep) s))
  | _=>(False,.nilp)
@[simp] def S_strings_SplitAfter:List D→Prop × D:=spec2 (α:=Str) (β:=Str) (fun s sep=>sep.length=1∧s.length<4294967281) (fun s sep=>Rep.to (Lib.splitK sep 1 (Lib.count s sep) s))
theorem ct_strings_SplitAfter {P:Program} {f g:Nat} {G:Gam} (h:CodeOf P f 2 3 [2] (x_strings_SplitAfter g)) (hG:GamOk P G) (hg:G.find g=some S_strings_genSplit):Has P f S_strings_SplitAfter:=h.has2 hG fun s sep hp=>by
  obtain⟨h1,h2⟩:=hp
  simp[x_strings_SplitAfter,hg,h1,h2]
def endedV (s:Str):Bool:=decide (s.getLast?=some 10)
def bareV (s:Str):Str:=if endedV s then s.dropLast else s
theorem hasSuffix_ended (s:Str):Lib.hasSuffix s [10]=endedV s:=by
  unfold Lib.hasSuffix endedV
  by_cases h:s.getLast?=some 10
  · obtain⟨t,rfl⟩:=List.getLast?_eq_some_iff.1 h
    simp[List.isSuffixOf_iff_suffix]
  · simp only[h,decide_false]
    cases h2:[10].isSuffixOf s with
    | false=>rfl
    | true =>
      obtain⟨t,rfl⟩:=List.isSuffixOf_iff_suffix.1 h2
      simp at h
theorem trimSuffix_bare (s:Str):Lib.trimSuffix s [10]=bareV s:=by
  unfold Lib.trimSuffix bareV
  rw[hasSuffix_ended,List.dropLast_eq_take]
  rfl
@[simp] def S_text_Ended:List D→Prop × D:=spec1 (α:=Str) (fun s=>s.length≤9223372036854775807) (fun s=>.bool (endedV s))
theorem ct_text_Ended {P:Program} {f g:Nat} {G:Gam} (h:CodeOf P f 1 2 [1] (x_text_Ended g)) (hG:GamOk P G) (hg:G.find g=some S_strings_HasSuffix):Has P f S_text_Ended:=h.has1 hG fun s hp=>by
  simp[x_text_Ended,hg,hp,hasSuffix_ended]
@[simp] def S_text_Bare:List D→Prop × D:=spec1 (α:=Str) (fun s=>s.length≤9223372036854775807) (fun s=>.str (bareV s))
theorem ct_text_Bare {P:Program} {f g:Nat} {G:Gam} (h:CodeOf P f 1 2 [1] (x_text_Bare g)) (hG:GamOk P G) (hg:G.find g=some S_strings_TrimSuffix):Has P f S_text_Bare:=h.has1 hG fun s hp=>by
  simp[x_text_Bare,hg,hp,trimSuffix_bare]
theorem linesV_len (s:Str):(linesV s).length=s.count 10+if s≠[]∧endedV s=false then 1 else 0:=by
  rw[linesV,linesF_count]
  simp only[List.nil_append]
  by_cases h:s=[]
  · subst h;simp[endedV]
  · by_cases h2:s.getLast?=some 10 <;> simp[h,h2,endedV]
def checkT (s:Str):Int:=if s.length≤1048576∧(linesV s).length≤4096 then 0 else 1
def lenOk (s:Str):Prop:=s.length≤9223372036854775807
@[simp] theorem lenOk_4 {s:Str} (h:s.length≤4194304):lenOk s:=by unfold lenOk;omega
@[simp] theorem lenOk_1 {s:Str} (h:s.length≤1048576):lenOk s:=by unfold lenOk;omega
@[simp] theorem lenOk_9 {s:Str} (h:s.length≤9223372036854775807):lenOk s:=h
@[simp] def S_text_Check:List D→Prop × D:=spec1 (α:=Str) lenOk (fun s=>.int .i64 (checkT s))
theorem ct_text_Check {P:Program} {f g1 g2:Nat} {G:Gam} (h:CodeOf P f 1 5 [1] (x_text_Check g1 g2)) (hG:GamOk P G) (h1:G.find g1=some S_strings_Count) (h2:G.find g2=some S_text_Ended):Has P f S_text_Check:=h.has1 hG fun s hp=>by
  have hc:s.count 10≤s.length:=List.count_le_length
  have hl:=linesV_len s
  have hp':s.length≤9223372036854775807:=hp
  have key:∀m:Nat,(linesV s).length=m→checkT s=if (1048576:Int)<s.length then 1 else if (4096:Int)<m then 1 else 0:=by
    intro m hm
    unfold checkT
    rw[hm]
    by_cases a:(1048576:Int)<s.length
    · rw[if_neg (by omega),if_pos a]
    · rw[if_neg a]
      by_cases b:(4096:Int)<m
      · rw[if_neg (by omega),if_pos b]
      · rw[if_pos (by omega),if_neg b]
  by_cases c0:s≠[]∧endedV s=false
  · obtain⟨c1,c2⟩:=c0
    have hlt:s.count 10<s.length:=by
      rcases Nat.lt_or_ge (s.count 10) s.length with h | h
      · exact h
      · have h2:=List.count_eq_length.1 (Nat.le_antisymm hc h)
        have h3:=h2 _ (List.getLast_mem c1)
        rw[endedV,List.getLast?_eq_some_getLast c1,← h3] at c2
        simp at c2
    have w1:IntKind.i64.wrap ((s.count 10:Int)+1)=(s.count 10:Int)+1:=wrap_in (by omega) (by omega)
    rw[if_pos ⟨c1,c2⟩] at hl
    have k:=key _ hl
    rw[k]
    by_cases a:(1048576:Int)<s.length <;> by_cases b:(4096:Int)<((s.count 10+1:Nat):Int) <;>
      (have b':=b;push_cast at b';simp[x_text_Check,h1,h2,hp',c1,c2,w1,a,b,b'])
  · rw[if_neg c0] at hl
    have k:=key _ hl
    rw[k]
    by_cases c1:s=[]
    · subst c1
      simp[x_text_Check,h1,h2]
    · have c2:endedV s=true:=by
        cases h3:endedV s with
        | true=>rfl
        | false=>exact absurd ⟨c1,h3⟩ c0
      simp only[Nat.add_zero]
      by_cases a:(1048576:Int)<s.length <;> by_cases b:(4096:Int)<((s.count 10:Nat):Int) <;>
        simp[x_text_Check,h1,h2,hp',c1,c2,a,b]
def splitD (s:Str):D:=if checkT s=0 then .tup [Rep.to (linesV s),.int .i64 0] else .tup [.nilsl,.int .i64 1]
@[simp] def S_text_Split:List D→Prop × D:=spec1 (α:=Str) (fun s=>s.length≤4194304) (fun s=>splitD s)
theorem ct_text_Split {P:Program} {f g1 g2:Nat} {G:Gam} (h:CodeOf P f 1 7 [1,2] (x_text_Split g1 g2)) (hG:GamOk P G) (h1:G.find g1=some S_text_Check) (h2:G.find g2=some S_strings_SplitAfter):Has P f S_text_Split:=h.has1 hG fun s hp=>by
  have hp':s.length<4294967281:=by omega
  by_cases c:checkT s=0
  · obtain⟨l,r,e1,e2⟩:=splitF_lines s []
    have e3:=splitK_lines _ s rfl
    rw[e1] at e3
    have e4:linesV s=if r=[] then l else l++[r]:=e2
    have hll:l.length≤4096:=by
      have:checkT s=0:=c
      unfold checkT at this
      split at this
      · rename_i h3
        rw[e4] at h3
        split at h3
        · exact h3.2
        · have:=h3.2;simp at this;omega
      · simp at this
    have w1:IntKind.i64.wrap (l.length:Int)=(l.length:Int):=wrap_in (by omega) (by omega)
    have e5:splitD s=.tup [Rep.to (linesV s),.int .i64 0]:=if_pos c
    rw[e5,e4]
    by_cases hr:r=[]
    · simp[x_text_Split,h1,h2,hp,hp',c,e3,w1,hr]
      omega
    · simp[x_text_Split,h1,h2,hp,hp',c,e3,w1,hr]
      omega
  · have c1:checkT s=1:=by
      unfold checkT at *
      split at c <;> simp_all
    have e5:splitD s=.tup [.nilsl,.int .i64 1]:=if_neg c
    rw[e5]
    simp[x_text_Split,h1,hp,c1]
@[simp] def S_ref02_Lines:List D→Prop × D:=spec1 (α:=Str) (fun s=>s.length≤4194304) (fun s=>Rep.to (linesV s))
theorem ct_ref02_Lines {P:Program} {f:Nat} {G:Gam} (h:CodeOf P f 1 7 [1] x_ref02_Lines) (hG:GamOk P G):Has P f S_ref02_Lines:=h.has1 hG fun s hp=>by
  simp[x_ref02_Lines]
  refine vc_lp (σ:=Nat × Nat × List Str) (fun x=>x.1≤x.2.1∧x.2.1≤s.length∧x.2.2.length≤x.2.1∧(x.2.1<s.length∨x.1=x.2.1)∧x.2.2++linesF ((s.take x.2.1).drop x.1) (s.drop x.2.1)=linesV s) (fun x=>s.length-x.2.1)
    (fun x=>[.d (Rep.to s),.any,.gr 0 1 (x.2.2.map Rep.to),.d (.int .i64 x.1),.d (.int .i64 x.2.1),.any,.any]) (fun x=>[.tip x.2.2.length]) (0,0,[]) (by simp) (by simp) ⟨by simp,by simp,by simp,by simp,by simp[linesV]⟩ ?_
  rintro⟨fr,i,o⟩ ⟨b1,b2,b3,b5,b4⟩
  simp only at b1 b2 b3 b4 b5
  by_cases hi:i<s.length
  · have w1:IntKind.i64.wrap ((i:Int)+1)=((i+1:Nat):Int):=by rw[wrap_in (by omega) (by omega)];omega
    have ed:s.drop i=s[i]::s.drop (i+1):=List.drop_eq_getElem_cons hi
    have et:(s.take (i+1)).drop fr=(s.take i).drop fr++[s[i]]:=by
      rw[List.take_succ_eq_append_getElem hi,List.drop_append_of_le_length (by simp;omega)]
    have es:List.take (i+1-fr) (s.drop fr)=(s.take (i+1)).drop fr:=by rw[List.drop_take]
    rw[ed] at b4
    simp only[linesF,← et] at b4
    have i2:(i:Int)+1≤s.length:=by omega
    have i3:(fr:Int)≤(i:Int)+1:=by omega
    have e:((s[i].toNat:Int)=10)=(s[i]=10):=by
      apply propext
      constructor
      · intro h
        exact UInt8.toNat_inj.1 (by simp;omega)
      · intro h;rw[h];rfl
    have en:(s.take (i+1)).drop (i+1)=[]:=List.drop_eq_nil_of_le (by simp;omega)
    by_cases c:s[i]=10
    · rw[if_pos c] at b4
      simp[hi,w1,e,c,i2,i3]
      rw[es]
      exact⟨by unfold room;omega,Nxt.mk (i+1,i+1,o++[(s.take (i+1)).drop fr]) (by simp;omega) (by simp) (by simp) ⟨by simp,by simp;omega,by simp;omega,by simp,by simp only[en];rw[← b4];simp⟩⟩
    · rw[if_neg c] at b4
      by_cases l:i+1=s.length
      · have l':s.length=i+1:=by omega
        have ez:s.drop (i+1)=[]:=List.drop_eq_nil_of_le (by omega)
        have ec:(s.take (i+1)).drop fr≠[]:=by
          intro hh
          have:=congrArg List.length hh
          simp at this
          omega
        rw[ez] at b4
        simp only[linesF,ec,if_false] at b4
        have i4:(i:Int)<(i:Int)+1:=by omega
        simp[l',w1,e,c,i3,i4]
        rw[es]
        refine⟨by unfold room;omega,Nxt.mk (i+1,i+1,o++[(s.take (i+1)).drop fr]) (by simp) (by simp) (by simp) ⟨by simp,by simp,by simp;omega,by simp,?_⟩⟩
        simp only[en,ez,linesF,if_true]
        rw[← b4]
        simp
      · have l':¬((i:Int)+1=s.length):=by omega
        simp[hi,w1,e,c,l']
        exact Nxt.mk (fr,i+1,o) (by simp;omega) (by simp) (by simp) ⟨by simp only;omega,by simp only;omega,by simp only;omega,by simp only;omega,by simpa using b4⟩
  · have h1:i=s.length:=by omega
    subst h1
    have h2:fr=s.length:=by omega
    subst h2
    simp[linesF] at b4
    simp[b4]
def okL (x:Str):Bool:=decide (x≠[]∧(10:UInt8) ∉ x.dropLast)
def listV:List Str→Bool
  | []=>true
  | [x]=>okL x
  | x::y::r=>okL x && endedV x && listV (y::r)
theorem listV_cons {x:Str} {l:List Str} (h1:okL x=true) (h2:endedV x=true) (h3:listV l=true):listV (x::l)=true:=by
  cases l with
  | nil=>exact h1
  | cons y r=>simp[listV,h1,h2,h3]
theorem listV_lines:∀(s cur:Str),(10:UInt8) ∉ cur→listV (linesF cur s)=true
  | [],cur,h=>by
    by_cases hc:cur=[]
    · simp[linesF,hc,listV]
    · simp only[linesF,hc,if_false,listV,okL,ne_eq,not_false_eq_true,true_and,decide_eq_true_eq]
      exact fun hm=>h (List.dropLast_subset _ hm)
  | c::s,cur,h=>by
    by_cases hc:c=10
    · subst hc
      simp only[linesF,if_true]
      exact listV_cons (by simp[okL,h]) (by simp[endedV]) (listV_lines s [] (by simp))
    · simp only[linesF,hc,if_false]
      refine listV_lines s (cur++[c]) ?_
      simp[h]
      exact fun e=>hc e.symm
theorem indexByte_last:∀(t:Str) (c:UInt8),((10:UInt8)∈t→0≤Lib.indexByte (t++[c]) 10∧Lib.indexByte (t++[c]) 10<t.length)∧((10:UInt8) ∉ t→Lib.indexByte (t++[c]) 10=if c=10 then (t.length:Int) else -1)
  | [],c=>by
    by_cases h:c=10 <;> simp[Lib.indexByte,h]
  | a::t,c=>by
    obtain⟨h1,h2⟩:=indexByte_last t c
    by_cases ha:a=10
    · subst ha
      simp[Lib.indexByte]
    · have ha':¬(10:UInt8)=a:=fun e=>ha e.symm
      have e:Lib.indexByte (a::t++[c]) 10=if Lib.indexByte (t++[c]) 10=-1 then -1 else Lib.indexByte (t++[c]) 10+1:=by
        simp[Lib.indexByte,ha]
      rw[e]
      constructor
      · intro h
        have h':(10:UInt8)∈t:=by simpa [ha'] using h
        have:=h1 h'
        rw[if_neg (by omega)]
        simp
        omega
      · intro h
        have h':(10:UInt8) ∉ t:=fun hm=>h (by simp[hm])
        rw[h2 h']
        by_cases hc:c=10
        · simp only[hc,if_true]
          rw[if_neg (by omega)]
          simp
        · simp[hc]
def blobS (raw:List Int) (fr kinds:Int) (k:Nat):Str:=(List.range k).flatMap fun (i:Nat)=>lineV (modV (atV raw (fr+1+i)) kinds)++[10]
theorem blobS_succ (raw:List Int) (fr kinds:Int) (k:Nat):blobS raw fr kinds (k+1)=blobS raw fr kinds k++lineV (modV (atV raw (fr+1+k)) kinds)++[10]:=by
  simp[blobS,List.range_succ]
def blobV (raw:List Int) (fr n kinds:Int):Str :=
  let s:=blobS raw fr kinds (modV (atV raw fr) (n+1)).toNat
  if (atV raw (fr+90)).tmod 4=0∧1<s.length∧s.getD (s.length-2) 0≠10 then s.dropLast else s
theorem lines_good:∀x,x∈lines→x.length≤3∧x.count 10=0:=by decide
theorem lineV_good (k:Int):(lineV k).length≤3∧(lineV k).count 10=0:=by
  obtain⟨h1,h2⟩:=modV_lt k (n:=10) (by omega)
  unfold lineV
  have hl:(modV k 10).toNat<lines.length:=by
    have:lines.length=10:=rfl
    omega
  have e:lines.getD (modV k 10).toNat []=lines[(modV k 10).toNat]:=by simp[List.getD,hl]
  rw[e]
  exact lines_good _ (List.getElem_mem hl)
theorem blobS_good (raw:List Int) (fr kinds:Int):∀k,(blobS raw fr kinds k).length≤4 * k∧(blobS raw fr kinds k).count 10=k
  | 0=>by simp[blobS]
  | k+1=>by
    obtain⟨h1,h2⟩:=blobS_good raw fr kinds k
    obtain⟨h3,h4⟩:=lineV_good (modV (atV raw (fr+1+k)) kinds)
    rw[blobS_succ]
    simp only[List.length_append,List.count_append,List.length_singleton,h2,h4]
    simp
    omega
theorem blobV_good (raw:List Int) (fr kinds:Int) {n:Int} (hn:0≤n):(blobV raw fr n kinds).length≤4 * n.toNat∧(blobV raw fr n kinds).count 10≤n.toNat:=by
  obtain⟨m1,m2⟩:=modV_lt (atV raw fr) (n:=n+1) (by omega)
  obtain⟨h1,h2⟩:=blobS_good raw fr kinds (modV (atV raw fr) (n+1)).toNat
  have e:(modV (atV raw fr) (n+1)).toNat≤n.toNat:=by omega
  unfold blobV
  generalize blobS raw fr kinds (modV (atV raw fr) (n+1)).toNat=s at *
  simp only
  split
  · have hs:=(List.dropLast_sublist s).count_le 10
    simp only[List.length_dropLast]
    omega
  · omega
theorem check_of {s:Str} (h1:s.length≤1048576) (h2:s.count 10≤4095):checkT s=0:=by
  have h3:(linesV s).length≤4096:=by
    rw[linesV_len]
    split <;> omega
  simp[checkT,h1,h3]
theorem lines_flat (s:Str):(linesV s).flatten=s:=by
  rw[linesV,linesF_flat];rfl
end Go.AE
namespace Go.AE
@[simp] def S_gen_Blob:List D→Prop × D:=spec4 (α:=List Int) (β:=Int) (γ:=Int) (δ:=Int) (fun raw fr n kinds=>raw.length≤9223372036854775807∧0≤fr∧fr≤100000∧0≤n∧n≤1000∧1≤kinds∧kinds≤1000) (fun raw fr n kinds=>Rep.to (blobV raw fr n kinds))
theorem ct_gen_Blob {P:Program} {f g1 g2 g3:Nat} {G:Gam} (h:CodeOf P f 4 9 [4] (x_gen_Blob g1 g2 g3)) (hG:GamOk P G) (h1:G.find g1=some S_gen_At) (h2:G.find g2=some S_gen_Mod) (h3:G.find g3=some S_gen_Line):Has P f S_gen_Blob:=h.has4 hG fun raw fr n kinds hp=>by
  obtain⟨p1,p2,p3,p4,p5,p6,p7⟩:=hp
  obtain⟨m1,m2⟩:=modV_lt (atV raw fr) (n:=n+1) (by omega)
  have q1:(fr:Int)<9223372036854775807:=by omega
  have q2:raw.length≤9223372036854775807:=by omega
  have q3:1≤n+1∧n+1≤9223372036854775807:=by omega
  have q4:1≤kinds∧kinds≤9223372036854775807:=by omega
  have w0:IntKind.i64.wrap (n+1)=n+1:=wrap_in (by omega) (by omega)
  have w2:IntKind.i64.wrap (fr+1)=fr+1:=wrap_in (by omega) (by omega)
  have w3:IntKind.i64.wrap (fr+90)=fr+90:=wrap_in (by omega) (by omega)
  obtain⟨m,hm⟩:=Int.eq_ofNat_of_zero_le m1
  have hv:blobV raw fr n kinds=if (atV raw (fr+90)).tmod 4=0∧1<(blobS raw fr kinds m).length∧(blobS raw fr kinds m).getD ((blobS raw fr kinds m).length-2) 0≠10 then (blobS raw fr kinds m).dropLast else blobS raw fr kinds m:=by
    unfold blobV
    rw[hm]
    rfl
  have hr:=atV_range raw (fr+90)
  obtain⟨hb,_⟩:=blobS_good raw fr kinds m
  have r1:0≤fr+90∧fr+90<9223372036854775807:=by omega
  rw[hv]
  clear hv
  simp[x_gen_Blob,h1,h2,p2,q1,q2,q3,w0]
  rw[hm]
  refine vc_lp (σ:=Nat) (fun i=>i≤m) (fun i=>m-i) (fun i=>[.d (Rep.to raw),.d (.int .i64 fr),.d (.int .i64 m),.d (.int .i64 kinds),.any,.d (.str (blobS raw fr kinds i)),.d (.int .i64 i),.any,.any]) (fun _=>[]) 0 (by simp[blobS]) (by simp) (by simp) ?_
  intro i hi
  by_cases h6:i<m
  · have w1:IntKind.i64.wrap (fr+1+i)=fr+1+i:=wrap_in (by omega) (by omega)
    have w4:IntKind.i64.wrap ((i:Int)+1)=(i:Int)+1:=wrap_in (by omega) (by omega)
    have r2:0≤fr+1+(i:Int)∧fr+1+(i:Int)<9223372036854775807:=by omega
    obtain⟨hl,_⟩:=lineV_good (modV (atV raw (fr+1+i)) kinds)
    obtain⟨hbi,_⟩:=blobS_good raw fr kinds i
    simp[h1,h2,h3,w1,w2,w4,h6,q2,q4,r2]
    refine⟨by omega,by omega,?_⟩
    exact Nxt.mk (i+1) (by omega) (by simp[blobS_succ]) (by simp) (by omega)
  · have h7:i=m:=by omega
    subst h7
    generalize blobS raw fr kinds i=s at *
    simp[h1,q2,w3,r1]
    generalize atV raw (fr+90)=z at *
    refine⟨fun c1=>⟨fun c2=>?_,fun c2 c3 c4=>by omega⟩,fun a b=>absurd b a⟩
    have c2':1<s.length:=by omega
    have wA:IntKind.i64.wrap ((s.length:Int)-2)=((s.length-2:Nat):Int):=by rw[wrap_in (by omega) (by omega)];omega
    have wB:IntKind.i64.wrap ((s.length:Int)-1)=((s.length-1:Nat):Int):=by rw[wrap_in (by omega) (by omega)];omega
    rw[wA,wB]
    simp only[Int.toNat_natCast]
    refine⟨by omega,fun c3=>⟨by omega,?_⟩,fun c3 _ _ c4=>?_⟩
    · have c4:¬s[s.length-2]?.getD 0=10:=fun e=>c3 (by rw[e];rfl)
      rw[if_pos ⟨c1,c2',c4⟩,List.dropLast_eq_take]
    · exact absurd (UInt8.toNat_inj.1 (by simp;omega)) c4
def flen (l:List Str):Nat:=l.flatten.length
theorem flen_take (l:List Str) (k:Nat):flen l=flen (l.take k)+flen (l.drop k):=by
  unfold flen
  rw[← List.length_append,← List.flatten_append,List.take_append_drop]
theorem flen_succ {l:List Str} {i:Nat} (hi:i<l.length):flen (l.take (i+1))=flen (l.take i)+l[i].length:=by
  unfold flen
  rw[List.take_succ_eq_append_getElem hi,List.flatten_append,List.length_append]
  congr 1
  rw[List.flatten_cons,List.flatten_nil,List.append_nil]
def joinD (l:List Str):D:=if listV l=true then (if flen l≤1048576∧l.length≤4096 then .tup [.str (Lib.join l []),.int .i64 0] else .tup [.str [],.int .i64 1]) else .tup [.str [],.int .i64 2]
theorem join_flat (l:List Str):Lib.join l []=l.flatten:=by
  cases l with
  | nil=>rfl
  | cons x r =>
    rw[Lib.join_cons]
    simp[Lib.joinTail]
theorem listV_drop {l:List Str} {i:Nat} (h:i<l.length):listV (l.drop i)=(okL l[i] && (decide (i+1=l.length) || endedV l[i]) && listV (l.drop (i+1))):=by
  rw[List.drop_eq_getElem_cons h]
  cases h2:l.drop (i+1) with
  | nil =>
    have h3:l.length≤i+1:=List.drop_eq_nil_iff.1 h2
    have h4:i+1=l.length:=by omega
    simp[listV,h4]
  | cons y r =>
    have h4:¬i+1=l.length:=by
      intro h5
      have:l.drop (i+1)=[]:=List.drop_eq_nil_iff.2 (by omega)
      rw[this] at h2
      simp at h2
    simp[listV,h4]
@[simp] def S_text_Join:List D→Prop × D:=spec1 (α:=List Str) (fun l=>flen l≤4194304∧l.length≤4194304) (fun l=>joinD l)
theorem ct_text_Join {P:Program} {f g1 g2:Nat} {G:Gam} (h:CodeOf P f 1 13 [1,2] (x_text_Join g1 g2)) (hG:GamOk P G) (h1:G.find g1=some S_strings_IndexByte) (h2:G.find g2=some S_strings_Join):Has P f S_text_Join:=h.has1 hG fun l hp=>by
  obtain⟨p1,p2⟩:=hp
  simp[x_text_Join]
  refine vc_lp (σ:=Nat) (fun i=>i≤l.length∧listV l=listV (l.drop i)) (fun i=>l.length-i) (fun i=>[.d (Rep.to l),.any,.any,.d (.int .i64 (flen (l.take i))),.any,.any,.any,.d (Rep.to l),.d (.int .i64 l.length),.d (.int .i64 i),.any,.any,.any]) (fun _=>[]) 0 (by simp[flen]) (by simp) ⟨by simp,by simp⟩ ?_
  rintro i ⟨i1,i2⟩
  by_cases hi:i<l.length
  · have w1:IntKind.i64.wrap ((i:Int)+1)=(i:Int)+1:=wrap_in (by omega) (by omega)
    have w2:IntKind.i64.wrap ((l.length:Int)-1)=(l.length:Int)-1:=wrap_in (by omega) (by omega)
    rw[listV_drop hi] at i2
    have ef:=flen_succ hi
    have el:=flen_take l (i+1)
    rw[ef] at el
    have hx:l[i]=l[i]:=rfl
    generalize hq:l[i]=x at *
    rcases List.eq_nil_or_concat x with rfl | ⟨t,c,rfl⟩
    · have hb:listV l=false:=by rw[i2];simp[okL]
      simp[h1,hi,getD_map,hq,joinD,hb]
    · simp only[List.concat_eq_append] at *
      obtain⟨b1,b2⟩:=indexByte_last t c
      have hl0:(t++[c]).length=t.length+1:=by simp
      have w4:IntKind.i64.wrap (t.length:Int)=t.length:=wrap_in (by omega) (by omega)
      have hne:t++[c]≠[]:=by simp
      rw[hl0] at ef el
      have w3:IntKind.i64.wrap ((flen (l.take i):Int)+((t.length:Int)+1))=flen (l.take (i+1)):=by rw[wrap_in (by omega) (by omega),ef];omega
      generalize hz:Lib.indexByte (t++[c]) 10=z at *
      by_cases ht:(10:UInt8)∈t
      · obtain⟨b3,b4⟩:=b1 ht
        have hb:listV l=false:=by rw[i2];simp[okL,ht]
        simp[h1,hi,getD_map,hq,joinD,hb,hz,b3,b4,w4,w2]
      · have b3:=b2 ht
        have ok:okL (t++[c])=true:=by simp[okL,ht]
        by_cases hc:c=10
        · rw[if_pos hc] at b3
          have en:endedV (t++[c])=true:=by simp[endedV,hc]
          rw[ok,en] at i2
          simp at i2
          subst b3
          have hn:¬((t.length:Int)<0):=by omega
          simp[h1,hi,getD_map,hq,hz,w4,w2,w3,w1,hn]
          exact Nxt.mk (i+1) (by omega) (by simp) (by simp) ⟨by omega,i2⟩
        · rw[if_neg hc] at b3
          have en:endedV (t++[c])=false:=by simp[endedV,hc]
          rw[ok,en] at i2
          simp at i2
          subst b3
          by_cases hlast:i+1=l.length
          · have hl2:¬((i:Int)<(l.length:Int)-1):=by omega
            simp[h1,hi,getD_map,hq,hz,w4,w2,hl2,w3,w1]
            exact Nxt.mk (i+1) (by omega) (by simp) (by simp) ⟨by omega,by rw[i2];simp[hlast]⟩
          · have hl2:((i:Int)<(l.length:Int)-1):=by omega
            have hb:listV l=false:=by rw[i2];simp[hlast]
            simp[h1,hi,getD_map,hq,hz,w4,w2,hl2,joinD,hb]
  · have hi2:i=l.length:=by omega
    subst hi2
    have hb:listV l=true:=by rw[i2];simp[listV]
    have hj:=join_flat l
    have ht:l.take l.length=l:=List.take_length
    by_cases a:(1048576:Int)<flen l
    · have a':¬(flen l≤1048576):=by omega
      simp[joinD,hb,a,a',ht]
    · by_cases b:(4096:Int)<l.length
      · have b':¬(l.length≤4096):=by omega
        simp[joinD,hb,a,b,b',ht]
      · have a':flen l≤1048576:=by omega
        have b':l.length≤4096:=by omega
        have a2:(Lib.join l []).length≤140737488355328:=by rw[hj];unfold flen at a';omega
        have b2:l.length≤140737488355328:=by omega
        simp[h2,joinD,hb,a,b,a',b',a2,b2,ht]
def nearOne (raw:List Int) (fr:Int) (i:Nat) (x:Str):Str :=
  if (atV raw (fr+i)).tmod 6=0 then [] else if (atV raw (fr+i)).tmod 6=1 then lineV (atV raw (fr+40+i))++[10]++x else x
def nearS (l:List Str) (raw:List Int) (fr:Int) (k:Nat):Str:=(List.range k).flatMap fun i=>nearOne raw fr i (l.getD i [])
def nearV (blob:Str) (raw:List Int) (fr:Int):Str:=nearS (linesV blob) raw fr (linesV blob).length
theorem nearS_succ (l:List Str) (raw:List Int) (fr:Int) (k:Nat):nearS l raw fr (k+1)=nearS l raw fr k++nearOne raw fr k (l.getD k []):=by
  simp[nearS,List.range_succ]
theorem nearOne_good (raw:List Int) (fr:Int) (i:Nat) (x:Str):(nearOne raw fr i x).length≤4+x.length∧(nearOne raw fr i x).count 10≤1+x.count 10:=by
  obtain⟨h1,h2⟩:=lineV_good (atV raw (fr+40+i))
  unfold nearOne
  split
  · simp
  · split
    · simp only[List.length_append,List.count_append,h2,List.length_singleton]
      simp
      omega
    · omega
theorem nearS_good (l:List Str) (raw:List Int) (fr:Int):∀k,k≤l.length→(nearS l raw fr k).length≤4 * k+flen (l.take k)∧(nearS l raw fr k).count 10≤k+(l.take k).flatten.count 10
  | 0,_=>by simp[nearS]
  | k+1,h=>by
    have hk:k<l.length:=by omega
    obtain⟨h1,h2⟩:=nearS_good l raw fr k (by omega)
    obtain⟨h3,h4⟩:=nearOne_good raw fr k (l.getD k [])
    have e:l.getD k []=l[k]:=by simp[List.getD,hk]
    rw[e] at h3 h4
    have ef:=flen_succ hk
    have ec:(l.take (k+1)).flatten.count 10=(l.take k).flatten.count 10+l[k].count 10:=by
      rw[List.take_succ_eq_append_getElem hk,List.flatten_append,List.count_append]
      simp
    rw[nearS_succ,List.length_append,List.count_append,ef,ec,e]
    omega
theorem nearV_good (blob:Str) (raw:List Int) (fr:Int):(nearV blob raw fr).length≤4 * (linesV blob).length+blob.length∧(nearV blob raw fr).count 10≤(linesV blob).length+blob.count 10:=by
  have h:=nearS_good (linesV blob) raw fr _ (Nat.le_refl _)
  rw[List.take_length,lines_flat] at h
  have:flen (linesV blob)=blob.length:=by unfold flen;rw[lines_flat]
  rw[this] at h
  exact h
@[simp] def S_gen_Near:List D→Prop × D:=spec3 (α:=Str) (β:=List Int) (γ:=Int) (fun blob raw fr=>blob.length≤4096∧raw.length≤9223372036854775807∧0≤fr∧fr≤1000000) (fun blob raw fr=>Rep.to (nearV blob raw fr))
theorem ct_gen_Near {P:Program} {f g1 g2 g3:Nat} {G:Gam} (h:CodeOf P f 3 11 [3] (x_gen_Near g1 g2 g3)) (hG:GamOk P G) (h1:G.find g1=some S_ref02_Lines) (h2:G.find g2=some S_gen_At) (h3:G.find g3=some S_gen_Line):Has P f S_gen_Near:=h.has3 hG fun blob raw fr hp=>by
  obtain⟨p1,p2,p3,p4⟩:=hp
  have p1':blob.length≤4194304:=by omega
  have hll:=linesV_len blob
  have hcl:blob.count 10≤blob.length:=List.count_le_length
  have hfl:flen (linesV blob)=blob.length:=by unfold flen;rw[lines_flat]
  have hn:(linesV blob).length≤4097:=by rw[hll];split <;> omega
  simp[x_gen_Near,h1,p1']
  have hv:nearV blob raw fr=nearS (linesV blob) raw fr (linesV blob).length:=rfl
  rw[hv]
  clear hv hll
  generalize linesV blob=l at *
  have q2:raw.length≤9223372036854775807:=by omega
  refine vc_lp (σ:=Nat) (fun i=>i≤l.length) (fun i=>l.length-i) (fun i=>[.any,.d (Rep.to raw),.d (.int .i64 fr),.any,.d (Rep.to l),.d (.str (nearS l raw fr i)),.d (.int .i64 i),.any,.any,.any,.any]) (fun _=>[]) 0 (by simp[nearS]) (by simp) (by simp) ?_
  intro i hi
  by_cases hk:i<l.length
  · have w1:IntKind.i64.wrap ((i:Int)+1)=(i:Int)+1:=wrap_in (by omega) (by omega)
    have w2:IntKind.i64.wrap (fr+i)=fr+i:=wrap_in (by omega) (by omega)
    have w3:IntKind.i64.wrap (fr+40)=fr+40:=wrap_in (by omega) (by omega)
    have w4:IntKind.i64.wrap (fr+40+i)=fr+40+i:=wrap_in (by omega) (by omega)
    have r1:0≤fr+(i:Int)∧fr+(i:Int)<9223372036854775807:=by omega
    have r2:0≤fr+40+(i:Int)∧fr+40+(i:Int)<9223372036854775807:=by omega
    have hs:=nearS_succ l raw fr i
    have e:l.getD i []=l[i]:=by simp[List.getD,hk]
    rw[e] at hs
    unfold nearOne at hs
    obtain⟨g1',g2'⟩:=nearS_good l raw fr i (by omega)
    have ft:=flen_take l i
    have fs:=flen_take l (i+1)
    rw[flen_succ hk] at fs
    obtain⟨b1,b2⟩:=lineV_good (atV raw (fr+40+i))
    generalize hz:atV raw (fr+i)=z at *
    by_cases c0:z.tmod 6=0
    · rw[if_pos c0,List.append_nil] at hs
      simp[hk,h2,q2,w1,w2,r1,hz,c0]
      exact Nxt.mk (i+1) (by omega) (by simp[hs]) (by simp) (by omega)
    · rw[if_neg c0] at hs
      by_cases c1:z.tmod 6=1
      · rw[if_pos c1] at hs
        simp[hk,getD_map,h2,h3,q2,w1,w2,w3,w4,r1,r2,hz,c0,c1]
        refine⟨by omega,by omega,by omega,Nxt.mk (i+1) (by omega) (by simp[hs]) (by simp) (by omega)⟩
      · rw[if_neg c1] at hs
        simp[hk,getD_map,h2,q2,w1,w2,r1,hz,c0,c1]
        exact⟨by omega,Nxt.mk (i+1) (by omega) (by simp[hs]) (by simp) (by omega)⟩
  · have h9:i=l.length:=by omega
    subst h9
    simp
def blobOne (raw:List Int) (lines:Int) (p:Nat):Str :=
  if (atV raw (500+p)).tmod 5=0 then blobV raw (600+50 * p) lines 4 else if (atV raw (500+p)).tmod 5=1 then blobV raw 0 lines 5 else nearV (blobV raw 0 lines 5) raw (600+50 * p)
def blobsV (raw:List Int) (n:Nat) (lines:Int):List Str:=(List.range n).map (blobOne raw lines)
theorem blobsV_succ (raw:List Int) (n:Nat) (lines:Int):blobsV raw (n+1) lines=blobsV raw n lines++[blobOne raw lines n]:=by
  simp[blobsV,List.range_succ]
theorem lines_blob (raw:List Int) (fr kinds:Int) {n:Int} (hn:0≤n):(linesV (blobV raw fr n kinds)).length≤n.toNat+1:=by
  obtain⟨h1,h2⟩:=blobV_good raw fr kinds hn
  rw[linesV_len]
  split <;> omega
theorem blobOne_len (raw:List Int) {lines:Int} (hl:0≤lines) (p:Nat):(blobOne raw lines p).length≤8 * lines.toNat+4:=by
  unfold blobOne
  split
  · have:=(blobV_good raw (600+50 * p) 4 hl).1;omega
  · split
    · have:=(blobV_good raw 0 5 hl).1;omega
    · have h1:=(nearV_good (blobV raw 0 lines 5) raw (600+50 * p)).1
      have h2:=(blobV_good raw 0 5 hl).1
      have h3:=lines_blob raw 0 5 hl
      omega
@[simp] def S_gen_Blobs:List D→Prop × D:=spec3 (α:=List Int) (β:=Int) (γ:=Int) (fun raw n lines=>raw.length≤9223372036854775807∧n≤1000∧0≤lines∧lines≤100) (fun raw n lines=>Rep.to (blobsV raw n.toNat lines))
theorem ct_gen_Blobs {P:Program} {f g1 g2 g3:Nat} {G:Gam} (h:CodeOf P f 3 11 [3] (x_gen_Blobs g1 g2 g3)) (hG:GamOk P G) (h1:G.find g1=some S_gen_Blob) (h2:G.find g2=some S_gen_At) (h3:G.find g3=some S_gen_Near):Has P f S_gen_Blobs:=h.has3 hG fun raw n lines hp=>by
  obtain⟨p1,p2,p3,p4⟩:=hp
  have p5:lines≤1000:=by omega
  have q2:raw.length≤9223372036854775807:=by omega
  have hb:=(blobV_good raw 0 5 p3).1
  have hb2:(blobV raw 0 lines 5).length≤4096:=by omega
  simp[x_gen_Blobs,h1,p1,p3,p5]
  refine vc_lp (σ:=Nat) (fun i=>i≤n.toNat) (fun i=>n.toNat-i) (fun i=>[.d (Rep.to raw),.d (.int .i64 n),.d (.int .i64 lines),.any,.d (.str (blobV raw 0 lines 5)),.gr 0 1 ((blobsV raw i lines).map Rep.to),.d (.int .i64 i),.any,.any,.any,.any]) (fun i=>[.tip i]) 0 (by simp[blobsV]) (by simp) (by simp) ?_
  intro i hi
  have hlen:(blobsV raw i lines).length=i:=by simp[blobsV]
  by_cases hk:(i:Int)<n
  · have w1:IntKind.i64.wrap ((i:Int)+1)=(i:Int)+1:=wrap_in (by omega) (by omega)
    have w2:IntKind.i64.wrap (500+(i:Int))=500+i:=wrap_in (by omega) (by omega)
    have w3:IntKind.i64.wrap (50 * (i:Int))=50 * i:=wrap_in (by omega) (by omega)
    have w4:IntKind.i64.wrap (600+50 * (i:Int))=600+50 * i:=wrap_in (by omega) (by omega)
    have r1:0≤500+(i:Int)∧500+(i:Int)<9223372036854775807:=by omega
    have r2:0≤600+50 * (i:Int)∧600+50 * (i:Int)≤100000:=by omega
    have r3:600+50 * (i:Int)≤1000000:=by omega
    have hs:=blobsV_succ raw i lines
    unfold blobOne at hs
    generalize hz:atV raw (500+i)=z at *
    by_cases c0:z.tmod 5=0
    · rw[if_pos c0] at hs
      simp[hk,h1,h2,q2,p1,p3,p5,w1,w2,w3,w4,r1,r2,hz,c0,hlen]
      exact⟨by unfold room;omega,Nxt.mk (i+1) (by omega) (by simp[hs]) (by simp) (by omega)⟩
    · rw[if_neg c0] at hs
      by_cases c1:z.tmod 5=1
      · rw[if_pos c1] at hs
        simp[hk,h2,q2,w1,w2,r1,hz,c0,c1,hlen]
        exact⟨by unfold room;omega,Nxt.mk (i+1) (by omega) (by simp[hs]) (by simp) (by omega)⟩
      · rw[if_neg c1] at hs
        simp[hk,h2,h3,q2,p1,w1,w2,w3,w4,r1,r2,r3,hz,c0,c1,hlen,hb2]
        exact⟨by unfold room;omega,Nxt.mk (i+1) (by omega) (by simp[hs]) (by simp) (by omega)⟩
  · have h9:i=n.toNat:=by omega
    subst h9
    have hk2:¬(max n 0<n):=by omega
    simp[hk2]
/-! ### numbers -/
def fmtV (n:Int):Str:=if n<0∨2147483647<n then [] else Lib.itoa n
def frangeV (s c:Int):Str :=
  if s<0∨c<0∨2147483647<s∨2147483647-s<c then [] else
    if c=0 then fmtV s++[44,48] else if c=1 then fmtV (s+1) else fmtV (s+1)++[44]++fmtV c
def digB (s:Str) (i:Nat):Bool:=match s[i]? with
  | some c=>decide (48≤c.toNat) && decide (c.toNat≤57)
  | none=>false
def numL (s:Str):Nat→Int→Nat→Int × Nat
  | 0,n,i=>(n,i)
  | f+1,n,i=>if digB s i=true then numL s f (min (10 * n+((s.getD i 0).toNat-48:Int)) 2147483648) (i+1) else (n,i)
theorem digB_lt {s:Str} {i:Nat} (h:digB s i=true):i<s.length:=by
  unfold digB at h
  split at h
  · rename_i c hc
    exact (List.getElem?_eq_some_iff.1 hc).1
  · cases h
theorem numL_step {s:Str}:∀{f:Nat} {n:Int} {i:Nat},s.length≤i+f→digB s i=true→numL s f n i=numL s (f-1) (min (10 * n+((s.getD i 0).toNat-48:Int)) 2147483648) (i+1)
  | 0,n,i,h,hd=>by have:=digB_lt hd;omega
  | f+1,n,i,h,hd=>by rw[numL,if_pos hd];rfl
theorem numL_end {s:Str} {f:Nat} {n:Int} {i:Nat} (hd:digB s i=false):numL s f n i=(n,i):=by
  cases f with
  | zero=>rfl
  | succ f=>rw[numL,if_neg (by rw[hd];simp)]
def numV (s:Str) (a:Int):Option (Int × Nat) :=
  if a<0 then none else if digB s a.toNat=false then none else
    (if 2147483647<(numL s (s.length-a.toNat) 0 a.toNat).1∨(s.getD a.toNat 0=48∧a.toNat+1<(numL s (s.length-a.toNat) 0 a.toNat).2) then none else some (numL s (s.length-a.toNat) 0 a.toNat))
theorem numL_rng {s:Str}:∀{f:Nat} {n:Int} {i:Nat},0≤n→n≤2147483648→i≤s.length→0≤(numL s f n i).1∧(numL s f n i).1≤2147483648∧i≤(numL s f n i).2∧(numL s f n i).2≤s.length
  | 0,n,i,h0,h1,h2=>⟨h0,h1,Nat.le_refl _,h2⟩
  | f+1,n,i,h0,h1,h2=>by
    unfold numL
    split
    · rename_i hd
      have hi:=digB_lt hd
      have h48:48≤(s.getD i 0).toNat:=by
        unfold digB at hd
        rw[List.getElem?_eq_getElem hi] at hd
        simp only[Bool.and_eq_true,decide_eq_true_eq] at hd
        rw[List.getD_eq_getElem?_getD,List.getElem?_eq_getElem hi]
        exact hd.1
      have:=numL_rng (s:=s) (f:=f) (n:=min (10 * n+((s.getD i 0).toNat-48:Int)) 2147483648) (i:=i+1) (by omega) (by omega) (by omega)
      exact⟨this.1,this.2.1,by omega,this.2.2.2⟩
    · exact⟨h0,h1,Nat.le_refl _,h2⟩
theorem numV_rng {s:Str} {a:Int} {x:Int × Nat} (h:numV s a=some x):0≤a∧0≤x.1∧x.1≤2147483647∧a.toNat≤x.2∧x.2≤s.length:=by
  unfold numV at h
  split at h
  · cases h
  · split at h
    · cases h
    · rename_i hd
      split at h
      · cases h
      · rename_i hn
        have hi:=digB_lt (by simpa using hd)
        have:=numL_rng (s:=s) (f:=s.length-a.toNat) (n:=0) (i:=a.toNat) (by omega) (by omega) (by omega)
        obtain rfl:=Option.some.inj h
        exact⟨by omega,this.1,by omega,this.2.2.1,this.2.2.2⟩
/-! ### words -/
def plainB (c:UInt8):Bool:=decide (33≤c.toNat) && decide (c.toNat≤126) && decide (c≠34) && decide (c≠92)
def escV (c:UInt8):Str :=
  if c=34∨c=92 then [92,c] else if c=10 then [92,110] else if c=9 then [92,116] else
    if c.toNat<32∨126<c.toNat then [92,UInt8.ofNat (48+c.toNat / 64),UInt8.ofNat (48+c.toNat / 8 % 8),UInt8.ofNat (48+c.toNat % 8)] else [c]
def bareB (s:Str):Bool:=decide (s≠[]) && s.all plainB
def quoteV (s:Str):Str:=if bareB s=true then s else [34]++s.flatMap escV++[34]
def octB (s:Str) (i:Nat):Bool:=match s[i]? with
  | some c=>decide (48≤c.toNat) && decide (c.toNat≤55)
  | none=>false
theorem octB_lt {s:Str} {i:Nat} (h:octB s i=true):i<s.length:=by
  unfold octB at h
  split at h
  · rename_i c hc
    exact (List.getElem?_eq_some_iff.1 hc).1
  · cases h
def octL (s:Str):Nat→Nat→Nat→Option Nat × Nat
  | 0,n,i=>(some n,i)
  | k+1,n,i=>if octB s i=true then octL s k (8 * n+((s.getD i 0).toNat-48)) (i+1) else (none,i)
def octV (s:Str) (i:Nat):(UInt8 × Bool) × Nat:=match octL s 3 0 i with
  | (some n,j)=>((UInt8.ofNat n,decide (n<256)),j)
  | (none,j)=>((0,false),j)
def escpV (s:Str) (i:Nat):(UInt8 × Bool) × Nat:=match s[i]? with
  | none=>((0,false),i)
  | some c=>if c=34∨c=92 then ((c,true),i+1) else if c=110 then ((10,true),i+1) else if c=116 then ((9,true),i+1) else octV s i
theorem octL_rng {s:Str}:∀{k n i:Nat},i≤s.length→i≤(octL s k n i).2∧(octL s k n i).2≤s.length
  | 0,n,i,h=>⟨Nat.le_refl _,h⟩
  | k+1,n,i,h=>by
    unfold octL
    split
    · rename_i hd
      have:=octB_lt hd
      have:=octL_rng (s:=s) (k:=k) (n:=8 * n+((s.getD i 0).toNat-48)) (i:=i+1) (by omega)
      exact⟨by omega,this.2⟩
    · exact⟨Nat.le_refl _,h⟩
theorem octV_rng {s:Str} {i:Nat} (h:i≤s.length):i≤(octV s i).2∧(octV s i).2≤s.length:=by
  have:=octL_rng (s:=s) (k:=3) (n:=0) h
  unfold octV
  generalize octL s 3 0 i=x at *
  obtain⟨o,j⟩:=x
  cases o <;> exact this
theorem escpV_rng {s:Str} {i:Nat} (h:i≤s.length):i≤(escpV s i).2∧(escpV s i).2≤s.length:=by
  unfold escpV
  split
  · exact⟨Nat.le_refl _,h⟩
  · rename_i c hc
    have:=(List.getElem?_eq_some_iff.1 hc).1
    split
    · exact⟨by simp,by simp only;omega⟩
    · split
      · exact⟨by simp,by simp only;omega⟩
      · split
        · exact⟨by simp,by simp only;omega⟩
        · exact octV_rng h
def quotL (s:Str):Nat→Str→Nat→Option Str × Nat
  | 0,_,i=>(none,i)
  | f+1,b,i=>match s[i]? with
    | none=>(none,i)
    | some c=>if c=34 then (some b,i+1) else if c=92 then (if (escpV s (i+1)).1.2=true then quotL s f (b++[(escpV s (i+1)).1.1]) (escpV s (i+1)).2 else (none,(escpV s (i+1)).2)) else quotL s f (b++[c]) (i+1)
def quotV (s:Str) (i:Nat):Option Str × Nat:=quotL s (s.length-i+1) [] i
theorem quotL_fuel {s:Str}:∀(f g:Nat) (b:Str) (i:Nat),i≤s.length→s.length-i<f→s.length-i<g→quotL s f b i=quotL s g b i
  | 0,_,_,_,_,h,_=>by omega
  | _+1,0,_,_,_,_,h=>by omega
  | f+1,g+1,b,i,hi,h1,h2=>by
    unfold quotL
    cases hc:s[i]? with
    | none=>rfl
    | some c =>
      have hil:=(List.getElem?_eq_some_iff.1 hc).1
      have he:=escpV_rng (s:=s) (i:=i+1) (by omega)
      simp only
      split
      · rfl
      · split
        · split
          · exact quotL_fuel f g _ _ he.2 (by omega) (by omega)
          · rfl
        · exact quotL_fuel f g _ _ (by omega) (by omega) (by omega)
abbrev R_slices_Clip_Span_Span:RSpec:=⟨fun _ _ nw=>[nw],fun args s0=>match args,s0 with
  | [.d (.sl e xs)],[.res]=>(e=2,[.tip xs.length],.gr 0 2 xs)
  | _,_=>(False,[],.any)⟩
theorem ct_slices_Clip_Span_Span {P:Program} {f:Nat} (hc:CodeOf P f 1 2 [1] x_slices_Clip_Span_Span):RSpec.Ok P f R_slices_Clip_Span_Span:=by
  refine⟨hc.call,fun _ _ _ _ _=>rfl,?_⟩
  intro args s0 hp
  simp only at hp ⊢
  split at hp
  · rename_i e xs
    simp only at hp
    subst hp
    refine hc.rcalls (GamOk.nil _) rfl ?_
    simp[x_slices_Clip_Span_Span,startA]
    exact⟨by simp[resPre],[1],rfl,⟨by decide,by simp,rfl⟩,fun k hk=>by match k,hk with | 0,_=>exact .inr rfl,rfl,rfl,rfl⟩
  · exact hp.elim
theorem eR_clip {G:Gam} {f:Nat} (hf:G.findR f=some R_slices_Clip_Span_Span) {s:Store} {nw:Nat} {xs:List D} (h1:s.getD nw .dead=.res) (h2:nw<s.length) :
    eRCall G s nw f [.d (.sl 2 xs)]=⟨True,[(nw,.tip xs.length)],.gr nw 2 xs⟩:=by
  unfold eRCall
  rw[hf]
  simp only[List.map_cons,List.map_nil,h1]
  simp[h2]
def dist:List Int→List Int→Nat
  | [],b=>b.length
  | x::a,[]=>a.length+1
  | x::a,y::b=>if x=y then dist a b else 1+min (dist a (y::b)) (dist (x::a) b)
termination_by a b=>a.length+b.length
theorem dist_nil (b:List Int):dist [] b=b.length:=by rw[dist]
theorem dist_nil' (a:List Int):dist a []=a.length:=by cases a <;> rw[dist] <;> rfl
theorem dist_eq (x:Int) (a b:List Int):dist (x::a) (x::b)=dist a b:=by rw[dist];simp
theorem dist_ne {x y:Int} (h:x≠y) (a b:List Int):dist (x::a) (y::b)=1+min (dist a (y::b)) (dist (x::a) b):=by rw[dist];simp[h]
theorem dist_comm:∀a b:List Int,dist a b=dist b a
  | [],b=>by rw[dist_nil,dist_nil']
  | x::a,[]=>by rw[dist_nil,dist_nil']
  | x::a,y::b=>by
    by_cases h:x=y
    · subst h
      rw[dist_eq,dist_eq,dist_comm a b]
    · rw[dist_ne h,dist_ne (Ne.symm h),dist_comm a (y::b),dist_comm (x::a) b,Nat.min_comm]
termination_by a b=>a.length+b.length
theorem dist_steps:∀(n:Nat) (a b:List Int),a.length+b.length≤n→(∀x,dist (x::a) b≤dist a b+1)∧(∀y,dist a b≤dist a (y::b)+1):=by
  intro n
  induction n with
  | zero =>
    intro a b h
    have ha:a=[]:=List.eq_nil_of_length_eq_zero (by omega)
    have hb:b=[]:=List.eq_nil_of_length_eq_zero (by omega)
    subst ha hb
    exact⟨fun x=>by rw[dist_nil',dist_nil];simp,fun y=>by rw[dist_nil];simp⟩
  | succ n ih =>
    intro a b h
    have L:∀y,dist a b≤dist a (y::b)+1:=by
      intro y
      cases a with
      | nil=>rw[dist_nil,dist_nil];simp;omega
      | cons x a =>
        simp only[List.length_cons] at h
        have u:=(ih a b (by omega)).1 x
        have l:=(ih a b (by omega)).2 y
        by_cases hxy:x=y
        · subst hxy
          rw[dist_eq]
          exact u
        · rw[dist_ne hxy]
          omega
    refine⟨fun x=>?_,L⟩
    cases b with
    | nil=>rw[dist_nil',dist_nil'];simp
    | cons y b =>
      simp only[List.length_cons] at h
      by_cases hxy:x=y
      · subst hxy
        rw[dist_eq]
        exact (ih a b (by omega)).2 x
      · rw[dist_ne hxy]
        omega
theorem dist_del (x:Int) (a b:List Int):dist (x::a) b≤dist a b+1:=(dist_steps _ a b (Nat.le_refl _)).1 x
theorem dist_ins (y:Int) (a b:List Int):dist a (y::b)≤dist a b+1:=by rw[dist_comm a,dist_comm a];exact dist_del y b a
inductive Ed:List Int→List Int→Nat→Prop where
  | nil:Ed [] [] 0
  | del (x:Int) {a b:List Int} {n:Nat} (h:Ed a b n):Ed (x::a) b (n+1)
  | ins (y:Int) {a b:List Int} {n:Nat} (h:Ed a b n):Ed a (y::b) (n+1)
  | keep (x:Int) {a b:List Int} {n:Nat} (h:Ed a b n):Ed (x::a) (x::b) n
theorem Ed.le {a b:List Int} {n:Nat} (h:Ed a b n):dist a b≤n:=by
  induction h with
  | nil=>rw[dist_nil];simp
  | del x h ih=>exact Nat.le_trans (dist_del _ _ _) (by omega)
  | ins y h ih=>exact Nat.le_trans (dist_ins _ _ _) (by omega)
  | keep x h ih=>rw[dist_eq];exact ih
theorem ed_dist:∀a b:List Int,Ed a b (dist a b)
  | [],[]=>by rw[dist_nil];exact .nil
  | [],y::b=>by
    have:=ed_dist [] b
    rw[dist_nil] at this ⊢
    exact .ins y this
  | x::a,[]=>by
    have:=ed_dist a []
    rw[dist_nil'] at this ⊢
    exact .del x this
  | x::a,y::b=>by
    by_cases h:x=y
    · subst h
      rw[dist_eq]
      exact .keep x (ed_dist a b)
    · rw[dist_ne h]
      rcases Nat.le_total (dist a (y::b)) (dist (x::a) b) with h1 | h1
      · rw[Nat.min_eq_left h1,Nat.add_comm]
        exact .del x (ed_dist a (y::b))
      · rw[Nat.min_eq_right h1,Nat.add_comm]
        exact .ins y (ed_dist (x::a) b)
termination_by a b=>a.length+b.length
theorem Ed.trans {a b:List Int} {n:Nat} (h:Ed a b n):∀{c:List Int} {m:Nat},Ed b c m→∃k,k≤n+m∧Ed a c k:=by
  induction h with
  | nil=>intro c m k;exact⟨m,by omega,k⟩
  | del x h ih =>
    intro c m k
    obtain⟨j,h1,h2⟩:=ih k
    exact⟨j+1,by omega,.del x h2⟩
  | @ins y a b n h ih =>
    intro c m k
    generalize hb:y::b=b' at k
    induction k with
    | nil=>simp at hb
    | del z k _ =>
      simp at hb
      obtain⟨rfl,rfl⟩:=hb
      obtain⟨j,h1,h2⟩:=ih k
      exact⟨j,by omega,h2⟩
    | ins z k ih2 =>
      obtain⟨j,h1,h2⟩:=ih2 hb
      exact⟨j+1,by omega,.ins z h2⟩
    | keep z k _ =>
      simp at hb
      obtain⟨rfl,rfl⟩:=hb
      obtain⟨j,h1,h2⟩:=ih k
      exact⟨j+1,by omega,.ins y h2⟩
  | @keep x a b n h ih =>
    intro c m k
    generalize hb:x::b=b' at k
    induction k with
    | nil=>simp at hb
    | del z k _ =>
      simp at hb
      obtain⟨rfl,rfl⟩:=hb
      obtain⟨j,h1,h2⟩:=ih k
      exact⟨j+1,by omega,.del x h2⟩
    | ins z k ih2 =>
      obtain⟨j,h1,h2⟩:=ih2 hb
      exact⟨j+1,by omega,.ins z h2⟩
    | keep z k _ =>
      simp at hb
      obtain⟨rfl,rfl⟩:=hb
      obtain⟨j,h1,h2⟩:=ih k
      exact⟨j,by omega,.keep x h2⟩
theorem Ed.len {a b:List Int} {n:Nat} (h:Ed a b n):a.length≤b.length+n∧b.length≤a.length+n∧n≤a.length+b.length∧(a.length+b.length-n) % 2=0:=by
  induction h with
  | nil=>simp
  | del x h ih=>simp only[List.length_cons];omega
  | ins y h ih=>simp only[List.length_cons];omega
  | keep x h ih=>simp only[List.length_cons];omega
theorem dist_bounds (a b:List Int):a.length≤b.length+dist a b∧b.length≤a.length+dist a b∧dist a b≤a.length+b.length∧(a.length+b.length-dist a b) % 2=0:=(ed_dist a b).len
theorem Ed.zero {a b:List Int} {n:Nat} (h:Ed a b n):n=0→a=b:=by
  induction h with
  | nil=>intro _;rfl
  | del x h ih=>intro h;omega
  | ins y h ih=>intro h;omega
  | keep x h ih=>intro h;rw[ih h]
def walkV:List Int→List Int→Int→Int→List SpanT
  | [],_,_,_=>[]
  | x::a,[],_,_=>[]
  | x::a,y::b,i,j=>if x=y then ⟨i,j⟩::walkV a b (i+1) (j+1) else if dist a (y::b)+1=dist (x::a) (y::b) then walkV a (y::b) (i+1) j else walkV (x::a) b i (j+1)
termination_by a b=>a.length+b.length
theorem walkV_nil (b:List Int) (i j:Int):walkV [] b i j=[]:=by rw[walkV]
theorem walkV_nil' (a:List Int) (i j:Int):walkV a [] i j=[]:=by cases a <;> rw[walkV]
theorem walkV_eq (x:Int) (a b:List Int) (i j:Int):walkV (x::a) (x::b) i j=⟨i,j⟩::walkV a b (i+1) (j+1):=by rw[walkV];simp
theorem walkV_ne {x y:Int} (h:x≠y) (a b:List Int) (i j:Int):walkV (x::a) (y::b) i j=if dist a (y::b)+1=dist (x::a) (y::b) then walkV a (y::b) (i+1) j else walkV (x::a) b i (j+1):=by rw[walkV];simp[h]
def chgV:List SpanT→Int→Int→List ChangeT
  | [],_,_=>[]
  | s::q,i,j=>if s.fr > i∨s.to > j then ⟨i,s.fr-i,j,s.to-j⟩::chgV q (s.fr+1) (s.to+1) else chgV q (s.fr+1) (s.to+1)
def madeV (p:List SpanT) (m n:Int):List ChangeT:=chgV (p++[⟨m,n⟩]) 0 0
@[simp] def S_script_length:List D→Prop × D:=spec1 (α:=Int) (fun _=>True) (fun n=>Rep.to (decide (0≤n∧n≤4096)))
theorem ct_script_length {P:Program} {f:Nat} {G:Gam} (h:CodeOf P f 1 2 [1] x_script_length) (hG:GamOk P G):Has P f S_script_length:=h.has1 hG fun n _=>by
  simp[x_script_length]
  omega
def numOk (n:Int):Prop:=-1000000≤n∧n≤1000000
@[simp] def S_script_fromPairs:List D→Prop × D:=spec3 (α:=List SpanT) (β:=Int) (γ:=Int) (fun p m n=>p.length≤100000∧numOk m∧numOk n∧∀s,s∈p→numOk s.fr∧numOk s.to) (fun p m n=>Rep.to (madeV p m n))
theorem ct_script_fromPairs {P:Program} {f g:Nat} {G:Gam} (h:CodeOf P f 3 13 [3] (x_script_fromPairs g)) (hG:GamOk P G) (hg:G.findR g=some R_slices_Clip_Span_Span):Has P f S_script_fromPairs:=h.has3 hG fun p m n hp=>by
  obtain⟨hp,hm,hn,hs⟩:=hp
  simp[x_script_fromPairs]
  rw[eR_clip hg (by simp) (by simp)]
  simp
  refine⟨by unfold room;omega,?_⟩
  obtain⟨q,hq⟩:∃q,q=p++[SpanT.mk m n]:=⟨_,rfl⟩
  have hqm:(List.map Rep.to p++[D.agg [D.int .i64 m,D.int .i64 n]]:List D)=q.map Rep.to:=by rw[hq];simp
  have hql:q.length=p.length+1:=by rw[hq];simp
  have hqs:∀k (h:k<q.length),numOk q[k].fr∧numOk q[k].to:=by
    intro k h
    have hm':q[k]∈p++[SpanT.mk m n]:=by rw[← hq];exact List.getElem_mem h
    rcases List.mem_append.1 hm' with h1 | h1
    · exact hs _ h1
    · rw[List.mem_singleton.1 h1];exact⟨hm,hn⟩
  rw[hqm]
  have hgoal:madeV p m n=chgV q 0 0:=by rw[hq];rfl
  rw[hgoal]
  obtain⟨Tf,hT⟩:∃Tf:Nat × List ChangeT × Int × Int→List A,∀x,Tf x=[.any,.any,.any,.any,.gr 0 4 (x.2.1.map Rep.to),.d (.int .i64 x.2.2.1),.d (.int .i64 x.2.2.2),.any,.gr 1 2 (q.map Rep.to),.d (.int .i64 q.length),.d (.int .i64 x.1),.any,.any]:=⟨_,fun _=>rfl⟩
  obtain⟨sf,hsf⟩:∃sf:Nat × List ChangeT × Int × Int→Store,∀x,sf x=[.tip x.2.1.length,.tip q.length]:=⟨_,fun _=>rfl⟩
  refine vc_ghost (σ:=Nat × List ChangeT × Int × Int) [false,false,false,false,true,true,true,false,true,true,true] 2 (fun x=>x.1≤q.length∧x.2.1.length≤x.1∧x.2.1++chgV (q.drop x.1) x.2.2.1 x.2.2.2=chgV q 0 0∧-1000001≤x.2.2.1∧x.2.2.1≤1000001∧-1000001≤x.2.2.2∧x.2.2.2≤1000001)
    (fun x=>q.length-x.1) Tf sf (0,[],0,0) (by omega) ?_ ?_ ?_
  · simp[inScope]
  · simp[hT,hsf,hql]
  rintro⟨k,out,i,j⟩ ⟨h1,h2,h3,h4,h5,h6,h7⟩
  simp only at h1 h2 h3 h4 h5 h6 h7
  rw[hT,hsf]
  simp
  refine⟨fun h8=>?_,fun h8=>?_⟩
  · obtain⟨⟨f1,f2⟩,f3,f4⟩:=hqs k h8
    rw[List.drop_eq_getElem_cons h8] at h3
    generalize hg':q[k]=sp at *
    obtain⟨fr,to⟩:=sp
    simp only at f1 f2 f3 f4
    have e1:=add1 h8 (by omega)
    have w1:=wrap_in (n:=fr+1) (by omega) (by omega)
    have w2:=wrap_in (n:=to+1) (by omega) (by omega)
    have w3:=wrap_in (n:=fr-i) (by omega) (by omega)
    have w4:=wrap_in (n:=to-j) (by omega) (by omega)
    simp[getD_map,h8,hg',inScope,pairsOk,disj,w1,w2,w3,w4,e1]
    have r1:room (out.length+1) 32:=by unfold room;omega
    have c1:(i<fr∨j<to)→out++[(⟨i,fr-i,j,to-j⟩:ChangeT)]++chgV (q.drop (k+1)) (fr+1) (to+1)=chgV q 0 0:=by
      intro h
      rw[← h3]
      simp only[chgV,gt_iff_lt,h,if_true,List.append_assoc,List.cons_append,List.nil_append]
    have c2:¬(i<fr∨j<to)→out++chgV (q.drop (k+1)) (fr+1) (to+1)=chgV q 0 0:=by
      intro h
      rw[← h3]
      simp only[chgV,gt_iff_lt,h,if_false]
    refine⟨fun h9=>⟨r1,k+1,by omega,out++[⟨i,fr-i,j,to-j⟩],fr+1,to+1,?_,?_,by omega,by simp;omega,c1 (.inl h9),by omega,by omega,by omega,by omega⟩,
      fun h9=>⟨fun h10=>⟨r1,k+1,by omega,out++[⟨i,fr-i,j,to-j⟩],fr+1,to+1,?_,?_,by omega,by simp;omega,c1 (.inr h10),by omega,by omega,by omega,by omega⟩,
        fun h10=>⟨k+1,by omega,out,fr+1,to+1,?_,?_,by omega,by omega,c2 (by omega),by omega,by omega,by omega,by omega⟩⟩⟩
    all_goals first | (rw[hT];simp;done) | (rw[hsf];simp;done) | (rw[hsf];done)
  · have h9:k=q.length:=by omega
    subst h9
    rw[List.drop_length] at h3
    simp only[chgV,List.append_nil] at h3
    rw[h3]
def ascB:List SpanT→Int→Int→Int→Int→Bool
  | [],_,_,_,_=>true
  | s::p,i,j,m,n=>decide (i≤s.fr) && decide (s.fr<m) && decide (j≤s.to) && decide (s.to<n) && ascB p (s.fr+1) (s.to+1) m n
theorem ascB_mem:∀{p:List SpanT} {i j m n:Int},ascB p i j m n=true→∀s,s∈p→i≤s.fr∧s.fr<m∧j≤s.to∧s.to<n
  | [],_,_,_,_,_,s,hs=>by simp at hs
  | x::p,i,j,m,n,h,s,hs=>by
    simp only[ascB,Bool.and_eq_true,decide_eq_true_eq] at h
    obtain⟨⟨⟨⟨h1,h2⟩,h3⟩,h4⟩,h5⟩:=h
    rcases List.mem_cons.1 hs with rfl | hs
    · exact⟨h1,h2,h3,h4⟩
    · have:=ascB_mem h5 s hs
      omega
def fromPairsV (p:List SpanT) (m n:Int):List ChangeT × Int :=
  if ¬(0≤m∧m≤4096∧0≤n∧n≤4096) then ([],80) else if ascB p 0 0 m n=true then (madeV p m n,0) else ([],3)
@[simp] def S_script_FromPairs:List D→Prop × D:=spec3 (α:=List SpanT) (β:=Int) (γ:=Int) (fun p m n=>p.length≤100000) (fun p m n=>.tup [Rep.to (fromPairsV p m n).1,.int .i64 (fromPairsV p m n).2])
theorem ct_script_FromPairs {P:Program} {f g1 g2:Nat} {G:Gam} (h:CodeOf P f 3 13 [3,4] (x_script_FromPairs g1 g2)) (hG:GamOk P G) (hg1:G.find g1=some S_script_length) (hg2:G.find g2=some S_script_fromPairs):Has P f S_script_FromPairs:=h.has3 hG fun p m n hp=>by
  simp[x_script_FromPairs,hg1]
  have bad:(m<0∨4096<m∨n<0∨4096<n)→fromPairsV p m n=([],80):=by
    intro h
    unfold fromPairsV
    rw[if_pos (by omega)]
  refine⟨fun h=>by rw[bad (by omega)];simp,fun m0 m1=>⟨fun h=>by rw[bad (by omega)];simp,fun n0 n1=>?_⟩⟩
  obtain⟨Tf,hT⟩:∃Tf:Nat × Int × Int→List A,∀x,Tf x=[.d (Rep.to p),.d (.int .i64 m),.d (.int .i64 n),.any,.any,.ref 0 0 0 0,.any,.any,.d (Rep.to p),.d (.int .i64 p.length),.d (.int .i64 x.1),.any,.any]:=⟨_,fun _=>rfl⟩
  obtain⟨sf,hsf⟩:∃sf:Nat × Int × Int→Store,∀x,sf x=[.cells 0 2 [.agg [.d (.int .i64 x.2.1),.d (.int .i64 x.2.2)]]]:=⟨_,fun _=>rfl⟩
  have hv:∀b,ascB p 0 0 m n=b→fromPairsV p m n=if b=true then (madeV p m n,0) else ([],3):=by
    intro b hb
    unfold fromPairsV
    rw[if_neg (by omega),hb]
  refine vc_ghost (σ:=Nat × Int × Int) [true,true,true,false,false,true,false,false,true,true,true] 1 (fun x=>x.1≤p.length∧ascB (p.drop x.1) (x.2.1+1) (x.2.2+1) m n=ascB p 0 0 m n)
    (fun x=>p.length-x.1) Tf sf (0,-1,-1) (by omega) ?_ ?_ ?_
  · simp[inScope]
  · simp[hT,hsf]
  rintro⟨k,lf,lt⟩ ⟨h1,h2⟩
  simp only at h1 h2
  rw[hT,hsf]
  simp
  refine⟨fun h3=>?_,fun h3=>?_⟩
  · rw[List.drop_eq_getElem_cons h3] at h2
    generalize hg':p[k]=sp at *
    obtain⟨fr,to⟩:=sp
    have e1:=add1 h3 (by omega)
    simp[getD_map,h3,hg',inScope,pairsOk,disj,e1]
    have bad2:(fr≤lf∨m≤fr∨to≤lt∨n≤to)→(fromPairsV p m n).fst=[]∧3=(fromPairsV p m n).snd:=by
      intro h
      have:ascB (⟨fr,to⟩::p.drop (k+1)) (lf+1) (lt+1) m n=false:=by
        simp only[ascB,Bool.and_eq_false_iff,decide_eq_false_iff_not]
        omega
      rw[this] at h2
      rw[hv _ h2.symm]
      simp
    refine⟨fun h=>bad2 (by omega),fun c1=>⟨fun h=>bad2 (by omega),fun c2=>⟨fun h=>bad2 (by omega),fun c3=>⟨fun h=>bad2 (by omega),fun c4=>⟨k+1,by omega,fr,to,?_,?_,by omega,?_⟩⟩⟩⟩⟩
    · rw[hT];simp
    · rw[hsf]
    · rw[← h2]
      simp only[ascB]
      have:decide (lf+1≤fr)=true∧decide (fr<m)=true∧decide (lt+1≤to)=true∧decide (to<n)=true:=by simp only[decide_eq_true_eq];omega
      simp only[this,Bool.true_and]
  · have h9:k=p.length:=by omega
    subst h9
    rw[List.drop_length] at h2
    have ha:=hv _ h2.symm
    have hm:=ascB_mem h2.symm
    simp[hg2,ha,ascB]
    refine⟨hp,⟨by omega,by omega⟩,⟨by omega,by omega⟩,fun s hs=>?_⟩
    have:=hm s hs
    exact⟨⟨by omega,by omega⟩,⟨by omega,by omega⟩⟩
@[simp] def S_shortest_limited:List D→Prop × D:=spec2 (α:=List Int) (β:=List Int) (fun _ _=>True) (fun a b=>Rep.to (decide (a.length≤4096∧b.length≤4096)))
theorem ct_shortest_limited {P:Program} {f:Nat} {G:Gam} (h:CodeOf P f 2 3 [2] x_shortest_limited) (hG:GamOk P G):Has P f S_shortest_limited:=h.has2 hG fun a b _=>by
  simp[x_shortest_limited]
  refine⟨fun h1=>?_,by omega⟩
  have h2:a.length≤4096:=by omega
  simp[h2]
  omega
def begV:List Int→List Int→Nat
  | x::a,y::b=>if x=y then begV a b+1 else 0
  | _,_=>0
theorem begV_le (a b:List Int):begV a b≤a.length∧begV a b≤b.length:=by
  induction a generalizing b with
  | nil=>simp[begV]
  | cons x a ih =>
    cases b with
    | nil=>simp[begV]
    | cons y b =>
      simp only[begV]
      split
      · have:=ih b;simp;omega
      · simp
@[simp] def S_shortest_beginning:List D→Prop × D:=spec2 (α:=List Int) (β:=List Int) (fun a _=>a.length≤9223372036854775807) (fun a b=>Rep.to ((begV a b:Nat):Int))
theorem ct_shortest_beginning {P:Program} {f:Nat} {G:Gam} (h:CodeOf P f 2 5 [2] x_shortest_beginning) (hG:GamOk P G):Has P f S_shortest_beginning:=h.has2 hG fun a b ha=>by
  simp[x_shortest_beginning]
  refine vc_ghost (σ:=Nat) [true,true,false,true] 0 (fun i=>i≤a.length∧i≤b.length∧begV (a.drop i) (b.drop i)+i=begV a b) (fun i=>a.length-i) (fun i=>[.d (Rep.to a),.d (Rep.to b),.any,.d (.int .i64 i),.any]) (fun _=>[]) 0 (Nat.le_refl _) (by simp) (by simp) ?_
  rintro i ⟨h1,h2,h3⟩
  simp
  refine⟨fun h4=>⟨fun h5=>?_,fun h5=>?_⟩,fun h4=>?_⟩
  · have e:=add1 h4 ha
    rw[List.drop_eq_getElem_cons h4,List.drop_eq_getElem_cons h5] at h3
    simp[getD_map,h4,h5,e,pairsOk]
    refine⟨fun h6=>⟨i+1,by omega,by simp,by omega,by omega,?_⟩,fun h6=>?_⟩
    · rw[begV,if_pos h6] at h3
      omega
    · rw[begV,if_neg h6] at h3
      omega
  · have:b.drop i=[]:=List.drop_eq_nil_of_le (by omega)
    rw[this] at h3
    cases hq:a.drop i <;> rw[hq] at h3 <;> simp[begV] at h3 <;> omega
  · have:a.drop i=[]:=List.drop_eq_nil_of_le (by omega)
    rw[this] at h3
    simp[begV] at h3
    omega
/-! the distances of all rests -/
def restV (a b:List Int) (k:Nat):Nat:=dist (a.drop (k / (b.length+1))) (b.drop (k % (b.length+1)))
def tabN (a b:List Int):Nat:=(a.length+1) * (b.length+1)
def tabD (a b:List Int):D:=.sl 1 ((List.range (tabN a b)).map fun k=>.int .u16 (restV a b k))
def fillP (a b:List Int) (p:Nat→Bool):List A:=(List.range (tabN a b)).map fun k=>.d (.int .u16 (if p k=true then (restV a b k:Int) else 0))
theorem fillP_len (a b:List Int) (p:Nat→Bool):(fillP a b p).length=tabN a b:=by simp[fillP]
theorem fillP_get {a b:List Int} {p:Nat→Bool} {k:Nat} (h1:p k=true) (h2:k<tabN a b):(fillP a b p).getD k .any=.d (.int .u16 (restV a b k)):=by
  simp[fillP,List.getD,h2,h1]
theorem fillP_eq {a b:List Int} {p q:Nat→Bool} (h:∀k,k<tabN a b→p k=q k∨restV a b k=0):fillP a b p=fillP a b q:=by
  refine List.map_congr_left fun k hk=>?_
  rcases h k (by simpa using hk) with h1 | h1
  · rw[h1]
  · rw[h1];simp
theorem fillP_set {a b:List Int} {p q:Nat→Bool} {c:Nat} (hc:q c=true) (h:∀k,k≠c→p k=q k):(fillP a b p).set c (.d (.int .u16 (restV a b c)))=fillP a b q:=by
  apply List.ext_getElem
  · simp[fillP]
  · intro k h1 h2
    simp only[fillP,List.length_set,List.length_map,List.length_range] at h1
    rw[List.getElem_set]
    by_cases hk:c=k
    · subst hk
      simp[fillP,hc]
    · simp only[hk,if_false,fillP,List.getElem_map,List.getElem_range,h k (Ne.symm hk)]
theorem restV_row {a b:List Int} {i j:Nat} (hj:j≤b.length):restV a b (i * (b.length+1)+j)=dist (a.drop i) (b.drop j):=by
  unfold restV
  have h1:(i * (b.length+1)+j) / (b.length+1)=i:=by
    rw[Nat.add_comm,Nat.add_mul_div_right _ _ (by omega),Nat.div_eq_of_lt (by omega)];omega
  have h2:(i * (b.length+1)+j) % (b.length+1)=j:=by
    rw[Nat.add_comm,Nat.add_mul_mod_self_right,Nat.mod_eq_of_lt (by omega)]
  rw[h1,h2]
theorem fill_lt {a b:List Int} {i j:Nat} (hi:i≤a.length) (hj:j≤b.length):i * (b.length+1)+j<tabN a b:=by
  unfold tabN
  have:i * (b.length+1)≤a.length * (b.length+1):=Nat.mul_le_mul_right _ hi
  rw[Nat.add_mul]
  omega
@[simp] def S_shortest_distances:List D→Prop × D:=spec2 (α:=List Int) (β:=List Int) (fun a b=>a.length≤4096∧b.length≤4096) (fun a b=>tabD a b)
theorem ct_shortest_distances {P:Program} {f:Nat} {G:Gam} (h:CodeOf P f 2 16 [2] x_shortest_distances) (hG:GamOk P G):Has P f S_shortest_distances:=h.has2 hG fun a b hp=>by
  obtain⟨ha,hb⟩:=hp
  have w1:=wrap_in (n:=(b.length:Int)+1) (by omega) (by omega)
  have w2:=wrap_in (n:=(a.length:Int)+1) (by omega) (by omega)
  have hN:tabN a b≤4097 * 4097:=Nat.mul_le_mul (by omega) (by omega)
  have w3:IntKind.i64.wrap (((a.length:Int)+1) * ((b.length:Int)+1))=(tabN a b:Int):=by
    rw[wrap_in]
    · unfold tabN;push_cast;rfl
    · have:(0:Int)≤((a.length:Int)+1) * ((b.length:Int)+1):=Int.mul_nonneg (by omega) (by omega)
      omega
    · have:((tabN a b:Nat):Int)=((a.length:Int)+1) * ((b.length:Int)+1):=by unfold tabN;push_cast;rfl
      omega
  obtain⟨q,hq⟩:∃q:Nat→Nat,∀i,q i=i * (b.length+1):=⟨_,fun _=>rfl⟩
  obtain⟨r,hr⟩:∃r:Nat→Nat→Nat,∀i j,r i j=i * (b.length+1)+j:=⟨_,fun _ _=>rfl⟩
  have hqM:∀i:Nat,i≤a.length+1→q i≤tabN a b:=fun i hi=>by rw[hq];exact Nat.mul_le_mul_right _ hi
  have hq1:∀i:Nat,q (i+1)=q i+(b.length+1):=fun i=>by rw[hq,hq,Nat.add_mul];omega
  have hqr:∀i j:Nat,r i j=q i+j:=fun i j=>by rw[hq,hr]
  have hrl:∀i j:Nat,i≤a.length→j≤b.length→r i j<tabN a b:=fun i j hi hj=>by rw[hr];exact fill_lt hi hj
  have hrv:∀i j:Nat,j≤b.length→restV a b (r i j)=dist (a.drop i) (b.drop j):=fun i j hj=>by rw[hr];exact restV_row hj
  have cM:∀i:Nat,i≤a.length+1→IntKind.i64.wrap ((i:Int) * ((b.length:Int)+1))=(q i:Int):=by
    intro i hi
    have e:(i:Int) * ((b.length:Int)+1)=(q i:Int):=by rw[hq];push_cast;rfl
    have:=hqM i hi
    rw[e,wrap_in (by omega) (by omega)]
  have cA:∀i j:Nat,i≤a.length→j≤b.length→IntKind.i64.wrap ((q i:Int)+(j:Int))=(r i j:Int):=by
    intro i j hi hj
    have:=hrl i j hi hj
    have e:(q i:Int)+(j:Int)=(r i j:Int):=by rw[hqr];push_cast;rfl
    rw[e,wrap_in (by omega) (by omega)]
  simp[x_shortest_distances,w1,w2,w3]
  refine⟨⟨by unfold room;omega,by omega⟩,?_⟩
  obtain⟨T1,hT1⟩:∃Tf:Nat→List A,∀j,Tf j=[.d (Rep.to a),.d (Rep.to b),.any,.d (.int .i64 (b.length+1)),.own 0 0 0 (tabN a b),.any,.any,.any,.any,.any,.d (.int .i64 b.length),.d (.int .i64 j),.any,.any,.any,.any]:=⟨_,fun _=>rfl⟩
  obtain⟨f1,hf1⟩:∃f:Nat→List A,∀j,f j=fillP a b (fun k=>decide (q a.length≤k) && decide (k<q a.length+j)):=⟨_,fun _=>rfl⟩
  have f1l:∀j,(f1 j).length=tabN a b:=fun j=>by rw[hf1,fillP_len]
  refine vc_ghost (σ:=Nat) [true,true,false,true,true,false,false,false,false,false,true,true] 1 (fun j=>j≤b.length) (fun j=>b.length-j) T1 (fun j=>[.cells 0 1 (f1 j)]) 0 (by omega) (by simp[inScope]) ?_ ?_
  · refine⟨by simp[hT1],?_,by omega⟩
    simp only[List.take_succ_cons,List.take_zero,List.cons.injEq,Ob.cells.injEq,true_and,and_true]
    rw[hf1]
    apply List.ext_getElem
    · simp[fillP]
    · intro k h1 h2
      have:¬(q a.length≤k∧k<q a.length+0):=by omega
      simp[fillP]
      omega
  · intro j hj
    rw[hT1]
    simp
    refine⟨fun h1=>?_,fun h1=>?_⟩
    · have c1:=cM a.length (by omega)
      have c2:=cA a.length j (by omega) (by omega)
      have c3:=add1 h1 (by omega)
      have c4:=wrap_in (n:=(b.length:Int)-j) (by omega) (by omega)
      have c6:=hrl a.length j (by omega) (by omega)
      have c5:IntKind.u16.wrap ((b.length:Int)-j)=(restV a b (r a.length j):Int):=by
        rw[hrv _ _ (by omega),List.drop_length,dist_nil]
        simp[IntKind.wrap,IntKind.bits,IntKind.signed]
        omega
      simp[c1,c2,c3,c4,c5,c6,f1l]
      refine⟨by simp[inScope],j+1,by omega,by rw[hT1];simp,?_,by omega⟩
      rw[hf1,hf1]
      have e:=hqr a.length j
      exact fillP_set (by simp;omega) (fun k hk=>by
        by_cases h2:q a.length≤k <;> simp[h2]
        omega)
    · have h2:j=b.length:=by omega
      obtain⟨f2,hf2⟩:∃f:Nat→List A,∀c,f c=fillP a b (fun k=>decide (c≤k)):=⟨_,fun _=>rfl⟩
      have f2l:∀j,(f2 j).length=tabN a b:=fun j=>by rw[hf2,fillP_len]
      have e1:f1 j=f2 (q a.length):=by
        rw[hf1,hf2]
        refine fillP_eq fun k hk=>?_
        rcases Nat.lt_or_ge k (q a.length+j) with h3 | h3
        · left;simp[h3]
        · right
          have e9:k=r a.length b.length:=by
            rw[hqr]
            have:tabN a b=q a.length+(b.length+1):=by rw[hq];unfold tabN;rw[Nat.add_mul];omega
            omega
          rw[e9,hrv _ _ (Nat.le_refl _),List.drop_length,List.drop_length,dist_nil]
          rfl
      have w4:=wrap_in (n:=(a.length:Int)-1) (by omega) (by omega)
      rw[e1]
      obtain⟨T2,hT2⟩:∃Tf:Nat→List A,∀i,Tf i=[.d (Rep.to a),.d (Rep.to b),.any,.d (.int .i64 (b.length+1)),.own 0 0 0 (tabN a b),.any,.d (.int .i64 ((i:Int)-1)),.any,.any,.any,.any,.any,.any,.any,.any,.any]:=⟨_,fun _=>rfl⟩
      simp[w4]
      refine vc_ghost (σ:=Nat) [true,true,false,true,true,false,true] 1 (fun i=>i≤a.length) (fun i=>i) T2 (fun i=>[.cells 0 1 (f2 (q i))]) a.length (by omega) (by simp[inScope]) ?_ ?_
      · exact⟨by simp[hT2],by simp,by omega⟩
      · intro i hi
        rcases Nat.eq_zero_or_pos i with h0 | h0
        · subst h0
          rw[hT2]
          simp
          have q0:q 0=0:=by rw[hq];simp
          have hall:f2 (q 0)=(List.range (tabN a b)).map fun k=>.d (.int .u16 (restV a b k)):=by
            rw[hf2,q0]
            exact List.map_congr_left fun k hk=>by simp
          rw[hall]
          simp only[bor,List.getD_cons_zero,List.drop_zero]
          rw[List.take_of_length_le (by simp)]
          refine⟨⟨trivial,?_⟩,?_⟩
          · rw[List.all_eq_true]
            intro x hx
            obtain⟨k,_,rfl⟩:=List.mem_map.1 hx
            rfl
          · rw[List.map_map]
            simp only[tabD,LeD_sl,true_and]
            rfl
        · obtain⟨p,rfl⟩:∃p,i=p+1:=⟨i-1,by omega⟩
          have e2:(((p+1:Nat):Int))-1=(p:Int):=by omega
          have e3:=wrap_in (n:=(p:Int)+1) (by omega) (by omega)
          have e4:=wrap_in (n:=(p:Int)+2) (by omega) (by omega)
          have g0:=cM p (by omega)
          have g1:IntKind.i64.wrap (((p:Int)+1) * ((b.length:Int)+1))=(q (p+1):Int):=by have:=cM (p+1) (by omega);push_cast at this;exact this
          have g2:IntKind.i64.wrap (((p:Int)+2) * ((b.length:Int)+1))=(q (p+2):Int):=by have:=cM (p+2) (by omega);push_cast at this;exact this
          have g3:=hq1 p
          have g4:q (p+2)=q (p+1)+(b.length+1):=hq1 (p+1)
          have g5:=hqM (p+2) (by omega)
          have hap:p<a.length:=by omega
          have w5:=wrap_in (n:=(b.length:Int)-1) (by omega) (by omega)
          have w6:=wrap_in (n:=(a.length:Int)-p) (by omega) (by omega)
          have w7:IntKind.u16.wrap ((a.length:Int)-p)=(restV a b (r p b.length):Int):=by
            rw[hrv _ _ (by omega),List.drop_length,dist_nil']
            simp[IntKind.wrap,IntKind.bits,IntKind.signed]
            omega
          have w8:=wrap_in (n:=(p:Int)-1) (by omega) (by omega)
          have e5:(f2 (q (p+1))).set (q p+b.length) (.d (.int .u16 (restV a b (r p b.length))))=f2 (r p b.length):=by
            rw[hf2,hf2,← hqr]
            have:=hqr p b.length
            exact fillP_set (by simp) (fun k hk=>by simp;omega)
          rw[hT2,e2]
          simp[e3,e4,g0,g1,g2,f2l,w5,w6,w7,e5]
          refine⟨by omega,by omega,by omega,by omega,?_⟩
          obtain⟨T3,hT3⟩:∃Tf:Nat→List A,∀j,Tf j=[.d (Rep.to a),.d (Rep.to b),.any,.d (.int .i64 (b.length+1)),.own 0 0 0 (tabN a b),.any,.d (.int .i64 p),.own 0 0 (q p) (q (p+1)-q p),.own 0 0 (q (p+1)) (q (p+2)-q (p+1)),.d (.int .i64 ((j:Int)-1)),.any,.any,.any,.any,.any,.any]:=⟨_,fun _=>rfl⟩
          refine vc_ghost (σ:=Nat) [true,true,false,true,true,false,true,true,true,true] 1 (fun j=>j≤b.length) (fun j=>j) T3 (fun j=>[.cells 0 1 (f2 (r p j))]) b.length (by omega) (by simp[inScope]) ?_ ?_
          · exact⟨by simp[hT3],by simp,by omega⟩
          · intro j hj
            rcases Nat.eq_zero_or_pos j with j0 | j0
            · subst j0
              rw[hT3]
              simp[w8]
              refine⟨by simp[inScope],p,by omega,?_,?_,by omega⟩
              · rw[hT2];simp
              · rw[hqr];rfl
            · obtain⟨t,rfl⟩:∃t,j=t+1:=⟨j-1,by omega⟩
              have e6:(((t+1:Nat):Int))-1=(t:Int):=by omega
              have hbt:t<b.length:=by omega
              have e7:=wrap_in (n:=(t:Int)+1) (by omega) (by omega)
              have e8:=wrap_in (n:=(t:Int)-1) (by omega) (by omega)
              rw[hT3,e6]
              have fg:∀x y:Nat,r p (t+1)≤q x+y→q x+y<tabN a b→y≤b.length→(f2 (r p (t+1)))[q x+y]?=some (.d (.int .u16 (dist (a.drop x) (b.drop y):Nat))):=by
                intro x y h1 h2 h3
                have:=fillP_get (a:=a) (b:=b) (p:=fun k=>decide (r p (t+1)≤k)) (k:=q x+y) (by simpa using h1) h2
                rw[← hqr,hrv x y h3] at this
                rw[← hf2] at this
                rw[← hqr]
                have h4:r x y<(f2 (r p (t+1))).length:=by rw[f2l,hqr];exact h2
                rw[getD_lt _ _ h4] at this
                rw[List.getElem?_eq_getElem h4,this]
              have k1:=hqr p (t+1)
              have k2:=fg (p+1) (t+1) (by omega) (by omega) (by omega)
              have k3:=fg (p+1) t (by omega) (by omega) (by omega)
              have k4:=fg p (t+1) (by omega) (by omega) (by omega)
              have k5:∀v:Nat,v=dist (a.drop p) (b.drop t)→(f2 (r p (t+1))).set (q p+t) (.d (.int .u16 v))=f2 (r p t):=by
                intro v hv
                have e:=hrv p t (by omega)
                rw[hv,← e,hf2,hf2,← hqr]
                have:=hqr p t
                exact fillP_set (by simp) (fun k hk=>by simp;omega)
              have da:a.drop p=a[p]::a.drop (p+1):=List.drop_eq_getElem_cons hap
              have db:b.drop t=b[t]::b.drop (t+1):=List.drop_eq_getElem_cons hbt
              have b1:=(dist_bounds (a.drop (p+1)) (b.drop t)).2.2.1
              simp only[List.length_drop] at b1
              have w9:a[p]≠b[t]→IntKind.u16.wrap (min (dist (a.drop (p+1)) (b.drop t):Int) (dist (a.drop p) (b.drop (t+1)):Int)+1)=((dist (a.drop p) (b.drop t):Nat):Int):=by
                intro hne
                have e:dist (a.drop p) (b.drop t)=1+min (dist (a.drop (p+1)) (b.drop t)) (dist (a.drop p) (b.drop (t+1))):=by
                  conv=>lhs;rw[da,db,dist_ne hne,← da,← db]
                rw[e]
                simp only[IntKind.wrap,IntKind.bits,IntKind.signed]
                simp
                omega
              have hsc:∀v:Nat,inScope 1 [A.d (D.sl 1 (List.map Rep.to a)),A.d (D.sl 1 (List.map Rep.to b)),A.any,A.d (D.int .i64 (b.length+1)),A.own 0 0 0 (tabN a b),A.any,A.d (D.int .i64 p),A.own 0 0 (q p) (q (p+1)-q p),A.own 0 0 (q (p+1)) (q (p+2)-q (p+1)),A.d (D.int .i64 ((t:Int)-1)),A.any,A.any,A.any,A.any,A.any,A.any] [Ob.cells 0 1 ((f2 (r p (t+1))).set (q p+t) (A.d (D.int .u16 v)))]:=fun v=>.inl (by simp)
              simp[getD_map,hap,hbt,e7,e8,f2l,k2,k3,k4]
              refine⟨fun hq=>⟨by omega,by omega,by omega,by omega,hsc _,t,by omega,?_,?_,by omega⟩,fun hne=>⟨by omega,by omega,by omega,by omega,by omega,by omega,?_,t,by omega,?_,?_,by omega⟩⟩
              · rw[hT3];simp
              · exact k5 _ (by rw[da,db,hq,dist_eq])
              · rw[w9 hne];exact hsc _
              · rw[hT3];simp
              · rw[w9 hne];exact k5 _ rfl
def walkS (args:List A) (s0:Store):Prop × Store × A :=
  match args,s0 with
  | [.d (.int .i64 i),.d (.int .i64 j),.ref 0 v 0 0,.ref 1 u 0 0],[.cells v' 1 [.d (.sl 1 xs)],.cells u' 1 [.d (.sl 1 ys)]] =>
    match xs.getD (i.toNat * (ys.length+1)+j.toNat) default with
    | .int .u16 n=>(v=v'∧u=u'∧0≤i∧i≤4096∧0≤j∧j≤4096∧ys.length≤4096∧i.toNat * (ys.length+1)+j.toNat<xs.length∧0≤n∧n≤65535,[.cells v 1 [.d (.sl 1 xs)],.cells u 1 [.d (.sl 1 ys)]],.d (.int .i64 n))
    | _=>(False,[],.any)
  | _,_=>(False,[],.any)
def walkR (args:List A) (_:Store) (_:Nat):List Nat :=
  match args with
  | [_,_,.ref l _ _ _,.ref m _ _ _]=>[l,m]
  | _=>[]
abbrev R_shortest_walk_1:RSpec:=⟨walkR,walkS⟩
theorem ct_shortest_walk_1 {P:Program} {f:Nat} (hc:CodeOf P f 4 5 [4] x_shortest_walk_1):RSpec.Ok P f R_shortest_walk_1:=by
  refine⟨hc.call,fun _ _ _ _ _=>rfl,?_⟩
  intro args s0 hp
  simp only[walkS] at hp ⊢
  split at hp
  · rename_i i j v u v' xs u' ys
    split at hp
    · rename_i n hn
      obtain⟨rfl,rfl,h1,h2,h3,h4,h5,h6,h7,h8⟩:=hp
      obtain⟨p,rfl⟩:=Int.eq_ofNat_of_zero_le h1
      obtain⟨q,rfl⟩:=Int.eq_ofNat_of_zero_le h3
      simp only[Int.toNat_natCast] at hn h6 ⊢
      refine hc.rcalls (GamOk.nil _) rfl ?_
      have hm:p * (ys.length+1)≤4096 * 4097:=Nat.mul_le_mul (by omega) (by omega)
      have w1:=wrap_in (n:=(ys.length:Int)+1) (by omega) (by omega)
      obtain⟨k,hk⟩:∃k,k=p * (ys.length+1):=⟨_,rfl⟩
      have w2:IntKind.i64.wrap ((p:Int) * ((ys.length:Int)+1))=(k:Int):=by
        have e:(p:Int) * ((ys.length:Int)+1)=(k:Int):=by rw[hk];push_cast;rfl
        rw[e,wrap_in (by omega) (by omega)]
      have w3:IntKind.i64.wrap ((k:Int)+(q:Int))=((k+q:Nat):Int):=by rw[wrap_in (by omega) (by omega)];rfl
      rw[← hk] at hn h6
      have w4:=wrap_in (n:=n) (by omega) (by omega)
      rw[List.getD,List.getElem?_eq_getElem h6] at hn
      simp only[Option.getD_some] at hn
      simp[x_shortest_walk_1,startA,w1,w2]
      rw[w3]
      generalize k+q=c at *
      simp[h6,hn,w4]
      exact⟨by simp[resPre],[0,1],rfl,⟨by decide,by simp,rfl⟩,fun k hk=>.inl (by match k,hk with | 0,_=>rfl | 1,_=>rfl),rfl,rfl,rfl⟩
    · exact hp.elim
  · exact hp.elim
theorem eR_walk1 {G:Gam} {f:Nat} (hf:G.findR f=some R_shortest_walk_1) {s:Store} {nw l m v u i j:Nat} {a b:List Int} (h1:s.getD l .dead=.cells v 1 [.d (tabD a b)]) (h2:s.getD m .dead=.cells u 1 [.d (.sl 1 (b.map Rep.to))])
    (h3:l≠m) (h4:l<s.length∧m<s.length) (h5:i≤a.length∧j≤b.length) (h6:a.length≤4096∧b.length≤4096) {x y:Int} (hx:x=i) (hy:y=j) :
    eRCall G s nw f [.d (.int .i64 x),.d (.int .i64 y),.ref l v 0 0,.ref m u 0 0]=⟨True,[(l,.cells v 1 [.d (tabD a b)]),(m,.cells u 1 [.d (.sl 1 (b.map Rep.to))])],.d (.int .i64 ((dist (a.drop i) (b.drop j):Nat):Int))⟩:=by
  subst hx hy
  obtain⟨l1,l2⟩:=h4
  have hlt:=fill_lt (a:=a) (b:=b) h5.1 h5.2
  have hrow:=restV_row (a:=a) (b:=b) (i:=i) h5.2
  have hb:=(dist_bounds (a.drop i) (b.drop j)).2.2.1
  simp only[List.length_drop] at hb
  have hv:((List.range (tabN a b)).map fun k=>D.int .u16 (restV a b k)).getD (i * (b.length+1)+j) default=.int .u16 (dist (a.drop i) (b.drop j):Nat):=by
    rw[getD_lt _ _ (by simpa using hlt),List.getElem_map,List.getElem_range,hrow]
  unfold eRCall
  rw[hf]
  simp only[walkR,List.map_cons,List.map_nil,h1,h2]
  have q1:i≤4096:=by omega
  have q2:j≤4096:=by omega
  have q3:dist (a.drop i) (b.drop j)≤65535:=by omega
  simp only[tabD] at *
  simp[walkS,h3,l1,l2,h6.2,hlt,-List.getD_eq_getElem?_getD,hv]
  omega
theorem walkV_beg:∀(a b:List Int) (i j:Int),walkV a b i j=(List.range (begV a b)).map (fun k=>(⟨i+(k:Nat),j+(k:Nat)⟩:SpanT))++walkV (a.drop (begV a b)) (b.drop (begV a b)) (i+(begV a b:Nat)) (j+(begV a b:Nat))
  | [],b,i,j=>by simp[begV,walkV_nil]
  | x::a,[],i,j=>by simp[begV,walkV_nil']
  | x::a,y::b,i,j=>by
    by_cases h:x=y
    · subst h
      rw[walkV_eq,walkV_beg a b (i+1) (j+1)]
      simp only[begV,if_true,List.range_succ_eq_map,List.map_cons,List.map_map,List.cons_append,List.drop_succ_cons]
      congr 1
      · simp
      · congr 1
        · refine List.map_congr_left fun k _=>?_
          simp only[Function.comp,SpanT.mk.injEq]
          omega
        · congr 1 <;> push_cast <;> omega
    · simp[begV,h]
@[simp] def S_shortest_walk:List D→Prop × D:=spec2 (α:=List Int) (β:=List Int) (fun a b=>a.length≤4096∧b.length≤4096) (fun a b=>Rep.to (walkV a b 0 0))
theorem ct_shortest_walk {P:Program} {f g1 g2 g3:Nat} {G:Gam} (h:CodeOf P f 2 17 [3] (x_shortest_walk g1 g2 g3)) (hG:GamOk P G) (hg1:G.find g1=some S_shortest_beginning) (hg2:G.find g2=some S_shortest_distances) (hg3:G.findR g3=some R_shortest_walk_1):Has P f S_shortest_walk:=h.has2 hG fun a b hp=>by
  obtain⟨ha,hb⟩:=hp
  obtain⟨b1,b2⟩:=begV_le a b
  simp[x_shortest_walk,hg1]
  refine⟨by omega,?_⟩
  obtain⟨n,hn⟩:∃n,n=begV a b:=⟨_,rfl⟩
  rw[← hn] at b1 b2 ⊢
  obtain⟨pre,hpre⟩:∃pre:Nat→List SpanT,∀k,pre k=(List.range k).map (fun k=>(⟨(k:Nat),(k:Nat)⟩:SpanT)):=⟨_,fun _=>rfl⟩
  have hpl:∀k,(pre k).length=k:=fun k=>by rw[hpre];simp
  have hps:∀k,pre (k+1)=pre k++[⟨(k:Nat),(k:Nat)⟩]:=fun k=>by rw[hpre,hpre,List.range_succ,List.map_append];rfl
  obtain⟨T1,hT1⟩:∃Tf:Nat→List A,∀k,Tf k=[.d (Rep.to a),.any,.ref 0 0 0 0,.any,.gr 1 2 ((pre k).map Rep.to),.d (.int .i64 n),.any,.any,.any,.any,.any,.d (.int .i64 n),.d (.int .i64 k),.any,.any,.any,.any]:=⟨_,fun _=>rfl⟩
  refine vc_ghost (σ:=Nat) [true,false,true,false,true,true,false,false,false,false,false,true,true] 2 (fun k=>k≤n) (fun k=>n-k) T1 (fun k=>[.cells 0 1 [.d (Rep.to b)],.tip k]) 0 (by omega) (by simp[inScope]) ?_ ?_
  · exact⟨by simp[hT1,hpre],by simp,by omega⟩
  intro k hk
  rw[hT1]
  simp
  refine⟨fun h1=>?_,fun h1=>?_⟩
  · have e:=add1 h1 (by omega)
    simp[hpl,e]
    refine⟨by unfold room;omega,by simp[inScope],k+1,by omega,?_,rfl,by omega⟩
    rw[hT1,hps]
    simp
  · have hkn:k=n:=by omega
    subst hkn
    obtain⟨a',ha'⟩:∃a',a'=a.drop k:=⟨_,rfl⟩
    obtain⟨b',hb'⟩:∃b',b'=b.drop k:=⟨_,rfl⟩
    have la:a'.length=a.length-k:=by rw[ha'];simp
    have lb:b'.length=b.length-k:=by rw[hb'];simp
    have ma:(List.take (a.length-k) (List.drop k (List.map Rep.to a)):List D)=a'.map Rep.to:=by rw[← List.map_drop,← ha',List.take_of_length_le (by simp;omega)]
    have mb:(List.take (b.length-k) (List.drop k (List.map Rep.to b)):List D)=b'.map Rep.to:=by rw[← List.map_drop,← hb',List.take_of_length_le (by simp;omega)]
    have hw:=walkV_beg a b 0 0
    rw[← hn,← ha',← hb'] at hw
    simp only[Int.zero_add] at hw
    rw[← hpre] at hw
    simp[ma,mb,hg2,pairsOk,b1,b2]
    refine⟨⟨by omega,by omega⟩,by simp[tabD],?_⟩
    obtain⟨T2,hT2⟩:∃Tf:List SpanT × Nat × Nat→List A,∀x,Tf x=[.d (Rep.to a'),.any,.ref 0 0 0 0,.any,.gr 1 2 (x.1.map Rep.to),.d (.int .i64 k),.any,.any,.fn (.func g3) [] [.ref 2 0 0 0,.ref 0 0 0 0],.d (.int .i64 x.2.1),.d (.int .i64 x.2.2),.any,.any,.any,.any,.any,.any]:=⟨_,fun _=>rfl⟩
    obtain⟨s2,hs2⟩:∃sf:List SpanT × Nat × Nat→Store,∀x,sf x=[.cells 0 1 [.d (Rep.to b')],.tip x.1.length,.cells 0 1 [.d (tabD a' b')]]:=⟨_,fun _=>rfl⟩
    refine vc_ghost (σ:=List SpanT × Nat × Nat) [true,false,true,false,true,true,false,false,true,true,true] 3 (fun x=>x.2.1≤a'.length∧x.2.2≤b'.length∧x.1.length≤k+x.2.1∧x.1++walkV (a'.drop x.2.1) (b'.drop x.2.2) (k+x.2.1) (k+x.2.2)=walkV a b 0 0)
      (fun x=>(a'.length-x.2.1)+(b'.length-x.2.2)) T2 s2 (pre k,0,0) (by omega) (by simp[inScope]) ?_ ?_
    · refine⟨by simp[hT2],by simp[hs2,hpl],by simp,by simp,by simp[hpl],?_⟩
      rw[hw]
      simp
    rintro⟨out,i,j⟩ ⟨h2,h3,h4,h5⟩
    simp only at h2 h3 h4 h5
    have e1:=wrap_in (n:=(i:Int)+1) (by omega) (by omega)
    have e2:=wrap_in (n:=(j:Int)+1) (by omega) (by omega)
    have e3:=wrap_in (n:=(k:Int)+i) (by omega) (by omega)
    have e4:=wrap_in (n:=(k:Int)+j) (by omega) (by omega)
    have hr2:∀(s:Store) (nw:Nat),s.getD 2 .dead=.cells 0 1 [.d (tabD a' b')]→s.getD 0 .dead=.cells 0 1 [.d (.sl 1 (b'.map Rep.to))]→2<s.length→eRCall G s nw g3 [.d (.int .i64 i),.d (.int .i64 j),.ref 2 0 0 0,.ref 0 0 0 0]=⟨True,[(2,.cells 0 1 [.d (tabD a' b')]),(0,.cells 0 1 [.d (.sl 1 (b'.map Rep.to))])],.d (.int .i64 ((dist (a'.drop i) (b'.drop j):Nat):Int))⟩ :=
      fun s nw q1 q2 q3=>eR_walk1 hg3 q1 q2 (by omega) ⟨q3,by omega⟩ ⟨h2,h3⟩ ⟨by omega,by omega⟩ rfl rfl
    have hr1:i<a'.length→∀(s:Store) (nw:Nat),s.getD 2 .dead=.cells 0 1 [.d (tabD a' b')]→s.getD 0 .dead=.cells 0 1 [.d (.sl 1 (b'.map Rep.to))]→2<s.length→eRCall G s nw g3 [.d (.int .i64 (i+1)),.d (.int .i64 j),.ref 2 0 0 0,.ref 0 0 0 0]=⟨True,[(2,.cells 0 1 [.d (tabD a' b')]),(0,.cells 0 1 [.d (.sl 1 (b'.map Rep.to))])],.d (.int .i64 ((dist (a'.drop (i+1)) (b'.drop j):Nat):Int))⟩ :=
      fun h s nw q1 q2 q3=>eR_walk1 hg3 q1 q2 (by omega) ⟨q3,by omega⟩ ⟨h,h3⟩ ⟨by omega,by omega⟩ rfl rfl
    have db:=(dist_bounds (a'.drop (i+1)) (b'.drop j)).2.2.1
    simp only[List.length_drop] at db
    have e5:=wrap_in (n:=((dist (a'.drop (i+1)) (b'.drop j):Nat):Int)+1) (by omega) (by omega)
    rw[hT2,hs2]
    have hro:room (out.length+1) 16:=by unfold room;omega
    by_cases hi:i<a'.length <;> by_cases hj:j<b'.length
    · have ea:a'.drop i=a'[i]::a'.drop (i+1):=List.drop_eq_getElem_cons hi
      have eb:b'.drop j=b'[j]::b'.drop (j+1):=List.drop_eq_getElem_cons hj
      have c1:a'[i]=b'[j]→out++[(⟨k+i,k+j⟩:SpanT)]++walkV (a'.drop (i+1)) (b'.drop (j+1)) (k+(i+1)) (k+(j+1))=walkV a b 0 0:=by
        intro he
        rw[ea,eb,he,walkV_eq] at h5
        rw[← h5,Int.add_assoc,Int.add_assoc]
        simp
      have c2:a'[i]≠b'[j]→dist (a'.drop (i+1)) (b'.drop j)+1=dist (a'.drop i) (b'.drop j)→out++walkV (a'.drop (i+1)) (b'.drop j) (k+(i+1)) (k+j)=walkV a b 0 0:=by
        intro he hd
        rw[ea,eb,walkV_ne he,← ea,← eb,if_pos hd] at h5
        rw[← h5,Int.add_assoc]
      have c3:a'[i]≠b'[j]→¬(dist (a'.drop (i+1)) (b'.drop j)+1=dist (a'.drop i) (b'.drop j))→out++walkV (a'.drop i) (b'.drop (j+1)) (k+i) (k+(j+1))=walkV a b 0 0:=by
        intro he hd
        rw[ea,eb,walkV_ne he,← ea,← eb,if_neg hd] at h5
        rw[← h5,Int.add_assoc]
      simp[hi,hj,getD_map,pairsOk,e1,e2,e3,e4,e5,hro,eCallv,hr1 hi,hr2]
      refine⟨fun he=>⟨by simp[inScope],out++[⟨k+i,k+j⟩],i+1,j+1,by omega,?_,?_,hi,hj,by simp;omega,c1 he⟩,
        fun he=>⟨fun hd=>⟨by simp[inScope],out,i+1,j,by omega,?_,?_,hi,h3,by omega,c2 he (by omega)⟩,fun hd=>⟨by simp[inScope],out,i,j+1,by omega,?_,?_,h2,hj,h4,c3 he (by omega)⟩⟩⟩
      all_goals first | (rw[hT2];simp;done) | (rw[hs2];simp;done)
    · have hj2:b'.drop j=[]:=List.drop_eq_nil_of_le (by omega)
      rw[hj2,walkV_nil'] at h5
      have hd0:dist (a'.drop (i+1)) (b'.drop j)+1=dist (a'.drop i) (b'.drop j):=by
        rw[hj2,dist_nil',dist_nil',List.length_drop,List.length_drop];omega
      simp[hi,hj,getD_map,pairsOk,e1,e2,e3,e4,e5,hro,eCallv,hr1 hi,hr2]
      refine⟨fun hd=>⟨by simp[inScope],out,i+1,j,by omega,?_,?_,hi,h3,by omega,?_⟩,fun hd=>absurd (by omega) hd⟩
      · rw[hT2];simp
      · rw[hs2];simp
      · rw[hj2,walkV_nil'];exact h5
    · have hi2:a'.drop i=[]:=List.drop_eq_nil_of_le (by omega)
      rw[hi2,walkV_nil] at h5
      simp[hi,hj,getD_map,pairsOk,e1,e2,e3,e4,e5,hro,eCallv,hr2]
      refine⟨by simp[inScope],out,i,j+1,by omega,?_,?_,h2,hj,h4,?_⟩
      · rw[hT2];simp
      · rw[hs2];simp
      · rw[hi2,walkV_nil];exact h5
    · have hi2:a'.drop i=[]:=List.drop_eq_nil_of_le (by omega)
      rw[hi2,walkV_nil,List.append_nil] at h5
      simp[hi,hj,getD_map,pairsOk,e1,e2,e3,e4,e5,hro,eCallv,hr2]
      rw[h5]
def scriptV (a b:List Int):List ChangeT:=madeV (walkV a b 0 0) a.length b.length
def longV (a b:List Int):Prop:=¬(a.length≤4096∧b.length≤4096)
instance (a b:List Int):Decidable (longV a b):=inferInstanceAs (Decidable (¬_))
theorem walkV_asc:∀(a b:List Int) (i j:Int),ascB (walkV a b i j) i j (i+a.length) (j+b.length)=true:=by
  have mono:∀(p:List SpanT) (i j i' j' m n m' n':Int),i'≤i→j'≤j→m≤m'→n≤n'→ascB p i j m n=true→ascB p i' j' m' n'=true:=by
    intro p
    induction p with
    | nil=>intros;rfl
    | cons s p ih =>
      intro i j i' j' m n m' n' h1 h2 h3 h4 h
      simp only[ascB,Bool.and_eq_true,decide_eq_true_eq] at h ⊢
      obtain⟨⟨⟨⟨k1,k2⟩,k3⟩,k4⟩,k5⟩:=h
      exact⟨⟨⟨⟨by omega,by omega⟩,by omega⟩,by omega⟩,ih _ _ _ _ _ _ _ _ (Int.le_refl _) (Int.le_refl _) h3 h4 k5⟩
  intro a b
  generalize hn:a.length+b.length=n
  induction n using Nat.strongRecOn generalizing a b with
  | _ n ih =>
    intro i j
    cases a with
    | nil=>rw[walkV_nil];rfl
    | cons x a =>
      cases b with
      | nil=>rw[walkV_nil'];rfl
      | cons y b =>
        simp only[List.length_cons] at hn ⊢
        by_cases h:x=y
        · subst h
          rw[walkV_eq]
          simp only[ascB,Bool.and_eq_true,decide_eq_true_eq]
          refine⟨⟨⟨⟨by omega,by omega⟩,by omega⟩,by omega⟩,?_⟩
          have:=ih (a.length+b.length) (by omega) a b rfl (i+1) (j+1)
          exact mono _ _ _ _ _ _ _ _ _ (Int.le_refl _) (Int.le_refl _) (by omega) (by omega) this
        · rw[walkV_ne h]
          split
          · have:=ih (a.length+(b.length+1)) (by omega) a (y::b) (by simp) (i+1) j
            simp only[List.length_cons] at this
            exact mono _ _ _ _ _ _ _ _ _ (by omega) (by omega) (by omega) (by omega) this
          · have:=ih ((a.length+1)+b.length) (by omega) (x::a) b (by simp) i (j+1)
            simp only[List.length_cons] at this
            exact mono _ _ _ _ _ _ _ _ _ (by omega) (by omega) (by omega) (by omega) this
theorem walkV_len (a b:List Int) (i j:Int):(walkV a b i j).length≤a.length:=by
  generalize hn:a.length+b.length=n
  induction n using Nat.strongRecOn generalizing a b i j with
  | _ n ih =>
    cases a with
    | nil=>rw[walkV_nil];simp
    | cons x a =>
      cases b with
      | nil=>rw[walkV_nil'];simp
      | cons y b =>
        simp only[List.length_cons] at hn ⊢
        by_cases h:x=y
        · subst h
          rw[walkV_eq]
          have:=ih (a.length+b.length) (by omega) a b (i+1) (j+1) rfl
          simp only[List.length_cons]
          omega
        · rw[walkV_ne h]
          split
          · have:=ih (a.length+(b.length+1)) (by omega) a (y::b) (i+1) j (by simp)
            omega
          · have:=ih ((a.length+1)+b.length) (by omega) (x::a) b i (j+1) (by simp)
            simpa using this
@[simp] def S_shortest_Script:List D→Prop × D:=spec2 (α:=List Int) (β:=List Int) (fun a b=>a.length≤1048576∧b.length≤1048576) (fun a b=>.tup [Rep.to (if longV a b then [] else scriptV a b),.int .i64 (if longV a b then 1 else 0)])
theorem ct_shortest_Script {P:Program} {f g1 g2 g3:Nat} {G:Gam} (h:CodeOf P f 2 5 [2,3] (x_shortest_Script g1 g2 g3)) (hG:GamOk P G) (hg1:G.find g1=some S_shortest_limited) (hg2:G.find g2=some S_shortest_walk) (hg3:G.find g3=some S_script_FromPairs):Has P f S_shortest_Script:=h.has2 hG fun a b hp=>by
  obtain⟨ha,hb⟩:=hp
  simp[x_shortest_Script,hg1]
  have hL:longV a b↔(4096<a.length∨4096<b.length):=by unfold longV;omega
  refine⟨fun h=>?_,fun h1 h2=>?_⟩
  · have:=hL.2 h
    simp[this]
  · have hnl:¬longV a b:=by rw[hL];omega
    have hw:=walkV_asc a b 0 0
    simp only[Int.zero_add] at hw
    have hl:=walkV_len a b 0 0
    have hfp:fromPairsV (walkV a b 0 0) a.length b.length=(scriptV a b,0):=by
      unfold fromPairsV
      rw[if_neg (by omega),if_pos hw]
      rfl
    simp[hg2,hg3,hnl,h1,h2,hfp]
    omega
end Go.AE
namespace Go.AE
end Go.AE
namespace Go.AE
def inV (n:Int):Bool:=decide (0≤n∧n≤4096)
def stepV (c:ChangeT) (i j:Int) (first:Bool):Bool :=
  inV c.old && inV c.oldLen && inV c.new && inV c.newLen && !decide (c.oldLen+c.newLen=0) && decide (c.old-i=c.new-j) && decide (i≤c.old) && (first || !decide (c.old=i))
def okV:List ChangeT→Int→Int→Bool→Int→Int→Bool
  | [],i,j,_,m,n=>decide (m-i=n-j) && decide (i≤m)
  | c::l,i,j,first,m,n=>stepV c i j first && okV l (c.old+c.oldLen) (c.new+c.newLen) false m n
def checkV (l:List ChangeT) (m n:Int):Bool:=inV m && inV n && okV l 0 0 true m n
theorem inV_true {n:Int} (h:inV n=true):0≤n∧n≤4096:=by simpa [inV] using h
theorem stepV_true {c:ChangeT} {i j:Int} {fst:Bool} (h:stepV c i j fst=true) :
    (0≤c.old∧c.old≤4096)∧(0≤c.oldLen∧c.oldLen≤4096)∧(0≤c.new∧c.new≤4096)∧(0≤c.newLen∧c.newLen≤4096)∧c.oldLen+c.newLen≠0∧c.old-i=c.new-j∧i≤c.old∧(fst=false→c.old≠i):=by
  simp only[stepV,inV,Bool.and_eq_true,decide_eq_true_eq,Bool.not_eq_true',decide_eq_false_iff_not,Bool.or_eq_true] at h
  obtain⟨⟨⟨⟨⟨⟨⟨h1,h2⟩,h3⟩,h4⟩,h5⟩,h6⟩,h7⟩,h8⟩:=h
  refine⟨h1,h2,h3,h4,h5,h6,h7,fun h=>?_⟩
  rw[h] at h8
  simpa using h8
def runN:Nat→Int→Int→List SpanT
  | 0,_,_=>[]
  | n+1,i,j=>⟨i,j⟩::runN n (i+1) (j+1)
theorem runN_len:∀(n:Nat) (i j:Int),(runN n i j).length=n
  | 0,_,_=>rfl
  | n+1,i,j=>by simp[runN,runN_len n]
theorem runN_snoc:∀(n:Nat) (i j:Int),runN (n+1) i j=runN n i j++[⟨i+n,j+n⟩]
  | 0,i,j=>by simp[runN]
  | n+1,i,j=>by
    rw[runN,runN_snoc n]
    simp only[runN,List.cons_append]
    congr 4 <;> push_cast <;> omega
def matV:List ChangeT→Int→Int→Int→List SpanT
  | [],i,j,m=>runN (m-i).toNat i j
  | c::l,i,j,m=>runN (c.old-i).toNat i j++matV l (c.old+c.oldLen) (c.new+c.newLen) m
theorem matV_len:∀(l:List ChangeT) (i j m n:Int) (fst:Bool),okV l i j fst m n=true→((matV l i j m).length:Int)+i≤m
  | [],i,j,m,n,fst,h=>by
    simp only[okV,Bool.and_eq_true,decide_eq_true_eq] at h
    simp only[matV,runN_len]
    omega
  | c::l,i,j,m,n,fst,h=>by
    simp only[okV,Bool.and_eq_true] at h
    have:=matV_len l _ _ _ _ _ h.2
    have hs:=stepV_true h.1
    simp only[matV,List.length_append,runN_len]
    omega
theorem matV_mem:∀(l:List ChangeT) (i j m n:Int) (fst:Bool),okV l i j fst m n=true→∀s,s∈matV l i j m→i≤s.fr∧s.fr<m∧j≤s.to∧s.to<n:=by
  have run:∀(k:Nat) (i j:Int) (s:SpanT),s∈runN k i j→i≤s.fr∧s.fr<i+k∧s.to-j=s.fr-i:=by
    intro k
    induction k with
    | zero=>intro i j s hs;simp[runN] at hs
    | succ k ih =>
      intro i j s hs
      simp only[runN,List.mem_cons] at hs
      rcases hs with rfl | hs
      · simp;omega
      · have:=ih _ _ _ hs
        push_cast
        omega
  have bound:∀(l:List ChangeT) (i j m n:Int) (fst:Bool),okV l i j fst m n=true→i≤m∧j≤n:=by
    intro l
    induction l with
    | nil =>
      intro i j m n fst h
      simp only[okV,Bool.and_eq_true,decide_eq_true_eq] at h
      omega
    | cons c l ih =>
      intro i j m n fst h
      simp only[okV,Bool.and_eq_true] at h
      have h1:=ih _ _ _ _ _ h.2
      have h2:=stepV_true h.1
      omega
  intro l
  induction l with
  | nil =>
    intro i j m n fst h s hs
    simp only[okV,Bool.and_eq_true,decide_eq_true_eq] at h
    have:=run _ _ _ _ hs
    omega
  | cons c l ih =>
    intro i j m n fst h s hs
    simp only[okV,Bool.and_eq_true] at h
    have h1:=bound _ _ _ _ _ _ h.2
    have h2:=stepV_true h.1
    simp only[matV,List.mem_append] at hs
    rcases hs with hs | hs
    · have:=run _ _ _ _ hs
      omega
    · have:=ih _ _ _ _ _ h.2 s hs
      omega
def fitsV (l:List ChangeT) (a b:List Int):Bool:=checkV l a.length b.length && (matV l 0 0 a.length).all fun s=>decide (a.getD s.fr.toNat 0=b.getD s.to.toNat 0)
def cntV (n:Int):Int:=if inV n then n else 0
def sizeV:List ChangeT→Int × Int
  | []=>(0,0)
  | c::l=>(cntV c.oldLen+(sizeV l).1,cntV c.newLen+(sizeV l).2)
theorem runN_one (i j:Int):runN 1 i j=[⟨i,j⟩]:=rfl
theorem okV_chgV:∀(p:List SpanT) (i j i0 j0 m n:Int) (fst:Bool),0≤i0→i0≤i→i-i0=j-j0→0≤j0→(fst=false→i0<i)→i≤m→j≤n→m≤4096→n≤4096→ascB p i j m n=true →
    okV (chgV (p++[⟨m,n⟩]) i j) i0 j0 fst m n=true∧matV (chgV (p++[⟨m,n⟩]) i j) i0 j0 m=runN (i-i0).toNat i0 j0++p:=by
  intro p
  induction p with
  | nil =>
    intro i j i0 j0 m n fst h1 h2 h3 h4 h5 h6 h7 h8 h9 _
    simp only[List.nil_append,chgV,gt_iff_lt]
    split
    · refine⟨?_,?_⟩
      · have:stepV ⟨i,m-i,j,n-j⟩ i0 j0 fst=true:=by
          cases fst
          · have:=h5 rfl
            simp[stepV,inV]
            omega
          · simp[stepV,inV]
            omega
        simp only[okV,this,Bool.true_and,Bool.and_eq_true,decide_eq_true_eq]
        omega
      · simp only[matV]
        rw[show (m-(i+(m-i))).toNat=0 by omega]
        simp[runN]
    · refine⟨?_,?_⟩
      · simp only[okV,Bool.and_eq_true,decide_eq_true_eq]
        omega
      · simp only[matV]
        rw[show (m-i0).toNat=(i-i0).toNat by omega]
        simp
  | cons s p ih =>
    intro i j i0 j0 m n fst h1 h2 h3 h4 h5 h6 h7 h8 h9 ha
    simp only[ascB,Bool.and_eq_true,decide_eq_true_eq] at ha
    obtain⟨⟨⟨⟨k1,k2⟩,k3⟩,k4⟩,k5⟩:=ha
    obtain⟨fr,to⟩:=s
    simp only at k1 k2 k3 k4 k5
    simp only[List.cons_append,chgV,gt_iff_lt]
    split
    · obtain⟨e1,e2⟩:=ih (fr+1) (to+1) fr to m n false (by omega) (by omega) (by omega) (by omega) (fun _=>by omega) (by omega) (by omega) h8 h9 k5
      have:stepV ⟨i,fr-i,j,to-j⟩ i0 j0 fst=true:=by
        cases fst
        · have:=h5 rfl
          simp[stepV,inV]
          omega
        · simp[stepV,inV]
          omega
      have a1:i+(fr-i)=fr:=by omega
      have a2:j+(to-j)=to:=by omega
      refine⟨?_,?_⟩
      · simp only[okV,this,Bool.true_and,a1,a2]
        exact e1
      · simp only[matV,a1,a2,e2]
        rw[show (fr+1-fr).toNat=1 by omega,runN_one]
        rfl
    · obtain⟨e1,e2⟩:=ih (fr+1) (to+1) i0 j0 m n fst (by omega) (by omega) (by omega) (by omega) (fun _=>by omega) (by omega) (by omega) h8 h9 k5
      refine⟨e1,?_⟩
      rw[e2,show (fr+1-i0).toNat=(i-i0).toNat+1 by omega,runN_snoc,List.append_assoc]
      congr 1
      simp only[List.cons_append,List.nil_append,List.cons.injEq,SpanT.mk.injEq,and_true]
      omega
theorem sizeV_chgV:∀(p:List SpanT) (i j m n:Int),0≤i→0≤j→i≤m→j≤n→m≤4096→n≤4096→ascB p i j m n=true →
    (sizeV (chgV (p++[⟨m,n⟩]) i j)).1=m-i-p.length∧(sizeV (chgV (p++[⟨m,n⟩]) i j)).2=n-j-p.length:=by
  have cnt:∀x:Int,0≤x→x≤4096→cntV x=x:=fun x h1 h2=>by simp[cntV,inV];omega
  intro p
  induction p with
  | nil =>
    intro i j m n h1 h2 h3 h4 h5 h6 _
    simp only[List.nil_append,chgV,gt_iff_lt]
    split
    · simp only[sizeV,cnt (m-i) (by omega) (by omega),cnt (n-j) (by omega) (by omega),List.length_nil]
      omega
    · simp only[sizeV,List.length_nil]
      omega
  | cons s p ih =>
    intro i j m n h1 h2 h3 h4 h5 h6 ha
    simp only[ascB,Bool.and_eq_true,decide_eq_true_eq] at ha
    obtain⟨⟨⟨⟨k1,k2⟩,k3⟩,k4⟩,k5⟩:=ha
    obtain⟨fr,to⟩:=s
    simp only at k1 k2 k3 k4 k5
    have:=ih (fr+1) (to+1) m n (by omega) (by omega) (by omega) (by omega) h5 h6 k5
    simp only[List.cons_append,chgV,gt_iff_lt,List.length_cons]
    split
    · simp only[sizeV,cnt (fr-i) (by omega) (by omega),cnt (to-j) (by omega) (by omega)]
      omega
    · omega
theorem walkV_mem (a b:List Int) (i j:Int):∀s,s∈walkV a b i j→a.getD (s.fr-i).toNat 0=b.getD (s.to-j).toNat 0:=by
  generalize hn:a.length+b.length=n
  induction n using Nat.strongRecOn generalizing a b i j with
  | _ n ih =>
    cases a with
    | nil=>rw[walkV_nil];simp
    | cons x a =>
      cases b with
      | nil=>rw[walkV_nil'];simp
      | cons y b =>
        simp only[List.length_cons] at hn
        have hasc:=walkV_asc (x::a) (y::b) i j
        intro s hs
        by_cases h:x=y
        · subst h
          rw[walkV_eq] at hs
          simp only[List.mem_cons] at hs
          rcases hs with rfl | hs
          · simp
          · have:=ih (a.length+b.length) (by omega) a b (i+1) (j+1) rfl s hs
            have hb:=ascB_mem (walkV_asc a b (i+1) (j+1)) s hs
            rw[show (s.fr-i).toNat=(s.fr-(i+1)).toNat+1 by omega,show (s.to-j).toNat=(s.to-(j+1)).toNat+1 by omega,List.getD_cons_succ,List.getD_cons_succ]
            exact this
        · rw[walkV_ne h] at hs
          split at hs
          · have:=ih (a.length+(b.length+1)) (by omega) a (y::b) (i+1) j (by simp) s hs
            have hb:=ascB_mem (walkV_asc a (y::b) (i+1) j) s hs
            rw[show (s.fr-i).toNat=(s.fr-(i+1)).toNat+1 by omega,List.getD_cons_succ]
            exact this
          · have:=ih ((a.length+1)+b.length) (by omega) (x::a) b i (j+1) (by simp) s hs
            have hb:=ascB_mem (walkV_asc (x::a) b i (j+1)) s hs
            rw[show (s.to-j).toNat=(s.to-(j+1)).toNat+1 by omega,List.getD_cons_succ]
            exact this
theorem script_ok {a b:List Int} (ha:a.length≤4096) (hb:b.length≤4096):checkV (scriptV a b) a.length b.length=true∧matV (scriptV a b) 0 0 a.length=walkV a b 0 0 ∧
    (sizeV (scriptV a b)).1=a.length-(walkV a b 0 0).length∧(sizeV (scriptV a b)).2=b.length-(walkV a b 0 0).length:=by
  have hw:=walkV_asc a b 0 0
  simp only[Int.zero_add] at hw
  have h1:=okV_chgV (walkV a b 0 0) 0 0 0 0 a.length b.length true (by omega) (by omega) (by omega) (by omega) (by simp) (by omega) (by omega) (by omega) (by omega) hw
  have h2:=sizeV_chgV (walkV a b 0 0) 0 0 a.length b.length (by omega) (by omega) (by omega) (by omega) (by omega) (by omega) hw
  refine⟨?_,?_,?_,?_⟩
  · simp only[checkV,Bool.and_eq_true]
    exact⟨⟨by simp[inV];omega,by simp[inV];omega⟩,h1.1⟩
  · exact h1.2
  · rw[show sizeV (scriptV a b)=sizeV (chgV (walkV a b 0 0++[⟨a.length,b.length⟩]) 0 0) from rfl,h2.1]
    omega
  · rw[show sizeV (scriptV a b)=sizeV (chgV (walkV a b 0 0++[⟨a.length,b.length⟩]) 0 0) from rfl,h2.2]
    omega
theorem script_fits {a b:List Int} (ha:a.length≤4096) (hb:b.length≤4096):fitsV (scriptV a b) a b=true:=by
  obtain⟨h1,h2,_⟩:=script_ok ha hb
  simp only[fitsV,h1,h2,Bool.true_and,List.all_eq_true,decide_eq_true_eq]
  intro s hs
  have:=walkV_mem a b 0 0 s hs
  simpa using this
end Go.AE
namespace Go.AE
end Go.AE
namespace Go.AE
end Go.AE
namespace Go.AE
def placeV (l:List Str) (x:Str):Int:=match l.findIdx? (· == x) with | some i=>(i:Int) | none=>-1
theorem placeV_some {l:List Str} {x:Str} {i:Nat} (h:i<l.length) (h1:l[i]=x) (h2:∀k (h:k<l.length),k<i→l[k]≠x):placeV l x=i:=by
  have:l.findIdx? (· == x)=some i:=by
    rw[List.findIdx?_eq_some_iff_getElem]
    exact⟨h,by simpa using h1,fun j hj=>by simpa using h2 j (by omega) hj⟩
  simp[placeV,this]
theorem placeV_none {l:List Str} {x:Str} (h2:∀k (h:k<l.length),l[k]≠x):placeV l x=-1:=by
  have:l.findIdx? (· == x)=none:=by
    rw[List.findIdx?_eq_none_iff]
    intro y hy
    obtain⟨k,hk,rfl⟩:=List.getElem_of_mem hy
    simpa using h2 k hk
  simp[placeV,this]
def addV (out:List Str) (x:Str):List Str:=if x∈out then out else out++[x]
def namesV (l:List (List Str)):List Str:=l.flatten.foldl addV []
theorem addV_len (out:List Str) (x:Str):(addV out x).length≤out.length+1:=by
  unfold addV;split <;> simp
theorem fold_len (xs:List Str):∀out:List Str,(xs.foldl addV out).length≤out.length+xs.length:=by
  induction xs with
  | nil=>intro out;simp
  | cons x xs ih=>intro out;have:=ih (addV out x);have:=addV_len out x;simp;omega
theorem take_flat_le {α:Type} (l:List (List α)) (i:Nat):(l.take i).flatten.length≤l.flatten.length:=by
  have:l.flatten=(l.take i).flatten++(l.drop i).flatten:=by rw[← List.flatten_append,List.take_append_drop]
  rw[this];simp
theorem mem_flat_le {α:Type} {l:List (List α)} {i:Nat} (h:i<l.length):(l.take i).flatten.length+l[i].length≤l.flatten.length:=by
  have h1:=take_flat_le l (i+1)
  rw[take_snoc h] at h1
  simpa only[List.flatten_append,List.length_append,List.flatten_cons,List.flatten_nil,List.append_nil] using h1
def part (l:List (List Str)) (i j:Nat):List Str:=((l.take i).flatten++(l.getD i []).take j).foldl addV []
theorem part_step {l:List (List Str)} {i j:Nat} (h:i<l.length) (hj:j<l[i].length):part l i (j+1)=addV (part l i j) l[i][j]:=by
  unfold part
  have:l.getD i []=l[i]:=by simp[List.getD,h]
  rw[this,take_snoc hj,← List.append_assoc,List.foldl_append]
  rfl
theorem part_next {l:List (List Str)} {i:Nat} (h:i<l.length):part l i l[i].length=part l (i+1) 0:=by
  unfold part
  have:l.getD i []=l[i]:=by simp[List.getD,h]
  rw[this,take_snoc h]
  simp only[List.flatten_append,List.flatten_cons,List.flatten_nil,List.append_nil,List.take_zero,List.take_length]
theorem part_end (l:List (List Str)):part l l.length 0=namesV l:=by simp[part,namesV]
theorem part_len {l:List (List Str)} {i j:Nat} (h:i<l.length) (hj:j≤l[i].length):(part l i j).length≤l.flatten.length:=by
  have h1:=fold_len ((l.take i).flatten++(l.getD i []).take j) []
  have:l.getD i []=l[i]:=by simp[List.getD,h]
  have h2:=mem_flat_le h
  rw[this] at h1
  simp only[List.length_append,List.length_take,List.length_nil] at h1
  unfold part
  rw[this]
  omega
def smallL (l:List (List Str)):Prop:=l.length≤1048576∧l.flatten.length≤1048576
def idsV (l:List (List Str)):List (List Int):=l.map fun x=>x.map (placeV (namesV l))
theorem elem_flat_le {α:Type} {l:List (List α)} {i:Nat} (h:i<l.length):l[i].length≤l.flatten.length:=by
  have:=mem_flat_le h;omega
def tabV:Nat→List Str→List (D × D)
  | _,[]=>[]
  | k,x::r=>(.str x,.int .i64 k)::tabV (k+1) r
theorem tabV_snoc (x:Str):∀(k:Nat) (l:List Str),tabV k (l++[x])=tabV k l++[(.str x,.int .i64 ((k+l.length:Nat):Int))]:=by
  intro k l
  induction l generalizing k with
  | nil=>simp[tabV]
  | cons y l ih =>
    simp only[List.cons_append,tabV,ih,List.length_cons]
    rw[show k+1+l.length=k+(l.length+1) by omega]
theorem placeV_cons (y:Str) (l:List Str) (x:Str):placeV (y::l) x=if y=x then 0 else if x∈l then placeV l x+1 else -1:=by
  by_cases h:y=x
  · rw[if_pos h];exact placeV_some (i:=0) (by simp) h (fun k _ hk=>by omega)
  · rw[if_neg h]
    by_cases hx:x∈l
    · rw[if_pos hx]
      unfold placeV
      rw[List.findIdx?_cons]
      have:(y == x)=false:=by simpa using h
      simp only[this]
      cases hf:l.findIdx? (· == x) with
      | none =>
        rw[List.findIdx?_eq_none_iff] at hf
        exact absurd (hf x hx) (by simp)
      | some i=>simp
    · rw[if_neg hx]
      refine placeV_none (fun k hk=>?_)
      cases k with
      | zero=>simpa using h
      | succ k =>
        simp only[List.length_cons,List.getElem_cons_succ] at hk ⊢
        intro he
        exact hx (by rw[← he];exact List.getElem_mem _)
theorem mlook_tab (x:Str):∀(k:Nat) (l:List Str),mlook (.str x) (tabV k l)=if x∈l then some (.int .i64 (k+placeV l x)) else none:=by
  intro k l
  induction l generalizing k with
  | nil=>rfl
  | cons y l ih =>
    simp only[tabV,mlook,keyEq,decide_eq_true_eq,ih,placeV_cons,List.mem_cons]
    by_cases h:x=y
    · subst h;simp
    · have h2:¬y=x:=fun e=>h e.symm
      simp only[h,h2,if_false,false_or]
      by_cases hx:x∈l
      · simp only[hx,if_true,Option.some.injEq,D.int.injEq,true_and]
        omega
      · simp[hx]
theorem mset_tab {x:Str} (v:D):∀(k:Nat) (l:List Str),x ∉ l→mset (.str x) v (tabV k l)=tabV k l++[(.str x,v)]:=by
  intro k l
  induction l generalizing k with
  | nil=>intro _;rfl
  | cons y l ih =>
    intro h
    simp only[List.mem_cons,not_or] at h
    simp[tabV,mset,keyEq,h.1,ih (k+1) h.2]
theorem keys_tab (x:Str) (k:Nat) (l:List Str):keysOk 1 (.str x) (tabV k l):=by
  refine⟨rfl,?_⟩
  induction l generalizing k with
  | nil=>intro e he;simp[tabV] at he
  | cons y l ih =>
    intro e he
    simp only[tabV,List.mem_cons] at he
    rcases he with rfl | he
    · exact⟨rfl,trivial⟩
    · exact ih (k+1) e he
def tabS (v:Nat) (nil:Bool) (names:List Str):Store :=
  if nil=true then [.cells v 2 [.agg [.mp 1,.d .nilsl]],.map [],.res] else [.cells v 2 [.agg [.mp 1,.gr 2 1 (names.map Rep.to)]],.map (tabV 0 names),.tip names.length]
theorem id_old {P:Program} {f:Nat} (hc:CodeOf P f 2 6 [2] x_intern_table_id) {v:Nat} {names:List Str} {x:Str} (h:x∈names):RCalls P f [.ref 0 v 0 0,.d (.str x)] (tabS v false names) (.d (.int .i64 (placeV names x))) (tabS v false names):=by
  refine hc.rcalls (GamOk.nil _) rfl ?_
  simp[x_intern_table_id,tabS,startA,mlook_tab,h,keys_tab]
  exact⟨by simp[resPre],[0,1,2],rfl,⟨by decide,by simp,rfl⟩,fun k hk=>.inl (by match k,hk with | 0,_=>rfl | 1,_=>rfl | 2,_=>rfl),rfl,rfl,rfl⟩
theorem id_new {P:Program} {f:Nat} (hc:CodeOf P f 2 6 [2] x_intern_table_id) {v:Nat} {names:List Str} {x:Str} (h:x ∉ names) (hn:names.length≤1048576):RCalls P f [.ref 0 v 0 0,.d (.str x)] (tabS v false names) (.d (.int .i64 names.length)) (tabS v false (names++[x])):=by
  refine hc.rcalls (GamOk.nil _) rfl ?_
  simp[x_intern_table_id,tabS,startA,mlook_tab,h,keys_tab,mset_tab]
  refine⟨by unfold room;omega,by simp[resPre],[0,1,2],rfl,⟨by decide,by simp,rfl⟩,fun k hk=>.inl (by match k,hk with | 0,_=>rfl | 1,_=>rfl | 2,_=>rfl),?_,rfl,rfl⟩
  rw[tabV_snoc]
  simp
theorem id_nil {P:Program} {f:Nat} (hc:CodeOf P f 2 6 [2] x_intern_table_id) {v:Nat} {x:Str}:RCalls P f [.ref 0 v 0 0,.d (.str x)] (tabS v true []) (.d (.int .i64 0)) (tabS v false [x]):=by
  refine hc.rcalls (GamOk.nil _) rfl ?_
  simp[x_intern_table_id,tabS,startA,mlook,mset]
  exact⟨⟨rfl,fun e he=>by simp at he⟩,by unfold room;omega,by simp[resPre],[0,1,3],rfl,⟨by decide,by simp,rfl⟩,fun k hk=>(by match k,hk with | 0,_=>exact .inl rfl | 1,_=>exact .inl rfl | 2,_=>exact .inr rfl),rfl,rfl,rfl⟩
def idRen (args:List A) (s:Store) (nw:Nat):List Nat :=
  match args with
  | [.ref t _ 0 0,.d (.str _)]=>match s.getD t .dead with
    | .cells _ 2 [.agg [.mp m,.gr l 1 _]]=>[t,m,l]
    | .cells _ 2 [.agg [.mp m,.d .nilsl]]=>[t,m,nw]
    | _=>[t]
  | _=>[]
def idSpec (args:List A) (s0:Store):Prop × Store × A :=
  match args,s0 with
  | [.ref 0 v 0 0,.d (.str x)],[.cells v' 2 [.agg [.mp 1,.d .nilsl]],.map [],.res]=>(v=v',tabS v false [x],.d (.int .i64 0))
  | [.ref 0 v 0 0,.d (.str x)],[.cells v' 2 [.agg [.mp 1,.gr 2 1 ns]],.map es,.tip n]=>match ofAll (Rep.of (α:=Str)) ns with
    | some names=>(v=v'∧ns=names.map Rep.to∧es=tabV 0 names∧n=names.length∧names.length≤1048576,tabS v false (addV names x),.d (.int .i64 (placeV (addV names x) x)))
    | none=>(False,[],.any)
  | _,_=>(False,[],.any)
theorem placeV_snoc {names:List Str} {x:Str} (h:x ∉ names):placeV (names++[x]) x=names.length:=by
  refine placeV_some (i:=names.length) (by simp) (by simp) (fun k hk hlt he=>h ?_)
  rw[List.getElem_append_left hlt] at he
  rw[← he]
  exact List.getElem_mem _
abbrev R_intern_table_id:RSpec:=⟨idRen,idSpec⟩
theorem ct_intern_table_id {P:Program} {f:Nat} (hc:CodeOf P f 2 6 [2] x_intern_table_id):RSpec.Ok P f R_intern_table_id:=by
  refine⟨hc.call,?_,?_⟩
  · intro args s s2 nw h
    simp only[idRen] at h ⊢
    split at h
    · rename_i t u x
      have ht:s2.getD t .dead=s.getD t .dead:=by
        apply h
        split <;> simp
      simp only[ht]
    · rfl
  · intro args s0 hp
    simp only[idSpec] at hp ⊢
    split at hp
    · rename_i v x v'
      simp only at hp
      subst hp
      exact id_nil hc
    · rename_i v x v' ns es n
      split at hp
      · rename_i names hn
        obtain⟨rfl,rfl,rfl,rfl,h5⟩:=hp
        simp only[ofAll_to]
        by_cases hx:x∈names
        · have e:addV names x=names:=by simp[addV,hx]
          rw[e]
          exact id_old hc hx
        · have e:addV names x=names++[x]:=by simp[addV,hx]
          rw[e,placeV_snoc hx]
          exact id_new hc hx h5
      · exact hp.elim
    · exact hp.elim
theorem eR_id {G:Gam} {f:Nat} (hf:G.findR f=some R_intern_table_id) {s:Store} {nw t m l v:Nat} {names:List Str} {x:Str} (h1:s.getD t .dead=.cells v 2 [.agg [.mp m,.gr l 1 (names.map Rep.to)]]) (h2:s.getD m .dead=.map (tabV 0 names))
    (h3:s.getD l .dead=.tip names.length) (h4:t≠m∧t≠l∧m≠l) (h5:t<s.length∧m<s.length∧l<s.length) (h6:names.length≤1048576) :
    eRCall G s nw f [.ref t v 0 0,.d (.str x)]=⟨True,[(t,.cells v 2 [.agg [.mp m,.gr l 1 ((addV names x).map Rep.to)]]),(m,.map (tabV 0 (addV names x))),(l,.tip (addV names x).length)],.d (.int .i64 (placeV (addV names x) x))⟩:=by
  obtain⟨n1,n2,n3⟩:=h4
  obtain⟨l1,l2,l3⟩:=h5
  have i0:idxIn [t,m,l] t=0:=by simp[idxIn,List.idxOf?,List.findIdx?_cons]
  have i1:idxIn [t,m,l] m=1:=by simp[idxIn,List.idxOf?,List.findIdx?_cons,n1]
  have i2:idxIn [t,m,l] l=2:=by simp[idxIn,List.idxOf?,List.findIdx?_cons,n2,n3]
  unfold eRCall
  rw[hf]
  have hr:idRen [.ref t v 0 0,.d (.str x)] s nw=[t,m,l]:=by simp only[idRen,h1]
  simp only[hr,List.map_cons,List.map_nil,h1,h2,h3]
  simp[A.ren,A.rens,Ob.ren,i0,i1,i2,h1,h2,h3,idSpec,ofAll_to,h6,n1,n2,n3,l1,l2,l3,tabS]
theorem fold_pre (xs:List Str):∀out:List Str,∃r,xs.foldl addV out=out++r:=by
  induction xs with
  | nil=>intro out;exact⟨[],by simp⟩
  | cons x xs ih =>
    intro out
    obtain⟨r,h⟩:=ih (addV out x)
    unfold addV at h ⊢
    split at h
    · rename_i hx;exact⟨r,by simp[hx,h]⟩
    · rename_i hx;exact⟨x::r,by simp[hx,h]⟩
theorem placeV_app {a b:List Str} {x:Str} (h:x∈a):placeV (a++b) x=placeV a x:=by
  unfold placeV
  rw[List.findIdx?_append]
  have:(a.findIdx? (· == x)).isSome=true:=by
    rw[List.findIdx?_isSome];simpa using h
  cases hf:a.findIdx? (· == x) with
  | none=>rw[hf] at this;simp at this
  | some i=>simp
theorem mem_addV (out:List Str) (x:Str):x∈addV out x:=by unfold addV;split <;> simp_all
theorem place_part {l:List (List Str)} {i j:Nat} (h:i<l.length) (hj:j<l[i].length):placeV (addV (part l i j) l[i][j]) l[i][j]=placeV (namesV l) l[i][j]:=by
  have h1:l.flatten=((l.take i).flatten++l[i].take (j+1))++(l[i].drop (j+1)++(l.drop (i+1)).flatten):=by
    conv=>lhs;rw[← List.take_append_drop i l,List.drop_eq_getElem_cons h]
    simp only[List.flatten_append,List.flatten_cons,List.append_assoc]
    conv=>lhs;rw[← List.take_append_drop (j+1) l[i]]
    simp only[List.append_assoc]
  have h2:namesV l=(l[i].drop (j+1)++(l.drop (i+1)).flatten).foldl addV (part l i (j+1)):=by
    unfold namesV part
    rw[h1,List.foldl_append]
    have:l.getD i []=l[i]:=by simp[List.getD,h]
    rw[this]
  obtain⟨r,h3⟩:=fold_pre (l[i].drop (j+1)++(l.drop (i+1)).flatten) (part l i (j+1))
  rw[h2,h3,part_step h hj,placeV_app (mem_addV _ _)]
@[simp] def S_intern_number:List D→Prop × D:=spec1 (α:=List (List Str)) smallL (fun l=>.tup [Rep.to (idsV l),Rep.to (namesV l)])
theorem ct_intern_number {P:Program} {f g:Nat} {G:Gam} (h:CodeOf P f 1 16 [1,2] (x_intern_number g)) (hG:GamOk P G) (hg:G.findR g=some R_intern_table_id):Has P f S_intern_number:=h.has1 hG fun l hp=>by
  obtain⟨h,h0⟩:=hp
  simp[x_intern_number]
  refine⟨by unfold room;omega,?_⟩
  obtain⟨Tf,hT⟩:∃Tf:Nat→List A,∀i,Tf i=[.any,.any,.any,.ref 0 0 0 0,.own 2 0 0 l.length,.any,.any,.any,.d (Rep.to l),.d (.int .i64 l.length),.d (.int .i64 i),.any,.any,.any,.any,.any]:=⟨_,fun _=>rfl⟩
  obtain⟨out,ho⟩:∃out:Nat→List A,∀i,out i=((idsV l).take i).map (fun x=>.d (Rep.to x))++List.replicate (l.length-i) (.d .nilsl):=⟨_,fun _=>rfl⟩
  obtain⟨sf,hs⟩:∃sf:Nat→Store,∀i,sf i=[.cells 0 2 [.agg [.mp 1,.gr 3 1 ((part l i 0).map Rep.to)]],.map (tabV 0 (part l i 0)),.cells 0 1 (out i),.tip (part l i 0).length]:=⟨_,fun _=>rfl⟩
  have hil:(idsV l).length=l.length:=by simp[idsV]
  have hol:∀i,i≤l.length→(out i).length=l.length:=by intro i hi;rw[ho];simp[hil];omega
  have hof:∀i,∀x,x∈out i→x.fits 1=true:=by
    intro i x hx
    rw[ho] at hx
    rcases List.mem_append.1 hx with hx | hx
    · obtain⟨y,_,rfl⟩:=List.mem_map.1 hx
      rfl
    · rw[(List.mem_replicate.1 hx).2]
      rfl
  have hou5:∀i,∀x,x∈out i→∀n,x.under n=true:=by
    intro i x hx n
    rw[ho] at hx
    rcases List.mem_append.1 hx with hx | hx
    · obtain⟨y,_,rfl⟩:=List.mem_map.1 hx
      rfl
    · rw[(List.mem_replicate.1 hx).2]
      rfl
  have hoi:∀i,i<l.length→(out i).getD i .any=.d .nilsl:=by
    intro i hi
    rw[ho]
    have e:(((idsV l).take i).map (fun x=>A.d (Rep.to x))).length=i:=by simp[hil];omega
    rw[List.getD,List.getElem?_append_right (by omega),e]
    have:0<l.length-i:=by omega
    simp[this]
  have hos:∀i (hi:i<l.length),(out i).set i (.d (.sl 1 ((l[i].map (placeV (namesV l))).map Rep.to)))=out (i+1):=by
    intro i hi
    have e:(((idsV l).take i).map (fun x=>A.d (Rep.to x))).length=i:=by simp[hil];omega
    rw[ho,ho,List.set_append,if_neg (by omega),e,Nat.sub_self,show l.length-i=(l.length-(i+1))+1 by omega,List.replicate_succ,List.set_cons_zero,take_snoc (by omega),List.map_append]
    simp[idsV]
  refine vc_ghostR (σ:=Nat) (fun i=>i≤l.length) (fun i=>l.length-i) Tf sf 0 ⟨?_,by omega⟩ ?_
  · rw[hT,hs,ho]
    refine Re.norm (s':=[.cells 0 2 [.agg [.mp 1,.gr 3 1 []]],.map [],.cells 0 1 (List.replicate l.length (.d .nilsl))]) [false,false,false,true,true,false,false,false,true,true,true,false,false,false,false,false] [1,0,2] [.tip 0] (by simp) ⟨by decide,by simp,?_⟩ (by decide) (by simp) ?_ ?_ ?_ ?_
    · simp[pickS]
    · simp 
    · simp 
    · simp[pickS]
      exact .cellsL (by simp;exact Wk.fresh _ _ _ 0 rfl)
    · simp[part,tabV]
  · intro i hi
    rw[hT,hs]
    simp
    refine⟨fun h1=>?_,fun h1=>?_⟩
    · simp[getD_map,h1]
      obtain⟨T2,hT2⟩:∃Tf:Nat→List A,∀j,Tf j=[.any,.any,.any,.ref 0 0 0 0,.own 2 0 0 l.length,.d (.int .i64 i),.any,.any,.d (Rep.to l),.d (.int .i64 l.length),.d (.int .i64 i),.any,.d (Rep.to l[i]),.d (.int .i64 l[i].length),.d (.int .i64 j),.any]:=⟨_,fun _=>rfl⟩
      obtain⟨row,hrow⟩:∃row:Nat→List Int,∀j,row j=(l[i].take j).map (placeV (namesV l)):=⟨_,fun _=>rfl⟩
      obtain⟨s2,hs2⟩:∃sf:Nat→Store,∀j,sf j=[.cells 0 2 [.agg [.mp 1,.gr 3 1 ((part l i j).map Rep.to)]],.map (tabV 0 (part l i j)),.cells 0 1 ((out i).set i (.gr 4 1 ((row j).map Rep.to))),.tip (part l i j).length,.tip j]:=⟨_,fun _=>rfl⟩
      refine vc_ghostR (σ:=Nat) (fun j=>j≤l[i].length) (fun j=>l[i].length-j) T2 s2 0 ⟨?_,by omega⟩ ?_
      · rw[hT2,hs2]
        refine Re.wn (s':=[.cells 0 2 [.agg [.mp 1,.gr 3 1 ((part l i 0).map Rep.to)]],.map (tabV 0 (part l i 0)),.cells 0 1 ((out i).set i (.gr 4 1 [])),.tip (part l i 0).length]) [false,false,false,true,true,true,false,false,true,true,true,false,true,true,true] [.tip 0] (by simp) (by omega) (by simp) ?_ (by simp[hrow])
        simp
        refine .cells (.set (hof i) rfl ?_)
        rw[hoi i h1]
        simp
        exact .fresh _ _ _ 0 rfl
      · intro j hj
        rw[hT2,hs2]
        simp
        refine⟨fun h2=>?_,fun h2=>?_⟩
        · have hpl:=part_len (l:=l) h1 (j:=j) (by omega)
          simp[getD_map,h2,hol i hi,h1]
          rw[eR_id hg (t:=0) (m:=1) (l:=3) (names:=part l i j) (by simp) (by simp) (by simp) (by simp) (by simp) (by omega)]
          simp[hol i hi,h1,pairsOk,disj,add1 h2 (by have:=elem_flat_le h1;omega)]
          have hrl:(row j).length=j:=by rw[hrow];simp;omega
          refine⟨⟨hrl.symm,by rw[hrl];have:=elem_flat_le h1;unfold room;omega⟩,j+1,by omega,?_,by omega⟩
          rw[hT2,hs2,part_step h1 h2]
          refine Re.wf _ [false,false,false,true,true,true,false,false,true,true,true,false,true,true,true] 5 (by omega) (by simp) (WkS.refl _ _ _) ?_ ?_ ?_
          · right
            simp
            intro x hx
            rcases List.mem_or_eq_of_mem_set hx with hx | hx
            · exact hou5 i x hx _
            · rw[hx];rfl
          · simp
          · have hr:(row (j+1)).map Rep.to=(row j).map Rep.to++[D.int .i64 (placeV (namesV l) l[i][j])]:=by rw[hrow,hrow,take_snoc h2];simp only[List.map_append,List.map_cons,List.map_nil,to_int]
            rw[place_part h1 h2,hr]
            simp only[List.take_succ_cons,List.take_zero]
        · have h3:j=l[i].length:=by omega
          refine⟨i+1,by omega,?_,by omega⟩
          subst h3
          rw[hT,hs,← hos i h1,part_next h1,hrow,List.take_length]
          refine Re.wf [.cells 0 2 [.agg [.mp 1,.gr 3 1 ((part l (i+1) 0).map Rep.to)]],.map (tabV 0 (part l (i+1) 0)),.cells 0 1 ((out i).set i (.d (.sl 1 ((l[i].map (placeV (namesV l))).map Rep.to)))),.tip (part l (i+1) 0).length,.tip l[i].length] [false,false,false,true,true,false,false,false,true,true,true,false,false,false,false] 4 (by omega) (by simp) ?_ ?_ ?_ ?_
          · simp only[WkS_cons,WkO_refl,WkS_nil,and_true,true_and]
            exact .cells (.setset (hof i) rfl (by simp only[acells_gr,acells_dsl,WkL_cons,Wk_gr,WkL_nil,and_true]))
          · right
            simp
            intro x hx
            rcases List.mem_or_eq_of_mem_set hx with hx | hx
            · exact hou5 i x hx _
            · rw[hx];rfl
          · simp[add1 h1 (by omega)]
          · simp
    · have h2:i=l.length:=by omega
      subst h2
      have hoe:out l.length=(idsV l).map (fun x=>.d (Rep.to x)):=by rw[ho,List.take_of_length_le (by omega)];simp
      refine⟨?_,?_,?_⟩
      · simp only[bor,List.getD_cons_succ,List.getD_cons_zero,hoe,List.drop_zero]
        refine⟨trivial,?_⟩
        rw[List.all_eq_true]
        intro x hx
        obtain⟨y,_,rfl⟩:=List.mem_map.1 (List.mem_of_mem_take hx)
        rfl
      · simp only[bor,List.getD_cons_succ,List.getD_cons_zero,hoe,List.drop_zero]
        rw[List.take_of_length_le (by simp[hil]),List.map_map]
        simp only[LeD_sl,true_and]
        rfl
      · rw[part_end]
@[simp] def S_intern_Ids:List D→Prop × D:=spec1 (α:=List (List Str)) smallL (fun l=>Rep.to (idsV l))
theorem ct_intern_Ids {P:Program} {f g:Nat} {G:Gam} (h:CodeOf P f 1 3 [1] (x_intern_Ids g)) (hG:GamOk P G) (hg:G.find g=some S_intern_number):Has P f S_intern_Ids:=h.has1 hG fun l hp=>by
  simp[x_intern_Ids,hg]
  exact hp
end Go.AE
namespace Go.AE
theorem mem_fold (xs:List Str):∀out:List Str,∀x,x∈xs.foldl addV out↔x∈out∨x∈xs:=by
  induction xs with
  | nil=>intro out x;simp
  | cons y xs ih =>
    intro out x
    rw[List.foldl_cons,ih]
    unfold addV
    by_cases hy:y∈out
    · simp only[hy,if_true,List.mem_cons]
      constructor
      · rintro (h | h)
        · exact .inl h
        · exact .inr (.inr h)
      · rintro (h | rfl | h)
        · exact .inl h
        · exact .inl hy
        · exact .inr h
    · simp only[hy,if_false,List.mem_append,List.mem_cons,List.not_mem_nil,or_false,or_assoc]
theorem mem_names {l:List (List Str)} {x:Str}:x∈namesV l↔∃y,y∈l∧x∈y:=by
  unfold namesV
  rw[mem_fold]
  simp
theorem placeV_mem {l:List Str} {x:Str} (h:x∈l):∃k:Nat,∃hk:k<l.length,placeV l x=k∧l[k]=x:=by
  unfold placeV
  cases hf:l.findIdx? (· == x) with
  | none =>
    rw[List.findIdx?_eq_none_iff] at hf
    simpa using hf x h
  | some k =>
    rw[List.findIdx?_eq_some_iff_getElem] at hf
    obtain⟨hk,h1,_⟩:=hf
    exact⟨k,hk,rfl,by simpa using h1⟩
theorem placeV_inj {l:List Str} {x y:Str} (hx:x∈l) (hy:y∈l):placeV l x=placeV l y↔x=y:=by
  obtain⟨a,ha,h1,h2⟩:=placeV_mem hx
  obtain⟨b,hb,h3,h4⟩:=placeV_mem hy
  constructor
  · intro h
    have:a=b:=by omega
    subst this
    rw[← h2,← h4]
  · rintro rfl;rfl
end Go.AE
namespace Go.AE
def bytesD (s:Str):List D:=s.map fun c=>.int .u8 c.toNat
theorem u8s_bytes (s:Str):u8s (bytesD s)=s:=by
  unfold u8s bytesD
  rw[List.map_map]
  refine (List.map_congr_left fun c _=>?_).trans (List.map_id s)
  simp
theorem allU8_bytes (s:Str):allU8 (bytesD s):=by
  intro x hx
  unfold bytesD at hx
  obtain⟨c,_,rfl⟩:=List.mem_map.1 hx
  exact⟨_,rfl⟩
@[simp] theorem src_str (s:Store) (t:Str):src s 1 (.d (.str t))=(True,bytesD t):=by simp[src,bytesD]
@[simp] theorem eB2s_gr (s:Store) (l:Nat) (t:Str):eB2s s (.gr l 1 (bytesD t))=⟨True,[],.d (.str t)⟩:=by
  unfold eB2s
  simp[A.notStr,src,borFp,u8s_bytes,allU8_bytes]
theorem bytesD_len (s:Str):(bytesD s).length=s.length:=by simp[bytesD]
end Go.AE
namespace Go.AE
def indOk (s n:Str):Prop:=s.length<4294967281∨n.length=1
@[simp] theorem indOk_of {s n:Str} (h:s.length<4294967281):indOk s n:=.inl h
@[simp] def S_strings_Index:List D→Prop × D:=spec2 (α:=Str) (β:=Str) indOk (fun s n=>.int .i64 (Lib.index s n))
end Go.AE
namespace Go.AE
def lastB:List Str→Bool
  | []=>true
  | [_]=>true
  | x::y::r=>endedV x && lastB (y::r)
theorem listV_last:∀l:List Str,listV l=(l.all okL && lastB l)
  | []=>rfl
  | [x]=>by simp[listV,lastB]
  | x::y::r=>by
    have ih:=listV_last (y::r)
    simp only[listV,lastB,ih,List.all_cons]
    cases okL x <;> cases endedV x <;> simp
end Go.AE
namespace Go.AE
structure PLineT where
  kind:Int
  text:Str
  deriving DecidableEq,Inhabited
structure PHunkT where
  old:Int
  new:Int
  lines:List PLineT
  deriving DecidableEq,Inhabited
structure PatchT where
  oldName:Str
  newName:Str
  hunks:List PHunkT
  deriving DecidableEq,Inhabited
/-! ### what a patch is -/
def oldL (l:List PLineT):List Str:=(l.filter fun x=>decide (x.kind≠43)).map PLineT.text
def newL (l:List PLineT):List Str:=(l.filter fun x=>decide (x.kind≠45)).map PLineT.text
def lineOk (x:PLineT):Bool:=(decide (x.kind=32) || decide (x.kind=45) || decide (x.kind=43)) && okL x.text
def properV (l:List PLineT):Bool:=l.all lineOk && l.any fun x=>decide (x.kind≠32)
def openL:Bool→Bool→List PLineT→(Bool × Bool) × Bool
  | o,n,[]=>((o,n),true)
  | o,n,x::r =>
    if x.kind≠43∧o=true then ((!endedV x.text,n),false) else
      if x.kind≠45∧n=true then ((if x.kind≠43 then !endedV x.text else o,!endedV x.text),false) else
        openL (if x.kind≠43 then !endedV x.text else o) (if x.kind≠45 then !endedV x.text else n) r
structure SideT where
  fin:Int
  opn:Bool
  deriving DecidableEq,Inhabited
def posOk (h:PHunkT) (o n:SideT):Bool:=!(decide (h.old<0) || decide (h.new<0) || decide (4096<h.old) || decide (4096<h.new) || decide (h.old<o.fin) || decide (h.old-o.fin≠h.new-n.fin))
def placedV (h:PHunkT) (o n:SideT):(SideT × SideT) × Bool :=
  if posOk h o n=true then
    (if (openL o.opn n.opn h.lines).2=true then
      ((⟨h.old+(oldL h.lines).length,(openL o.opn n.opn h.lines).1.1⟩,⟨h.new+(newL h.lines).length,(openL o.opn n.opn h.lines).1.2⟩),decide (h.old+(oldL h.lines).length≤4096) && decide (h.new+(newL h.lines).length≤4096))
    else ((⟨o.fin,(openL o.opn n.opn h.lines).1.1⟩,⟨n.fin,(openL o.opn n.opn h.lines).1.2⟩),false))
  else ((o,n),false)
def wellV:SideT→SideT→List PHunkT→Bool
  | _,_,[]=>true
  | o,n,h::r=>properV h.lines && ((placedV h o n).2 && wellV (placedV h o n).1.1 (placedV h o n).1.2 r)
def unendS:Str:=[10,92,32,78,111,32,110,101,119,108,105,110,101,32,97,116,32,101,110,100,32,111,102,32,102,105,108,101,10]
def headV (h:PHunkT):Str:=[64,64,32,45]++frangeV h.old (oldL h.lines).length++[32,43]++frangeV h.new (newL h.lines).length++[32,64,64,10]
def lineW (x:PLineT):Str:=UInt8.ofNat x.kind.toNat::(x.text++if endedV x.text=true then [] else unendS)
def hunkW (h:PHunkT):Str:=headV h++h.lines.flatMap lineW
def namesW (p:PatchT):Str:=[45,45,45,32]++quoteV p.oldName++[10,43,43,43,32]++quoteV p.newName++[10]
def writV (p:PatchT):Str:=namesW p++p.hunks.flatMap hunkW
def namedB (s:Str):Bool:=decide (1≤s.length) && decide (s.length≤200)
def chkP (p:PatchT):Int :=
  if (namedB p.oldName && namedB p.newName)=false then 120 else
    if wellV ⟨0,false⟩ ⟨0,false⟩ p.hunks=false then 121 else if 16777216<(writV p).length then 1 else 0
/-! ### a patch applied -/
def foundV (lines:List Str) (at':Int) (old:List Str):Bool:=decide (at'≤lines.length) && decide ((old.length:Int)≤lines.length-at') && decide ((lines.drop at'.toNat).take old.length=old)
def applyL (lines:List Str):Nat→List Str→List PHunkT→Option (List Str)
  | a,out,[]=>some (out++lines.drop a)
  | a,out,h::r=>if foundV lines h.old (oldL h.lines)=true then applyL lines (h.old.toNat+(oldL h.lines).length) (out++(lines.drop a).take (h.old.toNat-a)++newL h.lines) r else none
def joinP (l:List Str):Str × Int:=if listV l=true then (if flen l≤1048576∧l.length≤4096 then (l.flatten,0) else ([],1)) else ([],140)
def applyO (o:Option (List Str)):Str × Int:=match o with
  | none=>([],140)
  | some l=>joinP l
def applyV (p:PatchT) (blob:Str):Str × Int :=
  if chkP p≠0 then ([],chkP p) else if checkT blob≠0 then ([],1) else applyO (applyL (linesV blob) 0 [] p.hunks)
def swapK (k:Int):Int:=if k=45 then 43 else if k=43 then 45 else k
def revL (x:PLineT):PLineT:=⟨swapK x.kind,x.text⟩
def revH (h:PHunkT):PHunkT:=⟨h.new,h.old,h.lines.map revL⟩
def revP (p:PatchT):PatchT:=⟨p.newName,p.oldName,p.hunks.map revH⟩
/-! ### reversed -/
theorem swap43 (k:Int):(swapK k=43)↔k=45:=by
  unfold swapK
  split
  · omega
  · split <;> omega
theorem swap45 (k:Int):(swapK k=45)↔k=43:=by
  unfold swapK
  split
  · omega
  · split <;> omega
theorem swap32 (k:Int):(swapK k=32)↔k=32:=by
  unfold swapK
  split
  · omega
  · split <;> omega
theorem rev_old:∀l:List PLineT,oldL (l.map revL)=newL l
  | []=>rfl
  | x::r=>by
    have ih:=rev_old r
    have h:=swap43 x.kind
    unfold oldL newL at *
    by_cases c:x.kind=45
    · simp[revL,c,h.2 c] at ih ⊢
      exact ih
    · have c':¬swapK x.kind=43:=fun e=>c (h.1 e)
      simp[revL,c,c'] at ih ⊢
      exact ih
theorem rev_new:∀l:List PLineT,newL (l.map revL)=oldL l
  | []=>rfl
  | x::r=>by
    have ih:=rev_new r
    have h:=swap45 x.kind
    unfold oldL newL at *
    by_cases c:x.kind=43
    · simp[revL,c,h.2 c] at ih ⊢
      exact ih
    · have c':¬swapK x.kind=45:=fun e=>c (h.1 e)
      simp[revL,c,c'] at ih ⊢
      exact ih
theorem rev_proper (l:List PLineT):properV (l.map revL)=properV l:=by
  have h1:∀x,lineOk (revL x)=lineOk x:=fun x=>by
    simp only[lineOk,revL,swap32,swap43,swap45]
    congr 1
    cases decide (x.kind=32) <;> cases decide (x.kind=45) <;> cases decide (x.kind=43) <;> rfl
  unfold properV
  rw[List.all_map,List.any_map]
  congr 1
  · congr 1
    funext x
    exact h1 x
  · congr 1
    funext x
    simp[revL,swap32]
def open1:Bool→List Str→Option Bool
  | o,[]=>some o
  | o,x::r=>if o=true then none else open1 (!endedV x) r
theorem openL_ok:∀(l:List PLineT) (o n:Bool),(openL o n l).2=true↔(∃o' n',open1 o (oldL l)=some o'∧open1 n (newL l)=some n'∧openL o n l=((o',n'),true))
  | [],o,n=>by simp[openL,open1,oldL,newL]
  | x::r,o,n=>by
    have ih:=openL_ok r
    by_cases c:x.kind=43
    · have c2:¬x.kind=45:=by omega
      have e1:oldL (x::r)=oldL r:=by simp[oldL,c]
      have e2:newL (x::r)=x.text::newL r:=by simp[newL,c]
      rw[e1,e2]
      simp only[openL,c,c2,ne_eq,not_true,false_and,if_false,not_false_eq_true,true_and,if_true,show ¬(43:Int)=45 by omega,open1]
      cases n with
      | true=>simp
      | false=>simp only[Bool.false_eq_true,if_false];exact ih o _
    · have e1:oldL (x::r)=x.text::oldL r:=by simp[oldL,c]
      rw[e1]
      by_cases c2:x.kind=45
      · have e2:newL (x::r)=newL r:=by simp[newL,c2]
        rw[e2]
        simp only[openL,c2,ne_eq,not_true,false_and,if_false,not_false_eq_true,true_and,if_true,show ¬(45:Int)=43 by omega,open1]
        cases o with
        | true=>simp
        | false=>simp only[Bool.false_eq_true,if_false];exact ih _ n
      · have e2:newL (x::r)=x.text::newL r:=by simp[newL,c2]
        rw[e2]
        simp only[openL,c,c2,ne_eq,not_false_eq_true,true_and,if_true,open1]
        cases o with
        | true=>simp
        | false =>
          cases n with
          | true=>simp
          | false=>simp only[Bool.false_eq_true,if_false];exact ih _ _
theorem openL_rev (l:List PLineT) (o n:Bool) (h:(openL o n l).2=true):openL n o (l.map revL)=(((openL o n l).1.2,(openL o n l).1.1),true):=by
  obtain⟨o',n',h1,h2,h3⟩:=(openL_ok l o n).1 h
  have h4:open1 n (oldL (l.map revL))=some n':=by rw[rev_old];exact h2
  have h5:open1 o (newL (l.map revL))=some o':=by rw[rev_new];exact h1
  have key:∀(l:List PLineT) (o n o' n':Bool),open1 o (oldL l)=some o'→open1 n (newL l)=some n'→openL o n l=((o',n'),true):=by
    intro l
    induction l with
    | nil =>
      intro o n o' n' h1 h2
      simp only[oldL,newL,List.filter_nil,List.map_nil,open1,Option.some.injEq] at h1 h2
      rw[← h1,← h2]
      rfl
    | cons x r ih =>
      intro o n o' n' h1 h2
      by_cases c:x.kind=43
      · have c2:¬x.kind=45:=by omega
        have e1:oldL (x::r)=oldL r:=by simp[oldL,c]
        have e2:newL (x::r)=x.text::newL r:=by simp[newL,c]
        rw[e1] at h1
        rw[e2] at h2
        simp only[open1] at h2
        cases n with
        | true=>simp at h2
        | false =>
          simp only[Bool.false_eq_true,if_false] at h2
          simp only[openL,c,ne_eq,not_true,false_and,if_false,not_false_eq_true,true_and,if_true,show ¬(43:Int)=45 by omega,Bool.false_eq_true]
          exact ih _ _ _ _ h1 h2
      · have e1:oldL (x::r)=x.text::oldL r:=by simp[oldL,c]
        rw[e1] at h1
        simp only[open1] at h1
        cases o with
        | true=>simp at h1
        | false =>
          simp only[Bool.false_eq_true,if_false] at h1
          by_cases c2:x.kind=45
          · have e2:newL (x::r)=newL r:=by simp[newL,c2]
            rw[e2] at h2
            simp only[openL,c2,ne_eq,not_true,false_and,if_false,not_false_eq_true,true_and,if_true,show ¬(45:Int)=43 by omega,Bool.false_eq_true]
            exact ih _ _ _ _ h1 h2
          · have e2:newL (x::r)=x.text::newL r:=by simp[newL,c2]
            rw[e2] at h2
            simp only[open1] at h2
            cases n with
            | true=>simp at h2
            | false =>
              simp only[Bool.false_eq_true,if_false] at h2
              simp only[openL,c,c2,ne_eq,not_false_eq_true,true_and,if_true,if_false,Bool.false_eq_true]
              exact ih _ _ _ _ h1 h2
  rw[key _ _ _ _ _ h4 h5,h3]
theorem posOk_iff {h:PHunkT} {o n:SideT}:posOk h o n=true↔0≤h.old∧0≤h.new∧h.old≤4096∧h.new≤4096∧o.fin≤h.old∧h.old-o.fin=h.new-n.fin:=by
  simp only[posOk,Bool.not_eq_true',Bool.or_eq_false_iff,decide_eq_false_iff_not,ne_eq,Decidable.not_not]
  omega
theorem placed_rev (h:PHunkT) (o n:SideT) (hp:(placedV h o n).2=true):placedV (revH h) n o=(((placedV h o n).1.2,(placedV h o n).1.1),true):=by
  unfold placedV at *
  by_cases c:posOk h o n=true
  · rw[if_pos c] at hp ⊢
    have c':posOk (revH h) n o=true:=by
      rw[posOk_iff] at c ⊢
      simp only[revH]
      omega
    rw[if_pos c']
    by_cases d:(openL o.opn n.opn h.lines).2=true
    · rw[if_pos d] at hp ⊢
      have e:=openL_rev _ _ _ d
      have e':openL n.opn o.opn (revH h).lines=(((openL o.opn n.opn h.lines).1.2,(openL o.opn n.opn h.lines).1.1),true):=e
      have e1:oldL (revH h).lines=newL h.lines:=rev_old _
      have e2:newL (revH h).lines=oldL h.lines:=rev_new _
      simp only[e',e1,e2,if_true,show (revH h).old=h.new from rfl,show (revH h).new=h.old from rfl]
      simp only[Bool.and_eq_true,decide_eq_true_eq] at hp
      rw[decide_eq_true hp.1,decide_eq_true hp.2]
      rfl
    · rw[if_neg d] at hp
      cases hp
  · rw[if_neg c] at hp
    cases hp
theorem well_rev:∀(l:List PHunkT) (o n:SideT),wellV o n l=true→wellV n o (l.map revH)=true
  | [],_,_,_=>rfl
  | h::r,o,n,hw=>by
    simp only[wellV,Bool.and_eq_true,List.map_cons] at hw ⊢
    obtain⟨h1,h2,h3⟩:=hw
    rw[placed_rev h o n h2]
    exact⟨by simp only[revH];rw[rev_proper];exact h1,rfl,well_rev r _ _ h3⟩
theorem lineW_len (x:PLineT):(lineW (revL x)).length=(lineW x).length:=rfl
theorem hunkW_len (h:PHunkT):(hunkW (revH h)).length=(hunkW h).length:=by
  have e:∀l:List PLineT,((l.map revL).flatMap lineW).length=(l.flatMap lineW).length:=fun l=>by
    induction l with
    | nil=>rfl
    | cons x r ih=>simp only[List.map_cons,List.flatMap_cons,List.length_append,ih,lineW_len]
  simp only[hunkW,headV,revH,rev_old,rev_new,List.length_append,e]
  omega
theorem writ_len (p:PatchT):(writV (revP p)).length=(writV p).length:=by
  have e:∀l:List PHunkT,((l.map revH).flatMap hunkW).length=(l.flatMap hunkW).length:=fun l=>by
    induction l with
    | nil=>rfl
    | cons x r ih=>simp only[List.map_cons,List.flatMap_cons,List.length_append,ih,hunkW_len]
  simp only[writV,revP,namesW,List.length_append,e]
  omega
theorem chkP_zero {p:PatchT}:chkP p=0↔namedB p.oldName=true∧namedB p.newName=true∧wellV ⟨0,false⟩ ⟨0,false⟩ p.hunks=true∧(writV p).length≤16777216:=by
  unfold chkP
  split
  · rename_i h
    simp only[Bool.and_eq_false_iff] at h
    constructor
    · intro h'
      omega
    · rintro⟨h1,h2,_⟩
      rcases h with h | h <;> simp[h1,h2] at h
  · rename_i h
    simp only[Bool.not_eq_false,Bool.and_eq_true] at h
    split
    · rename_i hw
      simp[hw]
    · rename_i hw
      simp only[Bool.not_eq_false] at hw
      split
      · constructor
        · intro h'
          omega
        · intro h'
          omega
      · simp[h,hw]
        omega
theorem chkP_rev {p:PatchT} (h:chkP p=0):chkP (revP p)=0:=by
  obtain⟨h1,h2,h3,h4⟩:=chkP_zero.1 h
  exact chkP_zero.2 ⟨h2,h1,well_rev _ _ _ h3,by rw[writ_len];exact h4⟩
theorem found_spec {lines:List Str} {i:Int} {old:List Str} (h:foundV lines i old=true) (hi:0≤i):∃k:Nat,i=k∧k+old.length≤lines.length∧lines.drop k=old++lines.drop (k+old.length):=by
  simp only[foundV,Bool.and_eq_true,decide_eq_true_eq] at h
  obtain⟨⟨h1,h2⟩,h3⟩:=h
  obtain⟨k,rfl⟩:=Int.eq_ofNat_of_zero_le hi
  refine⟨k,rfl,by omega,?_⟩
  have:=List.take_append_drop old.length (lines.drop k)
  simp only[Int.toNat_natCast] at h3
  rw[h3,List.drop_drop] at this
  exact this.symm
theorem found_of {lines a b c:List Str} (h:lines=a++b++c):foundV lines a.length b=true:=by
  subst h
  simp[foundV]
  omega
theorem apply_tail:∀(hs:List PHunkT) (lines:List Str) (a:Nat) (out:List Str) (F:List Str),applyL lines a out hs=some F→∃G,F=out++G
  | [],lines,a,out,F,h=>by simp only[applyL,Option.some.injEq] at h;exact⟨_,h.symm⟩
  | h::r,lines,a,out,F,hh=>by
    simp only[applyL] at hh
    split at hh
    · obtain⟨G,hG⟩:=apply_tail r _ _ _ _ hh
      exact⟨_,by rw[hG,List.append_assoc,List.append_assoc]⟩
    · cases hh
theorem apply_rev:∀(hs:List PHunkT) (lines:List Str) (o n:SideT) (a:Nat) (out F out2:List Str),wellV o n hs=true→o.fin=a→n.fin=out.length→applyL lines a out hs=some F →
    applyL F out.length out2 (hs.map revH)=some (out2++lines.drop a)
  | [],lines,o,n,a,out,F,out2,_,_,_,h=>by
    simp only[applyL,Option.some.injEq,List.map_nil] at h ⊢
    rw[← h]
    simp
  | h::r,lines,o,n,a,out,F,out2,hw,ho,hn,hh=>by
    simp only[wellV,Bool.and_eq_true] at hw
    obtain⟨_,hw2,hw3⟩:=hw
    simp only[applyL] at hh
    split at hh
    · rename_i hf
      have hpos:posOk h o n=true:=by
        by_cases c:posOk h o n=true
        · exact c
        · unfold placedV at hw2
          rw[if_neg c] at hw2
          cases hw2
      have hopn:(openL o.opn n.opn h.lines).2=true:=by
        by_cases c:(openL o.opn n.opn h.lines).2=true
        · exact c
        · unfold placedV at hw2
          rw[if_pos hpos,if_neg c] at hw2
          cases hw2
      have e1:(placedV h o n).1=(⟨h.old+(oldL h.lines).length,(openL o.opn n.opn h.lines).1.1⟩,⟨h.new+(newL h.lines).length,(openL o.opn n.opn h.lines).1.2⟩):=by
        unfold placedV
        rw[if_pos hpos,if_pos hopn]
      rw[e1] at hw3
      rw[posOk_iff] at hpos
      obtain⟨k,hk,hkl,hkd⟩:=found_spec hf (by omega)
      have hak:a≤k:=by omega
      obtain⟨d,rfl⟩:∃d,k=a+d:=⟨k-a,by omega⟩
      have hmid:((lines.drop a).take d).length=d:=by simp;omega
      rw[hk,Int.toNat_natCast,Nat.add_sub_cancel_left] at hh
      obtain⟨G,hG⟩:=apply_tail _ _ _ _ _ hh
      have hnew:h.new=((out++(lines.drop a).take d).length:Nat):=by
        rw[List.length_append,hmid]
        omega
      have hf2:foundV F h.new (newL h.lines)=true:=by
        rw[hnew]
        exact found_of (c:=G) (by rw[hG])
      have ih:=apply_rev r lines _ _ (a+d+(oldL h.lines).length) _ F (out2++(lines.drop a).take d++oldL h.lines) hw3 (by simp only;omega) (by simp only[List.length_append];rw[hnew,List.length_append];omega) hh
      simp only[List.map_cons,applyL]
      rw[show oldL (revH h).lines=newL h.lines from rev_old _,show newL (revH h).lines=oldL h.lines from rev_new _,show (revH h).old=h.new from rfl,if_pos hf2]
      have e2:h.new.toNat=out.length+d:=by rw[hnew,List.length_append,hmid];omega
      have e3:(F.drop out.length).take d=(lines.drop a).take d:=by
        rw[hG]
        simp only[List.append_assoc]
        rw[List.drop_left,List.take_append_of_le_length (by omega),List.take_of_length_le (by omega)]
      rw[e2,Nat.add_sub_cancel_left,e3]
      have e4:out.length+d+(newL h.lines).length=(out++(lines.drop a).take d++newL h.lines).length:=by simp[hmid];omega
      rw[e4,ih]
      congr 1
      simp only[List.append_assoc]
      congr 1
      have e5:lines.drop (a+d)=oldL h.lines++lines.drop (a+d+(oldL h.lines).length):=hkd
      rw[← e5]
      have:=List.take_append_drop d (lines.drop a)
      rw[List.drop_drop] at this
      exact this
    · cases hh
theorem linesF_none:∀(t cur:Str),(10:UInt8) ∉ t→linesF cur t=if cur++t=[] then [] else [cur++t]
  | [],cur,_=>by simp[linesF]
  | c::t,cur,h=>by
    have hc:c≠10:=fun e=>h (by simp[e])
    have ht:(10:UInt8) ∉ t:=fun e=>h (by simp[e])
    simp only[linesF,if_neg hc]
    rw[linesF_none t _ ht]
    simp
theorem linesF_end:∀(t cur s:Str),(10:UInt8) ∉ t→linesF cur (t++10::s)=(cur++t++[10])::linesF [] s
  | [],cur,s,_=>by simp[linesF]
  | c::t,cur,s,h=>by
    have hc:c≠10:=fun e=>h (by simp[e])
    have ht:(10:UInt8) ∉ t:=fun e=>h (by simp[e])
    simp only[linesF,List.cons_append,if_neg hc]
    rw[linesF_end t _ s ht]
    simp
theorem okL_end {x:Str} (h:okL x=true) (he:endedV x=true):∃t,x=t++[10]∧(10:UInt8) ∉ t:=by
  simp only[okL,decide_eq_true_eq] at h
  simp only[endedV,decide_eq_true_eq] at he
  refine⟨x.dropLast,?_,h.2⟩
  have h1:=List.dropLast_concat_getLast h.1
  have h2:x.getLast h.1=10:=by
    rw[List.getLast?_eq_some_getLast h.1] at he
    exact Option.some.inj he
  rw[h2] at h1
  exact h1.symm
theorem okL_open {x:Str} (h:okL x=true) (he:endedV x=false):(10:UInt8) ∉ x∧x≠[]:=by
  simp only[okL,decide_eq_true_eq] at h
  refine⟨fun hm=>?_,h.1⟩
  have h1:=List.dropLast_concat_getLast h.1
  rw[← h1] at hm
  simp only[List.mem_append,List.mem_singleton] at hm
  rcases hm with hm | hm
  · exact h.2 hm
  · simp only[endedV,decide_eq_false_iff_not] at he
    exact he (by rw[List.getLast?_eq_some_getLast h.1,← hm])
theorem lines_of:∀l:List Str,listV l=true→linesV l.flatten=l
  | [],_=>rfl
  | [x],h=>by
    have h:okL x=true:=h
    unfold linesV
    cases he:endedV x with
    | true =>
      obtain⟨t,rfl,ht⟩:=okL_end h he
      have:=linesF_end t [] [] ht
      simpa [linesF] using this
    | false =>
      obtain⟨h1,h2⟩:=okL_open h he
      simp[linesF_none x [] h1,h2]
  | x::y::r,h=>by
    simp only[listV,Bool.and_eq_true] at h
    obtain⟨⟨h1,h2⟩,h3⟩:=h
    have ih:=lines_of (y::r) h3
    obtain⟨t,rfl,ht⟩:=okL_end h1 h2
    unfold linesV at ih ⊢
    have e:(((t++[10])::y::r).flatten)=t++10::(y::r).flatten:=by simp
    rw[e,linesF_end t [] _ ht,ih]
    simp
theorem joinP_lines {s:Str} (h:checkT s=0):joinP (linesV s)=(s,0):=by
  unfold joinP
  have h1:listV (linesV s)=true:=listV_lines s [] (by simp)
  have h2:s.length≤1048576∧(linesV s).length≤4096:=by
    unfold checkT at h
    split at h
    · assumption
    · cases h
  rw[if_pos h1,if_pos ⟨by unfold flen;rw[lines_flat];exact h2.1,h2.2⟩,lines_flat]
theorem apply_back {p:PatchT} {b y:Str} (hc:chkP p=0) (h:applyV p b=(y,0)):chkP (revP p)=0∧applyV (revP p) y=(b,0):=by
  have hr:=chkP_rev hc
  refine⟨hr,?_⟩
  unfold applyV at h ⊢
  rw[if_neg (by rw[hc];simp)] at h
  rw[if_neg (by rw[hr];simp)]
  by_cases hb:checkT b=0
  · rw[if_neg (by rw[hb];simp)] at h
    cases ha:applyL (linesV b) 0 [] p.hunks with
    | none=>rw[ha] at h;simp[applyO] at h
    | some F =>
      rw[ha] at h
      simp only[applyO] at h
      have hF:listV F=true∧(flen F≤1048576∧F.length≤4096)∧F.flatten=y:=by
        unfold joinP at h
        split at h
        · rename_i h1
          split at h
          · rename_i h2
            exact⟨h1,h2,congrArg Prod.fst h⟩
          · have:=congrArg Prod.snd h
            simp at this
        · have:=congrArg Prod.snd h
          simp at this
      obtain⟨h1,h2,h3⟩:=hF
      have hl:linesV y=F:=by rw[← h3];exact lines_of F h1
      have hy:checkT y=0:=by
        unfold checkT
        rw[if_pos ⟨by rw[← h3];exact h2.1,by rw[hl];exact h2.2⟩]
      rw[if_neg (by rw[hy];simp),hl]
      have:=apply_rev p.hunks (linesV b) ⟨0,false⟩ ⟨0,false⟩ 0 [] F [] (chkP_zero.1 hc).2.2.1 rfl rfl ha
      simp only[List.length_nil,List.nil_append,List.drop_zero] at this
      rw[show (revP p).hunks=p.hunks.map revH from rfl,this]
      exact joinP_lines hb
  · rw[if_pos hb] at h
    have:=congrArg Prod.snd h
    simp at this
def ct {α:Type} (x:List α) (i n:Nat):List α:=(x.drop i).take n
theorem ct_len {α:Type} {x:List α} {i n:Nat} (h:i+n≤x.length):(ct x i n).length=n:=by simp[ct];omega
theorem ct_zero {α:Type} (x:List α) (i:Nat):ct x i 0=[]:=by simp[ct]
theorem ct_app {α:Type} (x:List α) (i a b:Nat):ct x i (a+b)=ct x i a++ct x (i+a) b:=by
  simp only[ct]
  rw[List.take_add,List.drop_drop]
theorem ct_sub {α:Type} {x y:List α} {i j n:Nat} (h:ct x i n=ct y j n) {a b:Nat} (hab:a+b≤n):ct x (i+a) b=ct y (j+a) b:=by
  have e:∀(z:List α) (k:Nat),ct z (k+a) b=((ct z k n).drop a).take b:=fun z k=>by
    simp only[ct]
    rw[List.drop_take,List.drop_drop,List.take_take,Nat.min_eq_left (by omega)]
  rw[e,e,h]
theorem ct_drop {α:Type} {x y:List α} {i j:Nat} (h:x.drop i=y.drop j) (a b:Nat):ct x (i+a) b=ct y (j+a) b:=by
  simp only[ct]
  rw[← List.drop_drop,← List.drop_drop,h]
theorem ct_rest {α:Type} (x:List α) (i a:Nat):x.drop i=ct x i a++x.drop (i+a):=by
  simp only[ct]
  have:=List.take_append_drop a (x.drop i)
  rw[List.drop_drop] at this
  exact this.symm
theorem ct_mem {α:Type} {x:List α} {i n:Nat} {u:α} (h:u∈ct x i n):u∈x:=List.mem_of_mem_drop (List.mem_of_mem_take h)
def FitS {α:Type} (x y:List α):List ChangeT→Nat→Nat→Bool→Nat→Nat→Prop
  | [],i,j,_,i',j'=>i=i'∧j=j'∧i≤x.length∧j≤y.length
  | c::r,i,j,f,i',j'=>∃q d e:Nat,c=⟨(i+q:Nat),d,(j+q:Nat),e⟩∧ct x i q=ct y j q∧i+q+d≤x.length∧j+q+e≤y.length∧0<d+e∧(f=false→0<q)∧FitS x y r (i+q+d) (j+q+e) false i' j'
theorem FitS.end {α:Type} {x y:List α}:∀{l:List ChangeT} {i j:Nat} {f:Bool} {i' j':Nat},FitS x y l i j f i' j'→i'≤x.length∧j'≤y.length∧i≤i'∧j≤j'
  | [],i,j,f,i',j',h=>by
    obtain⟨rfl,rfl,h1,h2⟩:=h
    exact⟨h1,h2,Nat.le_refl _,Nat.le_refl _⟩
  | c::r,i,j,f,i',j',h=>by
    obtain⟨q,d,e,_,_,_,_,_,_,h⟩:=h
    have:=FitS.end h
    omega
theorem FitS.split {α:Type} {x y:List α}:∀{g r:List ChangeT} {i j:Nat} {f:Bool} {i' j':Nat},FitS x y (g++r) i j f i' j'→∃i1 j1,FitS x y g i j f i1 j1∧FitS x y r i1 j1 (f && g.isEmpty) i' j'
  | [],r,i,j,f,i',j',h=>by
    refine⟨i,j,⟨rfl,rfl,?_,?_⟩,by simpa using h⟩
    · exact Nat.le_trans (FitS.end h).2.2.1 (FitS.end h).1
    · exact Nat.le_trans (FitS.end h).2.2.2 (FitS.end h).2.1
  | c::g,r,i,j,f,i',j',h=>by
    obtain⟨q,d,e,h1,h2,h3,h4,h5,h6,h⟩:=h
    obtain⟨i1,j1,k1,k2⟩:=FitS.split h
    exact⟨i1,j1,⟨q,d,e,h1,h2,h3,h4,h5,h6,k1⟩,by simpa using k2⟩
/-! ### hunks -/
def tagL (k:Int) (l:List Str):List PLineT:=l.map fun s=>⟨k,s⟩
def bLines (x y:List Str):List ChangeT→Nat→Nat→List PLineT
  | [],s,t=>tagL 32 (ct x s (t-s))
  | c::r,s,t=>tagL 32 (ct x s (c.old.toNat-s))++(tagL 45 (ct x c.old.toNat c.oldLen.toNat)++(tagL 43 (ct y c.new.toNat c.newLen.toNat)++bLines x y r (c.old.toNat+c.oldLen.toNat) t))
theorem old_app (a b:List PLineT):oldL (a++b)=oldL a++oldL b:=by simp[oldL]
theorem new_app (a b:List PLineT):newL (a++b)=newL a++newL b:=by simp[newL]
theorem old_tag {k:Int} (hk:k≠43):∀l:List Str,oldL (tagL k l)=l
  | []=>rfl
  | x::r=>by
    have ih:=old_tag hk r
    simp only[oldL,tagL,List.map_cons] at ih ⊢
    rw[List.filter_cons_of_pos (by simpa using hk),List.map_cons,ih]
theorem new_tag {k:Int} (hk:k≠45):∀l:List Str,newL (tagL k l)=l
  | []=>rfl
  | x::r=>by
    have ih:=new_tag hk r
    simp only[newL,tagL,List.map_cons] at ih ⊢
    rw[List.filter_cons_of_pos (by simpa using hk),List.map_cons,ih]
theorem old_tag0:∀l:List Str,oldL (tagL 43 l)=[]
  | []=>rfl
  | x::r=>by
    have ih:=old_tag0 r
    simp only[oldL,tagL,List.map_cons] at ih ⊢
    rw[List.filter_cons_of_neg (by simp)]
    exact ih
theorem new_tag0:∀l:List Str,newL (tagL 45 l)=[]
  | []=>rfl
  | x::r=>by
    have ih:=new_tag0 r
    simp only[newL,tagL,List.map_cons] at ih ⊢
    rw[List.filter_cons_of_neg (by simp)]
    exact ih
theorem bLines_sides {x y:List Str}:∀{g:List ChangeT} {i j:Nat} {f:Bool} {i1 j1:Nat} {u a:Nat},FitS x y g i j f i1 j1→(∀c,g.head?=some c→(i+u:Int)≤c.old)→(g=[]→u≤a)→ct x i1 a=ct y j1 a→i1+a≤x.length→j1+a≤y.length →
    oldL (bLines x y g (i+u) (i1+a))=ct x (i+u) (i1+a-(i+u))∧newL (bLines x y g (i+u) (i1+a))=ct y (j+u) (j1+a-(j+u))
  | [],i,j,f,i1,j1,u,a,h,hu,hua,hc,h1,h2=>by
    obtain⟨rfl,rfl,h3,h4⟩:=h
    have hua:=hua rfl
    simp only[bLines]
    rw[old_tag (by omega),new_tag (by omega)]
    refine⟨rfl,?_⟩
    rw[show i+a-(i+u)=a-u by omega,show j+a-(j+u)=a-u by omega]
    exact ct_sub hc (by omega)
  | c::r,i,j,f,i1,j1,u,a,h,hu,_,hc,h1,h2=>by
    obtain⟨q,d,e,rfl,k2,k3,k4,k5,k6,k7⟩:=h
    have hu:u≤q:=by have:=hu _ rfl;simp only at this;omega
    have he:=FitS.end k7
    have ih:=bLines_sides (u:=0) (a:=a) k7 (fun c' hc'=>by
      cases r with
      | nil=>simp at hc'
      | cons c2 r2 =>
        obtain⟨q',d',e',rfl,_⟩:=k7
        simp at hc'
        subst hc'
        simp only
        omega) (fun _=>Nat.zero_le _) hc h1 h2
    simp only[Nat.add_zero] at ih
    simp only[bLines,Int.toNat_natCast,old_app,new_app,old_tag (show (32:Int)≠43 by omega),old_tag (show (45:Int)≠43 by omega),old_tag0,new_tag (show (32:Int)≠45 by omega),new_tag (show (43:Int)≠45 by omega),new_tag0,ih.1,ih.2,List.nil_append]
    constructor
    · rw[show i1+a-(i+u)=(i+q-(i+u))+(d+(i1+a-(i+q+d))) by omega,ct_app,ct_app]
      rw[show i+u+(i+q-(i+u))=i+q by omega]
    · rw[show j1+a-(j+u)=(q-u)+(e+(j1+a-(j+q+e))) by omega,ct_app,ct_app,show i+q-(i+u)=q-u by omega,show j+u+(q-u)=j+q by omega]
      congr 1
      exact ct_sub k2 (by omega)
theorem bLines_proper {x y:List Str} (hx:∀u,u∈x→okL u=true) (hy:∀u,u∈y→okL u=true):∀(g:List ChangeT) (s t:Nat),(bLines x y g s t).all lineOk=true
  | [],s,t=>by
    simp only[bLines,tagL,List.all_map,List.all_eq_true]
    exact fun u hu=>by simp[lineOk,hx u (ct_mem hu)]
  | c::r,s,t=>by
    simp only[bLines,List.all_append,Bool.and_eq_true]
    refine⟨?_,?_,?_,bLines_proper hx hy r _ _⟩ <;> simp only[tagL,List.all_map,List.all_eq_true]
    · exact fun u hu=>by simp[lineOk,hx u (ct_mem hu)]
    · exact fun u hu=>by simp[lineOk,hx u (ct_mem hu)]
    · exact fun u hu=>by simp[lineOk,hy u (ct_mem hu)]
theorem bLines_change {x y:List Str} {g:List ChangeT} {i j:Nat} {f:Bool} {i1 j1:Nat} (h:FitS x y g i j f i1 j1) (hg:g≠[]) (s t:Nat):((bLines x y g s t).any fun u=>decide (u.kind≠32))=true:=by
  cases g with
  | nil=>exact absurd rfl hg
  | cons c r =>
    obtain⟨q,d,e,rfl,k2,k3,k4,k5,k6,k7⟩:=h
    simp only[bLines,Int.toNat_natCast,List.any_append,Bool.or_eq_true]
    by_cases hd:0<d
    · refine .inr (.inl ?_)
      have:ct x (i+q) d≠[]:=fun e=>by have:=congrArg List.length e;rw[ct_len k3] at this;simp at this;omega
      obtain⟨u,v,huv⟩:=List.exists_cons_of_ne_nil this
      rw[huv]
      simp[tagL]
    · refine .inr (.inr (.inl ?_))
      have:ct y (j+q) e≠[]:=fun e'=>by have:=congrArg List.length e';rw[ct_len k4] at this;simp at this;omega
      obtain⟨u,v,huv⟩:=List.exists_cons_of_ne_nil this
      rw[huv]
      simp[tagL]
def bHunk (x y:List Str) (ctx:Nat) (g:List ChangeT):PHunkT :=
  let a:=g.headD default
  let z:=g.getLastD default
  let b:=min (ctx:Int) a.old
  ⟨a.old-b,a.new-b,bLines x y g (a.old-b).toNat (z.old+z.oldLen+min (ctx:Int) (x.length-z.old-z.oldLen)).toNat⟩
def GrpOk (x y:List Str) (ctx:Nat):List (List ChangeT)→Nat→Nat→Nat→Prop
  | [],i,j,oe=>x.drop i=y.drop j∧i≤x.length∧j≤y.length∧i≤oe∧oe≤x.length
  | g::gs,i,j,oe=>∃(q b i1 j1 a:Nat) (f:Bool),g≠[]∧(g.headD default).old=(i+q:Nat)∧(g.headD default).new=(j+q:Nat)∧ct x i q=ct y j q∧i+q≤x.length∧j+q≤y.length∧b=min ctx (i+q)∧b≤q∧i≤oe∧oe≤i+q-b ∧
      FitS x y g i j f i1 j1∧(g.getLastD default).old+(g.getLastD default).oldLen=(i1:Nat)∧a=min ctx (x.length-i1)∧ct x i1 a=ct y j1 a∧j1+a≤y.length∧GrpOk x y ctx gs i1 j1 (i1+a)
def Ends (x:List Str):Prop:=∀k u,x[k]?=some u→endedV u=false→k+1=x.length
theorem open1_ct {x:List Str} (hx:Ends x):∀(n s:Nat) (o:Bool),s+n≤x.length→(o=true→s=x.length)→∃o',open1 o (ct x s n)=some o'∧(o'=true→s+n=x.length)
  | 0,s,o,h,ho=>⟨o,by rw[ct_zero];rfl,ho⟩
  | n+1,s,o,h,ho=>by
    have hs:s<x.length:=by omega
    have hc:ct x s (n+1)=x[s]::ct x (s+1) n:=by
      simp only[ct]
      rw[List.drop_eq_getElem_cons hs,List.take_succ_cons]
    have ho':o=false:=by cases o with
      | false=>rfl
      | true=>have:=ho rfl;omega
    subst ho'
    rw[hc]
    simp only[open1,Bool.false_eq_true,if_false]
    obtain⟨o',h1,h2⟩:=open1_ct hx n (s+1) (!endedV x[s]) (by omega) (fun he=>hx s _ (List.getElem?_eq_getElem hs) (by simpa using he))
    exact⟨o',h1,fun e=>by have:=h2 e;omega⟩
theorem openL_of {l:List PLineT} {o n o' n':Bool} (h1:open1 o (oldL l)=some o') (h2:open1 n (newL l)=some n'):openL o n l=((o',n'),true):=by
  have h3:open1 n (oldL (l.map revL))=some n':=by rw[rev_old];exact h2
  have h4:open1 o (newL (l.map revL))=some o':=by rw[rev_new];exact h1
  clear h3 h4
  induction l generalizing o n with
  | nil =>
    simp only[oldL,newL,List.filter_nil,List.map_nil,open1,Option.some.injEq] at h1 h2
    rw[← h1,← h2]
    rfl
  | cons x r ih =>
    by_cases c:x.kind=43
    · have c2:¬x.kind=45:=by omega
      have e1:oldL (x::r)=oldL r:=by simp[oldL,c]
      have e2:newL (x::r)=x.text::newL r:=by simp[newL,c]
      rw[e1] at h1
      rw[e2] at h2
      simp only[open1] at h2
      cases n with
      | true=>simp at h2
      | false =>
        simp only[Bool.false_eq_true,if_false] at h2
        simp only[openL,c,ne_eq,not_true,false_and,if_false,not_false_eq_true,true_and,if_true,show ¬(43:Int)=45 by omega,Bool.false_eq_true]
        exact ih h1 h2
    · have e1:oldL (x::r)=x.text::oldL r:=by simp[oldL,c]
      rw[e1] at h1
      simp only[open1] at h1
      cases o with
      | true=>simp at h1
      | false =>
        simp only[Bool.false_eq_true,if_false] at h1
        by_cases c2:x.kind=45
        · have e2:newL (x::r)=newL r:=by simp[newL,c2]
          rw[e2] at h2
          simp only[openL,c2,ne_eq,not_true,false_and,if_false,not_false_eq_true,true_and,if_true,show ¬(45:Int)=43 by omega,Bool.false_eq_true]
          exact ih h1 h2
        · have e2:newL (x::r)=x.text::newL r:=by simp[newL,c2]
          rw[e2] at h2
          simp only[open1] at h2
          cases n with
          | true=>simp at h2
          | false =>
            simp only[Bool.false_eq_true,if_false] at h2
            simp only[openL,c,c2,ne_eq,not_false_eq_true,true_and,if_true,if_false,Bool.false_eq_true]
            exact ih h1 h2
theorem grp_hunk {x y:List Str} {ctx:Nat} {g:List ChangeT} {gs:List (List ChangeT)} {i j oe:Nat} (h:GrpOk x y ctx (g::gs) i j oe) :
    ∃s i1 j1 a:Nat,i≤oe∧oe≤i+s∧ct x i s=ct y j s∧i+s≤i1+a∧i1+a≤x.length∧j+s≤j1+a∧j1+a≤y.length∧(bHunk x y ctx g).old=(i+s:Nat)∧(bHunk x y ctx g).new=(j+s:Nat) ∧
      oldL (bHunk x y ctx g).lines=ct x (i+s) (i1+a-(i+s))∧newL (bHunk x y ctx g).lines=ct y (j+s) (j1+a-(j+s))∧((bHunk x y ctx g).lines.any fun u=>decide (u.kind≠32))=true∧GrpOk x y ctx gs i1 j1 (i1+a):=by
  obtain⟨q,b,i1,j1,a,f,h1,h2,h3,h4,h5,h6,h7,h8,h9,h10,h11,h12,h13,h14,h15,h16⟩:=h
  have hh:(bHunk x y ctx g)=⟨(i+(q-b):Nat),(j+(q-b):Nat),bLines x y g (i+(q-b)) (i1+a)⟩:=by
    simp only[bHunk,h2,h3]
    have e1:min (ctx:Int) ((i+q:Nat):Int)=b:=by omega
    have e2:(g.getLastD default).old+(g.getLastD default).oldLen+min (ctx:Int) (x.length-(g.getLastD default).old-(g.getLastD default).oldLen)=((i1+a:Nat):Int):=by
      have:=(FitS.end h11).1
      omega
    rw[e1,e2,Int.toNat_natCast,show (((i+q:Nat):Int)-b)=((i+(q-b):Nat):Int) by omega,Int.toNat_natCast,show (((j+q:Nat):Int)-b)=((j+(q-b):Nat):Int) by omega]
  obtain⟨c,r,rfl⟩:=List.exists_cons_of_ne_nil h1
  simp only[List.headD_cons] at h2 h3
  have hend:=FitS.end h11
  have hq1:i+q≤i1∧j+q≤j1:=by
    obtain⟨q',d,e,rfl,_,_,_,_,_,k⟩:=h11
    have:=FitS.end k
    simp only at h2 h3
    omega
  have hs:=bLines_sides (u:=q-b) (a:=a) h11 (fun c' hc'=>by simp at hc';subst hc';rw[h2];omega) (fun e=>by simp at e) h14 (by omega) h15
  refine⟨q-b,i1,j1,a,h9,by omega,?_,by omega,by omega,by omega,h15,by rw[hh],by rw[hh],by rw[hh];exact hs.1,by rw[hh];exact hs.2,by rw[hh];exact bLines_change h11 h1 _ _,h16⟩
  have:=ct_sub (a:=0) (b:=q-b) h4 (by omega)
  simpa using this
theorem bHunk_ok {x y:List Str} (hx:∀u,u∈x→okL u=true) (hy:∀u,u∈y→okL u=true) (ctx:Nat) (g:List ChangeT):(bHunk x y ctx g).lines.all lineOk=true:=bLines_proper hx hy _ _ _
theorem make_well {x y:List Str} (hx:∀u,u∈x→okL u=true) (hy:∀u,u∈y→okL u=true) (ex:Ends x) (ey:Ends y) (lx:x.length≤4096) (ly:y.length≤4096) {ctx:Nat} :
    ∀(gs:List (List ChangeT)) (i j oe:Nat) (oo no:Bool),GrpOk x y ctx gs i j oe→(oo=true→oe=x.length)→(no=true→j+(oe-i)=y.length)→wellV ⟨oe,oo⟩ ⟨(j+(oe-i):Nat),no⟩ (gs.map (bHunk x y ctx))=true
  | [],_,_,_,_,_,_,_,_=>rfl
  | g::gs,i,j,oe,oo,no,h,ho,hn=>by
    obtain⟨s,i1,j1,a,k1,k2,k3,k4,k5,k6,k7,k8,k9,k10,k11,k12,k13⟩:=grp_hunk h
    obtain⟨o',p1,p2⟩:=open1_ct ex (i1+a-(i+s)) (i+s) oo (by omega) (fun e=>by have:=ho e;omega)
    obtain⟨n',p3,p4⟩:=open1_ct ey (j1+a-(j+s)) (j+s) no (by omega) (fun e=>by have:=hn e;omega)
    rw[← k10] at p1
    rw[← k11] at p3
    have hop:=openL_of p1 p3
    have hpos:posOk (bHunk x y ctx g) ⟨oe,oo⟩ ⟨(j+(oe-i):Nat),no⟩=true:=by
      rw[posOk_iff,k8,k9]
      simp only
      omega
    have hpl:placedV (bHunk x y ctx g) ⟨oe,oo⟩ ⟨(j+(oe-i):Nat),no⟩=((⟨(i1+a:Nat),o'⟩,⟨(j1+a:Nat),n'⟩),true):=by
      unfold placedV
      rw[if_pos hpos,hop]
      simp only[if_true,k10,k11,k8,k9]
      rw[ct_len (by omega),ct_len (by omega)]
      rw[decide_eq_true (by omega),decide_eq_true (by omega)]
      congr 3 <;> congr 1 <;> omega
    have ih:=make_well hx hy ex ey lx ly gs i1 j1 (i1+a) o' n' k13 (fun e=>by have:=p2 e;omega) (fun e=>by have:=p4 e;omega)
    rw[show j1+(i1+a-i1)=j1+a by omega] at ih
    simp only[List.map_cons,wellV,Bool.and_eq_true]
    rw[hpl]
    exact⟨by unfold properV;rw[bHunk_ok hx hy,k12];rfl,rfl,ih⟩
theorem make_apply {x y:List Str} {ctx:Nat}:∀(gs:List (List ChangeT)) (i j oe:Nat) (out:List Str),GrpOk x y ctx gs i j oe→applyL x oe out (gs.map (bHunk x y ctx))=some (out++y.drop (j+(oe-i)))
  | [],i,j,oe,out,h=>by
    obtain⟨h1,h2,h3,h4,h5⟩:=h
    simp only[List.map_nil,applyL]
    have:x.drop oe=y.drop (j+(oe-i)):=by
      rw[show oe=i+(oe-i) by omega,← List.drop_drop,h1,List.drop_drop]
      congr 1
      omega
    rw[this]
  | g::gs,i,j,oe,out,h=>by
    obtain⟨s,i1,j1,a,k1,k2,k3,k4,k5,k6,k7,k8,k9,k10,k11,k12,k13⟩:=grp_hunk h
    have hf:foundV x (bHunk x y ctx g).old (oldL (bHunk x y ctx g).lines)=true:=by
      rw[k8,k10]
      simp only[foundV,Int.toNat_natCast]
      rw[ct_len (by omega)]
      rw[decide_eq_true (by omega),decide_eq_true (by omega)]
      simp[ct]
    simp only[List.map_cons,applyL]
    rw[if_pos hf,k8,k10,k11,ct_len (by omega),Int.toNat_natCast]
    have ih:=make_apply gs i1 j1 (i1+a) (out++(x.drop oe).take (i+s-oe)++ct y (j+s) (j1+a-(j+s))) k13
    rw[show i+s+(i1+a-(i+s))=i1+a by omega,ih]
    congr 1
    have e1:(x.drop oe).take (i+s-oe)=ct y (j+(oe-i)) (s-(oe-i)):=by
      have:=ct_sub (a:=oe-i) (b:=s-(oe-i)) k3 (by omega)
      rw[← this]
      simp only[ct]
      rw[show i+(oe-i)=oe by omega,show i+s-oe=s-(oe-i) by omega]
    rw[e1,List.append_assoc,List.append_assoc]
    congr 1
    rw[show j1+(i1+a-i1)=j+(oe-i)+(s-(oe-i))+(j1+a-(j+s)) by omega]
    rw[ct_rest y (j+(oe-i)) (s-(oe-i)),ct_rest y (j+(oe-i)+(s-(oe-i))) (j1+a-(j+s))]
    rw[show j+(oe-i)+(s-(oe-i))=j+s by omega]
/-! ### groups -/
def cutB (ctx:Int) (c:ChangeT):List ChangeT→Bool
  | []=>true
  | d::_=>decide (2 * ctx<d.old-c.old-c.oldLen)
def grpG (ctx:Int):List ChangeT→List (List ChangeT)
  | []=>[]
  | c::r=>if cutB ctx c r=true then [c]::grpG ctx r else match grpG ctx r with
    | []=>[[c]]
    | g::gs=>(c::g)::gs
theorem grp_tail {x y:List Str} {ctx:Nat}:∀(r:List ChangeT) (c:ChangeT) (i j:Nat) (f:Bool) (i' j':Nat),FitS x y (c::r) i j f i' j'→x.drop i'=y.drop j' →
    ∃(g:List ChangeT) (gs:List (List ChangeT)) (i1 j1 a:Nat),grpG ctx (c::r)=(c::g)::gs∧FitS x y (c::g) i j f i1 j1∧((c::g).getLastD default).old+((c::g).getLastD default).oldLen=(i1:Nat)∧a=min ctx (x.length-i1)∧ct x i1 a=ct y j1 a∧j1+a≤y.length∧GrpOk x y ctx gs i1 j1 (i1+a)
  | [],c,i,j,f,i',j',h,hd=>by
    obtain⟨q,d,e,rfl,k2,k3,k4,k5,k6,rfl,rfl,k8,k9⟩:=h
    refine⟨[],[],i+q+d,j+q+e,min ctx (x.length-(i+q+d)),by simp[grpG,cutB],⟨q,d,e,rfl,k2,k3,k4,k5,k6,rfl,rfl,k8,k9⟩,by simp only[List.getLastD_cons,List.getLastD_nil];omega,rfl,?_,?_,hd,k8,k9,by omega,by omega⟩
    · have:=ct_drop hd 0 (min ctx (x.length-(i+q+d)))
      simpa using this
    · have hl:=congrArg List.length hd
      simp only[List.length_drop] at hl
      omega
  | c2::r,c,i,j,f,i',j',h,hd=>by
    obtain⟨q,d,e,rfl,k2,k3,k4,k5,k6,k7⟩:=h
    obtain⟨g,gs,i1,j1,a,m1,m2,m3,m4,m5,m6,m7⟩:=grp_tail r c2 _ _ _ _ _ k7 hd
    have hE:=FitS.end m2
    rw[grpG,m1]
    cases hcut:cutB ctx ⟨(i+q:Nat),d,(j+q:Nat),e⟩ (c2::r) with
    | true =>
      rw[if_pos rfl]
      have m2':=m2
      obtain⟨q2,d2,e2,rfl,n2,n3,n4,n5,n6,n7⟩:=m2
      have hq2:2 * ctx<q2:=by
        simp only[cutB,decide_eq_true_eq] at hcut
        omega
      refine⟨[],_,i+q+d,j+q+e,min ctx (x.length-(i+q+d)),rfl,⟨q,d,e,rfl,k2,k3,k4,k5,k6,rfl,rfl,by omega,by omega⟩,by simp only[List.getLastD_cons,List.getLastD_nil];omega,rfl,?_,by omega,q2,min ctx (i+q+d+q2),i1,j1,a,false,by simp,rfl,rfl,n2,by omega,by omega,rfl,by omega,by omega,by omega,m2',m3,m4,m5,m6,m7⟩
      have:=ct_sub (a:=0) (b:=min ctx (x.length-(i+q+d))) n2 (by omega)
      simpa using this
    | false =>
      rw[if_neg (by simp)]
      exact⟨c2::g,gs,i1,j1,a,rfl,⟨q,d,e,rfl,k2,k3,k4,k5,k6,m2⟩,m3,m4,m5,m6,m7⟩
theorem grp_ok {x y:List Str} {ctx:Nat} {l:List ChangeT} {i' j':Nat} (h:FitS x y l 0 0 true i' j') (hd:x.drop i'=y.drop j'):GrpOk x y ctx (grpG ctx l) 0 0 0:=by
  cases l with
  | nil =>
    obtain⟨rfl,rfl,h3,h4⟩:=h
    exact⟨hd,h3,h4,Nat.le_refl _,Nat.zero_le _⟩
  | cons c r =>
    obtain⟨g,gs,i1,j1,a,m1,m2,m3,m4,m5,m6,m7⟩:=grp_tail (ctx:=ctx) r c _ _ _ _ _ h hd
    rw[m1]
    have hE:=FitS.end m2
    have m2':=m2
    obtain⟨q,d,e,rfl,n2,n3,n4,n5,n6,n7⟩:=m2
    exact⟨q,min ctx (0+q),i1,j1,a,true,by simp,rfl,rfl,n2,by omega,by omega,rfl,by omega,by omega,by omega,m2',m3,m4,m5,m6,m7⟩
def regV (l:List ChangeT) (a b:List Int) (k:Nat):Option (List Int × Int × Int) :=
  if (l.getD k default).newLen=0 then some (a,(l.getD k default).old,(l.getD k default).oldLen) else
    if (l.getD k default).oldLen=0 then some (b,(l.getD k default).new,(l.getD k default).newLen) else none
def endK (l:List ChangeT) (k:Nat):Int:=(l.getD k default).old+(l.getD k default).oldLen
def aftV (l:List ChangeT) (a:List Int) (k:Nat):Int:=if k+1<l.length then (l.getD (k+1) default).old-endK l k-1 else a.length-endK l k
def canV (l:List ChangeT) (a b:List Int) (k:Nat):Bool:=match regV l a b k with
  | none=>false
  | some (t,fr,sz)=>!decide (aftV l a k<1) && decide (t.getD fr.toNat 0=t.getD (fr+sz).toNat 0)
def movC (c:ChangeT):ChangeT:=⟨c.old+1,c.oldLen,c.new+1,c.newLen⟩
def movV (l:List ChangeT) (k:Nat):List ChangeT:=l.set k (movC (l.getD k default))
def oftV (a b:List Int):Nat→List ChangeT→Nat→List ChangeT × Nat
  | 0,l,_=>(l,0)
  | f+1,l,k=>if canV l a b k=true then ((oftV a b f (movV l k) k).1,(oftV a b f (movV l k) k).2+1) else (l,0)
def dwnK (a b:List Int):Nat→List ChangeT→List ChangeT
  | 0,l=>l
  | n+1,l=>dwnK a b n (oftV a b (a.length+1) l n).1
def dwnV (l:List ChangeT) (a b:List Int):List ChangeT:=dwnK a b l.length l
def FitA (l:List ChangeT) (a b:List Int):Prop:=∃i' j',FitS a b l 0 0 true i' j'∧a.drop i'=b.drop j'
theorem fit_step {a b:List Int}:∀(r:List ChangeT) (i j:Nat) (f:Bool) (i' j':Nat),FitS a b r i j f i' j'→a.drop i'=b.drop j'→(r=[]→i<a.length)→(∀c,r.head?=some c→2≤c.old-i) →
    i<a.length∧j<b.length∧a.getD i 0=b.getD j 0∧∃i'' j'',FitS a b r (i+1) (j+1) f i'' j''∧a.drop i''=b.drop j''
  | [],i,j,f,i',j',h,hd,h1,h2=>by
    obtain⟨rfl,rfl,h3,h4⟩:=h
    have hi:=h1 rfl
    have hl:=congrArg List.length hd
    simp only[List.length_drop] at hl
    have hj:j<b.length:=by omega
    have e:=hd
    rw[List.drop_eq_getElem_cons hi,List.drop_eq_getElem_cons hj] at e
    have e:=List.cons.inj e
    refine⟨hi,hj,by simp[List.getD,hi,hj,e.1],i+1,j+1,⟨rfl,rfl,hi,hj⟩,e.2⟩
  | c::r,i,j,f,i',j',h,hd,h1,h2=>by
    obtain⟨q,d,e,rfl,k2,k3,k4,k5,k6,k7⟩:=h
    have hq:=h2 _ rfl
    simp only at hq
    obtain⟨p,rfl⟩:∃p,q=p+1:=⟨q-1,by omega⟩
    have hi:i<a.length:=by omega
    have hj:j<b.length:=by omega
    have e1:ct a i (p+1)=a[i]::ct a (i+1) p:=by simp only[ct];rw[List.drop_eq_getElem_cons hi,List.take_succ_cons]
    have e2:ct b j (p+1)=b[j]::ct b (j+1) p:=by simp only[ct];rw[List.drop_eq_getElem_cons hj,List.take_succ_cons]
    have k2':=k2
    rw[e1,e2] at k2'
    have k2':=List.cons.inj k2'
    refine⟨hi,hj,by simp[List.getD,hi,hj,k2'.1],i',j',⟨p,d,e,?_,k2'.2,by omega,by omega,k5,fun _=>by omega,?_⟩,hd⟩
    · rw[show i+(p+1)=i+1+p by omega,show j+(p+1)=j+1+p by omega]
    · rw[show i+1+p+d=i+(p+1)+d by omega,show j+1+p+e=j+(p+1)+e by omega]
      exact k7
theorem ct_snoc {a:List Int} {i q:Nat} (h:i+q<a.length):ct a i (q+1)=ct a i q++[a.getD (i+q) 0]:=by
  rw[ct_app]
  congr 1
  simp only[ct]
  rw[List.drop_eq_getElem_cons h,List.take_succ_cons,List.take_zero,List.getD_eq_getElem?_getD,List.getElem?_eq_getElem h,Option.getD_some]
theorem fit_move {a b:List Int}:∀(l:List ChangeT) (k i j:Nat) (f:Bool) (i' j':Nat),FitS a b l i j f i' j'→a.drop i'=b.drop j'→k<l.length→canV l a b k=true→∃i'' j'',FitS a b (movV l k) i j f i'' j''∧a.drop i''=b.drop j''
  | [],k,i,j,f,i',j',_,_,hk,_=>by simp at hk
  | c::r,k+1,i,j,f,i',j',h,hd,hk,hc=>by
    obtain⟨q,d,e,h1,k2,k3,k4,k5,k6,k7⟩:=h
    have hc':canV r a b k=true:=by
      rw[← hc]
      simp only[canV,regV,aftV,endK,List.getD_cons_succ,List.length_cons,Nat.add_lt_add_iff_right]
      rfl
    obtain⟨i'',j'',m1,m2⟩:=fit_move r k _ _ _ _ _ k7 hd (by simpa using hk) hc'
    refine⟨i'',j'',⟨q,d,e,h1,k2,k3,k4,k5,k6,?_⟩,m2⟩
    simpa [movV] using m1
  | c::r,0,i,j,f,i',j',h,hd,hk,hc=>by
    obtain⟨q,d,e,rfl,k2,k3,k4,k5,k6,k7⟩:=h
    have haf:1≤aftV (⟨(i+q:Nat),d,(j+q:Nat),e⟩::r) a 0:=by
      unfold canV at hc
      split at hc
      · cases hc
      · simp only[Bool.and_eq_true,Bool.not_eq_true',decide_eq_false_iff_not] at hc
        omega
    simp only[aftV,endK,List.getD_cons_zero,List.getD_cons_succ,List.length_cons] at haf
    have hst:=fit_step r _ _ _ _ _ k7 hd (fun hr=>by
      subst hr
      simp at haf
      omega) (fun c' hc'=>by
      cases r with
      | nil=>simp at hc'
      | cons c2 r2 =>
        simp at hc'
        subst hc'
        simp at haf
        omega)
    obtain⟨s1,s2,s3,i'',j'',s4,s5⟩:=hst
    have heq:a.getD (i+q) 0=b.getD (j+q) 0∧i+q<a.length∧j+q<b.length:=by
      unfold canV regV at hc
      simp only[List.getD_cons_zero] at hc
      by_cases he:(e:Int)=0
      · rw[if_pos he] at hc
        simp only[Bool.and_eq_true,decide_eq_true_eq] at hc
        have:=hc.2
        have e0:e=0:=by omega
        subst e0
        rw[show ((i+q:Nat):Int)+(d:Int)=((i+q+d:Nat):Int) by omega,Int.toNat_natCast,Int.toNat_natCast] at this
        exact⟨by rw[this,s3];rfl,by omega,by omega⟩
      · rw[if_neg he] at hc
        by_cases hd0:(d:Int)=0
        · rw[if_pos hd0] at hc
          simp only[Bool.and_eq_true,decide_eq_true_eq] at hc
          have:=hc.2
          have e0:d=0:=by omega
          subst e0
          rw[show ((j+q:Nat):Int)+(e:Int)=((j+q+e:Nat):Int) by omega,Int.toNat_natCast,Int.toNat_natCast] at this
          exact⟨by rw[this,← s3];rfl,by omega,by omega⟩
        · rw[if_neg hd0] at hc
          cases hc
    refine⟨i'',j'',⟨q+1,d,e,?_,?_,by omega,by omega,k5,fun _=>by omega,?_⟩,s5⟩
    · simp only[movC,List.getD_cons_zero,ChangeT.mk.injEq]
      exact⟨by omega,trivial,by omega,trivial⟩
    · rw[ct_snoc heq.2.1,ct_snoc heq.2.2,k2,heq.1]
    · rw[show i+(q+1)+d=i+q+d+1 by omega,show j+(q+1)+e=j+q+e+1 by omega]
      exact s4
theorem FitA.move {l:List ChangeT} {a b:List Int} {k:Nat} (h:FitA l a b) (hk:k<l.length) (hc:canV l a b k=true):FitA (movV l k) a b:=by
  obtain⟨i',j',h1,h2⟩:=h
  exact fit_move l k 0 0 true i' j' h1 h2 hk hc
theorem mov_len (l:List ChangeT) (k:Nat):(movV l k).length=l.length:=by simp[movV]
theorem fit_mem {a b:List Int}:∀{l:List ChangeT} {i j:Nat} {f:Bool} {i' j':Nat},FitS a b l i j f i' j'→∀c,c∈l→∃o d p e:Nat,c=⟨o,d,p,e⟩∧i≤o∧j≤p∧o+d≤a.length∧p+e≤b.length∧0<d+e
  | [],_,_,_,_,_,_,c,hc=>by simp at hc
  | c::r,i,j,f,i',j',h,c',hc=>by
    obtain⟨q,d,e,rfl,k2,k3,k4,k5,k6,k7⟩:=h
    rcases List.mem_cons.1 hc with rfl | hc
    · exact⟨_,_,_,_,rfl,by omega,by omega,k3,k4,k5⟩
    · obtain⟨o,d',p,e',h1,h2,h3,h4,h5,h6⟩:=fit_mem k7 c' hc
      exact⟨o,d',p,e',h1,by omega,by omega,h4,h5,h6⟩
theorem FitA.mem {l:List ChangeT} {a b:List Int} (h:FitA l a b) {c:ChangeT} (hc:c∈l):∃o d p e:Nat,c=⟨o,d,p,e⟩∧o+d≤a.length∧p+e≤b.length∧0<d+e:=by
  obtain⟨i',j',h1,h2⟩:=h
  obtain⟨o,d,p,e,h3,_,_,h4,h5,h6⟩:=fit_mem h1 c hc
  exact⟨o,d,p,e,h3,h4,h5,h6⟩
theorem FitA.get {l:List ChangeT} {a b:List Int} (h:FitA l a b) {k:Nat} (hk:k<l.length):∃o d p e:Nat,l.getD k default=⟨o,d,p,e⟩∧l[k]=⟨o,d,p,e⟩∧o+d≤a.length∧p+e≤b.length∧0<d+e:=by
  obtain⟨o,d,p,e,h1,h2⟩:=h.mem (List.getElem_mem hk)
  exact⟨o,d,p,e,by simp[List.getD,hk,h1],h1,h2⟩
theorem oft_len (a b:List Int):∀(f:Nat) (l:List ChangeT) (k:Nat),(oftV a b f l k).1.length=l.length
  | 0,_,_=>rfl
  | f+1,l,k=>by
    rw[oftV]
    split
    · rw[oft_len a b f,mov_len]
    · rfl
theorem oft_fit {a b:List Int}:∀(f:Nat) (l:List ChangeT) (k:Nat),k<l.length→FitA l a b→FitA (oftV a b f l k).1 a b
  | 0,_,_,_,h=>h
  | f+1,l,k,hk,h=>by
    rw[oftV]
    split
    · rename_i hc
      exact oft_fit f _ k (by rw[mov_len];exact hk) (h.move hk hc)
    · exact h
theorem dwn_fit {a b:List Int}:∀(n:Nat) (l:List ChangeT),n≤l.length→FitA l a b→FitA (dwnK a b n l) a b∧(dwnK a b n l).length=l.length
  | 0,l,_,h=>⟨h,rfl⟩
  | n+1,l,hn,h=>by
    have:=dwn_fit n (oftV a b (a.length+1) l n).1 (by rw[oft_len];omega) (oft_fit _ _ _ (by omega) h)
    rw[oft_len] at this
    exact this
/-! ### to fit,and to be a script whose partners are equal -/
theorem fit_ok {a b:List Int} (ha:a.length≤4096) (hb:b.length≤4096):∀{l:List ChangeT} {i j:Nat} {f:Bool} {i' j':Nat},FitS a b l i j f i' j'→a.drop i'=b.drop j'→okV l i j f a.length b.length=true
  | [],i,j,f,i',j',h,hd=>by
    obtain⟨rfl,rfl,h3,h4⟩:=h
    have hl:=congrArg List.length hd
    simp only[List.length_drop] at hl
    simp only[okV,Bool.and_eq_true,decide_eq_true_eq]
    omega
  | c::r,i,j,f,i',j',h,hd=>by
    obtain⟨q,d,e,rfl,k2,k3,k4,k5,k6,k7⟩:=h
    have ih:=fit_ok ha hb k7 hd
    simp only[okV,Bool.and_eq_true]
    constructor
    · simp only[stepV,inV,Bool.and_eq_true,decide_eq_true_eq,Bool.not_eq_true',decide_eq_false_iff_not,Bool.or_eq_true]
      refine⟨⟨⟨⟨⟨⟨⟨?_,?_⟩,?_⟩,?_⟩,?_⟩,?_⟩,?_⟩,?_⟩ <;> first | omega | (cases f with | true=>simp | false=>have:=k6 rfl;right;omega)
    · rw[show ((i+q:Nat):Int)+d=((i+q+d:Nat):Int) by omega,show ((j+q:Nat):Int)+e=((j+q+e:Nat):Int) by omega]
      exact ih
theorem FitA.check {l:List ChangeT} {a b:List Int} (h:FitA l a b) (ha:a.length≤4096) (hb:b.length≤4096):checkV l a.length b.length=true:=by
  obtain⟨i',j',h1,h2⟩:=h
  simp only[checkV,Bool.and_eq_true,inV,decide_eq_true_eq]
  exact⟨⟨by omega,by omega⟩,by simpa using fit_ok ha hb h1 h2⟩
theorem ct_of {a b:List Int} {i j q:Nat} (h1:i+q≤a.length) (h2:j+q≤b.length) (h:∀t:Nat,t<q→a.getD (i+t) 0=b.getD (j+t) 0):ct a i q=ct b j q:=by
  apply List.ext_getElem
  · rw[ct_len h1,ct_len h2]
  · intro t h3 h4
    rw[ct_len h1] at h3
    have:=h t h3
    simp only[List.getD,List.getElem?_eq_getElem (show i+t<a.length by omega),List.getElem?_eq_getElem (show j+t<b.length by omega),Option.getD_some] at this
    simp only[ct,List.getElem_take,List.getElem_drop]
    exact this
theorem run_all {n:Nat} {i j:Nat} {P:SpanT→Prop} (h:∀s,s∈runN n i j→P s):∀t:Nat,t<n→P ⟨(i+t:Nat),(j+t:Nat)⟩:=by
  induction n generalizing i j with
  | zero=>intro t ht;omega
  | succ n ih =>
    intro t ht
    cases t with
    | zero=>exact h _ (by simp[runN])
    | succ t =>
      have:=ih (i:=i+1) (j:=j+1) (fun s hs=>h s (by simp only[runN,List.mem_cons];exact .inr (by simpa using hs))) t (by omega)
      rw[show i+1+t=i+(t+1) by omega,show j+1+t=j+(t+1) by omega] at this
      exact this
theorem fit_of {a b:List Int}:∀(l:List ChangeT) (i j:Nat) (f:Bool),okV l i j f a.length b.length=true→(∀s,s∈matV l i j a.length→a.getD s.fr.toNat 0=b.getD s.to.toNat 0)→∃i' j',FitS a b l i j f i' j'∧a.drop i'=b.drop j'
  | [],i,j,f,h,hm=>by
    simp only[okV,Bool.and_eq_true,decide_eq_true_eq] at h
    refine⟨i,j,⟨rfl,rfl,by omega,by omega⟩,?_⟩
    have:=run_all (n:=((a.length:Int)-i).toNat) (i:=i) (j:=j) (P:=fun s=>a.getD s.fr.toNat 0=b.getD s.to.toNat 0) (fun s hs=>hm s (by simpa [matV] using hs))
    have h1:=ct_of (a:=a) (b:=b) (i:=i) (j:=j) (q:=a.length-i) (by omega) (by omega) (fun t ht=>by have:=this t (by omega);simp only[Int.toNat_natCast] at this;exact this)
    simp only[ct] at h1
    rw[List.take_of_length_le (by simp),List.take_of_length_le (by simp;omega)] at h1
    exact h1
  | c::r,i,j,f,h,hm=>by
    simp only[okV,Bool.and_eq_true] at h
    obtain⟨h0,h9⟩:=h
    obtain⟨⟨a1,a2⟩,⟨a3,a4⟩,⟨a5,a6⟩,⟨a7,a8⟩,a9,a10,a11,a12⟩:=stepV_true h0
    obtain⟨o,d,p,e⟩:=c
    simp only at *
    obtain⟨o,rfl⟩:=Int.eq_ofNat_of_zero_le a1
    obtain⟨d,rfl⟩:=Int.eq_ofNat_of_zero_le a3
    obtain⟨p,rfl⟩:=Int.eq_ofNat_of_zero_le a5
    obtain⟨e,rfl⟩:=Int.eq_ofNat_of_zero_le a7
    obtain⟨q,rfl⟩:∃q,o=i+q:=⟨o-i,by omega⟩
    obtain rfl:p=j+q:=by omega
    rw[show ((i+q:Nat):Int)+d=((i+q+d:Nat):Int) by omega,show ((j+q:Nat):Int)+e=((j+q+e:Nat):Int) by omega] at h9
    simp only[matV] at hm
    rw[show ((i+q:Nat):Int)+d=((i+q+d:Nat):Int) by omega,show ((j+q:Nat):Int)+e=((j+q+e:Nat):Int) by omega] at hm
    obtain⟨i',j',k1,k2⟩:=fit_of r _ _ _ h9 (fun s hs=>hm s (List.mem_append_right _ hs))
    have hE:=FitS.end k1
    have:=run_all (n:=(((i+q:Nat):Int)-i).toNat) (i:=i) (j:=j) (P:=fun s=>a.getD s.fr.toNat 0=b.getD s.to.toNat 0) (fun s hs=>hm s (List.mem_append_left _ hs))
    exact⟨i',j',⟨q,d,e,rfl,ct_of (by omega) (by omega) (fun t ht=>by have:=this t (by omega);simp only[Int.toNat_natCast] at this;exact this),by omega,by omega,by omega,fun hf=>by have:=a12 hf;omega,k1⟩,k2⟩
theorem FitA.of {l:List ChangeT} {a b:List Int} (h:checkV l a.length b.length=true) (hm:∀s,s∈matV l 0 0 a.length→a.getD s.fr.toNat 0=b.getD s.to.toNat 0):FitA l a b:=by
  simp only[checkV,Bool.and_eq_true] at h
  exact fit_of l 0 0 true (by simpa using h.2) (by simpa using hm)
theorem fit_map {x y:List Str} (g:Str→Int) (hg:∀u v,u∈x→v∈y→g u=g v→u=v):∀{l:List ChangeT} {i j:Nat} {f:Bool} {i' j':Nat},FitS (x.map g) (y.map g) l i j f i' j'→FitS x y l i j f i' j'
  | [],i,j,f,i',j',h=>by
    obtain⟨h1,h2,h3,h4⟩:=h
    exact⟨h1,h2,by simpa using h3,by simpa using h4⟩
  | c::r,i,j,f,i',j',h=>by
    obtain⟨q,d,e,h1,k2,k3,k4,k5,k6,k7⟩:=h
    simp only[List.length_map] at k3 k4
    refine⟨q,d,e,h1,?_,k3,k4,k5,k6,fit_map g hg k7⟩
    apply List.ext_getElem
    · rw[ct_len (by omega),ct_len (by omega)]
    · intro t h3 h4
      rw[ct_len (by omega)] at h3
      have:=congrArg (fun z:List Int=>z[t]?) k2
      simp only[ct,List.getElem?_take,List.getElem?_drop,List.getElem?_map,if_pos h3,List.getElem?_eq_getElem (show i+t<x.length by omega),List.getElem?_eq_getElem (show j+t<y.length by omega),Option.map_some,Option.some.injEq] at this
      simp only[ct,List.getElem_take,List.getElem_drop]
      exact hg _ _ (List.getElem_mem _) (List.getElem_mem _) this
theorem drop_map {x y:List Str} (g:Str→Int) (hg:∀u v,u∈x→v∈y→g u=g v→u=v) {i j:Nat} (h:(x.map g).drop i=(y.map g).drop j):x.drop i=y.drop j:=by
  have hl:=congrArg List.length h
  simp only[List.length_drop,List.length_map] at hl
  apply List.ext_getElem
  · simpa using hl
  · intro t h3 h4
    simp only[List.length_drop] at h3 h4
    have:=congrArg (fun z:List Int=>z[t]?) h
    simp only[List.getElem?_drop,List.getElem?_map,List.getElem?_eq_getElem (show i+t<x.length by omega),List.getElem?_eq_getElem (show j+t<y.length by omega),Option.map_some,Option.some.injEq] at this
    simp only[List.getElem_drop]
    exact hg _ _ (List.getElem_mem _) (List.getElem_mem _) this
theorem index_ten (s:Str):(0≤Lib.index s [10])↔(10:UInt8)∈s:=by
  rcases first10 s with h | ⟨i,h1,h2⟩
  · have:Lib.index s [10]=-1:=Lib.index_none fun j hj=>by
      cases h3:Lib.occAt s [10] j with
      | false=>rfl
      | true=>exact absurd ((occ10 s j).1 h3) (h j)
    rw[this]
    constructor
    · intro h3;omega
    · intro h3
      obtain⟨k,hk⟩:=List.mem_iff_getElem?.1 h3
      exact absurd hk (h k)
  · have:Lib.index s [10]=i:=Lib.index_first (by have:=List.getElem?_eq_some_iff.1 h1;obtain⟨h3,_⟩:=this;omega) ((occ10 s i).2 h1) fun j hj=>by
      have:=h2 j hj
      cases h3:Lib.occAt s [10] j with
      | false=>rfl
      | true=>exact absurd ((occ10 s j).1 h3) this
    rw[this]
    constructor
    · intro _;exact List.mem_iff_getElem?.2 ⟨i,h1⟩
    · intro _;omega
@[simp] def S_strings_Contains:List D→Prop × D:=spec2 (α:=Str) (β:=Str) indOk (fun s n=>.bool (decide (0≤Lib.index s n)))
theorem ct_strings_Contains {P:Program} {f g1:Nat} {G:Gam} (h:CodeOf P f 2 3 [2] (x_strings_Contains g1)) (hG:GamOk P G) (h1:G.find g1=some S_strings_Index):Has P f S_strings_Contains:=h.has2 hG fun s n hp=>by
  simp[x_strings_Contains,h1,hp]
theorem bareV_le (x:Str):(bareV x).length≤x.length:=by
  unfold bareV
  split <;> simp
theorem bare_ten (s:Str):(10:UInt8)∈bareV s↔(10:UInt8)∈s.dropLast:=by
  rcases List.eq_nil_or_concat s with rfl | ⟨t,c,rfl⟩
  · simp[bareV,endedV]
  · simp only[List.concat_eq_append,bareV,endedV,List.getLast?_append,List.getLast?_singleton,Option.some_or,List.dropLast_concat]
    by_cases hc:c=10
    · simp[hc]
    · simp[hc,Ne.symm hc]
def A.gvd (α:Type) [Rep α] [Inhabited α] (x:A):α:=(Rep.of x.toD).getD default
attribute [simp] A.gvd
theorem WkL.refl' (n:Nat) (k:List Ob):∀xs:List A,WkL n k xs xs
  | []=>trivial
  | _::xs=>⟨Wk.refl _ _ _,WkL.refl' n k xs⟩
theorem WkO.agg1 (n:Nat) (k:List Ob) (v e:Nat) (cs:List D) (h:(A.agg (cs.map .d)).fits e=true):WkO n k (.cells v e [.d (.agg cs)]) (.cells v e [.agg (cs.map .d)]):=by
  refine .inr ⟨v,e,_,_,rfl,rfl,rfl,fun i hi=>?_⟩
  simp only[List.length_singleton] at hi
  obtain rfl:i=0:=by omega
  exact⟨h,WkL.refl' _ _ _⟩
end Go.AE
namespace Go.AE
def A.gfn:A→Nat
  | .fn (.func g) _ _=>g
  | _=>0
attribute [simp] A.gfn
theorem FinR.drop {rs:List Nat} {o:Ob} {r:D} {T:List A} (h:resOf rs T [o,.dead]=.d r) (ho:o.under 1=true) (hp:resPre rs T [o,.dead]):FinR rs [o] (.d r) [o] .ret T [o,.dead]:=by
  refine FinR.done (by simp) ?_ rfl h.symm ?_ rfl hp
  · simp
  · simpa using ho
def nearB (l:List SpanT) (c:Int) (i:Nat):Bool:=l.any fun s=>decide (s.fr-c≤i∧(i:Int)<s.to+c)
end Go.AE
namespace Go.AE
def hQ (l:List SpanT) (c:Int) (k:Nat) (a j:Int):Nat→Bool:=fun x=>nearB (l.take k) c x || decide (a≤x∧(x:Int)<j)
end Go.AE
namespace Go.AE
end Go.AE
namespace Go.AE
@[simp] theorem SbS_self:∀s:Store,SbS s s=True
  | []=>rfl
  | x::s=>by rw[SbS_cons,SbO_refl,SbS_self s];simp
end Go.AE
namespace Go.AE
structure Small (r:Str) (ps:List Str) (B:Nat):Prop where
  hr:r.length≤B
  hp:∀p,p∈ps→p.length≤B
  n1:1≤ps.length
  n2:ps.length≤32
  b1:B≤100
  b2:(B+1) * ps.length≤4096
theorem listV_okL {l:List Str} (h:listV l=true) {x:Str} (hx:x∈l):okL x=true:=by
  rw[listV_last,Bool.and_eq_true,List.all_eq_true] at h
  exact h.1 x hx
theorem lines_ok {s x:Str} (h:x∈linesV s):okL x=true∧x.length≤s.length:=by
  have h1:listV (linesV s)=true:=listV_lines s [] (by simp)
  refine⟨listV_okL h1 h,?_⟩
  obtain⟨i,hi,rfl⟩:=List.mem_iff_getElem.1 h
  have h2:=mem_flat_le hi
  have h3:(linesV s).flatten.length=s.length:=by rw[lines_flat]
  omega
structure HunkT where
  first:Int
  last:Int
  ofr:Int
  oto:Int
  nfr:Int
  nto:Int
  deriving DecidableEq,Inhabited
def closedV (l:List ChangeT) (f k:Nat) (m ctx:Int):HunkT :=
  let a:=l.getD f default
  let z:=l.getD (k-1) default
  let b:=min ctx a.old
  let c:=min ctx (m-z.old-z.oldLen)
  ⟨f,k,a.old-b,z.old+z.oldLen+c,a.new-b,z.new+z.newLen+c⟩
def grpH (l:List ChangeT) (m ctx:Int):List ChangeT→Nat→Nat→List HunkT
  | [],_,_=>[]
  | c::r,f,i=>if cutB ctx c r=true then closedV l f (i+1) m ctx::grpH l m ctx r (i+1) (i+1) else grpH l m ctx r f (i+1)
def buildV (l:List ChangeT) (x y:List Str) (h:HunkT):PHunkT:=⟨h.ofr,h.nfr,bLines x y ((l.drop h.first.toNat).take (h.last-h.first).toNat) h.ofr.toNat h.oto.toNat⟩
theorem build_closed (x y:List Str) (ctx:Nat) (pre g r:List ChangeT) (hg:g≠[]):buildV (pre++(g++r)) x y (closedV (pre++(g++r)) pre.length (pre.length+g.length) x.length ctx)=bHunk x y ctx g:=by
  obtain⟨c,s,rfl⟩:=List.exists_cons_of_ne_nil hg
  have e1:(pre++((c::s)++r)).getD pre.length default=c:=by simp[List.getD]
  have e2:(pre++((c::s)++r)).getD (pre.length+(c::s).length-1) default=(c::s).getLastD default:=by
    rw[List.getD_eq_getElem?_getD,List.getElem?_append_right (by simp),List.getElem?_append_left (by simp)]
    rw[show pre.length+(c::s).length-1-pre.length=(c::s).length-1 by simp,← List.getLast?_eq_getElem?]
    rw[List.getLastD_eq_getLast?]
  have e3:((pre++((c::s)++r)).drop pre.length).take (((pre.length+(c::s).length:Nat):Int)-(pre.length:Nat)).toNat=c::s:=by
    rw[List.drop_left,show (((pre.length+(c::s).length:Nat):Int)-(pre.length:Nat)).toNat=(c::s).length by omega,List.take_left]
  simp only[buildV,closedV,bHunk,e1,e2,e3,Int.toNat_natCast,List.headD_cons]
theorem grpH_map (x y:List Str) (ctx:Nat):∀(r pre pend:List ChangeT) (c:ChangeT),∃g gs,grpG ctx (c::r)=g::gs ∧
    (grpH (pre++(pend++c::r)) x.length ctx (c::r) pre.length (pre.length+pend.length)).map (buildV (pre++(pend++c::r)) x y)=bHunk x y ctx (pend++g)::gs.map (bHunk x y ctx)
  | [],pre,pend,c=>by
    refine⟨[c],[],by simp[grpG,cutB],?_⟩
    simp only[grpH,cutB,if_true,List.map_cons,List.map_nil]
    have:=build_closed x y ctx pre (pend++[c]) [] (by simp)
    rw[List.append_nil,List.length_append,List.length_singleton,← Nat.add_assoc] at this
    rw[this]
  | d::r,pre,pend,c=>by
    cases hcut:cutB ctx c (d::r) with
    | true =>
      obtain⟨g,gs,h1,h2⟩:=grpH_map x y ctx r (pre++(pend++[c])) [] d
      refine⟨[c],g::gs,by rw[grpG,if_pos hcut,h1],?_⟩
      rw[grpH,if_pos hcut,List.map_cons]
      have:=build_closed x y ctx pre (pend++[c]) (d::r) (by simp)
      simp only[List.append_assoc,List.singleton_append,List.cons_append,List.nil_append,List.length_append,List.length_singleton,List.length_cons,List.length_nil,Nat.add_zero,Nat.zero_add] at this h2 ⊢
      rw[Nat.add_assoc,this,h2,List.map_cons]
    | false =>
      obtain⟨g,gs,h1,h2⟩:=grpH_map x y ctx r pre (pend++[c]) d
      refine⟨c::g,gs,by rw[grpG,if_neg (by rw[hcut];simp),h1],?_⟩
      rw[grpH,if_neg (by rw[hcut];simp)]
      simp only[List.append_assoc,List.singleton_append,List.cons_append,List.nil_append,List.length_append,List.length_singleton] at h2
      rw[Nat.add_assoc,h2]
theorem hunks_groups (x y:List Str) (ctx:Nat) (l:List ChangeT):(grpH l x.length ctx l 0 0).map (buildV l x y)=(grpG ctx l).map (bHunk x y ctx):=by
  cases l with
  | nil=>rfl
  | cons c r =>
    obtain⟨g,gs,h1,h2⟩:=grpH_map x y ctx r [] [] c
    rw[h1]
    simpa using h2
def idp2 (a b:Str):List (List Int):=idsV [linesV a,linesV b]
theorem idp2_0 (a b:Str):(idp2 a b).getD 0 []=(linesV a).map (placeV (namesV [linesV a,linesV b])):=rfl
theorem idp2_1 (a b:Str):(idp2 a b).getD 1 []=(linesV b).map (placeV (namesV [linesV a,linesV b])):=rfl
theorem idp2_l0 (a b:Str):((idp2 a b).getD 0 []).length=(linesV a).length:=by rw[idp2_0];simp
theorem idp2_l1 (a b:Str):((idp2 a b).getD 1 []).length=(linesV b).length:=by rw[idp2_1];simp
def scrP (a b:Str):List ChangeT:=scriptV ((idp2 a b).getD 0 []) ((idp2 a b).getD 1 [])
theorem checkT_lns {s:Str} (h:checkT s=0):(linesV s).length≤4096:=by
  unfold checkT at h
  split at h
  · rename_i h1;exact h1.2
  · cases h
def chgP (a b:Str) (down:Bool):List ChangeT:=if down=true then dwnV (scrP a b) ((idp2 a b).getD 0 []) ((idp2 a b).getD 1 []) else scrP a b
def hunksP (a b:Str) (ctx:Int) (down:Bool):List PHunkT:=(grpH (chgP a b down) (linesV a).length ctx (chgP a b down) 0 0).map (buildV (chgP a b down) (linesV a) (linesV b))
theorem scrP_fit {a b:Str} (ha:checkT a=0) (hb:checkT b=0):FitA (scrP a b) ((idp2 a b).getD 0 []) ((idp2 a b).getD 1 []):=by
  have h1:=checkT_lns ha
  have h2:=checkT_lns hb
  have h:=script_fits (a:=(idp2 a b).getD 0 []) (b:=(idp2 a b).getD 1 []) (by rw[idp2_l0];exact h1) (by rw[idp2_l1];exact h2)
  simp only[fitsV,Bool.and_eq_true,List.all_eq_true,decide_eq_true_eq] at h
  exact FitA.of h.1 h.2
theorem chg_fit {a b:Str} (ha:checkT a=0) (hb:checkT b=0) (down:Bool):FitA (chgP a b down) ((idp2 a b).getD 0 []) ((idp2 a b).getD 1 []):=by
  unfold chgP
  split
  · exact (dwn_fit _ _ (Nat.le_refl _) (scrP_fit ha hb)).1
  · exact scrP_fit ha hb
theorem chg_lines {a b:Str} (ha:checkT a=0) (hb:checkT b=0) (down:Bool):∃i' j',FitS (linesV a) (linesV b) (chgP a b down) 0 0 true i' j'∧(linesV a).drop i'=(linesV b).drop j':=by
  obtain⟨i',j',h1,h2⟩:=chg_fit ha hb down
  rw[idp2_0,idp2_1] at h1 h2
  have inj:∀u v,u∈linesV a→v∈linesV b→placeV (namesV [linesV a,linesV b]) u=placeV (namesV [linesV a,linesV b]) v→u=v:=fun u v hu hv e =>
    (placeV_inj (mem_names.2 ⟨linesV a,by simp,hu⟩) (mem_names.2 ⟨linesV b,by simp,hv⟩)).1 e
  exact⟨i',j',fit_map _ inj h1,drop_map _ inj h2⟩
theorem ends_lines (s:Str):Ends (linesV s):=by
  have h1:listV (linesV s)=true:=listV_lines s [] (by simp)
  intro k u hk he
  have hk':=(List.getElem?_eq_some_iff.1 hk).1
  have h2:listV ((linesV s).drop k)=true:=by
    have:∀k,k<(linesV s).length→listV ((linesV s).drop k)=true:=fun k=>by
      induction k with
      | zero=>intro _;simpa using h1
      | succ k ih =>
        intro hk
        have:=ih (by omega)
        rw[listV_drop (by omega)] at this
        simp only[Bool.and_eq_true] at this
        exact this.2
    exact this k hk'
  rw[listV_drop hk'] at h2
  simp only[Bool.and_eq_true,Bool.or_eq_true,decide_eq_true_eq] at h2
  rcases h2.1.2 with h3 | h3
  · exact h3
  · rw[(List.getElem?_eq_some_iff.1 hk).2,he] at h3
    cases h3
theorem made_ok {a b:Str} (ha:checkT a=0) (hb:checkT b=0) (ctx:Nat) (down:Bool):wellV ⟨0,false⟩ ⟨0,false⟩ (hunksP a b ctx down)=true∧applyL (linesV a) 0 [] (hunksP a b ctx down)=some (linesV b):=by
  unfold hunksP
  rw[hunks_groups]
  obtain⟨i',j',h1,h2⟩:=chg_lines ha hb down
  have hg:=grp_ok (ctx:=ctx) h1 h2
  have w:=make_well (fun u hu=>(lines_ok hu).1) (fun u hu=>(lines_ok hu).1) (ends_lines a) (ends_lines b) (checkT_lns ha) (checkT_lns hb) _ 0 0 0 false false hg (by simp) (by simp)
  have p:=make_apply _ 0 0 0 [] hg
  exact⟨by simpa using w,by simpa using p⟩
open Go.ChangeShapes Go.WideShapes Go.RowKit Go.Deep
instance:Rep PLineT where
  size:=2
  to x:=.agg [.int .u8 x.kind,.str x.text]
  of
    | .agg [.int .u8 a,.str b]=>some ⟨a,b⟩
    | _=>none
  of_to x:=rfl
  rep d x h w I v r:=by
    split at h
    · simp at h;subst h;exact r
    · simp at h
  fits x:=rfl
@[simp] theorem to_PLine (x:PLineT):Rep.to x=D.agg [.int .u8 x.kind,.str x.text]:=rfl
@[simp] theorem size_PLine:Rep.size PLineT=2:=rfl
@[simp] theorem of_PLine (a:Int) (b:Str):Rep.of (α:=PLineT) (.agg [.int .u8 a,.str b])=some ⟨a,b⟩:=rfl
instance:Rep PHunkT where
  size:=3
  to x:=.agg [.int .i64 x.old,.int .i64 x.new,Rep.to x.lines]
  of
    | .agg [.int .i64 a,.int .i64 b,c]=>(Rep.of (α:=List PLineT) c).map fun r=>⟨a,b,r⟩
    | _=>none
  of_to x:=by simp only[Rep.of_to];rfl
  rep d x h w I v r:=by
    split at h
    · rename_i a b c
      simp only[Option.map_eq_some_iff] at h
      obtain⟨rows,h1,rfl⟩:=h
      cases r with
      | agg cs vs hl ho hr =>
        refine .agg _ _ (by simpa using hl) rfl (fun k hk=>?_)
        have hk':k<3:=by simpa using hk
        match k,hk' with
        | 0,_=>exact hr 0 (by simp)
        | 1,_=>exact hr 1 (by simp)
        | 2,_=>exact Rep.rep _ _ h1 _ _ _ (hr 2 (by simp))
    · simp at h
  fits x:=rfl
@[simp] theorem to_PHunk (x:PHunkT):Rep.to x=D.agg [.int .i64 x.old,.int .i64 x.new,.sl 2 (x.lines.map Rep.to)]:=rfl
@[simp] theorem size_PHunk:Rep.size PHunkT=3:=rfl
@[simp] theorem of_PHunk (a b:Int) (c:D):Rep.of (α:=PHunkT) (.agg [.int .i64 a,.int .i64 b,c])=(Rep.of (α:=List PLineT) c).map fun r=>⟨a,b,r⟩:=rfl
instance:Rep PatchT where
  size:=3
  to x:=.agg [.str x.oldName,.str x.newName,Rep.to x.hunks]
  of
    | .agg [.str a,.str b,c]=>(Rep.of (α:=List PHunkT) c).map fun r=>⟨a,b,r⟩
    | _=>none
  of_to x:=by simp only[Rep.of_to];rfl
  rep d x h w I v r:=by
    split at h
    · rename_i a b c
      simp only[Option.map_eq_some_iff] at h
      obtain⟨rows,h1,rfl⟩:=h
      cases r with
      | agg cs vs hl ho hr =>
        refine .agg _ _ (by simpa using hl) rfl (fun k hk=>?_)
        have hk':k<3:=by simpa using hk
        match k,hk' with
        | 0,_=>exact hr 0 (by simp)
        | 1,_=>exact hr 1 (by simp)
        | 2,_=>exact Rep.rep _ _ h1 _ _ _ (hr 2 (by simp))
    · simp at h
  fits x:=rfl
@[simp] theorem to_Patch (x:PatchT):Rep.to x=D.agg [.str x.oldName,.str x.newName,.sl 3 (x.hunks.map Rep.to)]:=rfl
@[simp] theorem size_Patch:Rep.size PatchT=3:=rfl
@[simp] theorem of_Patch (a b:Str) (c:D):Rep.of (α:=PatchT) (.agg [.str a,.str b,c])=(Rep.of (α:=List PHunkT) c).map fun r=>⟨a,b,r⟩:=rfl
instance:Rep HunkT where
  size:=6
  to x:=.agg [.int .i64 x.first,.int .i64 x.last,.int .i64 x.ofr,.int .i64 x.oto,.int .i64 x.nfr,.int .i64 x.nto]
  of
    | .agg [.int .i64 a,.int .i64 b,.int .i64 c,.int .i64 d,.int .i64 e,.int .i64 f]=>some ⟨a,b,c,d,e,f⟩
    | _=>none
  of_to x:=rfl
  rep d x h w I v r:=by
    split at h
    · simp at h;subst h;exact r
    · simp at h
  fits x:=rfl
@[simp] theorem to_Hunk (x:HunkT):Rep.to x=D.agg [.int .i64 x.first,.int .i64 x.last,.int .i64 x.ofr,.int .i64 x.oto,.int .i64 x.nfr,.int .i64 x.nto]:=rfl
@[simp] theorem size_Hunk:Rep.size HunkT=6:=rfl
@[simp] theorem of_Hunk (a b c d e f:Int):Rep.of (α:=HunkT) (.agg [.int .i64 a,.int .i64 b,.int .i64 c,.int .i64 d,.int .i64 e,.int .i64 f])=some ⟨a,b,c,d,e,f⟩:=rfl
end Go.AE
namespace Go.AE
end Go.AE
namespace Go.AE
end Go.AE
namespace Go.AE
def splitB:List UInt8→List (List UInt8)
  | []=>[[]]
  | c::r=>if c=47 then []::splitB r else match splitB r with
    | x::xs=>(c::x)::xs
    | []=>[[c]]
open Go
end Go.AE
namespace Go.AE
def Ob.es:Ob→List (D × D)
  | .map es=>es
  | _=>[]
attribute [simp] Ob.es
def consH (name:Str):List Str→List Str
  | x::xs=>(name++x)::xs
  | []=>[name]
end Go.AE
namespace Go.AE
end Go.AE
namespace Go.AE
end Go.AE
namespace Go.AE
def A.qg:A→List CommitT
  | .fn _ [x] _=>x.gl CommitT
  | _=>[]
@[simp] theorem A.qg_fn (f:Fn) (x:A) (c:List A):A.qg (.fn f [x] c)=x.gl CommitT:=rfl
end Go.AE
namespace Go.AE
end Go.AE
namespace Go.AE
end Go.AE
namespace Go.AE
end Go.AE
namespace Go.AE
end Go.AE
namespace Go.AE
end Go.AE
namespace Go.AE
end Go.AE
namespace Go.AE
end Go.AE
namespace Go.AE
end Go.AE
namespace Go.AE
end Go.AE
namespace Go.AE
def Ob.len:Ob→Nat
  | .cells _ _ xs=>xs.length
  | _=>0
def Ob.agn:Ob→Nat→A
  | .cells _ _ (.agg cs::_),j=>cs.getD j .any
  | _,_=>.any
def A.dl:A→List D
  | .d (.sl _ xs)=>xs
  | _=>[]
attribute [simp] A.dl Ob.agn
end Go.AE
namespace Go.AE
end Go.AE
namespace Go.AE
/-! ### files of a tree -/
structure SrcT where
  parent:Int
  lines:List Int
structure VisitT where
  commit:Int
  lines:SpanT
  deriving DecidableEq,Inhabited
def z0:SpanT:=⟨0,0⟩
end Go.AE
namespace Go.AE
end Go.AE
namespace Go.AE
/-! ### sources and visits as data -/
deriving instance DecidableEq,Inhabited for SrcT
instance:Rep SrcT where
  size:=2
  to x:=.agg [.int .i64 x.parent,Rep.to x.lines]
  of
    | .agg [.int .i64 a,b]=>(Rep.of (α:=List Int) b).map fun r=>⟨a,r⟩
    | _=>none
  of_to x:=by simp only[Rep.of_to];rfl
  rep d x h w I v r:=by
    split at h
    · rename_i a b
      simp only[Option.map_eq_some_iff] at h
      obtain⟨rows,h1,rfl⟩:=h
      cases r with
      | agg cs vs hl ho hr =>
        refine .agg _ _ (by simpa using hl) rfl (fun k hk=>?_)
        have hk':k<2:=by simpa using hk
        match k,hk' with
        | 0,_=>exact hr 0 (by simp)
        | 1,_=>exact Rep.rep _ _ h1 _ _ _ (hr 1 (by simp))
    · simp at h
  fits x:=rfl
@[simp] theorem to_Src (x:SrcT):Rep.to x=D.agg [.int .i64 x.parent,.sl 1 (x.lines.map Rep.to)]:=rfl
@[simp] theorem size_Src:Rep.size SrcT=2:=rfl
@[simp] theorem of_Src (a:Int) (b:D):Rep.of (α:=SrcT) (.agg [.int .i64 a,b])=(Rep.of (α:=List Int) b).map fun r=>⟨a,r⟩:=rfl
instance:Rep VisitT where
  size:=3
  to x:=.agg [.int .i64 x.commit,.int .i64 x.lines.fr,.int .i64 x.lines.to]
  of
    | .agg [.int .i64 a,.int .i64 b,.int .i64 c]=>some ⟨a,⟨b,c⟩⟩
    | _=>none
  of_to x:=rfl
  rep d x h w I v r:=by
    split at h
    · simp at h;subst h;exact r
    · simp at h
  fits x:=rfl
@[simp] theorem to_Visit (x:VisitT):Rep.to x=D.agg [.int .i64 x.commit,.int .i64 x.lines.fr,.int .i64 x.lines.to]:=rfl
@[simp] theorem size_Visit:Rep.size VisitT=3:=rfl
@[simp] theorem of_Visit (a b c:Int):Rep.of (α:=VisitT) (.agg [.int .i64 a,.int .i64 b,.int .i64 c])=some ⟨a,⟨b,c⟩⟩:=rfl
/-! ### files found -/
theorem okV_bound:∀(l:List ChangeT) (i j m n:Int) (fst:Bool),okV l i j fst m n=true→i≤m∧j≤n∧(∀c,c∈l→c.old≤m∧c.new≤n)
  | [],i,j,m,n,fst,h=>by
    simp only[okV,Bool.and_eq_true,decide_eq_true_eq] at h
    exact⟨by omega,by omega,fun c hc=>by cases hc⟩
  | c::l,i,j,m,n,fst,h=>by
    simp only[okV,Bool.and_eq_true] at h
    obtain⟨h1,h1',h3⟩:=okV_bound l _ _ _ _ _ h.2
    have h2:=stepV_true h.1
    refine⟨by omega,by omega,fun d hd=>?_⟩
    rcases List.mem_cons.1 hd with rfl | hd
    · omega
    · exact h3 d hd
theorem run_asc {p:List SpanT} {m n:Int}:∀(k:Nat) (i j:Int),i+k≤m→j+k≤n→ascB p (i+k) (j+k) m n=true→ascB (runN k i j++p) i j m n=true
  | 0,i,j,_,_,h=>by simpa [runN] using h
  | k+1,i,j,h1,h2,h=>by
    have ih:=run_asc (p:=p) (m:=m) (n:=n) k (i+1) (j+1) (by omega) (by omega) (by
      rw[show i+1+(k:Int)=i+((k+1:Nat):Int) by omega,show j+1+(k:Int)=j+((k+1:Nat):Int) by omega];exact h)
    simp only[runN,List.cons_append,ascB,Bool.and_eq_true,decide_eq_true_eq]
    exact⟨⟨⟨⟨by omega,by omega⟩,by omega⟩,by omega⟩,ih⟩
theorem asc_weak:∀{p:List SpanT} {i j i' j' m n:Int},i'≤i→j'≤j→ascB p i j m n=true→ascB p i' j' m n=true
  | [],_,_,_,_,_,_,_,_,_=>rfl
  | s::p,i,j,i',j',m,n,h1,h2,h=>by
    simp only[ascB,Bool.and_eq_true,decide_eq_true_eq] at h ⊢
    exact⟨⟨⟨⟨by omega,h.1.1.1.2⟩,by omega⟩,h.1.2⟩,h.2⟩
theorem matV_asc:∀(l:List ChangeT) (i j m n:Int) (fst:Bool),okV l i j fst m n=true→ascB (matV l i j m) i j m n=true
  | [],i,j,m,n,fst,h=>by
    simp only[okV,Bool.and_eq_true,decide_eq_true_eq] at h
    have:=run_asc (p:=[]) (m:=m) (n:=n) (m-i).toNat i j (by omega) (by omega) rfl
    simpa [matV] using this
  | c::l,i,j,m,n,fst,h=>by
    have hb:=(okV_bound _ _ _ _ _ _ h).2.2 c (by simp)
    simp only[okV,Bool.and_eq_true] at h
    have h2:=stepV_true h.1
    have ih:=matV_asc l _ _ _ _ _ h.2
    rw[matV]
    refine run_asc _ _ _ (by omega) (by omega) (asc_weak (by omega) (by omega) ih)
theorem check_asc {l:List ChangeT} {m n:Int} (h:checkV l m n=true):(0≤m∧m≤4096)∧(0≤n∧n≤4096)∧ascB (matV l 0 0 m) 0 0 m n=true∧(matV l 0 0 m).length≤4096:=by
  simp only[checkV,Bool.and_eq_true] at h
  have h1:=inV_true h.1.1
  have h2:=inV_true h.1.2
  have h3:=matV_len _ _ _ _ _ _ h.2
  exact⟨h1,h2,matV_asc _ _ _ _ _ _ h.2,by omega⟩
/-! ### partners of a span -/
theorem okV_len:∀(l:List ChangeT) (i j m n:Int) (fst:Bool),0≤i→0≤j→okV l i j fst m n=true→(l.length:Int)≤(m-i)+(n-j)
  | [],i,j,m,n,fst,_,_,h=>by
    simp only[okV,Bool.and_eq_true,decide_eq_true_eq] at h
    simp
    omega
  | c::l,i,j,m,n,fst,h0,h1,h=>by
    simp only[okV,Bool.and_eq_true] at h
    have h2:=stepV_true h.1
    have ih:=okV_len l _ _ _ _ _ (by omega) (by omega) h.2
    simp
    omega
theorem check_clen {l:List ChangeT} {m n:Int} (h:checkV l m n=true):l.length≤8192:=by
  simp only[checkV,Bool.and_eq_true] at h
  have h1:=inV_true h.1.1
  have h2:=inV_true h.1.2
  have:=okV_len _ _ _ _ _ _ (by omega) (by omega) h.2
  omega
end Go.AE
namespace Go.AE
/-! ### the pairs of a script -/
def paApp (ps:List SpanT) (n:Nat) (i j:Int):List SpanT:=ps++runN n i j
structure PaX where
  e:Int
  old:Int
  now:Int
  ps:List SpanT
@[simp] def paS (x:PaX):Store:=[.cells 0 1 [.d (.int .i64 x.old)],.cells 0 1 [.gr 3 2 (x.ps.map Rep.to)],.cells 0 1 [.d (.int .i64 x.now)],.tip x.ps.length]
@[simp] def F_script_pairs_1:RF PaX where
  new:=0
  view a s:=⟨(a.getD 0 .any).gi,((s.getD 0 .dead).at 0 0).gi,((s.getD 2 .dead).at 0 0).gi,((s.getD 1 .dead).at 0 0).gl SpanT⟩
  args x:=[.d (.int .i64 x.e),.ref 0 0 0 0,.ref 1 0 0 0,.ref 2 0 0 0]
  st x:=paS x
  pre x:=0≤x.old∧x.old≤x.e∧x.e≤100000∧0≤x.now∧x.now≤100000∧x.ps.length≤100000
  res _:=.tup []
  st' x:=paS ⟨x.e,x.e,x.now+(x.e-x.old),paApp x.ps (x.e-x.old).toNat x.old x.now⟩
abbrev R_script_pairs_1:RSpec:=F_script_pairs_1.spec
theorem ct_script_pairs_1 {P:Program} {f:Nat} {G:Gam} (hc:CodeOf P f 4 5 [] x_script_pairs_1) (hG:GamOk P G):RSpec.Ok P f R_script_pairs_1:=by
  refine RF.ok hc.call fun x hx=>hc.rcalls hG rfl ?_
  obtain⟨e,old,now,ps⟩:=x
  obtain⟨p1,p2,p3,p4,p5,p6⟩:=hx
  simp only at p1 p2 p3 p4 p5 p6
  obtain⟨N,hN⟩:∃N:Nat,N=(e-old).toNat:=⟨_,rfl⟩
  have he:e=old+N:=by omega
  obtain⟨Q,hQ⟩:∃Q:Nat→List SpanT,∀i,Q i=ps++runN i old now:=⟨_,fun _=>rfl⟩
  have hq0:Q 0=ps:=by rw[hQ];simp[runN]
  have hql:∀i,(Q i).length=ps.length+i:=fun i=>by rw[hQ];simp[runN_len]
  have hqs:∀i,Q (i+1)=Q i++[⟨old+i,now+i⟩]:=fun i=>by rw[hQ,hQ,runN_snoc,List.append_assoc]
  have hqN:paApp ps (e-old).toNat old now=Q N:=by rw[hQ,hN];rfl
  simp only[F_script_pairs_1,hqN]
  clear hQ hqN
  simp[x_script_pairs_1,startA]
  refine vc_lp (σ:=Nat) (fun i=>i≤N) (fun i=>N-i)
    (fun i=>[.d (.int .i64 e),.ref 0 0 0 0,.ref 1 0 0 0,.ref 2 0 0 0,.any])
    (fun i=>[.cells 0 1 [.d (.int .i64 (old+i))],.cells 0 1 [.gr 3 2 ((Q i).map Rep.to)],.cells 0 1 [.d (.int .i64 (now+i))],.tip (Q i).length]) 0 (by simp) (by simp[hq0]) (by simp) ?_
  intro i hi
  have hq1:=hql i
  have hq2:=hqs i
  by_cases hil:i<N
  · have w1:IntKind.i64.wrap (old+(i:Int)+1)=old+(i:Int)+1:=wrap_in (by omega) (by omega)
    have w2:IntKind.i64.wrap (now+(i:Int)+1)=now+(i:Int)+1:=wrap_in (by omega) (by omega)
    have c1:old+(i:Int)<e:=by omega
    simp[c1,w1,w2]
    exact⟨by unfold room;omega,Nxt.mk (i+1) (by omega) (by simp) (by simp[hq2,Int.add_assoc]) (by omega)⟩
  · have h9:i=N:=by omega
    have c9:¬old+(i:Int)<e:=by omega
    have e1:old+(i:Int)=e:=by omega
    have e2:now+(i:Int)=now+(e-old):=by omega
    rw[← h9]
    simp[c9]
    exact FinR.done (by simp) (by simp[e1,e2]) rfl (by simp[resOf]) (by simp) (by simp)
structure PsX where
  k:Nat
  i:Int
  j:Int
  ps:List SpanT
@[simp] def S_script_pairs:List D→Prop × D:=spec2 (α:=List ChangeT) (β:=Int) (fun l m=>∃n,checkV l m n=true) (fun l m=>Rep.to (matV l 0 0 m))
theorem ct_script_pairs {P:Program} {f g1:Nat} {G:Gam} (h:CodeOf P f 2 12 [2] (x_script_pairs g1)) (hG:GamOk P G) (h1:G.findR g1=some R_script_pairs_1):Has P f S_script_pairs:=h.has2 hG fun l m hp=>by
  obtain⟨n,hc⟩:=hp
  have hasc:=check_asc hc
  have hcl:=check_clen hc
  have hok:okV l 0 0 true m n=true:=by simp only[checkV,Bool.and_eq_true] at hc;exact hc.2
  simp[x_script_pairs]
  refine vc_lpR (σ:=PsX) (fun x=>x.k≤l.length∧0≤x.i∧x.i≤4096∧0≤x.j∧x.j≤4096∧okV (l.drop x.k) x.i x.j (decide (x.k=0)) m n=true∧x.ps++matV (l.drop x.k) x.i x.j m=matV l 0 0 m) (fun x=>l.length-x.k)
    (fun x=>[.d (Rep.to l),.d (.int .i64 m),.any,.ref 0 0 0 0,.ref 1 0 0 0,.ref 2 0 0 0,.fn (.func g1) [] [.ref 1 0 0 0,.ref 0 0 0 0,.ref 2 0 0 0],.any,.d (Rep.to l),.d (.int .i64 l.length),.d (.int .i64 x.k),.any])
    (fun x=>[.cells 0 1 [.gr 3 2 (x.ps.map Rep.to)],.cells 0 1 [.d (.int .i64 x.i)],.cells 0 1 [.d (.int .i64 x.j)],.tip x.ps.length])
    ⟨0,0,0,[]⟩ ?_ ⟨by simp,by simp,by simp,by simp,by simp,by simpa using hok,by simp⟩ ?_
  · refine Re.weak (k:=[.tip 0]) (s':=[.cells 0 1 [.gr 3 2 []],.cells 0 1 [.d (.int .i64 0)],.cells 0 1 [.d (.int .i64 0)]]) (by simp) (by simp) (by simp) ⟨.cellsL ⟨⟨rfl,⟨Wk.fresh 3 [.tip 0] 2 0 rfl,trivial⟩⟩,trivial⟩,.inl rfl,.inl rfl,trivial⟩
  rintro⟨k,i,j,ps⟩ ⟨q1,q2,q3,q4,q5,q6,q7⟩
  simp only at q1 q2 q3 q4 q5 q6 q7
  have hpl:ps.length≤4096:=by
    have:=congrArg List.length q7
    rw[List.length_append] at this
    omega
  by_cases hil:k<l.length
  · rw[List.drop_eq_getElem_cons hil] at q6 q7
    simp only[okV,Bool.and_eq_true] at q6
    have hst:=stepV_true q6.1
    have hok2:=q6.2
    rw[matV,← List.append_assoc] at q7
    have w1:IntKind.i64.wrap ((k:Int)+1)=(k:Int)+1:=wrap_in (by omega) (by omega)
    generalize hg:l[k]=c at *
    have w2:IntKind.i64.wrap (c.old+c.oldLen)=c.old+c.oldLen:=wrap_in (by omega) (by omega)
    have w3:IntKind.i64.wrap (j+(c.old-i)+c.newLen)=j+(c.old-i)+c.newLen:=wrap_in (by omega) (by omega)
    have e3:j+(c.old-i)+c.newLen=c.new+c.newLen:=by omega
    have hb:=okV_bound _ _ _ _ _ _ hok2
    have w4:IntKind.i64.wrap (c.new+c.newLen)=c.new+c.newLen:=wrap_in (by omega) (by omega)
    have hps:paApp ps (c.old-i).toNat i j=ps++runN (c.old-i).toNat i j:=rfl
    rw[← hps] at q7
    clear hps
    generalize hps:paApp ps (c.old-i).toNat i j=ps2 at *
    simp[hil,getD_map,hg,eCallv,eRCall,h1,q2,q4,hst.2.2.2.2.2.2.1,show c.old≤100000 by omega,show j≤100000 by omega,show ps.length≤100000 by omega,w1,w2,w3,w4,hps,e3]
    exact Nxt.mk (⟨k+1,c.old+c.oldLen,c.new+c.newLen,ps2⟩:PsX) (by simp;omega) (by simp) (by simp) ⟨by simp;omega,by simp;omega,by simp;omega,by simp;omega,by simp;omega,by simpa using hok2,by simpa using q7⟩
  · have h9:k=l.length:=by omega
    subst h9
    rw[List.drop_length] at q6 q7
    simp only[okV,Bool.and_eq_true,decide_eq_true_eq] at q6
    rw[matV,show ps++runN (m-i).toNat i j=paApp ps (m-i).toNat i j from rfl] at q7
    simp[eCallv,eRCall,h1,q2,q4,q6.2,show m≤100000 by omega,show j≤100000 by omega,show ps.length≤100000 by omega,q7]
@[simp] def S_script_Check:List D→Prop × D:=spec3 (α:=List ChangeT) (β:=Int) (γ:=Int) (fun l m n=>checkV l m n=true) (fun _ _ _=>.int .i64 0)
theorem ct_script_Check {P:Program} {f g1:Nat} {G:Gam} (h:CodeOf P f 3 17 [3] (x_script_Check g1)) (hG:GamOk P G) (h1:G.find g1=some S_script_length):Has P f S_script_Check:=h.has3 hG fun l m n hp=>by
  have hcl:=check_clen hp
  have hok:=hp
  simp only[checkV,Bool.and_eq_true] at hok
  obtain⟨⟨b1,b2⟩,hok⟩:=hok
  have b1:=inV_true b1
  have b2:=inV_true b2
  simp[x_script_Check,h1,b1,b2]
  refine vc_lp (σ:=PsX) (fun x=>x.k≤l.length∧0≤x.i∧x.i≤8192∧0≤x.j∧x.j≤8192∧okV (l.drop x.k) x.i x.j (decide (x.k=0)) m n=true) (fun x=>l.length-x.k)
    (fun x=>[.d (Rep.to l),.d (.int .i64 m),.d (.int .i64 n),.any,.d (.int .i64 x.i),.d (.int .i64 x.j),.any,.any,.any,.any,.d (Rep.to l),.d (.int .i64 l.length),.d (.int .i64 x.k),.any,.any,.any,.any]) (fun _=>[])
    ⟨0,0,0,[]⟩ (by simp) (by simp) ⟨by simp,by simp,by simp,by simp,by simp,by simpa using hok⟩ ?_
  rintro⟨k,i,j,ps⟩ ⟨q1,q2,q3,q4,q5,q6⟩
  simp only at q1 q2 q3 q4 q5 q6
  by_cases hil:k<l.length
  · rw[List.drop_eq_getElem_cons hil] at q6
    simp only[okV,Bool.and_eq_true] at q6
    obtain⟨s1,s2,s3,s4,s5,s6,s7,s8⟩:=stepV_true q6.1
    have hok2:=q6.2
    have w1:IntKind.i64.wrap ((k:Int)+1)=(k:Int)+1:=wrap_in (by omega) (by omega)
    generalize hg:l[k]=c at *
    have w2:IntKind.i64.wrap (c.old+c.oldLen)=c.old+c.oldLen:=wrap_in (by omega) (by omega)
    have w3:IntKind.i64.wrap (c.new+c.newLen)=c.new+c.newLen:=wrap_in (by omega) (by omega)
    have w4:IntKind.i64.wrap (c.oldLen+c.newLen)=c.oldLen+c.newLen:=wrap_in (by omega) (by omega)
    have w5:IntKind.i64.wrap (c.old-i)=c.old-i:=wrap_in (by omega) (by omega)
    have w6:IntKind.i64.wrap (c.new-j)=c.new-j:=wrap_in (by omega) (by omega)
    have hmin:¬c.old-i<min (k:Int) 1:=by
      by_cases e:k=0
      · subst e;omega
      · have:=s8 (by simp[e]);omega
    have hmin2:¬c.new-j<min (k:Int) 1:=by omega
    simp[hil,getD_map,hg,h1,s1,s2,s3,s4,s5,s6,w1,w2,w3,w4,w5,w6,hmin,hmin2]
    exact Nxt.mk (⟨k+1,c.old+c.oldLen,c.new+c.newLen,ps⟩:PsX) (by simp;omega) (by simp) (by simp) ⟨by simp;omega,by simp;omega,by simp;omega,by simp;omega,by simp;omega,by simpa using hok2⟩
  · have h9:k=l.length:=by omega
    subst h9
    rw[List.drop_length] at q6
    simp only[okV,Bool.and_eq_true,decide_eq_true_eq] at q6
    have w5:IntKind.i64.wrap (m-i)=m-i:=wrap_in (by omega) (by omega)
    have w6:IntKind.i64.wrap (n-j)=n-j:=wrap_in (by omega) (by omega)
    simp[w5,w6,q6.1,show ¬m<i by omega]
end Go.AE
