/-
  Contracts of the functions that make and compare inputs.
-/
import Derived.Test.YtblhhmephhhpeaaAe3
import Derived.Test.YtblhhmephhhpeaaCode1

set_option linter.unusedSimpArgs false
set_option linter.unusedVariables false
set_option linter.unnecessarySimpa false
namespace Go.AE
def modV (a n:Int):Int:=(a % 18446744073709551616) % n
theorem modV_lt (a:Int) {n:Int} (h:1≤n):0≤modV a n∧modV a n<n:=⟨Int.emod_nonneg _ (by omega),Int.emod_lt_of_pos _ (by omega)⟩
@[simp] def S_gen_Mod:List D→Prop × D:=spec2 (α:=Int) (β:=Int) (fun _ n=>1≤n∧n≤9223372036854775807) (fun a n=>Rep.to (modV a n))
theorem ct_gen_Mod {P:Program} {f:Nat} {G:Gam} (h:CodeOf P f 2 3 [2] x_gen_Mod) (hG:GamOk P G):Has P f S_gen_Mod:=h.has2 hG fun a n hp=>by
  obtain⟨h,h2⟩:=hp
  simp[x_gen_Mod]
  have e1:IntKind.u64.wrap n=n:=by simp[IntKind.wrap,IntKind.bits,IntKind.signed];omega
  have e2:IntKind.u64.wrap a=a % 18446744073709551616:=by simp[IntKind.wrap,IntKind.bits,IntKind.signed]
  rw[e1,e2]
  refine⟨by omega,?_⟩
  have e3:(a % 18446744073709551616).tmod n=modV a n:=by
    rw[Int.tmod_eq_emod_of_nonneg (by omega)];rfl
  have:=modV_lt a h
  rw[e3,wrap_in] <;> omega
@[simp] def S_gen_Ints:List D→Prop × D:=spec2 (α:=List Int) (β:=List Int) (fun a _=>a.length≤9223372036854775807) (fun a b=>Rep.to (decide (a=b)))
theorem ct_gen_Ints {P:Program} {f:Nat} {G:Gam} (h:CodeOf P f 2 7 [2] x_gen_Ints) (hG:GamOk P G):Has P f S_gen_Ints:=h.has2 hG fun a b h=>by
  simp[x_gen_Ints]
  refine⟨fun h1 h2=>h1 (by rw[h2]),fun h1=>?_⟩
  have h1:a.length=b.length:=by omega
  refine vc_loop _ _ _ _ _ [true,true,false,true] 0 (fun m T s=>∃i:Nat,i+m=a.length∧s=[]∧T=[.d (Rep.to a),.d (Rep.to b),.any,.d (.int .i64 i),.any,.any,.any]∧∀k (h:k<a.length) (h2:k<b.length),k<i→a[k]=b[k]) _ (Nat.le_refl _) (by simp) ⟨a.length,0,by simp⟩ ?_
  rintro m T s ⟨i,hm,rfl,rfl,hi⟩
  simp
  refine⟨fun h2=>?_,fun h2=>?_⟩
  · have h3:i<b.length:=by omega
    simp[getD_map,h2,h3,add1 h2 h,pairsOk]
    refine⟨fun h4 h5=>h4 (by simp only[h5]),fun h4=>⟨m-1,by omega,i+1,by omega,by simp,fun k k1 k2 k3=>?_⟩⟩
    rcases Nat.lt_or_ge k i with k4 | k4
    · exact hi k k1 k2 k4
    · have:k=i:=by omega
      subst this
      exact h4
  · exact List.ext_getElem h1 fun k k1 k2=>hi k k1 k2 (by omega)
@[simp] def S_gen_Strings:List D→Prop × D:=spec2 (α:=List Str) (β:=List Str) (fun a _=>a.length≤9223372036854775807) (fun a b=>Rep.to (decide (a=b)))
theorem ct_gen_Strings {P:Program} {f:Nat} {G:Gam} (h:CodeOf P f 2 7 [2] x_gen_Strings) (hG:GamOk P G):Has P f S_gen_Strings:=h.has2 hG fun a b h=>by
  simp[x_gen_Strings]
  refine⟨fun h1 h2=>h1 (by rw[h2]),fun h1=>?_⟩
  have h1:a.length=b.length:=by omega
  refine vc_loop _ _ _ _ _ [true,true,false,true] 0 (fun m T s=>∃i:Nat,i+m=a.length∧s=[]∧T=[.d (Rep.to a),.d (Rep.to b),.any,.d (.int .i64 i),.any,.any,.any]∧∀k (h:k<a.length) (h2:k<b.length),k<i→a[k]=b[k]) _ (Nat.le_refl _) (by simp) ⟨a.length,0,by simp⟩ ?_
  rintro m T s ⟨i,hm,rfl,rfl,hi⟩
  simp
  refine⟨fun h2=>?_,fun h2=>?_⟩
  · have h3:i<b.length:=by omega
    simp[getD_map,h2,h3,add1 h2 h,pairsOk]
    refine⟨fun h4 h5=>h4 (by simp only[h5]),fun h4=>⟨m-1,by omega,i+1,by omega,by simp,fun k k1 k2 k3=>?_⟩⟩
    rcases Nat.lt_or_ge k i with k4 | k4
    · exact hi k k1 k2 k4
    · have:k=i:=by omega
      subst this
      exact h4
  · exact List.ext_getElem h1 fun k k1 k2=>hi k k1 k2 (by omega)
@[simp] def S_gen_Lists:List D→Prop × D:=spec2 (α:=List (List Int)) (β:=List (List Int)) (fun a _=>a.length≤9223372036854775807∧∀x,x∈a→x.length≤9223372036854775807) (fun a b=>Rep.to (decide (a=b)))
theorem ct_gen_Lists {P:Program} {f g:Nat} {G:Gam} (h:CodeOf P f 2 7 [2] (x_gen_Lists g)) (hG:GamOk P G) (hg:G.find g=some S_gen_Ints):Has P f S_gen_Lists:=h.has2 hG fun a b hp=>by
  obtain⟨h,h0⟩:=hp
  simp[x_gen_Lists]
  refine⟨fun h1 h2=>h1 (by rw[h2]),fun h1=>?_⟩
  have h1:a.length=b.length:=by omega
  refine vc_loop _ _ _ _ _ [true,true,false,true] 0 (fun m T s=>∃i:Nat,i+m=a.length∧s=[]∧T=[.d (Rep.to a),.d (Rep.to b),.any,.d (.int .i64 i),.any,.any,.any]∧∀k (h:k<a.length) (h2:k<b.length),k<i→a[k]=b[k]) _ (Nat.le_refl _) (by simp) ⟨a.length,0,by simp⟩ ?_
  rintro m T s ⟨i,hm,rfl,rfl,hi⟩
  simp
  refine⟨fun h2=>?_,fun h2=>?_⟩
  · have h3:i<b.length:=by omega
    have h4:=h0 a[i] (List.getElem_mem _)
    simp[getD_map,h2,h3,add1 h2 h,pairsOk,h4,hg]
    refine⟨fun h4 h5=>h4 (by simp only[h5]),fun h4=>⟨m-1,by omega,i+1,by omega,by simp,fun k k1 k2 k3=>?_⟩⟩
    rcases Nat.lt_or_ge k i with k4 | k4
    · exact hi k k1 k2 k4
    · have:k=i:=by omega
      subst this
      exact h4
  · exact List.ext_getElem h1 fun k k1 k2=>hi k k1 k2 (by omega)
def lines:List Str:=[[97],[98],[99],[97,98],[98,97],[],[97,97],[98,32,97],[120,43,121],[92]]
def lineV (k:Int):Str:=lines.getD (modV k 10).toNat []
@[simp] def S_gen_Line:List D→Prop × D:=spec1 (α:=Int) (fun _=>True) (fun a=>Rep.to (lineV a))
theorem ct_gen_Line {P:Program} {f g:Nat} {G:Gam} (h:CodeOf P f 1 2 [1] (x_gen_Line g)) (hG:GamOk P G) (hg:G.find g=some S_gen_Mod):Has P f S_gen_Line:=h.has1 hG fun k _=>by
  simp[x_gen_Line,hg]
  obtain⟨h1,h2⟩:=modV_lt k (n:=10) (by omega)
  refine⟨⟨h1,h2⟩,?_⟩
  unfold lineV
  generalize modV k 10=r at *
  obtain⟨n,rfl⟩:=Int.eq_ofNat_of_zero_le h1
  have hn:n<10:=by omega
  rw[show ([D.str [97],D.str [98],D.str [99],D.str [97,98],D.str [98,97],D.str [],D.str [97,97],D.str [98,32,97],D.str [120,43,121],D.str [92]]:List D)=lines.map Rep.to from rfl]
  have e:((lines.map Rep.to)[(n:Int).toNat]?.getD default:D)=D.str (lines.getD n []):=by
    have hl:n<lines.length:=hn
    simp[hl,List.getD]
  rw[e]
  simp
def xorV (a b:Int):Int:=IntKind.u64.wrap ((a % 2 ^ IntKind.u64.bits).toNat ^^^ (b % 2 ^ IntKind.u64.bits).toNat:Nat)
def hashV (x:Int):Int:=IntKind.u64.wrap (xorV x (x.fdiv (2 ^ min 31 IntKind.u64.bits)) * 13787848793156543929)
def finV (x:Int):Int:=IntKind.i64.wrap ((xorV x (x.fdiv (2 ^ min 29 IntKind.u64.bits))).fdiv (2 ^ min 1 IntKind.u64.bits))
theorem lockT:(fun _:Int=>True)=(fun x:Int=>x=x):=funext fun _=>propext ⟨fun _=>rfl,fun _=>trivial⟩
def lock (v:Int):Int:=(cast (congrArg Subtype lockT) (⟨v,trivial⟩:{_x:Int // True}):{x:Int // x=x}).1
theorem lock_gen {p q:Int→Prop} (h:p=q) (v:Int) (hv:p v):(cast (congrArg Subtype h) (⟨v,hv⟩:Subtype p):Subtype q).1=v:=by subst h;rfl
theorem lock_eq (v:Int):lock v=v:=lock_gen lockT v trivial
def atU (raw:List Int) (k:Int):Int :=
  let x0:=IntKind.u64.wrap (IntKind.u64.wrap (IntKind.i64.wrap (k+1)) * 11400714819323198485)
  finV (hashV (if raw=[] then x0 else xorV x0 (IntKind.u64.wrap (raw.getD (k.toNat % raw.length) 0))))
def atV (raw:List Int) (k:Int):Int:=lock (atU raw k)
theorem atV_eq (raw:List Int) (k:Int):atV raw k=atU raw k:=lock_eq _
theorem atV_range (raw:List Int) (k:Int):0≤atV raw k∧atV raw k≤9223372036854775807:=by
  rw[atV_eq]
  unfold atU
  simp only
  generalize (hashV _)=y
  unfold finV
  have h1:0≤xorV y (y.fdiv (2 ^ min 29 IntKind.u64.bits))∧xorV y (y.fdiv (2 ^ min 29 IntKind.u64.bits))<18446744073709551616:=by
    unfold xorV
    generalize (_ ^^^ _:Nat)=z
    simp[IntKind.wrap,IntKind.bits,IntKind.signed]
    omega
  generalize xorV _ _=z at h1
  have h2:z.fdiv (2 ^ min 1 IntKind.u64.bits)=z / 2:=by
    rw[Int.fdiv_eq_ediv_of_nonneg _ (by simp[IntKind.bits])];rfl
  rw[h2,wrap_in] <;> omega
@[simp] def S_gen_At:List D→Prop × D:=spec2 (α:=List Int) (β:=Int) (fun raw k=>0≤k∧k<9223372036854775807∧raw.length≤9223372036854775807) (fun raw k=>Rep.to (atV raw k))
theorem ct_gen_At {P:Program} {f:Nat} {G:Gam} (h:CodeOf P f 2 5 [2] x_gen_At) (hG:GamOk P G):Has P f S_gen_At:=h.has2 hG fun raw k hp=>by
  obtain⟨h1,h2,h3⟩:=hp
  obtain⟨n,rfl⟩:=Int.eq_ofNat_of_zero_le h1
  simp[x_gen_At]
  refine⟨fun h4=>?_,fun h4=>?_⟩
  · have e:(n:Int).tmod raw.length=((n % raw.length:Nat):Int):=by rw[Int.tmod_eq_emod_of_nonneg (by omega)];simp
    have h5:n % raw.length<raw.length:=Nat.mod_lt _ h4
    have h6:raw≠[]:=by intro h;simp[h] at h4
    have ha:atV raw n=finV (hashV (xorV (IntKind.u64.wrap (IntKind.u64.wrap (IntKind.i64.wrap (n+1)) * 11400714819323198485)) (IntKind.u64.wrap raw[n % raw.length]))):=by
      simp[atV_eq,atU,h6,List.getD,h5]
    rw[e,ha]
    generalize n % raw.length=q at h5
    simp[h5,h6,getD_map]
    rfl
  · rw[atV_eq]
    unfold atU
    simp only[h4,if_true]
    rfl
def placeV (l:List Str) (x:Str):Int:=match l.findIdx? (· == x) with | some i=>(i:Int) | none=>-1
theorem placeV_some {l:List Str} {x:Str} {i:Nat} (h:i<l.length) (h1:l[i]=x) (h2:∀k (h:k<l.length),k<i→l[k]≠x):placeV l x=i:=by
  have:l.findIdx? (· == x)=some i:=by
    rw[List.findIdx?_eq_some_iff_getElem]
    exact⟨h,by simpa using h1,fun j hj=>by simpa using h2 j (by omega) hj⟩
  simp[placeV,this]
theorem placeV_none {l:List Str} {x:Str} (h2:∀k (h:k<l.length),l[k]≠x):placeV l x=-1:=by
  have:l.findIdx? (· == x)=none:=by
    rw[List.findIdx?_eq_none_iff]
    intro y hy
    obtain⟨k,hk,rfl⟩:=List.getElem_of_mem hy
    simpa using h2 k hk
  simp[placeV,this]
@[simp] def S_ref03_place:List D→Prop × D:=spec2 (α:=List Str) (β:=Str) (fun a _=>a.length≤9223372036854775807) (fun a b=>Rep.to (placeV a b))
theorem ct_ref03_place {P:Program} {f:Nat} {G:Gam} (h:CodeOf P f 2 6 [2] x_ref03_place) (hG:GamOk P G):Has P f S_ref03_place:=h.has2 hG fun l x h=>by
  simp[x_ref03_place]
  refine vc_ghost (σ:=Nat) [true,true,false,true] 0 (fun i=>i≤l.length∧∀k (h:k<l.length),k<i→l[k]≠x) (fun i=>l.length-i) (fun i=>[.d (Rep.to l),.d (Rep.to x),.any,.d (.int .i64 i),.any,.any]) (fun i=>[]) 0 (Nat.le_refl _) (by simp) (by simp) ?_
  rintro i ⟨hm,hi⟩
  simp
  refine⟨fun h2=>?_,fun h2=>?_⟩
  · simp[getD_map,h2,add1 h2 h]
    refine⟨fun h3=>(placeV_some h2 h3 hi).symm,fun h3=>⟨i+1,by omega,by simp,by omega,fun k k1 k2=>?_⟩⟩
    rcases Nat.lt_or_ge k i with k4 | k4
    · exact hi k k1 k4
    · have:k=i:=by omega
      subst this
      exact h3
  · exact (placeV_none fun k k1=>hi k k1 (by omega)).symm
def addV (out:List Str) (x:Str):List Str:=if x∈out then out else out++[x]
def namesV (l:List (List Str)):List Str:=l.flatten.foldl addV []
theorem addV_len (out:List Str) (x:Str):(addV out x).length≤out.length+1:=by
  unfold addV;split <;> simp
theorem fold_len (xs:List Str):∀out:List Str,(xs.foldl addV out).length≤out.length+xs.length:=by
  induction xs with
  | nil=>intro out;simp
  | cons x xs ih=>intro out;have:=ih (addV out x);have:=addV_len out x;simp;omega
theorem take_flat_le {α:Type} (l:List (List α)) (i:Nat):(l.take i).flatten.length≤l.flatten.length:=by
  have:l.flatten=(l.take i).flatten++(l.drop i).flatten:=by rw[← List.flatten_append,List.take_append_drop]
  rw[this];simp
theorem mem_flat_le {α:Type} {l:List (List α)} {i:Nat} (h:i<l.length):(l.take i).flatten.length+l[i].length≤l.flatten.length:=by
  have h1:=take_flat_le l (i+1)
  rw[take_snoc h] at h1
  simpa only[List.flatten_append,List.length_append,List.flatten_cons,List.flatten_nil,List.append_nil] using h1
def part (l:List (List Str)) (i j:Nat):List Str:=((l.take i).flatten++(l.getD i []).take j).foldl addV []
theorem part_step {l:List (List Str)} {i j:Nat} (h:i<l.length) (hj:j<l[i].length):part l i (j+1)=addV (part l i j) l[i][j]:=by
  unfold part
  have:l.getD i []=l[i]:=by simp[List.getD,h]
  rw[this,take_snoc hj,← List.append_assoc,List.foldl_append]
  rfl
theorem part_next {l:List (List Str)} {i:Nat} (h:i<l.length):part l i l[i].length=part l (i+1) 0:=by
  unfold part
  have:l.getD i []=l[i]:=by simp[List.getD,h]
  rw[this,take_snoc h]
  simp only[List.flatten_append,List.flatten_cons,List.flatten_nil,List.append_nil,List.take_zero,List.take_length]
theorem part_end (l:List (List Str)):part l l.length 0=namesV l:=by simp[part,namesV]
theorem part_len {l:List (List Str)} {i j:Nat} (h:i<l.length) (hj:j≤l[i].length):(part l i j).length≤l.flatten.length:=by
  have h1:=fold_len ((l.take i).flatten++(l.getD i []).take j) []
  have:l.getD i []=l[i]:=by simp[List.getD,h]
  have h2:=mem_flat_le h
  rw[this] at h1
  simp only[List.length_append,List.length_take,List.length_nil] at h1
  unfold part
  rw[this]
  omega
theorem addV_in {out:List Str} {x:Str} (h:placeV out x ≥ 0):addV out x=out:=by
  unfold addV
  by_cases hx:x∈out
  · simp[hx]
  · exfalso
    rw[placeV_none (fun k hk (he:out[k]=x)=>hx (by rw[← he];exact List.getElem_mem _))] at h
    omega
theorem addV_out {out:List Str} {x:Str} (h:placeV out x<0):addV out x=out++[x]:=by
  unfold addV
  have:x ∉ out:=by
    intro hx
    unfold placeV at h
    cases hf:out.findIdx? (· == x) with
    | some i=>rw[hf] at h;simp only at h;omega
    | none =>
      rw[List.findIdx?_eq_none_iff] at hf
      simpa using hf x hx
  simp[this]
def smallL (l:List (List Str)):Prop:=l.length≤1048576∧l.flatten.length≤1048576
@[simp] def S_ref03_Names:List D→Prop × D:=spec1 (α:=List (List Str)) smallL (fun a=>Rep.to (namesV a))
theorem ct_ref03_Names {P:Program} {f g:Nat} {G:Gam} (h:CodeOf P f 1 8 [1] (x_ref03_Names g)) (hG:GamOk P G) (hg:G.find g=some S_ref03_place):Has P f S_ref03_Names:=h.has1 hG fun l hp=>by
  obtain⟨h,h0⟩:=hp
  simp[x_ref03_Names]
  refine vc_loop _ _ _ _ _ [true,false,true,true] 1 (fun m T s=>∃i:Nat,i+m=l.length∧s=[.tip (part l i 0).length]∧T=[.d (Rep.to l),.any,.gr 0 1 ((part l i 0).map Rep.to),.d (.int .i64 i),.any,.any,.any,.any]) _ (by omega) (by simp[inScope]) ⟨l.length,0,by simp[part]⟩ ?_
  rintro m T s ⟨i,hm,rfl,rfl⟩
  simp
  refine⟨fun h1=>?_,fun h1=>?_⟩
  · refine vc_loop _ _ _ _ _ [true,false,true,true,true] 1 (fun m T s=>∃j:Nat,j+m=l[i].length∧s=[.tip (part l i j).length]∧T=[.d (Rep.to l),.any,.gr 0 1 ((part l i j).map Rep.to),.d (.int .i64 i),.d (.int .i64 j),.any,.any,.any]) _ (by omega) (by simp[inScope]) ⟨l[i].length,0,by simp⟩ ?_
    rintro m2 T s ⟨j,hm2,rfl,rfl⟩
    have h2:=mem_flat_le h1
    simp[getD_map,h1]
    refine⟨fun h3=>?_,fun h3=>?_⟩
    · have h4:=part_len (l:=l) h1 (j:=j) (by omega)
      have e:=add1 h3 (by omega:l[i].length≤_)
      simp[getD_map,h1,h3,e,inScope,hg]
      refine⟨by omega,fun h5=>⟨by unfold room;omega,m2-1,by omega,j+1,by omega,?_⟩,fun h5=>⟨m2-1,by omega,j+1,by omega,?_⟩⟩
      · rw[part_step h1 h3,addV_out h5]
        simp
      · rw[part_step h1 h3,addV_in h5]
        simp
    · have h5:j=l[i].length:=by omega
      subst h5
      simp[getD_map,h1,add1 h1 (by omega:l.length≤_),inScope]
      refine⟨m-1,by omega,i+1,by omega,?_⟩
      rw[part_next h1]
      simp
  · have:i=l.length:=by omega
    subst this
    simp[part_end]
theorem namesV_len (l:List (List Str)):(namesV l).length≤l.flatten.length:=by
  have:=fold_len l.flatten []
  simpa [namesV] using this
def idsV (l:List (List Str)):List (List Int):=l.map fun x=>x.map (placeV (namesV l))
theorem elem_flat_le {α:Type} {l:List (List α)} {i:Nat} (h:i<l.length):l[i].length≤l.flatten.length:=by
  have:=mem_flat_le h;omega
@[simp] def S_ref03_Ids:List D→Prop × D:=spec1 (α:=List (List Str)) smallL (fun a=>Rep.to (idsV a))
theorem ct_ref03_Ids {P:Program} {f g1 g2:Nat} {G:Gam} (h:CodeOf P f 1 9 [1] (x_ref03_Ids g1 g2)) (hG:GamOk P G) (hg1:G.find g1=some S_ref03_Names) (hg2:G.find g2=some S_ref03_place):Has P f S_ref03_Ids:=h.has1 hG fun l hp=>by
  obtain⟨h,h0⟩:=hp
  have hn:=namesV_len l
  have hN:(namesV l).length≤9223372036854775807:=by omega
  simp[x_ref03_Ids,hg1]
  refine⟨⟨h,h0⟩,?_⟩
  refine vc_loop _ _ _ _ _ [true,false,true,true,true] 1 (fun m T s=>∃(i:Nat) (out:List (List Int)),i+m=l.length∧s=[.tip i]∧T=[.d (Rep.to l),.any,.d (Rep.to (namesV l)),.gr 0 1 (out.map Rep.to),.d (.int .i64 i),.any,.any,.any,.any]∧out.length=i∧Eqv out ((l.take i).map fun x=>x.map (placeV (namesV l)))) _ (by omega) (by simp[inScope]) ⟨l.length,0,[],by simp[Eqv]⟩ ?_
  rintro m T s ⟨i,out,hm,rfl,rfl,hol,ho⟩
  simp
  refine⟨fun h1=>?_,fun h1=>?_⟩
  · refine vc_loop _ _ _ _ _ [true,false,true,true,true,true,true] 2 (fun m T s=>∃(j:Nat) (o2:List Int),j+m=l[i].length∧s=[.tip i,.tip j]∧T=[.d (Rep.to l),.any,.d (Rep.to (namesV l)),.gr 0 1 (out.map Rep.to),.d (.int .i64 i),.gr 1 1 (o2.map Rep.to),.d (.int .i64 j),.any,.any]∧o2.length=j∧Eqv o2 ((l[i].take j).map (placeV (namesV l)))) _ (by omega) (by simp[inScope]) ⟨l[i].length,0,[],by simp[Eqv]⟩ ?_
    rintro m2 T s ⟨j,o2,hm2,rfl,rfl,hol2,ho2⟩
    have h2:=elem_flat_le h1
    simp[getD_map,h1]
    refine⟨fun h3=>?_,fun h3=>?_⟩
    · have e:=add1 h3 (by omega:l[i].length≤_)
      simp[getD_map,h1,h3,e,inScope,hN,hol2,hg2]
      refine⟨by unfold room;omega,m2-1,by omega,j+1,by omega,rfl,o2++[placeV (namesV l) l[i][j]],⟨by simp,by simp⟩,by simp[hol2],?_⟩
      unfold Eqv at *
      rw[← List.map_take,take_snoc h3,List.map_append,← ho2];rfl
    · have h5:j=l[i].length:=by omega
      simp[getD_map,h1,add1 h1 (by omega:l.length≤_),inScope,hol]
      refine⟨by unfold room;omega,m-1,by omega,i+1,by omega,rfl,out++[o2],⟨by simp,by simp⟩,by simp[hol],?_⟩
      unfold Eqv at *
      rw[← List.map_take,take_snoc h1,List.map_append,← ho,ho2,h5,List.take_length];rfl
  · have:i=l.length:=by omega
    unfold Eqv at ho
    rw[this,List.take_length] at ho
    rw[ho]
    rfl
def okId (names:List Str) (i:Int):Prop:=0≤i∧i<names.length
instance (names:List Str) (i:Int):Decidable (okId names i):=inferInstanceAs (Decidable (_∧_))
def spellV (names:List Str) (ids:List Int):List Str:=ids.map fun i=>names.getD i.toNat []
def spellD (names:List Str) (ids:List Int):D:=if ∀x,x∈ids→okId names x then .tup [Rep.to (spellV names ids),.int .i64 0] else .tup [Rep.to ([]:List Str),.int .i64 3]
theorem spell_bad {names:List Str} {ids:List Int} {i:Nat} (h:i<ids.length) (hb:¬okId names ids[i]):spellD names ids=D.tup [Rep.to ([]:List Str),D.int .i64 3]:=by
  unfold spellD
  rw[if_neg]
  intro h2
  exact hb (h2 _ (List.getElem_mem _))
theorem spell_step {names:List Str} {ids:List Int} {i:Nat} (h:i<ids.length):spellV names (ids.take (i+1))=spellV names (ids.take i)++[names.getD ids[i].toNat []]:=by
  unfold spellV;rw[take_snoc h,List.map_append];rfl
@[simp] def S_ref03_Spell:List D→Prop × D:=spec2 (α:=List Str) (β:=List Int) (fun _ ids=>ids.length≤1048576) (fun names ids=>spellD names ids)
theorem ct_ref03_Spell {P:Program} {f:Nat} {G:Gam} (h:CodeOf P f 2 8 [2,3] x_ref03_Spell) (hG:GamOk P G):Has P f S_ref03_Spell:=h.has2 hG fun names ids h=>by
  simp[x_ref03_Spell]
  refine vc_loop _ _ _ _ _ [true,true,false,false,true,true] 1 (fun m T s=>∃(i:Nat) (out:List Str),i+m=ids.length∧s=[.tip i]∧T=[.d (Rep.to names),.d (Rep.to ids),.any,.any,.gr 0 1 (out.map Rep.to),.d (.int .i64 i),.any,.any]∧out.length=i∧Eqv out (spellV names (ids.take i))∧∀x,x∈ids.take i→okId names x) _ (by omega) (by simp[inScope]) ⟨ids.length,0,[],by simp[spellV,Eqv]⟩ ?_
  rintro m T s ⟨i,out,hm,rfl,rfl,hol,ho,hi⟩
  simp
  refine⟨fun h1=>?_,fun h1=>?_⟩
  · have e:=add1 h1 (by omega:ids.length≤_)
    simp[getD_map,h1,e,inScope]
    refine⟨fun h2=>(by rw[spell_bad h1 (fun hk=>by unfold okId at hk;omega)];simp),fun h2=>⟨fun h3=>(by rw[spell_bad h1 (fun hk=>by unfold okId at hk;omega)];simp),fun h3=>?_⟩⟩
    have ss:=spell_step (names:=names) h1
    have e2:names[ids[i].toNat]?=some (names.getD ids[i].toNat []):=by
      have:ids[i].toNat<names.length:=by omega
      simp[List.getD,this]
    generalize names.getD ids[i].toNat []=y at ss e2
    simp[e2,hol]
    refine⟨⟨h2,h3⟩,by unfold room;omega,m-1,by omega,i+1,by omega,rfl,out++[y],⟨by simp,by simp⟩,by simp[hol],by unfold Eqv at *;rw[ss,ho],fun x hx=>?_⟩
    rw[take_snoc h1] at hx
    rcases List.mem_append.1 hx with hx | hx
    · exact hi x hx
    · rw[List.mem_singleton] at hx
      subst hx
      exact⟨h2,h3⟩
  · have:i=ids.length:=by omega
    unfold Eqv at ho
    rw[this,List.take_length] at ho hi
    unfold spellD
    rw[if_pos hi,ho]
    simp
def tabV:Nat→List Str→List (D × D)
  | _,[]=>[]
  | k,x::r=>(.str x,.int .i64 k)::tabV (k+1) r
theorem tabV_snoc (x:Str):∀(k:Nat) (l:List Str),tabV k (l++[x])=tabV k l++[(.str x,.int .i64 ((k+l.length:Nat):Int))]:=by
  intro k l
  induction l generalizing k with
  | nil=>simp[tabV]
  | cons y l ih =>
    simp only[List.cons_append,tabV,ih,List.length_cons]
    rw[show k+1+l.length=k+(l.length+1) by omega]
theorem placeV_cons (y:Str) (l:List Str) (x:Str):placeV (y::l) x=if y=x then 0 else if x∈l then placeV l x+1 else -1:=by
  by_cases h:y=x
  · rw[if_pos h];exact placeV_some (i:=0) (by simp) h (fun k _ hk=>by omega)
  · rw[if_neg h]
    by_cases hx:x∈l
    · rw[if_pos hx]
      unfold placeV
      rw[List.findIdx?_cons]
      have:(y == x)=false:=by simpa using h
      simp only[this]
      cases hf:l.findIdx? (· == x) with
      | none =>
        rw[List.findIdx?_eq_none_iff] at hf
        exact absurd (hf x hx) (by simp)
      | some i=>simp
    · rw[if_neg hx]
      refine placeV_none (fun k hk=>?_)
      cases k with
      | zero=>simpa using h
      | succ k =>
        simp only[List.length_cons,List.getElem_cons_succ] at hk ⊢
        intro he
        exact hx (by rw[← he];exact List.getElem_mem _)
theorem mlook_tab (x:Str):∀(k:Nat) (l:List Str),mlook (.str x) (tabV k l)=if x∈l then some (.int .i64 (k+placeV l x)) else none:=by
  intro k l
  induction l generalizing k with
  | nil=>rfl
  | cons y l ih =>
    simp only[tabV,mlook,keyEq,decide_eq_true_eq,ih,placeV_cons,List.mem_cons]
    by_cases h:x=y
    · subst h;simp
    · have h2:¬y=x:=fun e=>h e.symm
      simp only[h,h2,if_false,false_or]
      by_cases hx:x∈l
      · simp only[hx,if_true,Option.some.injEq,D.int.injEq,true_and]
        omega
      · simp[hx]
theorem mset_tab {x:Str} (v:D):∀(k:Nat) (l:List Str),x ∉ l→mset (.str x) v (tabV k l)=tabV k l++[(.str x,v)]:=by
  intro k l
  induction l generalizing k with
  | nil=>intro _;rfl
  | cons y l ih =>
    intro h
    simp only[List.mem_cons,not_or] at h
    simp[tabV,mset,keyEq,h.1,ih (k+1) h.2]
theorem keys_tab (x:Str) (k:Nat) (l:List Str):keysOk 1 (.str x) (tabV k l):=by
  refine⟨rfl,?_⟩
  induction l generalizing k with
  | nil=>intro e he;simp[tabV] at he
  | cons y l ih =>
    intro e he
    simp only[tabV,List.mem_cons] at he
    rcases he with rfl | he
    · exact⟨rfl,trivial⟩
    · exact ih (k+1) e he
def tabS (v:Nat) (nil:Bool) (names:List Str):Store :=
  if nil=true then [.cells v 2 [.agg [.mp 1,.d .nilsl]],.map [],.res] else [.cells v 2 [.agg [.mp 1,.gr 2 1 (names.map Rep.to)]],.map (tabV 0 names),.tip names.length]
theorem id_old {P:Program} {f:Nat} (hc:CodeOf P f 2 6 [2] x_intern_table_id) {v:Nat} {names:List Str} {x:Str} (h:x∈names):RCalls P f [.ref 0 v 0 0,.d (.str x)] (tabS v false names) (.d (.int .i64 (placeV names x))) (tabS v false names):=by
  refine hc.rcalls (GamOk.nil _) rfl ?_
  simp[x_intern_table_id,tabS,startA,mlook_tab,h,keys_tab]
  exact⟨by simp[resPre],[0,1,2],rfl,⟨by decide,by simp,rfl⟩,fun k hk=>.inl (by match k,hk with | 0,_=>rfl | 1,_=>rfl | 2,_=>rfl),rfl,rfl,rfl⟩
theorem id_new {P:Program} {f:Nat} (hc:CodeOf P f 2 6 [2] x_intern_table_id) {v:Nat} {names:List Str} {x:Str} (h:x ∉ names) (hn:names.length≤1048576):RCalls P f [.ref 0 v 0 0,.d (.str x)] (tabS v false names) (.d (.int .i64 names.length)) (tabS v false (names++[x])):=by
  refine hc.rcalls (GamOk.nil _) rfl ?_
  simp[x_intern_table_id,tabS,startA,mlook_tab,h,keys_tab,mset_tab]
  refine⟨by unfold room;omega,by simp[resPre],[0,1,2],rfl,⟨by decide,by simp,rfl⟩,fun k hk=>.inl (by match k,hk with | 0,_=>rfl | 1,_=>rfl | 2,_=>rfl),?_,rfl,rfl⟩
  rw[tabV_snoc]
  simp
theorem id_nil {P:Program} {f:Nat} (hc:CodeOf P f 2 6 [2] x_intern_table_id) {v:Nat} {x:Str}:RCalls P f [.ref 0 v 0 0,.d (.str x)] (tabS v true []) (.d (.int .i64 0)) (tabS v false [x]):=by
  refine hc.rcalls (GamOk.nil _) rfl ?_
  simp[x_intern_table_id,tabS,startA,mlook,mset]
  exact⟨⟨rfl,fun e he=>by simp at he⟩,by unfold room;omega,by simp[resPre],[0,1,3],rfl,⟨by decide,by simp,rfl⟩,fun k hk=>(by match k,hk with | 0,_=>exact .inl rfl | 1,_=>exact .inl rfl | 2,_=>exact .inr rfl),rfl,rfl,rfl⟩
def idRen (args:List A) (s:Store) (nw:Nat):List Nat :=
  match args with
  | [.ref t _ 0 0,.d (.str _)]=>match s.getD t .dead with
    | .cells _ 2 [.agg [.mp m,.gr l 1 _]]=>[t,m,l]
    | .cells _ 2 [.agg [.mp m,.d .nilsl]]=>[t,m,nw]
    | _=>[t]
  | _=>[]
def idSpec (args:List A) (s0:Store):Prop × Store × A :=
  match args,s0 with
  | [.ref 0 v 0 0,.d (.str x)],[.cells v' 2 [.agg [.mp 1,.d .nilsl]],.map [],.res]=>(v=v',tabS v false [x],.d (.int .i64 0))
  | [.ref 0 v 0 0,.d (.str x)],[.cells v' 2 [.agg [.mp 1,.gr 2 1 ns]],.map es,.tip n]=>match ofAll (Rep.of (α:=Str)) ns with
    | some names=>(v=v'∧ns=names.map Rep.to∧es=tabV 0 names∧n=names.length∧names.length≤1048576,tabS v false (addV names x),.d (.int .i64 (placeV (addV names x) x)))
    | none=>(False,[],.any)
  | _,_=>(False,[],.any)
theorem placeV_snoc {names:List Str} {x:Str} (h:x ∉ names):placeV (names++[x]) x=names.length:=by
  refine placeV_some (i:=names.length) (by simp) (by simp) (fun k hk hlt he=>h ?_)
  rw[List.getElem_append_left hlt] at he
  rw[← he]
  exact List.getElem_mem _
abbrev R_intern_table_id:RSpec:=⟨idRen,idSpec⟩
theorem ct_intern_table_id {P:Program} {f:Nat} (hc:CodeOf P f 2 6 [2] x_intern_table_id):RSpec.Ok P f R_intern_table_id:=by
  refine⟨hc.call,?_,?_⟩
  · intro args s s2 nw h
    simp only[idRen] at h ⊢
    split at h
    · rename_i t u x
      have ht:s2.getD t .dead=s.getD t .dead:=by
        apply h
        split <;> simp
      simp only[ht]
    · rfl
  · intro args s0 hp
    simp only[idSpec] at hp ⊢
    split at hp
    · rename_i v x v'
      simp only at hp
      subst hp
      exact id_nil hc
    · rename_i v x v' ns es n
      split at hp
      · rename_i names hn
        obtain⟨rfl,rfl,rfl,rfl,h5⟩:=hp
        simp only[ofAll_to]
        by_cases hx:x∈names
        · have e:addV names x=names:=by simp[addV,hx]
          rw[e]
          exact id_old hc hx
        · have e:addV names x=names++[x]:=by simp[addV,hx]
          rw[e,placeV_snoc hx]
          exact id_new hc hx h5
      · exact hp.elim
    · exact hp.elim
theorem eR_id {G:Gam} {f:Nat} (hf:G.findR f=some R_intern_table_id) {s:Store} {nw t m l v:Nat} {names:List Str} {x:Str} (h1:s.getD t .dead=.cells v 2 [.agg [.mp m,.gr l 1 (names.map Rep.to)]]) (h2:s.getD m .dead=.map (tabV 0 names))
    (h3:s.getD l .dead=.tip names.length) (h4:t≠m∧t≠l∧m≠l) (h5:t<s.length∧m<s.length∧l<s.length) (h6:names.length≤1048576) :
    eRCall G s nw f [.ref t v 0 0,.d (.str x)]=⟨True,[(t,.cells v 2 [.agg [.mp m,.gr l 1 ((addV names x).map Rep.to)]]),(m,.map (tabV 0 (addV names x))),(l,.tip (addV names x).length)],.d (.int .i64 (placeV (addV names x) x))⟩:=by
  obtain⟨n1,n2,n3⟩:=h4
  obtain⟨l1,l2,l3⟩:=h5
  have i0:idxIn [t,m,l] t=0:=by simp[idxIn,List.idxOf?,List.findIdx?_cons]
  have i1:idxIn [t,m,l] m=1:=by simp[idxIn,List.idxOf?,List.findIdx?_cons,n1]
  have i2:idxIn [t,m,l] l=2:=by simp[idxIn,List.idxOf?,List.findIdx?_cons,n2,n3]
  unfold eRCall
  rw[hf]
  have hr:idRen [.ref t v 0 0,.d (.str x)] s nw=[t,m,l]:=by simp only[idRen,h1]
  simp only[hr,List.map_cons,List.map_nil,h1,h2,h3]
  simp[A.ren,A.rens,Ob.ren,i0,i1,i2,h1,h2,h3,idSpec,ofAll_to,h6,n1,n2,n3,l1,l2,l3,tabS]
theorem fold_pre (xs:List Str):∀out:List Str,∃r,xs.foldl addV out=out++r:=by
  induction xs with
  | nil=>intro out;exact⟨[],by simp⟩
  | cons x xs ih =>
    intro out
    obtain⟨r,h⟩:=ih (addV out x)
    unfold addV at h ⊢
    split at h
    · rename_i hx;exact⟨r,by simp[hx,h]⟩
    · rename_i hx;exact⟨x::r,by simp[hx,h]⟩
theorem placeV_app {a b:List Str} {x:Str} (h:x∈a):placeV (a++b) x=placeV a x:=by
  unfold placeV
  rw[List.findIdx?_append]
  have:(a.findIdx? (· == x)).isSome=true:=by
    rw[List.findIdx?_isSome];simpa using h
  cases hf:a.findIdx? (· == x) with
  | none=>rw[hf] at this;simp at this
  | some i=>simp
theorem mem_addV (out:List Str) (x:Str):x∈addV out x:=by unfold addV;split <;> simp_all
theorem place_part {l:List (List Str)} {i j:Nat} (h:i<l.length) (hj:j<l[i].length):placeV (addV (part l i j) l[i][j]) l[i][j]=placeV (namesV l) l[i][j]:=by
  have h1:l.flatten=((l.take i).flatten++l[i].take (j+1))++(l[i].drop (j+1)++(l.drop (i+1)).flatten):=by
    conv=>lhs;rw[← List.take_append_drop i l,List.drop_eq_getElem_cons h]
    simp only[List.flatten_append,List.flatten_cons,List.append_assoc]
    conv=>lhs;rw[← List.take_append_drop (j+1) l[i]]
    simp only[List.append_assoc]
  have h2:namesV l=(l[i].drop (j+1)++(l.drop (i+1)).flatten).foldl addV (part l i (j+1)):=by
    unfold namesV part
    rw[h1,List.foldl_append]
    have:l.getD i []=l[i]:=by simp[List.getD,h]
    rw[this]
  obtain⟨r,h3⟩:=fold_pre (l[i].drop (j+1)++(l.drop (i+1)).flatten) (part l i (j+1))
  rw[h2,h3,part_step h hj,placeV_app (mem_addV _ _)]
@[simp] def S_intern_number:List D→Prop × D:=spec1 (α:=List (List Str)) smallL (fun l=>.tup [Rep.to (idsV l),Rep.to (namesV l)])
theorem ct_intern_number {P:Program} {f g:Nat} {G:Gam} (h:CodeOf P f 1 16 [1,2] (x_intern_number g)) (hG:GamOk P G) (hg:G.findR g=some R_intern_table_id):Has P f S_intern_number:=h.has1 hG fun l hp=>by
  obtain⟨h,h0⟩:=hp
  simp[x_intern_number]
  refine⟨by unfold room;omega,?_⟩
  obtain⟨Tf,hT⟩:∃Tf:Nat→List A,∀i,Tf i=[.any,.any,.any,.ref 0 0 0 0,.own 2 0 0 l.length,.any,.any,.any,.d (Rep.to l),.d (.int .i64 l.length),.d (.int .i64 i),.any,.any,.any,.any,.any]:=⟨_,fun _=>rfl⟩
  obtain⟨out,ho⟩:∃out:Nat→List A,∀i,out i=((idsV l).take i).map (fun x=>.d (Rep.to x))++List.replicate (l.length-i) (.d .nilsl):=⟨_,fun _=>rfl⟩
  obtain⟨sf,hs⟩:∃sf:Nat→Store,∀i,sf i=[.cells 0 2 [.agg [.mp 1,.gr 3 1 ((part l i 0).map Rep.to)]],.map (tabV 0 (part l i 0)),.cells 0 1 (out i),.tip (part l i 0).length]:=⟨_,fun _=>rfl⟩
  have hil:(idsV l).length=l.length:=by simp[idsV]
  have hol:∀i,i≤l.length→(out i).length=l.length:=by intro i hi;rw[ho];simp[hil];omega
  have hof:∀i,∀x,x∈out i→x.fits 1=true:=by
    intro i x hx
    rw[ho] at hx
    rcases List.mem_append.1 hx with hx | hx
    · obtain⟨y,_,rfl⟩:=List.mem_map.1 hx
      rfl
    · rw[(List.mem_replicate.1 hx).2]
      rfl
  have hou5:∀i,∀x,x∈out i→∀n,x.under n=true:=by
    intro i x hx n
    rw[ho] at hx
    rcases List.mem_append.1 hx with hx | hx
    · obtain⟨y,_,rfl⟩:=List.mem_map.1 hx
      rfl
    · rw[(List.mem_replicate.1 hx).2]
      rfl
  have hoi:∀i,i<l.length→(out i).getD i .any=.d .nilsl:=by
    intro i hi
    rw[ho]
    have e:(((idsV l).take i).map (fun x=>A.d (Rep.to x))).length=i:=by simp[hil];omega
    rw[List.getD,List.getElem?_append_right (by omega),e]
    have:0<l.length-i:=by omega
    simp[this]
  have hos:∀i (hi:i<l.length),(out i).set i (.d (.sl 1 ((l[i].map (placeV (namesV l))).map Rep.to)))=out (i+1):=by
    intro i hi
    have e:(((idsV l).take i).map (fun x=>A.d (Rep.to x))).length=i:=by simp[hil];omega
    rw[ho,ho,List.set_append,if_neg (by omega),e,Nat.sub_self,show l.length-i=(l.length-(i+1))+1 by omega,List.replicate_succ,List.set_cons_zero,take_snoc (by omega),List.map_append]
    simp[idsV]
  refine vc_ghostR (σ:=Nat) (fun i=>i≤l.length) (fun i=>l.length-i) Tf sf 0 ⟨?_,by omega⟩ ?_
  · rw[hT,hs,ho]
    refine Re.norm (s':=[.cells 0 2 [.agg [.mp 1,.gr 3 1 []]],.map [],.cells 0 1 (List.replicate l.length (.d .nilsl))]) [false,false,false,true,true,false,false,false,true,true,true,false,false,false,false,false] [1,0,2] [.tip 0] (by simp) ⟨by decide,by simp,?_⟩ (by decide) (by simp) ?_ ?_ ?_ ?_
    · simp[pickS]
    · simp 
    · simp 
    · simp[pickS]
      exact .cellsL (by simp;exact Wk.fresh _ _ _ 0 rfl)
    · simp[part,tabV]
  · intro i hi
    rw[hT,hs]
    simp
    refine⟨fun h1=>?_,fun h1=>?_⟩
    · simp[getD_map,h1]
      obtain⟨T2,hT2⟩:∃Tf:Nat→List A,∀j,Tf j=[.any,.any,.any,.ref 0 0 0 0,.own 2 0 0 l.length,.d (.int .i64 i),.any,.any,.d (Rep.to l),.d (.int .i64 l.length),.d (.int .i64 i),.any,.d (Rep.to l[i]),.d (.int .i64 l[i].length),.d (.int .i64 j),.any]:=⟨_,fun _=>rfl⟩
      obtain⟨row,hrow⟩:∃row:Nat→List Int,∀j,row j=(l[i].take j).map (placeV (namesV l)):=⟨_,fun _=>rfl⟩
      obtain⟨s2,hs2⟩:∃sf:Nat→Store,∀j,sf j=[.cells 0 2 [.agg [.mp 1,.gr 3 1 ((part l i j).map Rep.to)]],.map (tabV 0 (part l i j)),.cells 0 1 ((out i).set i (.gr 4 1 ((row j).map Rep.to))),.tip (part l i j).length,.tip j]:=⟨_,fun _=>rfl⟩
      refine vc_ghostR (σ:=Nat) (fun j=>j≤l[i].length) (fun j=>l[i].length-j) T2 s2 0 ⟨?_,by omega⟩ ?_
      · rw[hT2,hs2]
        refine Re.wn (s':=[.cells 0 2 [.agg [.mp 1,.gr 3 1 ((part l i 0).map Rep.to)]],.map (tabV 0 (part l i 0)),.cells 0 1 ((out i).set i (.gr 4 1 [])),.tip (part l i 0).length]) [false,false,false,true,true,true,false,false,true,true,true,false,true,true,true] [.tip 0] (by simp) (by omega) (by simp) ?_ (by simp[hrow])
        simp
        refine .cells (.set (hof i) rfl ?_)
        rw[hoi i h1]
        simp
        exact .fresh _ _ _ 0 rfl
      · intro j hj
        rw[hT2,hs2]
        simp
        refine⟨fun h2=>?_,fun h2=>?_⟩
        · have hpl:=part_len (l:=l) h1 (j:=j) (by omega)
          simp[getD_map,h2,hol i hi,h1]
          rw[eR_id hg (t:=0) (m:=1) (l:=3) (names:=part l i j) (by simp) (by simp) (by simp) (by simp) (by simp) (by omega)]
          simp[hol i hi,h1,pairsOk,disj,add1 h2 (by have:=elem_flat_le h1;omega)]
          have hrl:(row j).length=j:=by rw[hrow];simp;omega
          refine⟨⟨hrl.symm,by rw[hrl];have:=elem_flat_le h1;unfold room;omega⟩,j+1,by omega,?_,by omega⟩
          rw[hT2,hs2,part_step h1 h2]
          refine Re.wf _ [false,false,false,true,true,true,false,false,true,true,true,false,true,true,true] 5 (by omega) (by simp) (WkS.refl _ _ _) ?_ ?_ ?_
          · right
            simp
            intro x hx
            rcases List.mem_or_eq_of_mem_set hx with hx | hx
            · exact hou5 i x hx _
            · rw[hx];rfl
          · simp
          · have hr:(row (j+1)).map Rep.to=(row j).map Rep.to++[D.int .i64 (placeV (namesV l) l[i][j])]:=by rw[hrow,hrow,take_snoc h2];simp only[List.map_append,List.map_cons,List.map_nil,to_int]
            rw[place_part h1 h2,hr]
            simp only[List.take_succ_cons,List.take_zero]
        · have h3:j=l[i].length:=by omega
          refine⟨i+1,by omega,?_,by omega⟩
          subst h3
          rw[hT,hs,← hos i h1,part_next h1,hrow,List.take_length]
          refine Re.wf [.cells 0 2 [.agg [.mp 1,.gr 3 1 ((part l (i+1) 0).map Rep.to)]],.map (tabV 0 (part l (i+1) 0)),.cells 0 1 ((out i).set i (.d (.sl 1 ((l[i].map (placeV (namesV l))).map Rep.to)))),.tip (part l (i+1) 0).length,.tip l[i].length] [false,false,false,true,true,false,false,false,true,true,true,false,false,false,false] 4 (by omega) (by simp) ?_ ?_ ?_ ?_
          · simp only[WkS_cons,WkO_refl,WkS_nil,and_true,true_and]
            exact .cells (.setset (hof i) rfl (by simp only[acells_gr,acells_dsl,WkL_cons,Wk_gr,WkL_nil,and_true]))
          · right
            simp
            intro x hx
            rcases List.mem_or_eq_of_mem_set hx with hx | hx
            · exact hou5 i x hx _
            · rw[hx];rfl
          · simp[add1 h1 (by omega)]
          · simp
    · have h2:i=l.length:=by omega
      subst h2
      have hoe:out l.length=(idsV l).map (fun x=>.d (Rep.to x)):=by rw[ho,List.take_of_length_le (by omega)];simp
      refine⟨?_,?_,?_⟩
      · simp only[bor,List.getD_cons_succ,List.getD_cons_zero,hoe,List.drop_zero]
        refine⟨trivial,?_⟩
        rw[List.all_eq_true]
        intro x hx
        obtain⟨y,_,rfl⟩:=List.mem_map.1 (List.mem_of_mem_take hx)
        rfl
      · simp only[bor,List.getD_cons_succ,List.getD_cons_zero,hoe,List.drop_zero]
        rw[List.take_of_length_le (by simp[hil]),List.map_map]
        simp only[LeD_sl,true_and]
        rfl
      · rw[part_end]
@[simp] def S_intern_Ids:List D→Prop × D:=spec1 (α:=List (List Str)) smallL (fun l=>Rep.to (idsV l))
theorem ct_intern_Ids {P:Program} {f g:Nat} {G:Gam} (h:CodeOf P f 1 3 [1] (x_intern_Ids g)) (hG:GamOk P G) (hg:G.find g=some S_intern_number):Has P f S_intern_Ids:=h.has1 hG fun l hp=>by
  simp[x_intern_Ids,hg]
  exact hp
@[simp] def S_intern_Names:List D→Prop × D:=spec1 (α:=List (List Str)) smallL (fun l=>Rep.to (namesV l))
theorem ct_intern_Names {P:Program} {f g:Nat} {G:Gam} (h:CodeOf P f 1 3 [1] (x_intern_Names g)) (hG:GamOk P G) (hg:G.find g=some S_intern_number):Has P f S_intern_Names:=h.has1 hG fun l hp=>by
  simp[x_intern_Names,hg]
  exact hp
@[simp] def S_intern_Spell:List D→Prop × D:=spec2 (α:=List Str) (β:=List Int) (fun _ ids=>ids.length≤1048576) (fun names ids=>spellD names ids)
theorem ct_intern_Spell {P:Program} {f:Nat} {G:Gam} (h:CodeOf P f 2 11 [2,3] x_intern_Spell) (hG:GamOk P G):Has P f S_intern_Spell:=h.has2 hG fun names ids h=>by
  simp[x_intern_Spell]
  refine vc_loop _ _ _ _ _ [true,false,false,false,true,false,true,true,true] 1 (fun m T s=>∃(i:Nat) (out:List Str),i+m=ids.length∧s=[.tip i]∧T=[.d (Rep.to names),.any,.any,.any,.gr 0 1 (out.map Rep.to),.any,.d (Rep.to ids),.d (.int .i64 ids.length),.d (.int .i64 i),.any,.any]∧out.length=i∧Eqv out (spellV names (ids.take i))∧∀x,x∈ids.take i→okId names x) _ (by omega) (by simp[inScope]) ⟨ids.length,0,[],by simp[spellV,Eqv]⟩ ?_
  rintro m T s ⟨i,out,hm,rfl,rfl,hol,ho,hi⟩
  simp
  refine⟨fun h1=>?_,fun h1=>?_⟩
  · have e:=add1 h1 (by omega:ids.length≤_)
    simp[getD_map,h1,e,inScope]
    refine⟨fun h2=>(by rw[spell_bad h1 (fun hk=>by unfold okId at hk;omega)];simp),fun h2=>⟨fun h3=>(by rw[spell_bad h1 (fun hk=>by unfold okId at hk;omega)];simp),fun h3=>?_⟩⟩
    have ss:=spell_step (names:=names) h1
    have e2:names[ids[i].toNat]?=some (names.getD ids[i].toNat []):=by
      have:ids[i].toNat<names.length:=by omega
      simp[List.getD,this]
    generalize names.getD ids[i].toNat []=y at ss e2
    simp[e2,hol]
    refine⟨⟨h2,h3⟩,by unfold room;omega,m-1,by omega,i+1,by omega,rfl,out++[y],⟨by simp,by simp⟩,by simp[hol],by unfold Eqv at *;rw[ss,ho],fun x hx=>?_⟩
    rw[take_snoc h1] at hx
    rcases List.mem_append.1 hx with hx | hx
    · exact hi x hx
    · rw[List.mem_singleton] at hx
      subst hx
      exact⟨h2,h3⟩
  · have:i=ids.length:=by omega
    unfold Eqv at ho
    rw[this,List.take_length] at ho hi
    unfold spellD
    rw[if_pos hi,ho]
    simp
def smallV (l:List (List Str)):Bool:=decide (l.length≤6∧∀x,x∈l→x.length≤10)
@[simp] def S_law03_small:List D→Prop × D:=spec1 (α:=List (List Str)) (fun _=>True) (fun l=>Rep.to (smallV l))
theorem ct_law03_small {P:Program} {f:Nat} {G:Gam} (h:CodeOf P f 1 6 [1] x_law03_small) (hG:GamOk P G):Has P f S_law03_small:=h.has1 hG fun l _=>by
  simp[x_law03_small]
  refine⟨fun h=>by simp[smallV];omega,fun h=>?_⟩
  refine vc_ghost (σ:=Nat) [true,false,true] 0 (fun i=>i≤l.length∧∀k (h:k<l.length),k<i→(l[k]).length≤10) (fun i=>l.length-i) (fun i=>[.d (Rep.to l),.any,.d (.int .i64 i),.any,.any,.any]) (fun i=>[]) 0 (Nat.le_refl _) (by simp) (by simp) ?_
  rintro i ⟨hi,hk⟩
  simp
  refine⟨fun h1=>?_,fun h1=>?_⟩
  · simp[getD_map,h1,add1 h1 (by omega)]
    refine⟨fun h2=>?_,fun h2=>⟨i+1,by omega,by simp,by omega,fun k k1 k2=>?_⟩⟩
    · have:¬(l[i].length≤10):=by omega
      simp only[smallV,decide_eq_false_iff_not,not_and,Bool.false_eq]
      exact fun _ h3=>this (h3 _ (List.getElem_mem _))
    · rcases Nat.lt_or_ge k i with k4 | k4
      · exact hk k k1 k4
      · have:k=i:=by omega
        subst this
        omega
  · simp only[smallV,Bool.true_eq,decide_eq_true_eq]
    refine⟨by omega,fun x hx=>?_⟩
    obtain⟨k,h2,rfl⟩:=List.getElem_of_mem hx
    exact hk k h2 (by omega)
theorem small_le {l:List (List Str)} (h:smallV l=true):smallL l∧l.length≤6∧l.flatten.length≤60:=by
  simp only[smallV,decide_eq_true_eq] at h
  obtain⟨h1,h2⟩:=h
  have:l.flatten.length≤10 * l.length:=by
    clear h1
    induction l with
    | nil=>simp
    | cons x l ih =>
      have h3:=ih (fun y hy=>h2 y (by simp[hy]))
      have h4:=h2 x (by simp)
      simp only[List.flatten_cons,List.length_append,List.length_cons]
      omega
  exact⟨⟨by omega,by omega⟩,h1,by omega⟩
@[simp] def S_law03_awake:List D→Prop × D:=spec0 True (Rep.to true)
theorem ct_law03_awake {P:Program} {f g1 g2 g3 g4:Nat} {G:Gam} (h:CodeOf P f 0 2 [0] (x_law03_awake g1 g2 g3 g4)) (hG:GamOk P G) (h1:G.find g1=some S_intern_Ids) (h2:G.find g2=some S_gen_Lists) (h3:G.find g3=some S_intern_Names) (h4:G.find g4=some S_gen_Strings):Has P f S_law03_awake:=h.has0 hG fun _=>by
  simp[x_law03_awake,h1,h2,h3,h4,idsV,namesV,addV,placeV,Rep.of,ofAll,List.findIdx?_cons]
  exact⟨by simp,by simp⟩
theorem ids_ok {l:List (List Str)} (h:smallL l):(idsV l).length≤9223372036854775807∧∀x,x∈idsV l→x.length≤9223372036854775807:=by
  obtain⟨h1,h2⟩:=h
  refine⟨by simp[idsV];omega,fun x hx=>?_⟩
  obtain⟨y,hy,rfl⟩:=List.mem_map.1 hx
  obtain⟨k,hk,rfl⟩:=List.getElem_of_mem hy
  have:=elem_flat_le hk
  simp only[List.length_map]
  omega
theorem names_ok {l:List (List Str)} (h:smallL l):(namesV l).length≤9223372036854775807:=by
  obtain⟨h1,h2⟩:=h
  have:=namesV_len l
  omega
@[simp] def S_law03_InternNumbers:List D→Prop × D:=spec2 (α:=List (List Str)) (β:=List Int) (fun _ raw=>raw.length≤9223372036854775807) (fun _ _=>Rep.to true)
theorem ct_law03_InternNumbers {P:Program} {f g1 g2 g3 g4 g5 g6 g7 g8 g9 g10 g11:Nat} {G:Gam} (h:CodeOf P f 2 10 [2] (x_law03_InternNumbers g1 g2 g3 g4 g5 g6 g7 g8 g9 g10 g11)) (hG:GamOk P G)
    (h1:G.find g1=some S_law03_small) (h2:G.find g2=some S_law03_awake) (h3:G.find g3=some S_gen_At) (h4:G.find g4=some S_gen_Mod) (h5:G.find g5=some S_gen_Line) (h6:G.find g6=some S_intern_Ids) (h7:G.find g7=some S_ref03_Ids) (h8:G.find g8=some S_gen_Lists)
    (h9:G.find g9=some S_intern_Names) (h10:G.find g10=some S_ref03_Names) (h11:G.find g11=some S_gen_Strings):Has P f S_law03_InternNumbers:=h.has2 hG fun l raw hr=>by
  simp[x_law03_InternNumbers,h1,h2]
  intro hs
  obtain⟨hs1,hs2,hs3⟩:=small_le hs
  obtain⟨Tf,hT⟩:∃Tf:List (List Str)→List A,∀m,Tf m=[.d (Rep.to l),.d (Rep.to raw),.any,.gr 0 1 (m.map Rep.to),.d (.int .i64 m.length),.any,.any,.any,.any,.any]:=⟨_,fun _=>rfl⟩
  refine vc_ghost (σ:=List (List Str)) [true,true,false,true,true] 1 (fun m=>m.length≤3∧m.flatten.length≤7 * m.length) (fun m=>3-m.length) Tf (fun m=>[.tip m.length]) [] (by omega) (by simp[inScope]) (by simp[hT]) ?_
  rintro m ⟨hm,hm2⟩
  rw[hT]
  simp
  refine⟨fun h12=>?_,fun h12=>?_⟩
  · obtain⟨T2,hT2⟩:∃Tf:List Str→List A,∀x,Tf x=[.d (Rep.to l),.d (Rep.to raw),.any,.gr 0 1 (m.map Rep.to),.d (.int .i64 m.length),.gr 1 1 (x.map Rep.to),.d (.int .i64 x.length),.any,.any,.any]:=⟨_,fun _=>rfl⟩
    refine vc_ghost (σ:=List Str) [true,true,false,true,true,true,true] 2 (fun x=>x.length≤7) (fun x=>7-x.length) T2 (fun x=>[.tip m.length,.tip x.length]) [] (by omega) (by simp[inScope]) (by simp[hT2]) ?_
    intro x hx
    rw[hT2]
    have hat:=atV_range raw
    have hmm:=fun k=>modV_lt (atV raw k) (n:=8) (by omega)
    simp[h3,h4,h5]
    refine⟨by omega,fun h13=>?_,fun h13=>?_⟩
    · have:=hmm m.length
      have e:IntKind.i64.wrap (IntKind.i64.wrap (IntKind.i64.wrap (10 * (m.length:Int))+x.length)+5)=((10 * m.length+x.length+5:Nat):Int):=by
        rw[wrap_in (n:=10 * (m.length:Int)) (by omega) (by omega),wrap_in (n:=10 * (m.length:Int)+x.length) (by omega) (by omega),wrap_in (by omega) (by omega)]
        omega
      simp[e]
      refine⟨⟨by omega,by omega,by omega⟩,by unfold room;omega,by simp[inScope],x++[lineV (atV raw (10 * m.length+x.length+5:Nat))],by simp;omega,?_,by simp,by simp;omega⟩
      rw[hT2]
      have e2:=add1 (i:=x.length) (n:=8) (by omega) (by omega)
      simp[e2]
    · have e2:=add1 (i:=m.length) (n:=3) (by omega) (by omega)
      refine⟨by unfold room;omega,by simp[inScope],m++[x],by simp;omega,?_,by simp,by simp;omega,by simp at hm2 ⊢;omega⟩
      rw[hT]
      simp[e2]
  · have b1:smallL m:=⟨by omega,by omega⟩
    simp[h2,h6,h7,h8,h9,h10,h11,hs1]
    exact⟨ids_ok hs1,(names_ok hs1),b1,ids_ok b1,b1,names_ok b1⟩
theorem law03_InternNumbers_pre (l:List (List Str)) (raw:List Int) (w0:Arg.wf l) (w1:Arg.wf raw):raw.length≤9223372036854775807:=by
  have:=len_wf w0
  have:=len_wf w1
  omega
end Go.AE
