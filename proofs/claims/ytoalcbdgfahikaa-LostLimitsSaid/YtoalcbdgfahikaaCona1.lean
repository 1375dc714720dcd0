/-
  Contracts of the functions that make and compare inputs.
-/
import Derived.Test.YtoalcbdgfahikaaAe3
import Derived.Test.YtoalcbdgfahikaaCode1

set_option linter.unusedSimpArgs false
set_option linter.unusedVariables false
set_option linter.unnecessarySimpa false
set_option maxRecDepth 20000
namespace Go.AE
def modV (a n:Int):Int:=(a % 18446744073709551616) % n
theorem modV_lt (a:Int) {n:Int} (h:1≤n):0≤modV a n∧modV a n<n:=⟨Int.emod_nonneg _ (by omega),Int.emod_lt_of_pos _ (by omega)⟩
@[simp] def S_gen_Mod:List D→Prop × D:=spec2 (α:=Int) (β:=Int) (fun _ n=>1≤n∧n≤9223372036854775807) (fun a n=>Rep.to (modV a n))
theorem ct_gen_Mod {P:Program} {f:Nat} {G:Gam} (h:CodeOf P f 2 3 [2] x_gen_Mod) (hG:GamOk P G):Has P f S_gen_Mod:=h.has2 hG fun a n hp=>by
  obtain⟨h,h2⟩:=hp
  simp[x_gen_Mod]
  have e1:IntKind.u64.wrap n=n:=by simp[IntKind.wrap,IntKind.bits,IntKind.signed];omega
  have e2:IntKind.u64.wrap a=a % 18446744073709551616:=by simp[IntKind.wrap,IntKind.bits,IntKind.signed]
  rw[e1,e2]
  refine⟨by omega,?_⟩
  have e3:(a % 18446744073709551616).tmod n=modV a n:=by
    rw[Int.tmod_eq_emod_of_nonneg (by omega)];rfl
  have:=modV_lt a h
  rw[e3,wrap_in] <;> omega
@[simp] def S_gen_Ints:List D→Prop × D:=spec2 (α:=List Int) (β:=List Int) (fun a _=>a.length≤9223372036854775807) (fun a b=>Rep.to (decide (a=b)))
theorem ct_gen_Ints {P:Program} {f:Nat} {G:Gam} (h:CodeOf P f 2 7 [2] x_gen_Ints) (hG:GamOk P G):Has P f S_gen_Ints:=h.has2 hG fun a b h=>by
  simp[x_gen_Ints]
  refine⟨fun h1 h2=>h1 (by rw[h2]),fun h1=>?_⟩
  have h1:a.length=b.length:=by omega
  refine vc_loop _ _ _ _ _ [true,true,false,true] 0 (fun m T s=>∃i:Nat,i+m=a.length∧s=[]∧T=[.d (Rep.to a),.d (Rep.to b),.any,.d (.int .i64 i),.any,.any,.any]∧∀k (h:k<a.length) (h2:k<b.length),k<i→a[k]=b[k]) _ (Nat.le_refl _) (by simp) ⟨a.length,0,by simp⟩ ?_
  rintro m T s ⟨i,hm,rfl,rfl,hi⟩
  simp
  refine⟨fun h2=>?_,fun h2=>?_⟩
  · have h3:i<b.length:=by omega
    simp[getD_map,h2,h3,add1 h2 h,pairsOk]
    refine⟨fun h4 h5=>h4 (by simp only[h5]),fun h4=>⟨m-1,by omega,i+1,by omega,by simp,fun k k1 k2 k3=>?_⟩⟩
    rcases Nat.lt_or_ge k i with k4 | k4
    · exact hi k k1 k2 k4
    · have:k=i:=by omega
      subst this
      exact h4
  · exact List.ext_getElem h1 fun k k1 k2=>hi k k1 k2 (by omega)
def lines:List Str:=[[97],[98],[99],[97,98],[98,97],[],[97,97],[98,32,97],[120,43,121],[92]]
def xorV (a b:Int):Int:=IntKind.u64.wrap ((a % 2 ^ IntKind.u64.bits).toNat ^^^ (b % 2 ^ IntKind.u64.bits).toNat:Nat)
def hashV (x:Int):Int:=IntKind.u64.wrap (xorV x (x.fdiv (2 ^ min 31 IntKind.u64.bits)) * 13787848793156543929)
def finV (x:Int):Int:=IntKind.i64.wrap ((xorV x (x.fdiv (2 ^ min 29 IntKind.u64.bits))).fdiv (2 ^ min 1 IntKind.u64.bits))
theorem lockT:(fun _:Int=>True)=(fun x:Int=>x=x):=funext fun _=>propext ⟨fun _=>rfl,fun _=>trivial⟩
def lock (v:Int):Int:=(cast (congrArg Subtype lockT) (⟨v,trivial⟩:{_x:Int // True}):{x:Int // x=x}).1
theorem lock_gen {p q:Int→Prop} (h:p=q) (v:Int) (hv:p v):(cast (congrArg Subtype h) (⟨v,hv⟩:Subtype p):Subtype q).1=v:=by subst h;rfl
theorem lock_eq (v:Int):lock v=v:=lock_gen lockT v trivial
def atU (raw:List Int) (k:Int):Int :=
  let x0:=IntKind.u64.wrap (IntKind.u64.wrap (IntKind.i64.wrap (k+1)) * 11400714819323198485)
  finV (hashV (if raw=[] then x0 else xorV x0 (IntKind.u64.wrap (raw.getD (k.toNat % raw.length) 0))))
def atV (raw:List Int) (k:Int):Int:=lock (atU raw k)
theorem atV_eq (raw:List Int) (k:Int):atV raw k=atU raw k:=lock_eq _
@[simp] def S_gen_At:List D→Prop × D:=spec2 (α:=List Int) (β:=Int) (fun raw k=>0≤k∧k<9223372036854775807∧raw.length≤9223372036854775807) (fun raw k=>Rep.to (atV raw k))
theorem ct_gen_At {P:Program} {f:Nat} {G:Gam} (h:CodeOf P f 2 5 [2] x_gen_At) (hG:GamOk P G):Has P f S_gen_At:=h.has2 hG fun raw k hp=>by
  obtain⟨h1,h2,h3⟩:=hp
  obtain⟨n,rfl⟩:=Int.eq_ofNat_of_zero_le h1
  simp[x_gen_At]
  refine⟨fun h4=>?_,fun h4=>?_⟩
  · have e:(n:Int).tmod raw.length=((n % raw.length:Nat):Int):=by rw[Int.tmod_eq_emod_of_nonneg (by omega)];simp
    have h5:n % raw.length<raw.length:=Nat.mod_lt _ h4
    have h6:raw≠[]:=by intro h;simp[h] at h4
    have ha:atV raw n=finV (hashV (xorV (IntKind.u64.wrap (IntKind.u64.wrap (IntKind.i64.wrap (n+1)) * 11400714819323198485)) (IntKind.u64.wrap raw[n % raw.length]))):=by
      simp[atV_eq,atU,h6,List.getD,h5]
    rw[e,ha]
    generalize n % raw.length=q at h5
    simp[h5,h6,getD_map]
    rfl
  · rw[atV_eq]
    unfold atU
    simp only[h4,if_true]
    rfl
def idsG (raw:List Int) (fr:Int) (n:Nat) (kinds:Int):List Int:=(List.range n).map fun i=>modV (atV raw (fr+(i:Nat))) kinds
theorem idsG_len (raw:List Int) (fr:Int) (n:Nat) (kinds:Int):(idsG raw fr n kinds).length=n:=by simp[idsG]
theorem idsG_succ (raw:List Int) (fr:Int) (n:Nat) (kinds:Int):idsG raw fr (n+1) kinds=idsG raw fr n kinds++[modV (atV raw (fr+(n:Nat))) kinds]:=by
  unfold idsG;rw[List.range_succ,List.map_append];rfl
@[simp] def S_gen_Ids:List D→Prop × D:=spec4 (α:=List Int) (β:=Int) (γ:=Int) (δ:=Int) (fun raw fr n kinds=>raw.length≤9223372036854775807∧0≤fr∧fr≤1000000∧n≤1000000∧1≤kinds∧kinds≤9223372036854775807) (fun raw fr n kinds=>Rep.to (idsG raw fr n.toNat kinds))
theorem ct_gen_Ids {P:Program} {f g1 g2:Nat} {G:Gam} (h:CodeOf P f 4 8 [4] (x_gen_Ids g1 g2)) (hG:GamOk P G) (hg1:G.find g1=some S_gen_At) (hg2:G.find g2=some S_gen_Mod):Has P f S_gen_Ids:=h.has4 hG fun raw fr n kinds hp=>by
  obtain⟨h1,h2,h3,h4,h5,h6⟩:=hp
  simp[x_gen_Ids]
  obtain⟨o,ho⟩:∃o:Nat→List Int,∀i,o i=idsG raw fr i kinds:=⟨_,fun _=>rfl⟩
  have hol:∀i,(o i).length=i:=fun i=>by rw[ho,idsG_len]
  obtain⟨Tf,hT⟩:∃Tf:Nat→List A,∀i,Tf i=[.d (Rep.to raw),.d (.int .i64 fr),.d (.int .i64 n),.d (.int .i64 kinds),.any,.gr 0 1 ((o i).map Rep.to),.d (.int .i64 i),.any]:=⟨_,fun _=>rfl⟩
  refine vc_ghost (σ:=Nat) [true,true,true,true,false,true,true] 1 (fun i=>i≤n.toNat) (fun i=>n.toNat-i) Tf (fun i=>[.tip i]) 0 (by omega) (by simp[inScope]) ⟨by simp[hT,ho,idsG],by simp,by omega⟩ ?_
  intro i hi
  rw[hT]
  simp
  refine⟨fun h7=>?_,fun h7=>?_⟩
  · have w1:=wrap_in (n:=fr+(i:Int)) (by omega) (by omega)
    have w2:=wrap_in (n:=(i:Int)+1) (by omega) (by omega)
    simp[hg1,hg2,w1,w2,hol]
    refine⟨⟨by omega,by omega,by omega⟩,⟨h5,h6⟩,by unfold room;omega,by simp[inScope],i+1,by omega,?_,rfl,by omega⟩
    rw[hT,ho,ho,idsG_succ]
    simp
  · have:i=n.toNat:=by omega
    rw[ho,this]
@[simp] def S_gen_Changes:List D→Prop × D:=spec2 (α:=List ChangeT) (β:=List ChangeT) (fun a _=>a.length≤9223372036854775807) (fun a b=>Rep.to (decide (a=b)))
theorem ct_gen_Changes {P:Program} {f:Nat} {G:Gam} (h:CodeOf P f 2 7 [2] x_gen_Changes) (hG:GamOk P G):Has P f S_gen_Changes:=h.has2 hG fun a b h=>by
  simp[x_gen_Changes]
  refine⟨fun h1 h2=>h1 (by rw[h2]),fun h1=>?_⟩
  have h1:a.length=b.length:=by omega
  refine vc_ghost (σ:=Nat) [true,true,false,true] 0 (fun i=>i≤a.length∧∀k (h:k<a.length) (h2:k<b.length),k<i→a[k]=b[k]) (fun i=>a.length-i) (fun i=>[.d (Rep.to a),.d (Rep.to b),.any,.d (.int .i64 i),.any,.any,.any]) (fun _=>[]) 0 (Nat.le_refl _) (by simp) (by simp) ?_
  rintro i ⟨hm,hi⟩
  simp
  refine⟨fun h2=>?_,fun h2=>?_⟩
  · have h3:i<b.length:=by omega
    have key:a[i]=b[i]↔a[i].old=b[i].old∧a[i].oldLen=b[i].oldLen∧a[i].new=b[i].new∧a[i].newLen=b[i].newLen:=by
      constructor
      · intro h;rw[h];simp
      · intro h
        generalize a[i]=x at *
        generalize b[i]=y at *
        cases x;cases y;simp_all
    simp[getD_map,h2,h3,add1 h2 h,pairsOk,eSeq,cellsEq,cellEq]
    refine⟨fun h4 h5=>?_,fun q1 q2 q3 q4=>⟨i+1,by omega,by simp,by omega,fun k k1 k2 k3=>?_⟩⟩
    · have:=key.1 (by simp only[h5])
      omega
    · rcases Nat.lt_or_ge k i with k4 | k4
      · exact hi k k1 k2 k4
      · have:k=i:=by omega
        subst this
        exact key.2 ⟨q1,q2,q3,q4⟩
  · exact List.ext_getElem h1 fun k k1 k2=>hi k k1 k2 (by omega)
abbrev R_slices_Clip_Span_Span:RSpec:=⟨fun _ _ nw=>[nw],fun args s0=>match args,s0 with
  | [.d (.sl e xs)],[.res]=>(e=2,[.tip xs.length],.gr 0 2 xs)
  | _,_=>(False,[],.any)⟩
theorem ct_slices_Clip_Span_Span {P:Program} {f:Nat} (hc:CodeOf P f 1 2 [1] x_slices_Clip_Span_Span):RSpec.Ok P f R_slices_Clip_Span_Span:=by
  refine⟨hc.call,fun _ _ _ _ _=>rfl,?_⟩
  intro args s0 hp
  simp only at hp ⊢
  split at hp
  · rename_i e xs
    simp only at hp
    subst hp
    refine hc.rcalls (GamOk.nil _) rfl ?_
    simp[x_slices_Clip_Span_Span,startA]
    exact⟨by simp[resPre],[1],rfl,⟨by decide,by simp,rfl⟩,fun k hk=>by match k,hk with | 0,_=>exact .inr rfl,rfl,rfl,rfl⟩
  · exact hp.elim
theorem eR_clip {G:Gam} {f:Nat} (hf:G.findR f=some R_slices_Clip_Span_Span) {s:Store} {nw:Nat} {xs:List D} (h1:s.getD nw .dead=.res) (h2:nw<s.length) :
    eRCall G s nw f [.d (.sl 2 xs)]=⟨True,[(nw,.tip xs.length)],.gr nw 2 xs⟩:=by
  unfold eRCall
  rw[hf]
  simp only[List.map_cons,List.map_nil,h1]
  simp[h2]
def dist:List Int→List Int→Nat
  | [],b=>b.length
  | x::a,[]=>a.length+1
  | x::a,y::b=>if x=y then dist a b else 1+min (dist a (y::b)) (dist (x::a) b)
termination_by a b=>a.length+b.length
theorem dist_nil (b:List Int):dist [] b=b.length:=by rw[dist]
theorem dist_nil' (a:List Int):dist a []=a.length:=by cases a <;> rw[dist] <;> rfl
theorem dist_eq (x:Int) (a b:List Int):dist (x::a) (x::b)=dist a b:=by rw[dist];simp
theorem dist_ne {x y:Int} (h:x≠y) (a b:List Int):dist (x::a) (y::b)=1+min (dist a (y::b)) (dist (x::a) b):=by rw[dist];simp[h]
theorem dist_comm:∀a b:List Int,dist a b=dist b a
  | [],b=>by rw[dist_nil,dist_nil']
  | x::a,[]=>by rw[dist_nil,dist_nil']
  | x::a,y::b=>by
    by_cases h:x=y
    · subst h
      rw[dist_eq,dist_eq,dist_comm a b]
    · rw[dist_ne h,dist_ne (Ne.symm h),dist_comm a (y::b),dist_comm (x::a) b,Nat.min_comm]
termination_by a b=>a.length+b.length
theorem dist_steps:∀(n:Nat) (a b:List Int),a.length+b.length≤n→(∀x,dist (x::a) b≤dist a b+1)∧(∀y,dist a b≤dist a (y::b)+1):=by
  intro n
  induction n with
  | zero =>
    intro a b h
    have ha:a=[]:=List.eq_nil_of_length_eq_zero (by omega)
    have hb:b=[]:=List.eq_nil_of_length_eq_zero (by omega)
    subst ha hb
    exact⟨fun x=>by rw[dist_nil',dist_nil];simp,fun y=>by rw[dist_nil];simp⟩
  | succ n ih =>
    intro a b h
    have L:∀y,dist a b≤dist a (y::b)+1:=by
      intro y
      cases a with
      | nil=>rw[dist_nil,dist_nil];simp;omega
      | cons x a =>
        simp only[List.length_cons] at h
        have u:=(ih a b (by omega)).1 x
        have l:=(ih a b (by omega)).2 y
        by_cases hxy:x=y
        · subst hxy
          rw[dist_eq]
          exact u
        · rw[dist_ne hxy]
          omega
    refine⟨fun x=>?_,L⟩
    cases b with
    | nil=>rw[dist_nil',dist_nil'];simp
    | cons y b =>
      simp only[List.length_cons] at h
      by_cases hxy:x=y
      · subst hxy
        rw[dist_eq]
        exact (ih a b (by omega)).2 x
      · rw[dist_ne hxy]
        omega
theorem dist_del (x:Int) (a b:List Int):dist (x::a) b≤dist a b+1:=(dist_steps _ a b (Nat.le_refl _)).1 x
theorem dist_ins (y:Int) (a b:List Int):dist a (y::b)≤dist a b+1:=by rw[dist_comm a,dist_comm a];exact dist_del y b a
inductive Ed:List Int→List Int→Nat→Prop where
  | nil:Ed [] [] 0
  | del (x:Int) {a b:List Int} {n:Nat} (h:Ed a b n):Ed (x::a) b (n+1)
  | ins (y:Int) {a b:List Int} {n:Nat} (h:Ed a b n):Ed a (y::b) (n+1)
  | keep (x:Int) {a b:List Int} {n:Nat} (h:Ed a b n):Ed (x::a) (x::b) n
theorem Ed.le {a b:List Int} {n:Nat} (h:Ed a b n):dist a b≤n:=by
  induction h with
  | nil=>rw[dist_nil];simp
  | del x h ih=>exact Nat.le_trans (dist_del _ _ _) (by omega)
  | ins y h ih=>exact Nat.le_trans (dist_ins _ _ _) (by omega)
  | keep x h ih=>rw[dist_eq];exact ih
theorem ed_dist:∀a b:List Int,Ed a b (dist a b)
  | [],[]=>by rw[dist_nil];exact .nil
  | [],y::b=>by
    have:=ed_dist [] b
    rw[dist_nil] at this ⊢
    exact .ins y this
  | x::a,[]=>by
    have:=ed_dist a []
    rw[dist_nil'] at this ⊢
    exact .del x this
  | x::a,y::b=>by
    by_cases h:x=y
    · subst h
      rw[dist_eq]
      exact .keep x (ed_dist a b)
    · rw[dist_ne h]
      rcases Nat.le_total (dist a (y::b)) (dist (x::a) b) with h1 | h1
      · rw[Nat.min_eq_left h1,Nat.add_comm]
        exact .del x (ed_dist a (y::b))
      · rw[Nat.min_eq_right h1,Nat.add_comm]
        exact .ins y (ed_dist (x::a) b)
termination_by a b=>a.length+b.length
theorem Ed.trans {a b:List Int} {n:Nat} (h:Ed a b n):∀{c:List Int} {m:Nat},Ed b c m→∃k,k≤n+m∧Ed a c k:=by
  induction h with
  | nil=>intro c m k;exact⟨m,by omega,k⟩
  | del x h ih =>
    intro c m k
    obtain⟨j,h1,h2⟩:=ih k
    exact⟨j+1,by omega,.del x h2⟩
  | @ins y a b n h ih =>
    intro c m k
    generalize hb:y::b=b' at k
    induction k with
    | nil=>simp at hb
    | del z k _ =>
      simp at hb
      obtain⟨rfl,rfl⟩:=hb
      obtain⟨j,h1,h2⟩:=ih k
      exact⟨j,by omega,h2⟩
    | ins z k ih2 =>
      obtain⟨j,h1,h2⟩:=ih2 hb
      exact⟨j+1,by omega,.ins z h2⟩
    | keep z k _ =>
      simp at hb
      obtain⟨rfl,rfl⟩:=hb
      obtain⟨j,h1,h2⟩:=ih k
      exact⟨j+1,by omega,.ins y h2⟩
  | @keep x a b n h ih =>
    intro c m k
    generalize hb:x::b=b' at k
    induction k with
    | nil=>simp at hb
    | del z k _ =>
      simp at hb
      obtain⟨rfl,rfl⟩:=hb
      obtain⟨j,h1,h2⟩:=ih k
      exact⟨j+1,by omega,.del x h2⟩
    | ins z k ih2 =>
      obtain⟨j,h1,h2⟩:=ih2 hb
      exact⟨j+1,by omega,.ins z h2⟩
    | keep z k _ =>
      simp at hb
      obtain⟨rfl,rfl⟩:=hb
      obtain⟨j,h1,h2⟩:=ih k
      exact⟨j,by omega,.keep x h2⟩
theorem dist_tri (a b c:List Int):dist a c≤dist a b+dist b c:=by
  obtain⟨k,h1,h2⟩:=(ed_dist a b).trans (ed_dist b c)
  have:=h2.le
  omega
theorem Ed.len {a b:List Int} {n:Nat} (h:Ed a b n):a.length≤b.length+n∧b.length≤a.length+n∧n≤a.length+b.length∧(a.length+b.length-n) % 2=0:=by
  induction h with
  | nil=>simp
  | del x h ih=>simp only[List.length_cons];omega
  | ins y h ih=>simp only[List.length_cons];omega
  | keep x h ih=>simp only[List.length_cons];omega
theorem dist_bounds (a b:List Int):a.length≤b.length+dist a b∧b.length≤a.length+dist a b∧dist a b≤a.length+b.length∧(a.length+b.length-dist a b) % 2=0:=(ed_dist a b).len
theorem Ed.zero {a b:List Int} {n:Nat} (h:Ed a b n):n=0→a=b:=by
  induction h with
  | nil=>intro _;rfl
  | del x h ih=>intro h;omega
  | ins y h ih=>intro h;omega
  | keep x h ih=>intro h;rw[ih h]
theorem dist_self (a:List Int):dist a a=0:=by
  induction a with
  | nil=>rw[dist_nil];rfl
  | cons x a ih=>rw[dist_eq,ih]
theorem dist_zero {a b:List Int}:dist a b=0↔a=b:=⟨fun h=>(ed_dist a b).zero h,fun h=>by rw[h,dist_self]⟩
def walkV:List Int→List Int→Int→Int→List SpanT
  | [],_,_,_=>[]
  | x::a,[],_,_=>[]
  | x::a,y::b,i,j=>if x=y then ⟨i,j⟩::walkV a b (i+1) (j+1) else if dist a (y::b)+1=dist (x::a) (y::b) then walkV a (y::b) (i+1) j else walkV (x::a) b i (j+1)
termination_by a b=>a.length+b.length
theorem walkV_nil (b:List Int) (i j:Int):walkV [] b i j=[]:=by rw[walkV]
theorem walkV_nil' (a:List Int) (i j:Int):walkV a [] i j=[]:=by cases a <;> rw[walkV]
theorem walkV_eq (x:Int) (a b:List Int) (i j:Int):walkV (x::a) (x::b) i j=⟨i,j⟩::walkV a b (i+1) (j+1):=by rw[walkV];simp
theorem walkV_ne {x y:Int} (h:x≠y) (a b:List Int) (i j:Int):walkV (x::a) (y::b) i j=if dist a (y::b)+1=dist (x::a) (y::b) then walkV a (y::b) (i+1) j else walkV (x::a) b i (j+1):=by rw[walkV];simp[h]
def chgV:List SpanT→Int→Int→List ChangeT
  | [],_,_=>[]
  | s::q,i,j=>if s.fr > i∨s.to > j then ⟨i,s.fr-i,j,s.to-j⟩::chgV q (s.fr+1) (s.to+1) else chgV q (s.fr+1) (s.to+1)
def madeV (p:List SpanT) (m n:Int):List ChangeT:=chgV (p++[⟨m,n⟩]) 0 0
@[simp] def S_script_length:List D→Prop × D:=spec1 (α:=Int) (fun _=>True) (fun n=>Rep.to (decide (0≤n∧n≤4096)))
theorem ct_script_length {P:Program} {f:Nat} {G:Gam} (h:CodeOf P f 1 2 [1] x_script_length) (hG:GamOk P G):Has P f S_script_length:=h.has1 hG fun n _=>by
  simp[x_script_length]
  omega
def numOk (n:Int):Prop:=-1000000≤n∧n≤1000000
@[simp] def S_script_fromPairs:List D→Prop × D:=spec3 (α:=List SpanT) (β:=Int) (γ:=Int) (fun p m n=>p.length≤100000∧numOk m∧numOk n∧∀s,s∈p→numOk s.fr∧numOk s.to) (fun p m n=>Rep.to (madeV p m n))
theorem ct_script_fromPairs {P:Program} {f g:Nat} {G:Gam} (h:CodeOf P f 3 13 [3] (x_script_fromPairs g)) (hG:GamOk P G) (hg:G.findR g=some R_slices_Clip_Span_Span):Has P f S_script_fromPairs:=h.has3 hG fun p m n hp=>by
  obtain⟨hp,hm,hn,hs⟩:=hp
  simp[x_script_fromPairs]
  rw[eR_clip hg (by simp) (by simp)]
  simp
  refine⟨by unfold room;omega,?_⟩
  obtain⟨q,hq⟩:∃q,q=p++[SpanT.mk m n]:=⟨_,rfl⟩
  have hqm:(List.map Rep.to p++[D.agg [D.int .i64 m,D.int .i64 n]]:List D)=q.map Rep.to:=by rw[hq];simp
  have hql:q.length=p.length+1:=by rw[hq];simp
  have hqs:∀k (h:k<q.length),numOk q[k].fr∧numOk q[k].to:=by
    intro k h
    have hm':q[k]∈p++[SpanT.mk m n]:=by rw[← hq];exact List.getElem_mem h
    rcases List.mem_append.1 hm' with h1 | h1
    · exact hs _ h1
    · rw[List.mem_singleton.1 h1];exact⟨hm,hn⟩
  rw[hqm]
  have hgoal:madeV p m n=chgV q 0 0:=by rw[hq];rfl
  rw[hgoal]
  obtain⟨Tf,hT⟩:∃Tf:Nat × List ChangeT × Int × Int→List A,∀x,Tf x=[.any,.any,.any,.any,.gr 0 4 (x.2.1.map Rep.to),.d (.int .i64 x.2.2.1),.d (.int .i64 x.2.2.2),.any,.gr 1 2 (q.map Rep.to),.d (.int .i64 q.length),.d (.int .i64 x.1),.any,.any]:=⟨_,fun _=>rfl⟩
  obtain⟨sf,hsf⟩:∃sf:Nat × List ChangeT × Int × Int→Store,∀x,sf x=[.tip x.2.1.length,.tip q.length]:=⟨_,fun _=>rfl⟩
  refine vc_ghost (σ:=Nat × List ChangeT × Int × Int) [false,false,false,false,true,true,true,false,true,true,true] 2 (fun x=>x.1≤q.length∧x.2.1.length≤x.1∧x.2.1++chgV (q.drop x.1) x.2.2.1 x.2.2.2=chgV q 0 0∧-1000001≤x.2.2.1∧x.2.2.1≤1000001∧-1000001≤x.2.2.2∧x.2.2.2≤1000001)
    (fun x=>q.length-x.1) Tf sf (0,[],0,0) (by omega) ?_ ?_ ?_
  · simp[inScope]
  · simp[hT,hsf,hql]
  rintro⟨k,out,i,j⟩ ⟨h1,h2,h3,h4,h5,h6,h7⟩
  simp only at h1 h2 h3 h4 h5 h6 h7
  rw[hT,hsf]
  simp
  refine⟨fun h8=>?_,fun h8=>?_⟩
  · obtain⟨⟨f1,f2⟩,f3,f4⟩:=hqs k h8
    rw[List.drop_eq_getElem_cons h8] at h3
    generalize hg':q[k]=sp at *
    obtain⟨fr,to⟩:=sp
    simp only at f1 f2 f3 f4
    have e1:=add1 h8 (by omega)
    have w1:=wrap_in (n:=fr+1) (by omega) (by omega)
    have w2:=wrap_in (n:=to+1) (by omega) (by omega)
    have w3:=wrap_in (n:=fr-i) (by omega) (by omega)
    have w4:=wrap_in (n:=to-j) (by omega) (by omega)
    simp[getD_map,h8,hg',inScope,pairsOk,disj,w1,w2,w3,w4,e1]
    have r1:room (out.length+1) 32:=by unfold room;omega
    have c1:(i<fr∨j<to)→out++[(⟨i,fr-i,j,to-j⟩:ChangeT)]++chgV (q.drop (k+1)) (fr+1) (to+1)=chgV q 0 0:=by
      intro h
      rw[← h3]
      simp only[chgV,gt_iff_lt,h,if_true,List.append_assoc,List.cons_append,List.nil_append]
    have c2:¬(i<fr∨j<to)→out++chgV (q.drop (k+1)) (fr+1) (to+1)=chgV q 0 0:=by
      intro h
      rw[← h3]
      simp only[chgV,gt_iff_lt,h,if_false]
    refine⟨fun h9=>⟨r1,k+1,by omega,out++[⟨i,fr-i,j,to-j⟩],fr+1,to+1,?_,?_,by omega,by simp;omega,c1 (.inl h9),by omega,by omega,by omega,by omega⟩,
      fun h9=>⟨fun h10=>⟨r1,k+1,by omega,out++[⟨i,fr-i,j,to-j⟩],fr+1,to+1,?_,?_,by omega,by simp;omega,c1 (.inr h10),by omega,by omega,by omega,by omega⟩,
        fun h10=>⟨k+1,by omega,out,fr+1,to+1,?_,?_,by omega,by omega,c2 (by omega),by omega,by omega,by omega,by omega⟩⟩⟩
    all_goals first | (rw[hT];simp;done) | (rw[hsf];simp;done) | (rw[hsf];done)
  · have h9:k=q.length:=by omega
    subst h9
    rw[List.drop_length] at h3
    simp only[chgV,List.append_nil] at h3
    rw[h3]
def ascB:List SpanT→Int→Int→Int→Int→Bool
  | [],_,_,_,_=>true
  | s::p,i,j,m,n=>decide (i≤s.fr) && decide (s.fr<m) && decide (j≤s.to) && decide (s.to<n) && ascB p (s.fr+1) (s.to+1) m n
theorem ascB_mem:∀{p:List SpanT} {i j m n:Int},ascB p i j m n=true→∀s,s∈p→i≤s.fr∧s.fr<m∧j≤s.to∧s.to<n
  | [],_,_,_,_,_,s,hs=>by simp at hs
  | x::p,i,j,m,n,h,s,hs=>by
    simp only[ascB,Bool.and_eq_true,decide_eq_true_eq] at h
    obtain⟨⟨⟨⟨h1,h2⟩,h3⟩,h4⟩,h5⟩:=h
    rcases List.mem_cons.1 hs with rfl | hs
    · exact⟨h1,h2,h3,h4⟩
    · have:=ascB_mem h5 s hs
      omega
def fromPairsV (p:List SpanT) (m n:Int):List ChangeT × Int :=
  if ¬(0≤m∧m≤4096∧0≤n∧n≤4096) then ([],80) else if ascB p 0 0 m n=true then (madeV p m n,0) else ([],3)
@[simp] def S_script_FromPairs:List D→Prop × D:=spec3 (α:=List SpanT) (β:=Int) (γ:=Int) (fun p m n=>p.length≤100000) (fun p m n=>.tup [Rep.to (fromPairsV p m n).1,.int .i64 (fromPairsV p m n).2])
theorem ct_script_FromPairs {P:Program} {f g1 g2:Nat} {G:Gam} (h:CodeOf P f 3 13 [3,4] (x_script_FromPairs g1 g2)) (hG:GamOk P G) (hg1:G.find g1=some S_script_length) (hg2:G.find g2=some S_script_fromPairs):Has P f S_script_FromPairs:=h.has3 hG fun p m n hp=>by
  simp[x_script_FromPairs,hg1]
  have bad:(m<0∨4096<m∨n<0∨4096<n)→fromPairsV p m n=([],80):=by
    intro h
    unfold fromPairsV
    rw[if_pos (by omega)]
  refine⟨fun h=>by rw[bad (by omega)];simp,fun m0 m1=>⟨fun h=>by rw[bad (by omega)];simp,fun n0 n1=>?_⟩⟩
  obtain⟨Tf,hT⟩:∃Tf:Nat × Int × Int→List A,∀x,Tf x=[.d (Rep.to p),.d (.int .i64 m),.d (.int .i64 n),.any,.any,.ref 0 0 0 0,.any,.any,.d (Rep.to p),.d (.int .i64 p.length),.d (.int .i64 x.1),.any,.any]:=⟨_,fun _=>rfl⟩
  obtain⟨sf,hsf⟩:∃sf:Nat × Int × Int→Store,∀x,sf x=[.cells 0 2 [.agg [.d (.int .i64 x.2.1),.d (.int .i64 x.2.2)]]]:=⟨_,fun _=>rfl⟩
  have hv:∀b,ascB p 0 0 m n=b→fromPairsV p m n=if b=true then (madeV p m n,0) else ([],3):=by
    intro b hb
    unfold fromPairsV
    rw[if_neg (by omega),hb]
  refine vc_ghost (σ:=Nat × Int × Int) [true,true,true,false,false,true,false,false,true,true,true] 1 (fun x=>x.1≤p.length∧ascB (p.drop x.1) (x.2.1+1) (x.2.2+1) m n=ascB p 0 0 m n)
    (fun x=>p.length-x.1) Tf sf (0,-1,-1) (by omega) ?_ ?_ ?_
  · simp[inScope]
  · simp[hT,hsf]
  rintro⟨k,lf,lt⟩ ⟨h1,h2⟩
  simp only at h1 h2
  rw[hT,hsf]
  simp
  refine⟨fun h3=>?_,fun h3=>?_⟩
  · rw[List.drop_eq_getElem_cons h3] at h2
    generalize hg':p[k]=sp at *
    obtain⟨fr,to⟩:=sp
    have e1:=add1 h3 (by omega)
    simp[getD_map,h3,hg',inScope,pairsOk,disj,e1]
    have bad2:(fr≤lf∨m≤fr∨to≤lt∨n≤to)→(fromPairsV p m n).fst=[]∧3=(fromPairsV p m n).snd:=by
      intro h
      have:ascB (⟨fr,to⟩::p.drop (k+1)) (lf+1) (lt+1) m n=false:=by
        simp only[ascB,Bool.and_eq_false_iff,decide_eq_false_iff_not]
        omega
      rw[this] at h2
      rw[hv _ h2.symm]
      simp
    refine⟨fun h=>bad2 (by omega),fun c1=>⟨fun h=>bad2 (by omega),fun c2=>⟨fun h=>bad2 (by omega),fun c3=>⟨fun h=>bad2 (by omega),fun c4=>⟨k+1,by omega,fr,to,?_,?_,by omega,?_⟩⟩⟩⟩⟩
    · rw[hT];simp
    · rw[hsf]
    · rw[← h2]
      simp only[ascB]
      have:decide (lf+1≤fr)=true∧decide (fr<m)=true∧decide (lt+1≤to)=true∧decide (to<n)=true:=by simp only[decide_eq_true_eq];omega
      simp only[this,Bool.true_and]
  · have h9:k=p.length:=by omega
    subst h9
    rw[List.drop_length] at h2
    have ha:=hv _ h2.symm
    have hm:=ascB_mem h2.symm
    simp[hg2,ha,ascB]
    refine⟨hp,⟨by omega,by omega⟩,⟨by omega,by omega⟩,fun s hs=>?_⟩
    have:=hm s hs
    exact⟨⟨by omega,by omega⟩,⟨by omega,by omega⟩⟩
@[simp] def S_shortest_limited:List D→Prop × D:=spec2 (α:=List Int) (β:=List Int) (fun _ _=>True) (fun a b=>Rep.to (decide (a.length≤4096∧b.length≤4096)))
theorem ct_shortest_limited {P:Program} {f:Nat} {G:Gam} (h:CodeOf P f 2 3 [2] x_shortest_limited) (hG:GamOk P G):Has P f S_shortest_limited:=h.has2 hG fun a b _=>by
  simp[x_shortest_limited]
  refine⟨fun h1=>?_,by omega⟩
  have h2:a.length≤4096:=by omega
  simp[h2]
  omega
def begV:List Int→List Int→Nat
  | x::a,y::b=>if x=y then begV a b+1 else 0
  | _,_=>0
theorem begV_le (a b:List Int):begV a b≤a.length∧begV a b≤b.length:=by
  induction a generalizing b with
  | nil=>simp[begV]
  | cons x a ih =>
    cases b with
    | nil=>simp[begV]
    | cons y b =>
      simp only[begV]
      split
      · have:=ih b;simp;omega
      · simp
@[simp] def S_shortest_beginning:List D→Prop × D:=spec2 (α:=List Int) (β:=List Int) (fun a _=>a.length≤9223372036854775807) (fun a b=>Rep.to ((begV a b:Nat):Int))
theorem ct_shortest_beginning {P:Program} {f:Nat} {G:Gam} (h:CodeOf P f 2 5 [2] x_shortest_beginning) (hG:GamOk P G):Has P f S_shortest_beginning:=h.has2 hG fun a b ha=>by
  simp[x_shortest_beginning]
  refine vc_ghost (σ:=Nat) [true,true,false,true] 0 (fun i=>i≤a.length∧i≤b.length∧begV (a.drop i) (b.drop i)+i=begV a b) (fun i=>a.length-i) (fun i=>[.d (Rep.to a),.d (Rep.to b),.any,.d (.int .i64 i),.any]) (fun _=>[]) 0 (Nat.le_refl _) (by simp) (by simp) ?_
  rintro i ⟨h1,h2,h3⟩
  simp
  refine⟨fun h4=>⟨fun h5=>?_,fun h5=>?_⟩,fun h4=>?_⟩
  · have e:=add1 h4 ha
    rw[List.drop_eq_getElem_cons h4,List.drop_eq_getElem_cons h5] at h3
    simp[getD_map,h4,h5,e,pairsOk]
    refine⟨fun h6=>⟨i+1,by omega,by simp,by omega,by omega,?_⟩,fun h6=>?_⟩
    · rw[begV,if_pos h6] at h3
      omega
    · rw[begV,if_neg h6] at h3
      omega
  · have:b.drop i=[]:=List.drop_eq_nil_of_le (by omega)
    rw[this] at h3
    cases hq:a.drop i <;> rw[hq] at h3 <;> simp[begV] at h3 <;> omega
  · have:a.drop i=[]:=List.drop_eq_nil_of_le (by omega)
    rw[this] at h3
    simp[begV] at h3
    omega
/-! the distances of all rests -/
def restV (a b:List Int) (k:Nat):Nat:=dist (a.drop (k / (b.length+1))) (b.drop (k % (b.length+1)))
def tabN (a b:List Int):Nat:=(a.length+1) * (b.length+1)
def tabD (a b:List Int):D:=.sl 1 ((List.range (tabN a b)).map fun k=>.int .u16 (restV a b k))
def fillP (a b:List Int) (p:Nat→Bool):List A:=(List.range (tabN a b)).map fun k=>.d (.int .u16 (if p k=true then (restV a b k:Int) else 0))
theorem fillP_len (a b:List Int) (p:Nat→Bool):(fillP a b p).length=tabN a b:=by simp[fillP]
theorem fillP_get {a b:List Int} {p:Nat→Bool} {k:Nat} (h1:p k=true) (h2:k<tabN a b):(fillP a b p).getD k .any=.d (.int .u16 (restV a b k)):=by
  simp[fillP,List.getD,h2,h1]
theorem fillP_eq {a b:List Int} {p q:Nat→Bool} (h:∀k,k<tabN a b→p k=q k∨restV a b k=0):fillP a b p=fillP a b q:=by
  refine List.map_congr_left fun k hk=>?_
  rcases h k (by simpa using hk) with h1 | h1
  · rw[h1]
  · rw[h1];simp
theorem fillP_set {a b:List Int} {p q:Nat→Bool} {c:Nat} (hc:q c=true) (h:∀k,k≠c→p k=q k):(fillP a b p).set c (.d (.int .u16 (restV a b c)))=fillP a b q:=by
  apply List.ext_getElem
  · simp[fillP]
  · intro k h1 h2
    simp only[fillP,List.length_set,List.length_map,List.length_range] at h1
    rw[List.getElem_set]
    by_cases hk:c=k
    · subst hk
      simp[fillP,hc]
    · simp only[hk,if_false,fillP,List.getElem_map,List.getElem_range,h k (Ne.symm hk)]
theorem restV_row {a b:List Int} {i j:Nat} (hj:j≤b.length):restV a b (i * (b.length+1)+j)=dist (a.drop i) (b.drop j):=by
  unfold restV
  have h1:(i * (b.length+1)+j) / (b.length+1)=i:=by
    rw[Nat.add_comm,Nat.add_mul_div_right _ _ (by omega),Nat.div_eq_of_lt (by omega)];omega
  have h2:(i * (b.length+1)+j) % (b.length+1)=j:=by
    rw[Nat.add_comm,Nat.add_mul_mod_self_right,Nat.mod_eq_of_lt (by omega)]
  rw[h1,h2]
theorem fill_lt {a b:List Int} {i j:Nat} (hi:i≤a.length) (hj:j≤b.length):i * (b.length+1)+j<tabN a b:=by
  unfold tabN
  have:i * (b.length+1)≤a.length * (b.length+1):=Nat.mul_le_mul_right _ hi
  rw[Nat.add_mul]
  omega
@[simp] def S_shortest_distances:List D→Prop × D:=spec2 (α:=List Int) (β:=List Int) (fun a b=>a.length≤4096∧b.length≤4096) (fun a b=>tabD a b)
theorem ct_shortest_distances {P:Program} {f:Nat} {G:Gam} (h:CodeOf P f 2 16 [2] x_shortest_distances) (hG:GamOk P G):Has P f S_shortest_distances:=h.has2 hG fun a b hp=>by
  obtain⟨ha,hb⟩:=hp
  have w1:=wrap_in (n:=(b.length:Int)+1) (by omega) (by omega)
  have w2:=wrap_in (n:=(a.length:Int)+1) (by omega) (by omega)
  have hN:tabN a b≤4097 * 4097:=Nat.mul_le_mul (by omega) (by omega)
  have w3:IntKind.i64.wrap (((a.length:Int)+1) * ((b.length:Int)+1))=(tabN a b:Int):=by
    rw[wrap_in]
    · unfold tabN;push_cast;rfl
    · have:(0:Int)≤((a.length:Int)+1) * ((b.length:Int)+1):=Int.mul_nonneg (by omega) (by omega)
      omega
    · have:((tabN a b:Nat):Int)=((a.length:Int)+1) * ((b.length:Int)+1):=by unfold tabN;push_cast;rfl
      omega
  obtain⟨q,hq⟩:∃q:Nat→Nat,∀i,q i=i * (b.length+1):=⟨_,fun _=>rfl⟩
  obtain⟨r,hr⟩:∃r:Nat→Nat→Nat,∀i j,r i j=i * (b.length+1)+j:=⟨_,fun _ _=>rfl⟩
  have hqM:∀i:Nat,i≤a.length+1→q i≤tabN a b:=fun i hi=>by rw[hq];exact Nat.mul_le_mul_right _ hi
  have hq1:∀i:Nat,q (i+1)=q i+(b.length+1):=fun i=>by rw[hq,hq,Nat.add_mul];omega
  have hqr:∀i j:Nat,r i j=q i+j:=fun i j=>by rw[hq,hr]
  have hrl:∀i j:Nat,i≤a.length→j≤b.length→r i j<tabN a b:=fun i j hi hj=>by rw[hr];exact fill_lt hi hj
  have hrv:∀i j:Nat,j≤b.length→restV a b (r i j)=dist (a.drop i) (b.drop j):=fun i j hj=>by rw[hr];exact restV_row hj
  have cM:∀i:Nat,i≤a.length+1→IntKind.i64.wrap ((i:Int) * ((b.length:Int)+1))=(q i:Int):=by
    intro i hi
    have e:(i:Int) * ((b.length:Int)+1)=(q i:Int):=by rw[hq];push_cast;rfl
    have:=hqM i hi
    rw[e,wrap_in (by omega) (by omega)]
  have cA:∀i j:Nat,i≤a.length→j≤b.length→IntKind.i64.wrap ((q i:Int)+(j:Int))=(r i j:Int):=by
    intro i j hi hj
    have:=hrl i j hi hj
    have e:(q i:Int)+(j:Int)=(r i j:Int):=by rw[hqr];push_cast;rfl
    rw[e,wrap_in (by omega) (by omega)]
  simp[x_shortest_distances,w1,w2,w3]
  refine⟨⟨by unfold room;omega,by omega⟩,?_⟩
  obtain⟨T1,hT1⟩:∃Tf:Nat→List A,∀j,Tf j=[.d (Rep.to a),.d (Rep.to b),.any,.d (.int .i64 (b.length+1)),.own 0 0 0 (tabN a b),.any,.any,.any,.any,.any,.d (.int .i64 b.length),.d (.int .i64 j),.any,.any,.any,.any]:=⟨_,fun _=>rfl⟩
  obtain⟨f1,hf1⟩:∃f:Nat→List A,∀j,f j=fillP a b (fun k=>decide (q a.length≤k) && decide (k<q a.length+j)):=⟨_,fun _=>rfl⟩
  have f1l:∀j,(f1 j).length=tabN a b:=fun j=>by rw[hf1,fillP_len]
  refine vc_ghost (σ:=Nat) [true,true,false,true,true,false,false,false,false,false,true,true] 1 (fun j=>j≤b.length) (fun j=>b.length-j) T1 (fun j=>[.cells 0 1 (f1 j)]) 0 (by omega) (by simp[inScope]) ?_ ?_
  · refine⟨by simp[hT1],?_,by omega⟩
    simp only[List.take_succ_cons,List.take_zero,List.cons.injEq,Ob.cells.injEq,true_and,and_true]
    rw[hf1]
    apply List.ext_getElem
    · simp[fillP]
    · intro k h1 h2
      have:¬(q a.length≤k∧k<q a.length+0):=by omega
      simp[fillP]
      omega
  · intro j hj
    rw[hT1]
    simp
    refine⟨fun h1=>?_,fun h1=>?_⟩
    · have c1:=cM a.length (by omega)
      have c2:=cA a.length j (by omega) (by omega)
      have c3:=add1 h1 (by omega)
      have c4:=wrap_in (n:=(b.length:Int)-j) (by omega) (by omega)
      have c6:=hrl a.length j (by omega) (by omega)
      have c5:IntKind.u16.wrap ((b.length:Int)-j)=(restV a b (r a.length j):Int):=by
        rw[hrv _ _ (by omega),List.drop_length,dist_nil]
        simp[IntKind.wrap,IntKind.bits,IntKind.signed]
        omega
      simp[c1,c2,c3,c4,c5,c6,f1l]
      refine⟨by simp[inScope],j+1,by omega,by rw[hT1];simp,?_,by omega⟩
      rw[hf1,hf1]
      have e:=hqr a.length j
      exact fillP_set (by simp;omega) (fun k hk=>by
        by_cases h2:q a.length≤k <;> simp[h2]
        omega)
    · have h2:j=b.length:=by omega
      obtain⟨f2,hf2⟩:∃f:Nat→List A,∀c,f c=fillP a b (fun k=>decide (c≤k)):=⟨_,fun _=>rfl⟩
      have f2l:∀j,(f2 j).length=tabN a b:=fun j=>by rw[hf2,fillP_len]
      have e1:f1 j=f2 (q a.length):=by
        rw[hf1,hf2]
        refine fillP_eq fun k hk=>?_
        rcases Nat.lt_or_ge k (q a.length+j) with h3 | h3
        · left;simp[h3]
        · right
          have e9:k=r a.length b.length:=by
            rw[hqr]
            have:tabN a b=q a.length+(b.length+1):=by rw[hq];unfold tabN;rw[Nat.add_mul];omega
            omega
          rw[e9,hrv _ _ (Nat.le_refl _),List.drop_length,List.drop_length,dist_nil]
          rfl
      have w4:=wrap_in (n:=(a.length:Int)-1) (by omega) (by omega)
      rw[e1]
      obtain⟨T2,hT2⟩:∃Tf:Nat→List A,∀i,Tf i=[.d (Rep.to a),.d (Rep.to b),.any,.d (.int .i64 (b.length+1)),.own 0 0 0 (tabN a b),.any,.d (.int .i64 ((i:Int)-1)),.any,.any,.any,.any,.any,.any,.any,.any,.any]:=⟨_,fun _=>rfl⟩
      simp[w4]
      refine vc_ghost (σ:=Nat) [true,true,false,true,true,false,true] 1 (fun i=>i≤a.length) (fun i=>i) T2 (fun i=>[.cells 0 1 (f2 (q i))]) a.length (by omega) (by simp[inScope]) ?_ ?_
      · exact⟨by simp[hT2],by simp,by omega⟩
      · intro i hi
        rcases Nat.eq_zero_or_pos i with h0 | h0
        · subst h0
          rw[hT2]
          simp
          have q0:q 0=0:=by rw[hq];simp
          have hall:f2 (q 0)=(List.range (tabN a b)).map fun k=>.d (.int .u16 (restV a b k)):=by
            rw[hf2,q0]
            exact List.map_congr_left fun k hk=>by simp
          rw[hall]
          simp only[bor,List.getD_cons_zero,List.drop_zero]
          rw[List.take_of_length_le (by simp)]
          refine⟨⟨trivial,?_⟩,?_⟩
          · rw[List.all_eq_true]
            intro x hx
            obtain⟨k,_,rfl⟩:=List.mem_map.1 hx
            rfl
          · rw[List.map_map]
            simp only[tabD,LeD_sl,true_and]
            rfl
        · obtain⟨p,rfl⟩:∃p,i=p+1:=⟨i-1,by omega⟩
          have e2:(((p+1:Nat):Int))-1=(p:Int):=by omega
          have e3:=wrap_in (n:=(p:Int)+1) (by omega) (by omega)
          have e4:=wrap_in (n:=(p:Int)+2) (by omega) (by omega)
          have g0:=cM p (by omega)
          have g1:IntKind.i64.wrap (((p:Int)+1) * ((b.length:Int)+1))=(q (p+1):Int):=by have:=cM (p+1) (by omega);push_cast at this;exact this
          have g2:IntKind.i64.wrap (((p:Int)+2) * ((b.length:Int)+1))=(q (p+2):Int):=by have:=cM (p+2) (by omega);push_cast at this;exact this
          have g3:=hq1 p
          have g4:q (p+2)=q (p+1)+(b.length+1):=hq1 (p+1)
          have g5:=hqM (p+2) (by omega)
          have hap:p<a.length:=by omega
          have w5:=wrap_in (n:=(b.length:Int)-1) (by omega) (by omega)
          have w6:=wrap_in (n:=(a.length:Int)-p) (by omega) (by omega)
          have w7:IntKind.u16.wrap ((a.length:Int)-p)=(restV a b (r p b.length):Int):=by
            rw[hrv _ _ (by omega),List.drop_length,dist_nil']
            simp[IntKind.wrap,IntKind.bits,IntKind.signed]
            omega
          have w8:=wrap_in (n:=(p:Int)-1) (by omega) (by omega)
          have e5:(f2 (q (p+1))).set (q p+b.length) (.d (.int .u16 (restV a b (r p b.length))))=f2 (r p b.length):=by
            rw[hf2,hf2,← hqr]
            have:=hqr p b.length
            exact fillP_set (by simp) (fun k hk=>by simp;omega)
          rw[hT2,e2]
          simp[e3,e4,g0,g1,g2,f2l,w5,w6,w7,e5]
          refine⟨by omega,by omega,by omega,by omega,?_⟩
          obtain⟨T3,hT3⟩:∃Tf:Nat→List A,∀j,Tf j=[.d (Rep.to a),.d (Rep.to b),.any,.d (.int .i64 (b.length+1)),.own 0 0 0 (tabN a b),.any,.d (.int .i64 p),.own 0 0 (q p) (q (p+1)-q p),.own 0 0 (q (p+1)) (q (p+2)-q (p+1)),.d (.int .i64 ((j:Int)-1)),.any,.any,.any,.any,.any,.any]:=⟨_,fun _=>rfl⟩
          refine vc_ghost (σ:=Nat) [true,true,false,true,true,false,true,true,true,true] 1 (fun j=>j≤b.length) (fun j=>j) T3 (fun j=>[.cells 0 1 (f2 (r p j))]) b.length (by omega) (by simp[inScope]) ?_ ?_
          · exact⟨by simp[hT3],by simp,by omega⟩
          · intro j hj
            rcases Nat.eq_zero_or_pos j with j0 | j0
            · subst j0
              rw[hT3]
              simp[w8]
              refine⟨by simp[inScope],p,by omega,?_,?_,by omega⟩
              · rw[hT2];simp
              · rw[hqr];rfl
            · obtain⟨t,rfl⟩:∃t,j=t+1:=⟨j-1,by omega⟩
              have e6:(((t+1:Nat):Int))-1=(t:Int):=by omega
              have hbt:t<b.length:=by omega
              have e7:=wrap_in (n:=(t:Int)+1) (by omega) (by omega)
              have e8:=wrap_in (n:=(t:Int)-1) (by omega) (by omega)
              rw[hT3,e6]
              have fg:∀x y:Nat,r p (t+1)≤q x+y→q x+y<tabN a b→y≤b.length→(f2 (r p (t+1)))[q x+y]?=some (.d (.int .u16 (dist (a.drop x) (b.drop y):Nat))):=by
                intro x y h1 h2 h3
                have:=fillP_get (a:=a) (b:=b) (p:=fun k=>decide (r p (t+1)≤k)) (k:=q x+y) (by simpa using h1) h2
                rw[← hqr,hrv x y h3] at this
                rw[← hf2] at this
                rw[← hqr]
                have h4:r x y<(f2 (r p (t+1))).length:=by rw[f2l,hqr];exact h2
                rw[getD_lt _ _ h4] at this
                rw[List.getElem?_eq_getElem h4,this]
              have k1:=hqr p (t+1)
              have k2:=fg (p+1) (t+1) (by omega) (by omega) (by omega)
              have k3:=fg (p+1) t (by omega) (by omega) (by omega)
              have k4:=fg p (t+1) (by omega) (by omega) (by omega)
              have k5:∀v:Nat,v=dist (a.drop p) (b.drop t)→(f2 (r p (t+1))).set (q p+t) (.d (.int .u16 v))=f2 (r p t):=by
                intro v hv
                have e:=hrv p t (by omega)
                rw[hv,← e,hf2,hf2,← hqr]
                have:=hqr p t
                exact fillP_set (by simp) (fun k hk=>by simp;omega)
              have da:a.drop p=a[p]::a.drop (p+1):=List.drop_eq_getElem_cons hap
              have db:b.drop t=b[t]::b.drop (t+1):=List.drop_eq_getElem_cons hbt
              have b1:=(dist_bounds (a.drop (p+1)) (b.drop t)).2.2.1
              simp only[List.length_drop] at b1
              have w9:a[p]≠b[t]→IntKind.u16.wrap (min (dist (a.drop (p+1)) (b.drop t):Int) (dist (a.drop p) (b.drop (t+1)):Int)+1)=((dist (a.drop p) (b.drop t):Nat):Int):=by
                intro hne
                have e:dist (a.drop p) (b.drop t)=1+min (dist (a.drop (p+1)) (b.drop t)) (dist (a.drop p) (b.drop (t+1))):=by
                  conv=>lhs;rw[da,db,dist_ne hne,← da,← db]
                rw[e]
                simp only[IntKind.wrap,IntKind.bits,IntKind.signed]
                simp
                omega
              have hsc:∀v:Nat,inScope 1 [A.d (D.sl 1 (List.map Rep.to a)),A.d (D.sl 1 (List.map Rep.to b)),A.any,A.d (D.int .i64 (b.length+1)),A.own 0 0 0 (tabN a b),A.any,A.d (D.int .i64 p),A.own 0 0 (q p) (q (p+1)-q p),A.own 0 0 (q (p+1)) (q (p+2)-q (p+1)),A.d (D.int .i64 ((t:Int)-1)),A.any,A.any,A.any,A.any,A.any,A.any] [Ob.cells 0 1 ((f2 (r p (t+1))).set (q p+t) (A.d (D.int .u16 v)))]:=fun v=>.inl (by simp)
              simp[getD_map,hap,hbt,e7,e8,f2l,k2,k3,k4]
              refine⟨fun hq=>⟨by omega,by omega,by omega,by omega,hsc _,t,by omega,?_,?_,by omega⟩,fun hne=>⟨by omega,by omega,by omega,by omega,by omega,by omega,?_,t,by omega,?_,?_,by omega⟩⟩
              · rw[hT3];simp
              · exact k5 _ (by rw[da,db,hq,dist_eq])
              · rw[w9 hne];exact hsc _
              · rw[hT3];simp
              · rw[w9 hne];exact k5 _ rfl
def walkS (args:List A) (s0:Store):Prop × Store × A :=
  match args,s0 with
  | [.d (.int .i64 i),.d (.int .i64 j),.ref 0 v 0 0,.ref 1 u 0 0],[.cells v' 1 [.d (.sl 1 xs)],.cells u' 1 [.d (.sl 1 ys)]] =>
    match xs.getD (i.toNat * (ys.length+1)+j.toNat) default with
    | .int .u16 n=>(v=v'∧u=u'∧0≤i∧i≤4096∧0≤j∧j≤4096∧ys.length≤4096∧i.toNat * (ys.length+1)+j.toNat<xs.length∧0≤n∧n≤65535,[.cells v 1 [.d (.sl 1 xs)],.cells u 1 [.d (.sl 1 ys)]],.d (.int .i64 n))
    | _=>(False,[],.any)
  | _,_=>(False,[],.any)
def walkR (args:List A) (_:Store) (_:Nat):List Nat :=
  match args with
  | [_,_,.ref l _ _ _,.ref m _ _ _]=>[l,m]
  | _=>[]
abbrev R_shortest_walk_1:RSpec:=⟨walkR,walkS⟩
theorem ct_shortest_walk_1 {P:Program} {f:Nat} (hc:CodeOf P f 4 5 [4] x_shortest_walk_1):RSpec.Ok P f R_shortest_walk_1:=by
  refine⟨hc.call,fun _ _ _ _ _=>rfl,?_⟩
  intro args s0 hp
  simp only[walkS] at hp ⊢
  split at hp
  · rename_i i j v u v' xs u' ys
    split at hp
    · rename_i n hn
      obtain⟨rfl,rfl,h1,h2,h3,h4,h5,h6,h7,h8⟩:=hp
      obtain⟨p,rfl⟩:=Int.eq_ofNat_of_zero_le h1
      obtain⟨q,rfl⟩:=Int.eq_ofNat_of_zero_le h3
      simp only[Int.toNat_natCast] at hn h6 ⊢
      refine hc.rcalls (GamOk.nil _) rfl ?_
      have hm:p * (ys.length+1)≤4096 * 4097:=Nat.mul_le_mul (by omega) (by omega)
      have w1:=wrap_in (n:=(ys.length:Int)+1) (by omega) (by omega)
      obtain⟨k,hk⟩:∃k,k=p * (ys.length+1):=⟨_,rfl⟩
      have w2:IntKind.i64.wrap ((p:Int) * ((ys.length:Int)+1))=(k:Int):=by
        have e:(p:Int) * ((ys.length:Int)+1)=(k:Int):=by rw[hk];push_cast;rfl
        rw[e,wrap_in (by omega) (by omega)]
      have w3:IntKind.i64.wrap ((k:Int)+(q:Int))=((k+q:Nat):Int):=by rw[wrap_in (by omega) (by omega)];rfl
      rw[← hk] at hn h6
      have w4:=wrap_in (n:=n) (by omega) (by omega)
      rw[List.getD,List.getElem?_eq_getElem h6] at hn
      simp only[Option.getD_some] at hn
      simp[x_shortest_walk_1,startA,w1,w2]
      rw[w3]
      generalize k+q=c at *
      simp[h6,hn,w4]
      exact⟨by simp[resPre],[0,1],rfl,⟨by decide,by simp,rfl⟩,fun k hk=>.inl (by match k,hk with | 0,_=>rfl | 1,_=>rfl),rfl,rfl,rfl⟩
    · exact hp.elim
  · exact hp.elim
theorem eR_walk1 {G:Gam} {f:Nat} (hf:G.findR f=some R_shortest_walk_1) {s:Store} {nw l m v u i j:Nat} {a b:List Int} (h1:s.getD l .dead=.cells v 1 [.d (tabD a b)]) (h2:s.getD m .dead=.cells u 1 [.d (.sl 1 (b.map Rep.to))])
    (h3:l≠m) (h4:l<s.length∧m<s.length) (h5:i≤a.length∧j≤b.length) (h6:a.length≤4096∧b.length≤4096) {x y:Int} (hx:x=i) (hy:y=j) :
    eRCall G s nw f [.d (.int .i64 x),.d (.int .i64 y),.ref l v 0 0,.ref m u 0 0]=⟨True,[(l,.cells v 1 [.d (tabD a b)]),(m,.cells u 1 [.d (.sl 1 (b.map Rep.to))])],.d (.int .i64 ((dist (a.drop i) (b.drop j):Nat):Int))⟩:=by
  subst hx hy
  obtain⟨l1,l2⟩:=h4
  have hlt:=fill_lt (a:=a) (b:=b) h5.1 h5.2
  have hrow:=restV_row (a:=a) (b:=b) (i:=i) h5.2
  have hb:=(dist_bounds (a.drop i) (b.drop j)).2.2.1
  simp only[List.length_drop] at hb
  have hv:((List.range (tabN a b)).map fun k=>D.int .u16 (restV a b k)).getD (i * (b.length+1)+j) default=.int .u16 (dist (a.drop i) (b.drop j):Nat):=by
    rw[getD_lt _ _ (by simpa using hlt),List.getElem_map,List.getElem_range,hrow]
  unfold eRCall
  rw[hf]
  simp only[walkR,List.map_cons,List.map_nil,h1,h2]
  have q1:i≤4096:=by omega
  have q2:j≤4096:=by omega
  have q3:dist (a.drop i) (b.drop j)≤65535:=by omega
  simp only[tabD] at *
  simp[walkS,h3,l1,l2,h6.2,hlt,-List.getD_eq_getElem?_getD,hv]
  omega
theorem walkV_beg:∀(a b:List Int) (i j:Int),walkV a b i j=(List.range (begV a b)).map (fun k=>(⟨i+(k:Nat),j+(k:Nat)⟩:SpanT))++walkV (a.drop (begV a b)) (b.drop (begV a b)) (i+(begV a b:Nat)) (j+(begV a b:Nat))
  | [],b,i,j=>by simp[begV,walkV_nil]
  | x::a,[],i,j=>by simp[begV,walkV_nil']
  | x::a,y::b,i,j=>by
    by_cases h:x=y
    · subst h
      rw[walkV_eq,walkV_beg a b (i+1) (j+1)]
      simp only[begV,if_true,List.range_succ_eq_map,List.map_cons,List.map_map,List.cons_append,List.drop_succ_cons]
      congr 1
      · simp
      · congr 1
        · refine List.map_congr_left fun k _=>?_
          simp only[Function.comp,SpanT.mk.injEq]
          omega
        · congr 1 <;> push_cast <;> omega
    · simp[begV,h]
@[simp] def S_shortest_walk:List D→Prop × D:=spec2 (α:=List Int) (β:=List Int) (fun a b=>a.length≤4096∧b.length≤4096) (fun a b=>Rep.to (walkV a b 0 0))
theorem ct_shortest_walk {P:Program} {f g1 g2 g3:Nat} {G:Gam} (h:CodeOf P f 2 17 [3] (x_shortest_walk g1 g2 g3)) (hG:GamOk P G) (hg1:G.find g1=some S_shortest_beginning) (hg2:G.find g2=some S_shortest_distances) (hg3:G.findR g3=some R_shortest_walk_1):Has P f S_shortest_walk:=h.has2 hG fun a b hp=>by
  obtain⟨ha,hb⟩:=hp
  obtain⟨b1,b2⟩:=begV_le a b
  simp[x_shortest_walk,hg1]
  refine⟨by omega,?_⟩
  obtain⟨n,hn⟩:∃n,n=begV a b:=⟨_,rfl⟩
  rw[← hn] at b1 b2 ⊢
  obtain⟨pre,hpre⟩:∃pre:Nat→List SpanT,∀k,pre k=(List.range k).map (fun k=>(⟨(k:Nat),(k:Nat)⟩:SpanT)):=⟨_,fun _=>rfl⟩
  have hpl:∀k,(pre k).length=k:=fun k=>by rw[hpre];simp
  have hps:∀k,pre (k+1)=pre k++[⟨(k:Nat),(k:Nat)⟩]:=fun k=>by rw[hpre,hpre,List.range_succ,List.map_append];rfl
  obtain⟨T1,hT1⟩:∃Tf:Nat→List A,∀k,Tf k=[.d (Rep.to a),.any,.ref 0 0 0 0,.any,.gr 1 2 ((pre k).map Rep.to),.d (.int .i64 n),.any,.any,.any,.any,.any,.d (.int .i64 n),.d (.int .i64 k),.any,.any,.any,.any]:=⟨_,fun _=>rfl⟩
  refine vc_ghost (σ:=Nat) [true,false,true,false,true,true,false,false,false,false,false,true,true] 2 (fun k=>k≤n) (fun k=>n-k) T1 (fun k=>[.cells 0 1 [.d (Rep.to b)],.tip k]) 0 (by omega) (by simp[inScope]) ?_ ?_
  · exact⟨by simp[hT1,hpre],by simp,by omega⟩
  intro k hk
  rw[hT1]
  simp
  refine⟨fun h1=>?_,fun h1=>?_⟩
  · have e:=add1 h1 (by omega)
    simp[hpl,e]
    refine⟨by unfold room;omega,by simp[inScope],k+1,by omega,?_,rfl,by omega⟩
    rw[hT1,hps]
    simp
  · have hkn:k=n:=by omega
    subst hkn
    obtain⟨a',ha'⟩:∃a',a'=a.drop k:=⟨_,rfl⟩
    obtain⟨b',hb'⟩:∃b',b'=b.drop k:=⟨_,rfl⟩
    have la:a'.length=a.length-k:=by rw[ha'];simp
    have lb:b'.length=b.length-k:=by rw[hb'];simp
    have ma:(List.take (a.length-k) (List.drop k (List.map Rep.to a)):List D)=a'.map Rep.to:=by rw[← List.map_drop,← ha',List.take_of_length_le (by simp;omega)]
    have mb:(List.take (b.length-k) (List.drop k (List.map Rep.to b)):List D)=b'.map Rep.to:=by rw[← List.map_drop,← hb',List.take_of_length_le (by simp;omega)]
    have hw:=walkV_beg a b 0 0
    rw[← hn,← ha',← hb'] at hw
    simp only[Int.zero_add] at hw
    rw[← hpre] at hw
    simp[ma,mb,hg2,pairsOk,b1,b2]
    refine⟨⟨by omega,by omega⟩,by simp[tabD],?_⟩
    obtain⟨T2,hT2⟩:∃Tf:List SpanT × Nat × Nat→List A,∀x,Tf x=[.d (Rep.to a'),.any,.ref 0 0 0 0,.any,.gr 1 2 (x.1.map Rep.to),.d (.int .i64 k),.any,.any,.fn (.func g3) [] [.ref 2 0 0 0,.ref 0 0 0 0],.d (.int .i64 x.2.1),.d (.int .i64 x.2.2),.any,.any,.any,.any,.any,.any]:=⟨_,fun _=>rfl⟩
    obtain⟨s2,hs2⟩:∃sf:List SpanT × Nat × Nat→Store,∀x,sf x=[.cells 0 1 [.d (Rep.to b')],.tip x.1.length,.cells 0 1 [.d (tabD a' b')]]:=⟨_,fun _=>rfl⟩
    refine vc_ghost (σ:=List SpanT × Nat × Nat) [true,false,true,false,true,true,false,false,true,true,true] 3 (fun x=>x.2.1≤a'.length∧x.2.2≤b'.length∧x.1.length≤k+x.2.1∧x.1++walkV (a'.drop x.2.1) (b'.drop x.2.2) (k+x.2.1) (k+x.2.2)=walkV a b 0 0)
      (fun x=>(a'.length-x.2.1)+(b'.length-x.2.2)) T2 s2 (pre k,0,0) (by omega) (by simp[inScope]) ?_ ?_
    · refine⟨by simp[hT2],by simp[hs2,hpl],by simp,by simp,by simp[hpl],?_⟩
      rw[hw]
      simp
    rintro⟨out,i,j⟩ ⟨h2,h3,h4,h5⟩
    simp only at h2 h3 h4 h5
    have e1:=wrap_in (n:=(i:Int)+1) (by omega) (by omega)
    have e2:=wrap_in (n:=(j:Int)+1) (by omega) (by omega)
    have e3:=wrap_in (n:=(k:Int)+i) (by omega) (by omega)
    have e4:=wrap_in (n:=(k:Int)+j) (by omega) (by omega)
    have hr2:∀(s:Store) (nw:Nat),s.getD 2 .dead=.cells 0 1 [.d (tabD a' b')]→s.getD 0 .dead=.cells 0 1 [.d (.sl 1 (b'.map Rep.to))]→2<s.length→eRCall G s nw g3 [.d (.int .i64 i),.d (.int .i64 j),.ref 2 0 0 0,.ref 0 0 0 0]=⟨True,[(2,.cells 0 1 [.d (tabD a' b')]),(0,.cells 0 1 [.d (.sl 1 (b'.map Rep.to))])],.d (.int .i64 ((dist (a'.drop i) (b'.drop j):Nat):Int))⟩ :=
      fun s nw q1 q2 q3=>eR_walk1 hg3 q1 q2 (by omega) ⟨q3,by omega⟩ ⟨h2,h3⟩ ⟨by omega,by omega⟩ rfl rfl
    have hr1:i<a'.length→∀(s:Store) (nw:Nat),s.getD 2 .dead=.cells 0 1 [.d (tabD a' b')]→s.getD 0 .dead=.cells 0 1 [.d (.sl 1 (b'.map Rep.to))]→2<s.length→eRCall G s nw g3 [.d (.int .i64 (i+1)),.d (.int .i64 j),.ref 2 0 0 0,.ref 0 0 0 0]=⟨True,[(2,.cells 0 1 [.d (tabD a' b')]),(0,.cells 0 1 [.d (.sl 1 (b'.map Rep.to))])],.d (.int .i64 ((dist (a'.drop (i+1)) (b'.drop j):Nat):Int))⟩ :=
      fun h s nw q1 q2 q3=>eR_walk1 hg3 q1 q2 (by omega) ⟨q3,by omega⟩ ⟨h,h3⟩ ⟨by omega,by omega⟩ rfl rfl
    have db:=(dist_bounds (a'.drop (i+1)) (b'.drop j)).2.2.1
    simp only[List.length_drop] at db
    have e5:=wrap_in (n:=((dist (a'.drop (i+1)) (b'.drop j):Nat):Int)+1) (by omega) (by omega)
    rw[hT2,hs2]
    have hro:room (out.length+1) 16:=by unfold room;omega
    by_cases hi:i<a'.length <;> by_cases hj:j<b'.length
    · have ea:a'.drop i=a'[i]::a'.drop (i+1):=List.drop_eq_getElem_cons hi
      have eb:b'.drop j=b'[j]::b'.drop (j+1):=List.drop_eq_getElem_cons hj
      have c1:a'[i]=b'[j]→out++[(⟨k+i,k+j⟩:SpanT)]++walkV (a'.drop (i+1)) (b'.drop (j+1)) (k+(i+1)) (k+(j+1))=walkV a b 0 0:=by
        intro he
        rw[ea,eb,he,walkV_eq] at h5
        rw[← h5,Int.add_assoc,Int.add_assoc]
        simp
      have c2:a'[i]≠b'[j]→dist (a'.drop (i+1)) (b'.drop j)+1=dist (a'.drop i) (b'.drop j)→out++walkV (a'.drop (i+1)) (b'.drop j) (k+(i+1)) (k+j)=walkV a b 0 0:=by
        intro he hd
        rw[ea,eb,walkV_ne he,← ea,← eb,if_pos hd] at h5
        rw[← h5,Int.add_assoc]
      have c3:a'[i]≠b'[j]→¬(dist (a'.drop (i+1)) (b'.drop j)+1=dist (a'.drop i) (b'.drop j))→out++walkV (a'.drop i) (b'.drop (j+1)) (k+i) (k+(j+1))=walkV a b 0 0:=by
        intro he hd
        rw[ea,eb,walkV_ne he,← ea,← eb,if_neg hd] at h5
        rw[← h5,Int.add_assoc]
      simp[hi,hj,getD_map,pairsOk,e1,e2,e3,e4,e5,hro,eCallv,hr1 hi,hr2]
      refine⟨fun he=>⟨by simp[inScope],out++[⟨k+i,k+j⟩],i+1,j+1,by omega,?_,?_,hi,hj,by simp;omega,c1 he⟩,
        fun he=>⟨fun hd=>⟨by simp[inScope],out,i+1,j,by omega,?_,?_,hi,h3,by omega,c2 he (by omega)⟩,fun hd=>⟨by simp[inScope],out,i,j+1,by omega,?_,?_,h2,hj,h4,c3 he (by omega)⟩⟩⟩
      all_goals first | (rw[hT2];simp;done) | (rw[hs2];simp;done)
    · have hj2:b'.drop j=[]:=List.drop_eq_nil_of_le (by omega)
      rw[hj2,walkV_nil'] at h5
      have hd0:dist (a'.drop (i+1)) (b'.drop j)+1=dist (a'.drop i) (b'.drop j):=by
        rw[hj2,dist_nil',dist_nil',List.length_drop,List.length_drop];omega
      simp[hi,hj,getD_map,pairsOk,e1,e2,e3,e4,e5,hro,eCallv,hr1 hi,hr2]
      refine⟨fun hd=>⟨by simp[inScope],out,i+1,j,by omega,?_,?_,hi,h3,by omega,?_⟩,fun hd=>absurd (by omega) hd⟩
      · rw[hT2];simp
      · rw[hs2];simp
      · rw[hj2,walkV_nil'];exact h5
    · have hi2:a'.drop i=[]:=List.drop_eq_nil_of_le (by omega)
      rw[hi2,walkV_nil] at h5
      simp[hi,hj,getD_map,pairsOk,e1,e2,e3,e4,e5,hro,eCallv,hr2]
      refine⟨by simp[inScope],out,i,j+1,by omega,?_,?_,h2,hj,h4,?_⟩
      · rw[hT2];simp
      · rw[hs2];simp
      · rw[hi2,walkV_nil];exact h5
    · have hi2:a'.drop i=[]:=List.drop_eq_nil_of_le (by omega)
      rw[hi2,walkV_nil,List.append_nil] at h5
      simp[hi,hj,getD_map,pairsOk,e1,e2,e3,e4,e5,hro,eCallv,hr2]
      rw[h5]
def scriptV (a b:List Int):List ChangeT:=madeV (walkV a b 0 0) a.length b.length
def longV (a b:List Int):Prop:=¬(a.length≤4096∧b.length≤4096)
instance (a b:List Int):Decidable (longV a b):=inferInstanceAs (Decidable (¬_))
theorem walkV_asc:∀(a b:List Int) (i j:Int),ascB (walkV a b i j) i j (i+a.length) (j+b.length)=true:=by
  have mono:∀(p:List SpanT) (i j i' j' m n m' n':Int),i'≤i→j'≤j→m≤m'→n≤n'→ascB p i j m n=true→ascB p i' j' m' n'=true:=by
    intro p
    induction p with
    | nil=>intros;rfl
    | cons s p ih =>
      intro i j i' j' m n m' n' h1 h2 h3 h4 h
      simp only[ascB,Bool.and_eq_true,decide_eq_true_eq] at h ⊢
      obtain⟨⟨⟨⟨k1,k2⟩,k3⟩,k4⟩,k5⟩:=h
      exact⟨⟨⟨⟨by omega,by omega⟩,by omega⟩,by omega⟩,ih _ _ _ _ _ _ _ _ (Int.le_refl _) (Int.le_refl _) h3 h4 k5⟩
  intro a b
  generalize hn:a.length+b.length=n
  induction n using Nat.strongRecOn generalizing a b with
  | _ n ih =>
    intro i j
    cases a with
    | nil=>rw[walkV_nil];rfl
    | cons x a =>
      cases b with
      | nil=>rw[walkV_nil'];rfl
      | cons y b =>
        simp only[List.length_cons] at hn ⊢
        by_cases h:x=y
        · subst h
          rw[walkV_eq]
          simp only[ascB,Bool.and_eq_true,decide_eq_true_eq]
          refine⟨⟨⟨⟨by omega,by omega⟩,by omega⟩,by omega⟩,?_⟩
          have:=ih (a.length+b.length) (by omega) a b rfl (i+1) (j+1)
          exact mono _ _ _ _ _ _ _ _ _ (Int.le_refl _) (Int.le_refl _) (by omega) (by omega) this
        · rw[walkV_ne h]
          split
          · have:=ih (a.length+(b.length+1)) (by omega) a (y::b) (by simp) (i+1) j
            simp only[List.length_cons] at this
            exact mono _ _ _ _ _ _ _ _ _ (by omega) (by omega) (by omega) (by omega) this
          · have:=ih ((a.length+1)+b.length) (by omega) (x::a) b (by simp) i (j+1)
            simp only[List.length_cons] at this
            exact mono _ _ _ _ _ _ _ _ _ (by omega) (by omega) (by omega) (by omega) this
theorem walkV_len (a b:List Int) (i j:Int):(walkV a b i j).length≤a.length:=by
  generalize hn:a.length+b.length=n
  induction n using Nat.strongRecOn generalizing a b i j with
  | _ n ih =>
    cases a with
    | nil=>rw[walkV_nil];simp
    | cons x a =>
      cases b with
      | nil=>rw[walkV_nil'];simp
      | cons y b =>
        simp only[List.length_cons] at hn ⊢
        by_cases h:x=y
        · subst h
          rw[walkV_eq]
          have:=ih (a.length+b.length) (by omega) a b (i+1) (j+1) rfl
          simp only[List.length_cons]
          omega
        · rw[walkV_ne h]
          split
          · have:=ih (a.length+(b.length+1)) (by omega) a (y::b) (i+1) j (by simp)
            omega
          · have:=ih ((a.length+1)+b.length) (by omega) (x::a) b i (j+1) (by simp)
            simpa using this
@[simp] def S_shortest_Distance:List D→Prop × D:=spec2 (α:=List Int) (β:=List Int) (fun a b=>a.length≤1048576∧b.length≤1048576) (fun a b=>.tup [.int .i64 (if longV a b then 0 else (dist a b:Nat)),.int .i64 (if longV a b then 1 else 0)])
theorem dist_beg (a b:List Int):dist (a.drop (begV a b)) (b.drop (begV a b))=dist a b:=by
  induction a generalizing b with
  | nil=>simp[begV]
  | cons x a ih =>
    cases b with
    | nil=>simp[begV]
    | cons y b =>
      simp only[begV]
      split
      · rename_i h;subst h;simp only[List.drop_succ_cons,dist_eq,ih b]
      · rfl
theorem ct_shortest_Distance {P:Program} {f g1 g2 g3:Nat} {G:Gam} (h:CodeOf P f 2 6 [2,3] (x_shortest_Distance g1 g2 g3)) (hG:GamOk P G) (hg1:G.find g1=some S_shortest_limited) (hg2:G.find g2=some S_shortest_beginning) (hg3:G.find g3=some S_shortest_distances):Has P f S_shortest_Distance:=h.has2 hG fun a b hp=>by
  obtain⟨ha,hb⟩:=hp
  simp[x_shortest_Distance,hg1]
  have hL:longV a b↔(4096<a.length∨4096<b.length):=by unfold longV;omega
  refine⟨fun h=>?_,fun h1 h2=>?_⟩
  · have:=hL.2 h
    simp[this]
  · have hnl:¬longV a b:=by rw[hL];omega
    obtain⟨b1,b2⟩:=begV_le a b
    have hd:=dist_beg a b
    simp[hg2,hnl]
    refine⟨by omega,?_⟩
    generalize begV a b=k at *
    have ma:(List.take (a.length-k) (List.drop k (List.map Rep.to a)):List D)=(a.drop k).map Rep.to:=by rw[← List.map_drop,List.take_of_length_le (by simp)]
    have mb:(List.take (b.length-k) (List.drop k (List.map Rep.to b)):List D)=(b.drop k).map Rep.to:=by rw[← List.map_drop,List.take_of_length_le (by simp)]
    have hN:0<tabN (a.drop k) (b.drop k):=Nat.mul_pos (by omega) (by omega)
    have hb:=(dist_bounds a b).2.2.1
    have w:=wrap_in (n:=(dist a b:Int)) (by omega) (by omega)
    have h0:restV (a.drop k) (b.drop k) 0=dist a b:=by
      unfold restV
      simp only[Nat.zero_div,Nat.zero_mod,List.drop_zero]
      exact hd
    simp[b1,b2,ma,mb,hg3,tabD,hN,h0,w,pairsOk]
    omega
@[simp] def S_shortest_Script:List D→Prop × D:=spec2 (α:=List Int) (β:=List Int) (fun a b=>a.length≤1048576∧b.length≤1048576) (fun a b=>.tup [Rep.to (if longV a b then [] else scriptV a b),.int .i64 (if longV a b then 1 else 0)])
theorem ct_shortest_Script {P:Program} {f g1 g2 g3:Nat} {G:Gam} (h:CodeOf P f 2 5 [2,3] (x_shortest_Script g1 g2 g3)) (hG:GamOk P G) (hg1:G.find g1=some S_shortest_limited) (hg2:G.find g2=some S_shortest_walk) (hg3:G.find g3=some S_script_FromPairs):Has P f S_shortest_Script:=h.has2 hG fun a b hp=>by
  obtain⟨ha,hb⟩:=hp
  simp[x_shortest_Script,hg1]
  have hL:longV a b↔(4096<a.length∨4096<b.length):=by unfold longV;omega
  refine⟨fun h=>?_,fun h1 h2=>?_⟩
  · have:=hL.2 h
    simp[this]
  · have hnl:¬longV a b:=by rw[hL];omega
    have hw:=walkV_asc a b 0 0
    simp only[Int.zero_add] at hw
    have hl:=walkV_len a b 0 0
    have hfp:fromPairsV (walkV a b 0 0) a.length b.length=(scriptV a b,0):=by
      unfold fromPairsV
      rw[if_neg (by omega),if_pos hw]
      rfl
    simp[hg2,hg3,hnl,h1,h2,hfp]
    omega
@[simp] def S_shortest_Common:List D→Prop × D:=spec2 (α:=List Int) (β:=List Int) (fun a b=>a.length≤1048576∧b.length≤1048576) (fun a b=>.tup [.int .i64 (if longV a b then 0 else ((a.length+b.length-dist a b) / 2:Nat)),.int .i64 (if longV a b then 1 else 0)])
theorem ct_shortest_Common {P:Program} {f g1:Nat} {G:Gam} (h:CodeOf P f 2 7 [2,3] (x_shortest_Common g1)) (hG:GamOk P G) (hg1:G.find g1=some S_shortest_Distance):Has P f S_shortest_Common:=h.has2 hG fun a b hp=>by
  obtain⟨ha,hb⟩:=hp
  by_cases hL:longV a b
  · simp[x_shortest_Common,hg1,hL,ha,hb]
  · have hb2:=(dist_bounds a b).2.2.1
    have w1:=wrap_in (n:=(a.length:Int)+b.length) (by omega) (by omega)
    have w2:=wrap_in (n:=(a.length:Int)+b.length-dist a b) (by omega) (by omega)
    simp[x_shortest_Common,hg1,hL,ha,hb,w1,w2]
    obtain⟨c,hc⟩:∃c,c=a.length+b.length-dist a b:=⟨_,rfl⟩
    rw[← hc,show (a.length:Int)+b.length-dist a b=(c:Int) by omega,Int.tdiv_eq_ediv_of_nonneg (by omega),wrap_in (by omega) (by omega)]
def kindV (kinds:Int):Int:=1+modV kinds 5
def pairA (raw:List Int) (kinds:Int):List Int:=idsG raw 10 (modV (atV raw 0) 13).toNat (kindV kinds)
def pairB (raw:List Int) (kinds:Int):List Int:=idsG raw 40 (modV (atV raw 1) 13).toNat (kindV kinds)
theorem kindV_ok (kinds:Int):1≤kindV kinds∧kindV kinds≤5:=by
  have:=modV_lt kinds (n:=5) (by omega)
  unfold kindV;omega
theorem mod13 (x:Int):0≤modV x 13∧modV x 13≤12:=by
  have:=modV_lt x (n:=13) (by omega)
  omega
theorem pairA_len (raw:List Int) (kinds:Int):(pairA raw kinds).length≤12:=by
  have:=mod13 (atV raw 0)
  unfold pairA;rw[idsG_len];omega
theorem pairB_len (raw:List Int) (kinds:Int):(pairB raw kinds).length≤12:=by
  have:=mod13 (atV raw 1)
  unfold pairB;rw[idsG_len];omega
@[simp] def S_law09_pair:List D→Prop × D:=spec2 (α:=List Int) (β:=Int) (fun raw _=>raw.length≤9223372036854775807) (fun raw kinds=>.tup [Rep.to (pairA raw kinds),Rep.to (pairB raw kinds)])
theorem ct_law09_pair {P:Program} {f g1 g2 g3:Nat} {G:Gam} (h:CodeOf P f 2 4 [2,3] (x_law09_pair g1 g2 g3)) (hG:GamOk P G) (hg1:G.find g1=some S_gen_Mod) (hg2:G.find g2=some S_gen_At) (hg3:G.find g3=some S_gen_Ids):Has P f S_law09_pair:=h.has2 hG fun raw kinds hr=>by
  have hk:=kindV_ok kinds
  have w1:IntKind.i64.wrap (1+modV kinds 5)=kindV kinds:=by unfold kindV at *;exact wrap_in (by omega) (by omega)
  have m0:=mod13 (atV raw 0)
  have m1:=mod13 (atV raw 1)
  simp[x_law09_pair,hg1,hg2,hg3,w1,pairA,pairB]
  omega
@[simp] def S_law09_awake:List D→Prop × D:=spec0 True (Rep.to true)
theorem ct_law09_awake {P:Program} {f g1 g2 g3:Nat} {G:Gam} (h:CodeOf P f 0 5 [0] (x_law09_awake g1 g2 g3)) (hG:GamOk P G) (h1:G.find g1=some S_shortest_Script) (h2:G.find g2=some S_shortest_Distance) (h3:G.find g3=some S_gen_Changes):Has P f S_law09_awake:=h.has0 hG fun _=>by
  have e1:scriptV [1,2,3] [2,4]=[⟨0,1,0,0⟩,⟨2,1,1,1⟩]:=by decide +kernel
  have e2:dist [1,2,3] [2,4]=3:=by decide +kernel
  have e3:¬longV [1,2,3] [2,4]:=by decide
  simp[x_law09_awake,h1,h2,h3,Rep.of,ofAll,e1,e2,e3]
@[simp] def S_law09_ShortestMetric:List D→Prop × D:=spec2 (α:=List Int) (β:=Int) (fun raw _=>raw.length≤9223372036854775807) (fun _ _=>Rep.to true)
theorem ct_law09_ShortestMetric {P:Program} {f g1 g2 g3 g4 g5 g6 g7:Nat} {G:Gam} (h:CodeOf P f 2 16 [2] (x_law09_ShortestMetric g1 g2 g3 g4 g5 g6 g7)) (hG:GamOk P G) (h1:G.find g1=some S_law09_pair) (h2:G.find g2=some S_gen_At) (h3:G.find g3=some S_gen_Mod) (h4:G.find g4=some S_gen_Ids) (h5:G.find g5=some S_shortest_Distance) (h6:G.find g6=some S_gen_Ints) (h7:G.find g7=some S_law09_awake):Has P f S_law09_ShortestMetric:=h.has2 hG fun raw kinds hr=>by
  have hk:=kindV_ok kinds
  have w1:IntKind.i64.wrap (1+modV kinds 5)=kindV kinds:=by unfold kindV at *;exact wrap_in (by omega) (by omega)
  have m2:=mod13 (atV raw 2)
  obtain⟨a,ha⟩:∃a,a=pairA raw kinds:=⟨_,rfl⟩
  obtain⟨b,hb⟩:∃b,b=pairB raw kinds:=⟨_,rfl⟩
  obtain⟨c,hc⟩:∃c,c=idsG raw 70 (modV (atV raw 2) 13).toNat (kindV kinds):=⟨_,rfl⟩
  have la:a.length≤12:=by rw[ha];exact pairA_len raw kinds
  have lb:b.length≤12:=by rw[hb];exact pairB_len raw kinds
  have lc:c.length≤12:=by rw[hc,idsG_len];omega
  have hl:∀x y:List Int,x.length≤12→y.length≤12→¬longV x y:=fun x y h1 h2=>by unfold longV;omega
  have l1:=hl a b la lb
  have l2:=hl b a lb la
  have l3:=hl b c lb lc
  have l4:=hl a c la lc
  have l5:=hl a a la la
  have s1:a.length≤1048576:=by omega
  have s2:b.length≤1048576:=by omega
  have s3:c.length≤1048576:=by omega
  have s4:a.length≤9223372036854775807:=by omega
  have t1:=dist_tri a b c
  have t2:=dist_comm b a
  have t3:=dist_self a
  have t4:=dist_zero (a:=a) (b:=b)
  obtain⟨b1,b2,b3,_⟩:=dist_bounds a b
  obtain⟨b4,b5,b6,_⟩:=dist_bounds b c
  have r1:raw.length≤9223372036854775807:=by omega
  have k1:kindV kinds≤9223372036854775807:=by omega
  have k2:modV (atV raw 2) 13≤1000000:=by omega
  simp[x_law09_ShortestMetric,h1,h2,h3,h4,w1,← ha,← hb,← hc,r1,hr,k1,k2,hk.1]
  simp[h5,h6,h7,l1,l2,l3,l4,l5,s1,s2,s3,s4,t2,t3]
  have w2:=wrap_in (n:=(dist a b:Int)+dist b c) (by omega) (by omega)
  have w3:=wrap_in (n:=max (a.length:Int) b.length-min (a.length:Int) b.length) (by omega) (by omega)
  have w4:=wrap_in (n:=(a.length:Int)+b.length) (by omega) (by omega)
  rw[w2,w3,w4]
  refine⟨fun _=>⟨fun _=>⟨fun _=>by omega,by omega⟩,t4⟩,by omega⟩
theorem law09_ShortestMetric_pre (raw:List Int) (k:Int) (w0:Arg.wf raw) (w1:Arg.wf k):raw.length≤9223372036854775807:=by
  have:=len_wf w0
  omega
end Go.AE
