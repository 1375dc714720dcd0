/-
  Contracts of functions of Go's library.
-/
import Derived.Test.YtgmdpmpmbhahhaaAe3
import Derived.Test.YtgmdpmpmbhahhaaCode1
import Derived.Lib.Bytealg
import Derived.Lib.IndexLaws
import Derived.Lib.Join
import Derived.Lib.Split
import Derived.Lib.SplitLaws
import Derived.Lib.Strings

set_option linter.unusedSimpArgs false
set_option linter.unusedVariables false
set_option linter.unnecessarySimpa false
set_option maxRecDepth 20000
set_option maxHeartbeats 4000000
namespace Go.AE
def dist:List Int→List Int→Nat
  | [],b=>b.length
  | x::a,[]=>a.length+1
  | x::a,y::b=>if x=y then dist a b else 1+min (dist a (y::b)) (dist (x::a) b)
termination_by a b=>a.length+b.length
theorem dist_nil (b:List Int):dist [] b=b.length:=by rw[dist]
theorem dist_nil' (a:List Int):dist a []=a.length:=by cases a <;> rw[dist] <;> rfl
theorem dist_eq (x:Int) (a b:List Int):dist (x::a) (x::b)=dist a b:=by rw[dist];simp
theorem dist_ne {x y:Int} (h:x≠y) (a b:List Int):dist (x::a) (y::b)=1+min (dist a (y::b)) (dist (x::a) b):=by rw[dist];simp[h]
theorem dist_comm:∀a b:List Int,dist a b=dist b a
  | [],b=>by rw[dist_nil,dist_nil']
  | x::a,[]=>by rw[dist_nil,dist_nil']
  | x::a,y::b=>by
    by_cases h:x=y
    · subst h
      rw[dist_eq,dist_eq,dist_comm a b]
    · rw[dist_ne h,dist_ne (Ne.symm h),dist_comm a (y::b),dist_comm (x::a) b,Nat.min_comm]
termination_by a b=>a.length+b.length
theorem dist_steps:∀(n:Nat) (a b:List Int),a.length+b.length≤n→(∀x,dist (x::a) b≤dist a b+1)∧(∀y,dist a b≤dist a (y::b)+1):=by
  intro n
  induction n with
  | zero =>
    intro a b h
    have ha:a=[]:=List.eq_nil_of_length_eq_zero (by omega)
    have hb:b=[]:=List.eq_nil_of_length_eq_zero (by omega)
    subst ha hb
    exact⟨fun x=>by rw[dist_nil',dist_nil];simp,fun y=>by rw[dist_nil];simp⟩
  | succ n ih =>
    intro a b h
    have L:∀y,dist a b≤dist a (y::b)+1:=by
      intro y
      cases a with
      | nil=>rw[dist_nil,dist_nil];simp;omega
      | cons x a =>
        simp only[List.length_cons] at h
        have u:=(ih a b (by omega)).1 x
        have l:=(ih a b (by omega)).2 y
        by_cases hxy:x=y
        · subst hxy
          rw[dist_eq]
          exact u
        · rw[dist_ne hxy]
          omega
    refine⟨fun x=>?_,L⟩
    cases b with
    | nil=>rw[dist_nil',dist_nil'];simp
    | cons y b =>
      simp only[List.length_cons] at h
      by_cases hxy:x=y
      · subst hxy
        rw[dist_eq]
        exact (ih a b (by omega)).2 x
      · rw[dist_ne hxy]
        omega
theorem dist_del (x:Int) (a b:List Int):dist (x::a) b≤dist a b+1:=(dist_steps _ a b (Nat.le_refl _)).1 x
theorem dist_ins (y:Int) (a b:List Int):dist a (y::b)≤dist a b+1:=by rw[dist_comm a,dist_comm a];exact dist_del y b a
inductive Ed:List Int→List Int→Nat→Prop where
  | nil:Ed [] [] 0
  | del (x:Int) {a b:List Int} {n:Nat} (h:Ed a b n):Ed (x::a) b (n+1)
  | ins (y:Int) {a b:List Int} {n:Nat} (h:Ed a b n):Ed a (y::b) (n+1)
  | keep (x:Int) {a b:List Int} {n:Nat} (h:Ed a b n):Ed (x::a) (x::b) n
theorem Ed.le {a b:List Int} {n:Nat} (h:Ed a b n):dist a b≤n:=by
  induction h with
  | nil=>rw[dist_nil];simp
  | del x h ih=>exact Nat.le_trans (dist_del _ _ _) (by omega)
  | ins y h ih=>exact Nat.le_trans (dist_ins _ _ _) (by omega)
  | keep x h ih=>rw[dist_eq];exact ih
theorem ed_dist:∀a b:List Int,Ed a b (dist a b)
  | [],[]=>by rw[dist_nil];exact .nil
  | [],y::b=>by
    have:=ed_dist [] b
    rw[dist_nil] at this ⊢
    exact .ins y this
  | x::a,[]=>by
    have:=ed_dist a []
    rw[dist_nil'] at this ⊢
    exact .del x this
  | x::a,y::b=>by
    by_cases h:x=y
    · subst h
      rw[dist_eq]
      exact .keep x (ed_dist a b)
    · rw[dist_ne h]
      rcases Nat.le_total (dist a (y::b)) (dist (x::a) b) with h1 | h1
      · rw[Nat.min_eq_left h1,Nat.add_comm]
        exact .del x (ed_dist a (y::b))
      · rw[Nat.min_eq_right h1,Nat.add_comm]
        exact .ins y (ed_dist (x::a) b)
termination_by a b=>a.length+b.length
theorem Ed.trans {a b:List Int} {n:Nat} (h:Ed a b n):∀{c:List Int} {m:Nat},Ed b c m→∃k,k≤n+m∧Ed a c k:=by
  induction h with
  | nil=>intro c m k;exact⟨m,by omega,k⟩
  | del x h ih =>
    intro c m k
    obtain⟨j,h1,h2⟩:=ih k
    exact⟨j+1,by omega,.del x h2⟩
  | @ins y a b n h ih =>
    intro c m k
    generalize hb:y::b=b' at k
    induction k with
    | nil=>simp at hb
    | del z k _ =>
      simp at hb
      obtain⟨rfl,rfl⟩:=hb
      obtain⟨j,h1,h2⟩:=ih k
      exact⟨j,by omega,h2⟩
    | ins z k ih2 =>
      obtain⟨j,h1,h2⟩:=ih2 hb
      exact⟨j+1,by omega,.ins z h2⟩
    | keep z k _ =>
      simp at hb
      obtain⟨rfl,rfl⟩:=hb
      obtain⟨j,h1,h2⟩:=ih k
      exact⟨j+1,by omega,.ins y h2⟩
  | @keep x a b n h ih =>
    intro c m k
    generalize hb:x::b=b' at k
    induction k with
    | nil=>simp at hb
    | del z k _ =>
      simp at hb
      obtain⟨rfl,rfl⟩:=hb
      obtain⟨j,h1,h2⟩:=ih k
      exact⟨j+1,by omega,.del x h2⟩
    | ins z k ih2 =>
      obtain⟨j,h1,h2⟩:=ih2 hb
      exact⟨j+1,by omega,.ins z h2⟩
    | keep z k _ =>
      simp at hb
      obtain⟨rfl,rfl⟩:=hb
      obtain⟨j,h1,h2⟩:=ih k
      exact⟨j,by omega,.keep x h2⟩
theorem Ed.len {a b:List Int} {n:Nat} (h:Ed a b n):a.length≤b.length+n∧b.length≤a.length+n∧n≤a.length+b.length∧(a.length+b.length-n) % 2=0:=by
  induction h with
  | nil=>simp
  | del x h ih=>simp only[List.length_cons];omega
  | ins y h ih=>simp only[List.length_cons];omega
  | keep x h ih=>simp only[List.length_cons];omega
theorem dist_bounds (a b:List Int):a.length≤b.length+dist a b∧b.length≤a.length+dist a b∧dist a b≤a.length+b.length∧(a.length+b.length-dist a b) % 2=0:=(ed_dist a b).len
theorem Ed.zero {a b:List Int} {n:Nat} (h:Ed a b n):n=0→a=b:=by
  induction h with
  | nil=>intro _;rfl
  | del x h ih=>intro h;omega
  | ins y h ih=>intro h;omega
  | keep x h ih=>intro h;rw[ih h]
def walkV:List Int→List Int→Int→Int→List SpanT
  | [],_,_,_=>[]
  | x::a,[],_,_=>[]
  | x::a,y::b,i,j=>if x=y then ⟨i,j⟩::walkV a b (i+1) (j+1) else if dist a (y::b)+1=dist (x::a) (y::b) then walkV a (y::b) (i+1) j else walkV (x::a) b i (j+1)
termination_by a b=>a.length+b.length
theorem walkV_nil (b:List Int) (i j:Int):walkV [] b i j=[]:=by rw[walkV]
theorem walkV_nil' (a:List Int) (i j:Int):walkV a [] i j=[]:=by cases a <;> rw[walkV]
theorem walkV_eq (x:Int) (a b:List Int) (i j:Int):walkV (x::a) (x::b) i j=⟨i,j⟩::walkV a b (i+1) (j+1):=by rw[walkV];simp
theorem walkV_ne {x y:Int} (h:x≠y) (a b:List Int) (i j:Int):walkV (x::a) (y::b) i j=if dist a (y::b)+1=dist (x::a) (y::b) then walkV a (y::b) (i+1) j else walkV (x::a) b i (j+1):=by rw[walkV];simp[h]
def chgV:List SpanT→Int→Int→List ChangeT
  | [],_,_=>[]
  | s::q,i,j=>if s.fr > i∨s.to > j then ⟨i,s.fr-i,j,s.to-j⟩::chgV q (s.fr+1) (s.to+1) else chgV q (s.fr+1) (s.to+1)
def madeV (p:List SpanT) (m n:Int):List ChangeT:=chgV (p++[⟨m,n⟩]) 0 0
def numOk (n:Int):Prop:=-1000000≤n∧n≤1000000
def ascB:List SpanT→Int→Int→Int→Int→Bool
  | [],_,_,_,_=>true
  | s::p,i,j,m,n=>decide (i≤s.fr) && decide (s.fr<m) && decide (j≤s.to) && decide (s.to<n) && ascB p (s.fr+1) (s.to+1) m n
theorem ascB_mem:∀{p:List SpanT} {i j m n:Int},ascB p i j m n=true→∀s,s∈p→i≤s.fr∧s.fr<m∧j≤s.to∧s.to<n
  | [],_,_,_,_,_,s,hs=>by simp at hs
  | x::p,i,j,m,n,h,s,hs=>by
    simp only[ascB,Bool.and_eq_true,decide_eq_true_eq] at h
    obtain⟨⟨⟨⟨h1,h2⟩,h3⟩,h4⟩,h5⟩:=h
    rcases List.mem_cons.1 hs with rfl | hs
    · exact⟨h1,h2,h3,h4⟩
    · have:=ascB_mem h5 s hs
      omega
end Go.AE
namespace Go.AE
def scriptV (a b:List Int):List ChangeT:=madeV (walkV a b 0 0) a.length b.length
def longV (a b:List Int):Prop:=¬(a.length≤4096∧b.length≤4096)
instance (a b:List Int):Decidable (longV a b):=inferInstanceAs (Decidable (¬_))
theorem walkV_asc:∀(a b:List Int) (i j:Int),ascB (walkV a b i j) i j (i+a.length) (j+b.length)=true:=by
  have mono:∀(p:List SpanT) (i j i' j' m n m' n':Int),i'≤i→j'≤j→m≤m'→n≤n'→ascB p i j m n=true→ascB p i' j' m' n'=true:=by
    intro p
    induction p with
    | nil=>intros;rfl
    | cons s p ih =>
      intro i j i' j' m n m' n' h1 h2 h3 h4 h
      simp only[ascB,Bool.and_eq_true,decide_eq_true_eq] at h ⊢
      obtain⟨⟨⟨⟨k1,k2⟩,k3⟩,k4⟩,k5⟩:=h
      exact⟨⟨⟨⟨by omega,by omega⟩,by omega⟩,by omega⟩,ih _ _ _ _ _ _ _ _ (Int.le_refl _) (Int.le_refl _) h3 h4 k5⟩
  intro a b
  generalize hn:a.length+b.length=n
  induction n using Nat.strongRecOn generalizing a b with
  | _ n ih =>
    intro i j
    cases a with
    | nil=>rw[walkV_nil];rfl
    | cons x a =>
      cases b with
      | nil=>rw[walkV_nil'];rfl
      | cons y b =>
        simp only[List.length_cons] at hn ⊢
        by_cases h:x=y
        · subst h
          rw[walkV_eq]
          simp only[ascB,Bool.and_eq_true,decide_eq_true_eq]
          refine⟨⟨⟨⟨by omega,by omega⟩,by omega⟩,by omega⟩,?_⟩
          have:=ih (a.length+b.length) (by omega) a b rfl (i+1) (j+1)
          exact mono _ _ _ _ _ _ _ _ _ (Int.le_refl _) (Int.le_refl _) (by omega) (by omega) this
        · rw[walkV_ne h]
          split
          · have:=ih (a.length+(b.length+1)) (by omega) a (y::b) (by simp) (i+1) j
            simp only[List.length_cons] at this
            exact mono _ _ _ _ _ _ _ _ _ (by omega) (by omega) (by omega) (by omega) this
          · have:=ih ((a.length+1)+b.length) (by omega) (x::a) b (by simp) i (j+1)
            simp only[List.length_cons] at this
            exact mono _ _ _ _ _ _ _ _ _ (by omega) (by omega) (by omega) (by omega) this
theorem walkV_len (a b:List Int) (i j:Int):(walkV a b i j).length≤a.length:=by
  generalize hn:a.length+b.length=n
  induction n using Nat.strongRecOn generalizing a b i j with
  | _ n ih =>
    cases a with
    | nil=>rw[walkV_nil];simp
    | cons x a =>
      cases b with
      | nil=>rw[walkV_nil'];simp
      | cons y b =>
        simp only[List.length_cons] at hn ⊢
        by_cases h:x=y
        · subst h
          rw[walkV_eq]
          have:=ih (a.length+b.length) (by omega) a b (i+1) (j+1) rfl
          simp only[List.length_cons]
          omega
        · rw[walkV_ne h]
          split
          · have:=ih (a.length+(b.length+1)) (by omega) a (y::b) (i+1) j (by simp)
            omega
          · have:=ih ((a.length+1)+b.length) (by omega) (x::a) b i (j+1) (by simp)
            simpa using this
def modV (a n:Int):Int:=(a % 18446744073709551616) % n
theorem modV_lt (a:Int) {n:Int} (h:1≤n):0≤modV a n∧modV a n<n:=⟨Int.emod_nonneg _ (by omega),Int.emod_lt_of_pos _ (by omega)⟩
@[simp] def S_gen_Mod:List D→Prop × D:=spec2 (α:=Int) (β:=Int) (fun _ n=>1≤n∧n≤9223372036854775807) (fun a n=>Rep.to (modV a n))
theorem ct_gen_Mod {P:Program} {f:Nat} {G:Gam} (h:CodeOf P f 2 3 [2] x_gen_Mod) (hG:GamOk P G):Has P f S_gen_Mod:=h.has2 hG fun a n hp=>by
  obtain⟨h,h2⟩:=hp
  simp[x_gen_Mod]
  have e1:IntKind.u64.wrap n=n:=by simp[IntKind.wrap,IntKind.bits,IntKind.signed];omega
  have e2:IntKind.u64.wrap a=a % 18446744073709551616:=by simp[IntKind.wrap,IntKind.bits,IntKind.signed]
  rw[e1,e2]
  refine⟨by omega,?_⟩
  have e3:(a % 18446744073709551616).tmod n=modV a n:=by
    rw[Int.tmod_eq_emod_of_nonneg (by omega)];rfl
  have:=modV_lt a h
  rw[e3,wrap_in] <;> omega
def lines:List Str:=[[97],[98],[99],[97,98],[98,97],[],[97,97],[98,32,97],[120,43,121],[92]]
def lineV (k:Int):Str:=lines.getD (modV k 10).toNat []
@[simp] def S_gen_Line:List D→Prop × D:=spec1 (α:=Int) (fun _=>True) (fun a=>Rep.to (lineV a))
theorem ct_gen_Line {P:Program} {f g:Nat} {G:Gam} (h:CodeOf P f 1 2 [1] (x_gen_Line g)) (hG:GamOk P G) (hg:G.find g=some S_gen_Mod):Has P f S_gen_Line:=h.has1 hG fun k _=>by
  simp[x_gen_Line,hg]
  obtain⟨h1,h2⟩:=modV_lt k (n:=10) (by omega)
  refine⟨⟨h1,h2⟩,?_⟩
  unfold lineV
  generalize modV k 10=r at *
  obtain⟨n,rfl⟩:=Int.eq_ofNat_of_zero_le h1
  have hn:n<10:=by omega
  rw[show ([D.str [97],D.str [98],D.str [99],D.str [97,98],D.str [98,97],D.str [],D.str [97,97],D.str [98,32,97],D.str [120,43,121],D.str [92]]:List D)=lines.map Rep.to from rfl]
  have e:((lines.map Rep.to)[(n:Int).toNat]?.getD default:D)=D.str (lines.getD n []):=by
    have hl:n<lines.length:=hn
    simp[hl,List.getD]
  rw[e]
  simp
def xorV (a b:Int):Int:=IntKind.u64.wrap ((a % 2 ^ IntKind.u64.bits).toNat ^^^ (b % 2 ^ IntKind.u64.bits).toNat:Nat)
def hashV (x:Int):Int:=IntKind.u64.wrap (xorV x (x.fdiv (2 ^ min 31 IntKind.u64.bits)) * 13787848793156543929)
def finV (x:Int):Int:=IntKind.i64.wrap ((xorV x (x.fdiv (2 ^ min 29 IntKind.u64.bits))).fdiv (2 ^ min 1 IntKind.u64.bits))
theorem lockT:(fun _:Int=>True)=(fun x:Int=>x=x):=funext fun _=>propext ⟨fun _=>rfl,fun _=>trivial⟩
def lock (v:Int):Int:=(cast (congrArg Subtype lockT) (⟨v,trivial⟩:{_x:Int // True}):{x:Int // x=x}).1
theorem lock_gen {p q:Int→Prop} (h:p=q) (v:Int) (hv:p v):(cast (congrArg Subtype h) (⟨v,hv⟩:Subtype p):Subtype q).1=v:=by subst h;rfl
theorem lock_eq (v:Int):lock v=v:=lock_gen lockT v trivial
def atU (raw:List Int) (k:Int):Int :=
  let x0:=IntKind.u64.wrap (IntKind.u64.wrap (IntKind.i64.wrap (k+1)) * 11400714819323198485)
  finV (hashV (if raw=[] then x0 else xorV x0 (IntKind.u64.wrap (raw.getD (k.toNat % raw.length) 0))))
def atV (raw:List Int) (k:Int):Int:=lock (atU raw k)
theorem atV_eq (raw:List Int) (k:Int):atV raw k=atU raw k:=lock_eq _
theorem atV_range (raw:List Int) (k:Int):0≤atV raw k∧atV raw k≤9223372036854775807:=by
  rw[atV_eq]
  unfold atU
  simp only
  generalize (hashV _)=y
  unfold finV
  have h1:0≤xorV y (y.fdiv (2 ^ min 29 IntKind.u64.bits))∧xorV y (y.fdiv (2 ^ min 29 IntKind.u64.bits))<18446744073709551616:=by
    unfold xorV
    generalize (_ ^^^ _:Nat)=z
    simp[IntKind.wrap,IntKind.bits,IntKind.signed]
    omega
  generalize xorV _ _=z at h1
  have h2:z.fdiv (2 ^ min 1 IntKind.u64.bits)=z / 2:=by
    rw[Int.fdiv_eq_ediv_of_nonneg _ (by simp[IntKind.bits])];rfl
  rw[h2,wrap_in] <;> omega
@[simp] def S_gen_At:List D→Prop × D:=spec2 (α:=List Int) (β:=Int) (fun raw k=>0≤k∧k<9223372036854775807∧raw.length≤9223372036854775807) (fun raw k=>Rep.to (atV raw k))
theorem ct_gen_At {P:Program} {f:Nat} {G:Gam} (h:CodeOf P f 2 5 [2] x_gen_At) (hG:GamOk P G):Has P f S_gen_At:=h.has2 hG fun raw k hp=>by
  obtain⟨h1,h2,h3⟩:=hp
  obtain⟨n,rfl⟩:=Int.eq_ofNat_of_zero_le h1
  simp[x_gen_At]
  refine⟨fun h4=>?_,fun h4=>?_⟩
  · have e:(n:Int).tmod raw.length=((n % raw.length:Nat):Int):=by rw[Int.tmod_eq_emod_of_nonneg (by omega)];simp
    have h5:n % raw.length<raw.length:=Nat.mod_lt _ h4
    have h6:raw≠[]:=by intro h;simp[h] at h4
    have ha:atV raw n=finV (hashV (xorV (IntKind.u64.wrap (IntKind.u64.wrap (IntKind.i64.wrap (n+1)) * 11400714819323198485)) (IntKind.u64.wrap raw[n % raw.length]))):=by
      simp[atV_eq,atU,h6,List.getD,h5]
    rw[e,ha]
    generalize n % raw.length=q at h5
    simp[h5,h6,getD_map]
    rfl
  · rw[atV_eq]
    unfold atU
    simp only[h4,if_true]
    rfl
end Go.AE
namespace Go.AE
end Go.AE
namespace Go.AE
theorem chgV_len:∀(q:List SpanT) (i j:Int),(chgV q i j).length≤q.length
  | [],_,_=>by simp[chgV]
  | s::q,i,j=>by
    have:=chgV_len q (s.fr+1) (s.to+1)
    simp only[chgV]
    split <;> simp <;> omega
theorem scriptV_len (a b:List Int):(scriptV a b).length≤a.length+1:=by
  unfold scriptV madeV
  have h1:=chgV_len (walkV a b 0 0++[⟨a.length,b.length⟩]) 0 0
  have h2:=walkV_len a b 0 0
  simp only[List.length_append,List.length_cons,List.length_nil] at h1
  omega
def inV (n:Int):Bool:=decide (0≤n∧n≤4096)
@[simp] def S_ref08_Made:List D→Prop × D:=spec3 (α:=List SpanT) (β:=Int) (γ:=Int) (fun p m n=>p.length≤100000∧numOk m∧numOk n∧∀s,s∈p→numOk s.fr∧numOk s.to) (fun p m n=>Rep.to (madeV p m n))
theorem ct_ref08_Made {P:Program} {f:Nat} {G:Gam} (h:CodeOf P f 3 12 [3] x_ref08_Made) (hG:GamOk P G):Has P f S_ref08_Made:=h.has3 hG fun p m n hp=>by
  obtain⟨hp,hm,hn,hs⟩:=hp
  simp[x_ref08_Made]
  obtain⟨q,hq⟩:∃q,q=p++[SpanT.mk m n]:=⟨_,rfl⟩
  have hql:q.length=p.length+1:=by rw[hq];simp
  have hqs:∀k (h:k<q.length),numOk q[k].fr∧numOk q[k].to:=by
    intro k h
    have hm':q[k]∈p++[SpanT.mk m n]:=by rw[← hq];exact List.getElem_mem h
    rcases List.mem_append.1 hm' with h1 | h1
    · exact hs _ h1
    · rw[List.mem_singleton.1 h1];exact⟨hm,hn⟩
  have hgoal:madeV p m n=chgV q 0 0:=by rw[hq];rfl
  rw[hgoal]
  obtain⟨Tf,hT⟩:∃Tf:Nat × List ChangeT × Int × Int→List A,∀x,Tf x=[.d (Rep.to p),.d (.int .i64 m),.d (.int .i64 n),.any,.gr 0 4 (x.2.1.map Rep.to),.d (.int .i64 x.2.2.1),.d (.int .i64 x.2.2.2),.d (.int .i64 x.1),.any,.any,.any,.any]:=⟨_,fun _=>rfl⟩
  obtain⟨sf,hsf⟩:∃sf:Nat × List ChangeT × Int × Int→Store,∀x,sf x=[.tip x.2.1.length]:=⟨_,fun _=>rfl⟩
  refine vc_ghost (σ:=Nat × List ChangeT × Int × Int) [true,true,true,false,true,true,true,true] 1 (fun x=>x.1≤q.length∧x.2.1.length≤x.1∧x.2.1++chgV (q.drop x.1) x.2.2.1 x.2.2.2=chgV q 0 0∧-1000001≤x.2.2.1∧x.2.2.1≤1000001∧-1000001≤x.2.2.2∧x.2.2.2≤1000001)
    (fun x=>q.length-x.1) Tf sf (0,[],0,0) (by omega) ?_ ?_ ?_
  · simp[inScope]
  · simp[hT,hsf]
  rintro⟨k,out,i,j⟩ ⟨h1,h2,h3,h4,h5,h6,h7⟩
  simp only at h1 h2 h3 h4 h5 h6 h7
  have w0:=wrap_in (n:=(k:Int)+1) (by omega) (by omega)
  rw[hT,hsf]
  by_cases h8:k<q.length
  · obtain⟨⟨f1,f2⟩,f3,f4⟩:=hqs k h8
    rw[List.drop_eq_getElem_cons h8] at h3
    have hk0:k≤p.length:=by omega
    have hpk:∀h9:k<p.length,p[k]=q[k]:=by intro h9;subst hq;rw[List.getElem_append_left h9]
    have hlast:¬k<p.length→(m=q[k].fr∧n=q[k].to):=by
      intro h9
      have e:k=p.length:=by omega
      subst hq
      subst e
      rw[List.getElem_append_right (Nat.le_refl _)]
      simp
    generalize hg':q[k]=sp at *
    obtain⟨fr,to⟩:=sp
    simp only at f1 f2 f3 f4
    have w1:=wrap_in (n:=fr+1) (by omega) (by omega)
    have w2:=wrap_in (n:=to+1) (by omega) (by omega)
    have w3:=wrap_in (n:=fr-i) (by omega) (by omega)
    have w4:=wrap_in (n:=to-j) (by omega) (by omega)
    have r1:room (out.length+1) 32:=by unfold room;omega
    have c1:(i<fr∨j<to)→out++[(⟨i,fr-i,j,to-j⟩:ChangeT)]++chgV (q.drop (k+1)) (fr+1) (to+1)=chgV q 0 0:=by
      intro h
      rw[← h3]
      simp only[chgV,gt_iff_lt,h,if_true,List.append_assoc,List.cons_append,List.nil_append]
    have c2:¬(i<fr∨j<to)→out++chgV (q.drop (k+1)) (fr+1) (to+1)=chgV q 0 0:=by
      intro h
      rw[← h3]
      simp only[chgV,gt_iff_lt,h,if_false]
    by_cases h9:k<p.length
    · have hpk:=hpk h9
      simp[hk0,h9,getD_map,hpk,inScope,pairsOk,disj,w0,w1,w2,w3,w4]
      refine⟨fun h9=>⟨r1,k+1,by omega,out++[⟨i,fr-i,j,to-j⟩],fr+1,to+1,?_,?_,by omega,by simp;omega,c1 (.inl h9),by omega,by omega,by omega,by omega⟩,
        fun h9=>⟨fun h10=>⟨r1,k+1,by omega,out++[⟨i,fr-i,j,to-j⟩],fr+1,to+1,?_,?_,by omega,by simp;omega,c1 (.inr h10),by omega,by omega,by omega,by omega⟩,
          fun h10=>⟨k+1,by omega,out,fr+1,to+1,?_,?_,by omega,by omega,c2 (by omega),by omega,by omega,by omega,by omega⟩⟩⟩
      all_goals first | (rw[hT];simp;done) | (rw[hsf];simp;done) | (rw[hsf];done)
    · obtain⟨e1,e2⟩:=hlast h9
      simp only at e1 e2
      subst e1 e2
      simp[hk0,h9,getD_map,inScope,pairsOk,disj,w0,w1,w2,w3,w4]
      refine⟨fun h9=>⟨r1,k+1,by omega,out++[⟨i,m-i,j,n-j⟩],m+1,n+1,?_,?_,by omega,by simp;omega,c1 (.inl h9),by omega,by omega,by omega,by omega⟩,
        fun h9=>⟨fun h10=>⟨r1,k+1,by omega,out++[⟨i,m-i,j,n-j⟩],m+1,n+1,?_,?_,by omega,by simp;omega,c1 (.inr h10),by omega,by omega,by omega,by omega⟩,
          fun h10=>⟨k+1,by omega,out,m+1,n+1,?_,?_,by omega,by omega,c2 (by omega),by omega,by omega,by omega,by omega⟩⟩⟩
      all_goals first | (rw[hT];simp;done) | (rw[hsf];simp;done) | (rw[hsf];done)
  · have h9:k=q.length:=by omega
    have h10:¬k≤p.length:=by omega
    have h11:p.length<k:=by omega
    simp[h10,h11]
    subst h9
    rw[List.drop_length] at h3
    simp only[chgV,List.append_nil] at h3
    rw[h3]
def stepV (c:ChangeT) (i j:Int) (first:Bool):Bool :=
  inV c.old && inV c.oldLen && inV c.new && inV c.newLen && !decide (c.oldLen+c.newLen=0) && decide (c.old-i=c.new-j) && decide (i≤c.old) && (first || !decide (c.old=i))
def okV:List ChangeT→Int→Int→Bool→Int→Int→Bool
  | [],i,j,_,m,n=>decide (m-i=n-j) && decide (i≤m)
  | c::l,i,j,first,m,n=>stepV c i j first && okV l (c.old+c.oldLen) (c.new+c.newLen) false m n
def checkV (l:List ChangeT) (m n:Int):Bool:=inV m && inV n && okV l 0 0 true m n
theorem inV_true {n:Int} (h:inV n=true):0≤n∧n≤4096:=by simpa [inV] using h
theorem stepV_true {c:ChangeT} {i j:Int} {fst:Bool} (h:stepV c i j fst=true) :
    (0≤c.old∧c.old≤4096)∧(0≤c.oldLen∧c.oldLen≤4096)∧(0≤c.new∧c.new≤4096)∧(0≤c.newLen∧c.newLen≤4096)∧c.oldLen+c.newLen≠0∧c.old-i=c.new-j∧i≤c.old∧(fst=false→c.old≠i):=by
  simp only[stepV,inV,Bool.and_eq_true,decide_eq_true_eq,Bool.not_eq_true',decide_eq_false_iff_not,Bool.or_eq_true] at h
  obtain⟨⟨⟨⟨⟨⟨⟨h1,h2⟩,h3⟩,h4⟩,h5⟩,h6⟩,h7⟩,h8⟩:=h
  refine⟨h1,h2,h3,h4,h5,h6,h7,fun h=>?_⟩
  rw[h] at h8
  simpa using h8
def runN:Nat→Int→Int→List SpanT
  | 0,_,_=>[]
  | n+1,i,j=>⟨i,j⟩::runN n (i+1) (j+1)
theorem runN_len:∀(n:Nat) (i j:Int),(runN n i j).length=n
  | 0,_,_=>rfl
  | n+1,i,j=>by simp[runN,runN_len n]
theorem runN_snoc:∀(n:Nat) (i j:Int),runN (n+1) i j=runN n i j++[⟨i+n,j+n⟩]
  | 0,i,j=>by simp[runN]
  | n+1,i,j=>by
    rw[runN,runN_snoc n]
    simp only[runN,List.cons_append]
    congr 4 <;> push_cast <;> omega
def matV:List ChangeT→Int→Int→Int→List SpanT
  | [],i,j,m=>runN (m-i).toNat i j
  | c::l,i,j,m=>runN (c.old-i).toNat i j++matV l (c.old+c.oldLen) (c.new+c.newLen) m
theorem matV_len:∀(l:List ChangeT) (i j m n:Int) (fst:Bool),okV l i j fst m n=true→((matV l i j m).length:Int)+i≤m
  | [],i,j,m,n,fst,h=>by
    simp only[okV,Bool.and_eq_true,decide_eq_true_eq] at h
    simp only[matV,runN_len]
    omega
  | c::l,i,j,m,n,fst,h=>by
    simp only[okV,Bool.and_eq_true] at h
    have:=matV_len l _ _ _ _ _ h.2
    have hs:=stepV_true h.1
    simp only[matV,List.length_append,runN_len]
    omega
theorem matV_mem:∀(l:List ChangeT) (i j m n:Int) (fst:Bool),okV l i j fst m n=true→∀s,s∈matV l i j m→i≤s.fr∧s.fr<m∧j≤s.to∧s.to<n:=by
  have run:∀(k:Nat) (i j:Int) (s:SpanT),s∈runN k i j→i≤s.fr∧s.fr<i+k∧s.to-j=s.fr-i:=by
    intro k
    induction k with
    | zero=>intro i j s hs;simp[runN] at hs
    | succ k ih =>
      intro i j s hs
      simp only[runN,List.mem_cons] at hs
      rcases hs with rfl | hs
      · simp;omega
      · have:=ih _ _ _ hs
        push_cast
        omega
  have bound:∀(l:List ChangeT) (i j m n:Int) (fst:Bool),okV l i j fst m n=true→i≤m∧j≤n:=by
    intro l
    induction l with
    | nil =>
      intro i j m n fst h
      simp only[okV,Bool.and_eq_true,decide_eq_true_eq] at h
      omega
    | cons c l ih =>
      intro i j m n fst h
      simp only[okV,Bool.and_eq_true] at h
      have h1:=ih _ _ _ _ _ h.2
      have h2:=stepV_true h.1
      omega
  intro l
  induction l with
  | nil =>
    intro i j m n fst h s hs
    simp only[okV,Bool.and_eq_true,decide_eq_true_eq] at h
    have:=run _ _ _ _ hs
    omega
  | cons c l ih =>
    intro i j m n fst h s hs
    simp only[okV,Bool.and_eq_true] at h
    have h1:=bound _ _ _ _ _ _ h.2
    have h2:=stepV_true h.1
    simp only[matV,List.mem_append] at hs
    rcases hs with hs | hs
    · have:=run _ _ _ _ hs
      omega
    · have:=ih _ _ _ _ _ h.2 s hs
      omega
@[simp] def S_ref08_Matched:List D→Prop × D:=spec2 (α:=List ChangeT) (β:=Int) (fun p m=>p.length≤100000∧∃n,checkV p m n=true) (fun p m=>Rep.to (matV p 0 0 m))
theorem ct_ref08_Matched {P:Program} {f:Nat} {G:Gam} (h:CodeOf P f 2 10 [2] x_ref08_Matched) (hG:GamOk P G):Has P f S_ref08_Matched:=h.has2 hG fun p m hp=>by
  obtain⟨hp,n,hc⟩:=hp
  simp only[checkV,Bool.and_eq_true] at hc
  obtain⟨⟨hm,hn⟩,hok⟩:=hc
  have hm:=inV_true hm
  have hn:=inV_true hn
  simp[x_ref08_Matched]
  obtain⟨R,hR⟩:∃R,R=matV p 0 0 m:=⟨_,rfl⟩
  have hRl:R.length≤4096:=by have:=matV_len _ _ _ _ _ _ hok;rw[hR];omega
  refine vc_lp (σ:=Nat × Int × Int × List SpanT) (fun x=>x.1≤p.length∧0≤x.2.1∧x.2.1≤8192∧0≤x.2.2.1∧x.2.2.1≤8192∧okV (p.drop x.1) x.2.1 x.2.2.1 (decide (x.1=0)) m n=true∧x.2.2.2++matV (p.drop x.1) x.2.1 x.2.2.1 m=R)
    (fun x=>p.length-x.1) (fun x=>[.d (Rep.to p),.d (.int .i64 m),.any,.gr 0 2 (x.2.2.2.map Rep.to),.d (.int .i64 x.2.1),.d (.int .i64 x.2.2.1),.d (.int .i64 x.1),.any,.any,.any])
    (fun x=>[.tip x.2.2.2.length]) (0,0,0,[]) (by simp) (by simp) (by simp[hok,hR]) ?_
  rintro⟨k,i,j,out⟩ ⟨h1,h2,h3,h4,h5,h6,h7⟩
  simp only at h1 h2 h3 h4 h5 h6 h7
  by_cases h8:k<p.length
  · rw[List.drop_eq_getElem_cons h8,okV,Bool.and_eq_true] at h6
    rw[List.drop_eq_getElem_cons h8,matV] at h7
    obtain⟨c,hc⟩:∃c,c=p[k]:=⟨_,rfl⟩
    rw[← hc] at h6 h7
    have hc':p[k]=c:=hc.symm
    obtain⟨o,ol,nw,nl⟩:=c
    obtain⟨hs,h6⟩:=h6
    have hs:=stepV_true hs
    simp only at hs h6 h7
    obtain⟨b1,b2,b3,b4,b5,b6,b7,b8⟩:=hs
    simp[h8]
    refine vc_lp (σ:=Int × Int × List SpanT) (fun x=>0≤x.1∧x.1≤o∧o-x.1=nw-x.2.1∧x.2.2++(runN (o-x.1).toNat x.1 x.2.1++matV (p.drop (k+1)) (o+ol) (nw+nl) m)=R)
      (fun x=>(o-x.1).toNat) (fun x=>[.d (Rep.to p),.d (.int .i64 m),.any,.gr 0 2 (x.2.2.map Rep.to),.d (.int .i64 x.1),.d (.int .i64 x.2.1),.d (.int .i64 k),.any,.any,.any])
      (fun x=>[.tip x.2.2.length]) (i,j,out) (by simp) (by simp) ⟨by omega,by omega,by omega,h7⟩ ?_
    rintro⟨i',j',out'⟩ ⟨g1,g2,g3,g4⟩
    simp only at g1 g2 g3 g4
    have hol:out'.length≤R.length:=by rw[← g4];simp
    by_cases g5:i'<o
    · simp[h8,getD_map,hc',g5]
      simp (disch:=omega) only[wrap_in]
      refine⟨by unfold room;omega,Nxt.mk (i'+1,j'+1,out'++[⟨i',j'⟩]) (by simp;omega) (by simp) (by simp) ⟨by simp;omega,by simp;omega,by simp;omega,?_⟩⟩
      rw[← g4,show (o-i').toNat=(o-(i'+1)).toNat+1 by omega,runN]
      simp
    · have g6:i'=o:=by omega
      have g7:j'=nw:=by omega
      subst g6 g7
      simp[h8,getD_map,hc',pairsOk]
      simp (disch:=omega) only[wrap_in]
      refine Nxt.mk (k+1,i'+ol,j'+nl,out') (by simp;omega) (by simp) (by simp) ⟨by omega,by simp;omega,by simp;omega,by simp;omega,by simp;omega,by simpa using h6,?_⟩
      rw[← g4]
      simp[runN]
  · have h9:k=p.length:=by omega
    subst h9
    rw[List.drop_length,okV,Bool.and_eq_true,decide_eq_true_eq,decide_eq_true_eq] at h6
    rw[List.drop_length,matV] at h7
    simp
    refine vc_lp (σ:=Int × Int × List SpanT) (fun x=>0≤x.1∧x.1≤m∧m-x.1=n-x.2.1∧x.2.2++(runN (m-x.1).toNat x.1 x.2.1)=R)
      (fun x=>(m-x.1).toNat) (fun x=>[.d (Rep.to p),.d (.int .i64 m),.any,.gr 0 2 (x.2.2.map Rep.to),.d (.int .i64 x.1),.d (.int .i64 x.2.1),.any,.any,.any,.any])
      (fun x=>[.tip x.2.2.length]) (i,j,out) (by simp) (by simp) ⟨by dsimp only;omega,by dsimp only;omega,by dsimp only;omega,h7⟩ ?_
    rintro⟨i',j',out'⟩ ⟨g1,g2,g3,g4⟩
    simp only at g1 g2 g3 g4
    have hol:out'.length≤R.length:=by rw[← g4];simp
    by_cases g5:i'<m
    · simp[g5]
      simp (disch:=omega) only[wrap_in]
      refine⟨by unfold room;omega,Nxt.mk (i'+1,j'+1,out'++[⟨i',j'⟩]) (by simp;omega) (by simp) (by simp) ⟨by simp;omega,by simp;omega,by simp;omega,?_⟩⟩
      rw[← g4,show (m-i').toNat=(m-(i'+1)).toNat+1 by omega,runN]
      simp
    · have g6:i'=m:=by omega
      subst g6
      simp[runN] at g4
      simp[g4,← hR]
def fitsV (l:List ChangeT) (a b:List Int):Bool:=checkV l a.length b.length && (matV l 0 0 a.length).all fun s=>decide (a.getD s.fr.toNat 0=b.getD s.to.toNat 0)
def cntV (n:Int):Int:=if inV n then n else 0
def sizeV:List ChangeT→Int × Int
  | []=>(0,0)
  | c::l=>(cntV c.oldLen+(sizeV l).1,cntV c.newLen+(sizeV l).2)
theorem runN_one (i j:Int):runN 1 i j=[⟨i,j⟩]:=rfl
theorem okV_chgV:∀(p:List SpanT) (i j i0 j0 m n:Int) (fst:Bool),0≤i0→i0≤i→i-i0=j-j0→0≤j0→(fst=false→i0<i)→i≤m→j≤n→m≤4096→n≤4096→ascB p i j m n=true →
    okV (chgV (p++[⟨m,n⟩]) i j) i0 j0 fst m n=true∧matV (chgV (p++[⟨m,n⟩]) i j) i0 j0 m=runN (i-i0).toNat i0 j0++p:=by
  intro p
  induction p with
  | nil =>
    intro i j i0 j0 m n fst h1 h2 h3 h4 h5 h6 h7 h8 h9 _
    simp only[List.nil_append,chgV,gt_iff_lt]
    split
    · refine⟨?_,?_⟩
      · have:stepV ⟨i,m-i,j,n-j⟩ i0 j0 fst=true:=by
          cases fst
          · have:=h5 rfl
            simp[stepV,inV]
            omega
          · simp[stepV,inV]
            omega
        simp only[okV,this,Bool.true_and,Bool.and_eq_true,decide_eq_true_eq]
        omega
      · simp only[matV]
        rw[show (m-(i+(m-i))).toNat=0 by omega]
        simp[runN]
    · refine⟨?_,?_⟩
      · simp only[okV,Bool.and_eq_true,decide_eq_true_eq]
        omega
      · simp only[matV]
        rw[show (m-i0).toNat=(i-i0).toNat by omega]
        simp
  | cons s p ih =>
    intro i j i0 j0 m n fst h1 h2 h3 h4 h5 h6 h7 h8 h9 ha
    simp only[ascB,Bool.and_eq_true,decide_eq_true_eq] at ha
    obtain⟨⟨⟨⟨k1,k2⟩,k3⟩,k4⟩,k5⟩:=ha
    obtain⟨fr,to⟩:=s
    simp only at k1 k2 k3 k4 k5
    simp only[List.cons_append,chgV,gt_iff_lt]
    split
    · obtain⟨e1,e2⟩:=ih (fr+1) (to+1) fr to m n false (by omega) (by omega) (by omega) (by omega) (fun _=>by omega) (by omega) (by omega) h8 h9 k5
      have:stepV ⟨i,fr-i,j,to-j⟩ i0 j0 fst=true:=by
        cases fst
        · have:=h5 rfl
          simp[stepV,inV]
          omega
        · simp[stepV,inV]
          omega
      have a1:i+(fr-i)=fr:=by omega
      have a2:j+(to-j)=to:=by omega
      refine⟨?_,?_⟩
      · simp only[okV,this,Bool.true_and,a1,a2]
        exact e1
      · simp only[matV,a1,a2,e2]
        rw[show (fr+1-fr).toNat=1 by omega,runN_one]
        rfl
    · obtain⟨e1,e2⟩:=ih (fr+1) (to+1) i0 j0 m n fst (by omega) (by omega) (by omega) (by omega) (fun _=>by omega) (by omega) (by omega) h8 h9 k5
      refine⟨e1,?_⟩
      rw[e2,show (fr+1-i0).toNat=(i-i0).toNat+1 by omega,runN_snoc,List.append_assoc]
      congr 1
      simp only[List.cons_append,List.nil_append,List.cons.injEq,SpanT.mk.injEq,and_true]
      omega
theorem sizeV_chgV:∀(p:List SpanT) (i j m n:Int),0≤i→0≤j→i≤m→j≤n→m≤4096→n≤4096→ascB p i j m n=true →
    (sizeV (chgV (p++[⟨m,n⟩]) i j)).1=m-i-p.length∧(sizeV (chgV (p++[⟨m,n⟩]) i j)).2=n-j-p.length:=by
  have cnt:∀x:Int,0≤x→x≤4096→cntV x=x:=fun x h1 h2=>by simp[cntV,inV];omega
  intro p
  induction p with
  | nil =>
    intro i j m n h1 h2 h3 h4 h5 h6 _
    simp only[List.nil_append,chgV,gt_iff_lt]
    split
    · simp only[sizeV,cnt (m-i) (by omega) (by omega),cnt (n-j) (by omega) (by omega),List.length_nil]
      omega
    · simp only[sizeV,List.length_nil]
      omega
  | cons s p ih =>
    intro i j m n h1 h2 h3 h4 h5 h6 ha
    simp only[ascB,Bool.and_eq_true,decide_eq_true_eq] at ha
    obtain⟨⟨⟨⟨k1,k2⟩,k3⟩,k4⟩,k5⟩:=ha
    obtain⟨fr,to⟩:=s
    simp only at k1 k2 k3 k4 k5
    have:=ih (fr+1) (to+1) m n (by omega) (by omega) (by omega) (by omega) h5 h6 k5
    simp only[List.cons_append,chgV,gt_iff_lt,List.length_cons]
    split
    · simp only[sizeV,cnt (fr-i) (by omega) (by omega),cnt (to-j) (by omega) (by omega)]
      omega
    · omega
theorem walkV_mem (a b:List Int) (i j:Int):∀s,s∈walkV a b i j→a.getD (s.fr-i).toNat 0=b.getD (s.to-j).toNat 0:=by
  generalize hn:a.length+b.length=n
  induction n using Nat.strongRecOn generalizing a b i j with
  | _ n ih =>
    cases a with
    | nil=>rw[walkV_nil];simp
    | cons x a =>
      cases b with
      | nil=>rw[walkV_nil'];simp
      | cons y b =>
        simp only[List.length_cons] at hn
        have hasc:=walkV_asc (x::a) (y::b) i j
        intro s hs
        by_cases h:x=y
        · subst h
          rw[walkV_eq] at hs
          simp only[List.mem_cons] at hs
          rcases hs with rfl | hs
          · simp
          · have:=ih (a.length+b.length) (by omega) a b (i+1) (j+1) rfl s hs
            have hb:=ascB_mem (walkV_asc a b (i+1) (j+1)) s hs
            rw[show (s.fr-i).toNat=(s.fr-(i+1)).toNat+1 by omega,show (s.to-j).toNat=(s.to-(j+1)).toNat+1 by omega,List.getD_cons_succ,List.getD_cons_succ]
            exact this
        · rw[walkV_ne h] at hs
          split at hs
          · have:=ih (a.length+(b.length+1)) (by omega) a (y::b) (i+1) j (by simp) s hs
            have hb:=ascB_mem (walkV_asc a (y::b) (i+1) j) s hs
            rw[show (s.fr-i).toNat=(s.fr-(i+1)).toNat+1 by omega,List.getD_cons_succ]
            exact this
          · have:=ih ((a.length+1)+b.length) (by omega) (x::a) b i (j+1) (by simp) s hs
            have hb:=ascB_mem (walkV_asc (x::a) b i (j+1)) s hs
            rw[show (s.to-j).toNat=(s.to-(j+1)).toNat+1 by omega,List.getD_cons_succ]
            exact this
theorem script_ok {a b:List Int} (ha:a.length≤4096) (hb:b.length≤4096):checkV (scriptV a b) a.length b.length=true∧matV (scriptV a b) 0 0 a.length=walkV a b 0 0 ∧
    (sizeV (scriptV a b)).1=a.length-(walkV a b 0 0).length∧(sizeV (scriptV a b)).2=b.length-(walkV a b 0 0).length:=by
  have hw:=walkV_asc a b 0 0
  simp only[Int.zero_add] at hw
  have h1:=okV_chgV (walkV a b 0 0) 0 0 0 0 a.length b.length true (by omega) (by omega) (by omega) (by omega) (by simp) (by omega) (by omega) (by omega) (by omega) hw
  have h2:=sizeV_chgV (walkV a b 0 0) 0 0 a.length b.length (by omega) (by omega) (by omega) (by omega) (by omega) (by omega) hw
  refine⟨?_,?_,?_,?_⟩
  · simp only[checkV,Bool.and_eq_true]
    exact⟨⟨by simp[inV];omega,by simp[inV];omega⟩,h1.1⟩
  · exact h1.2
  · rw[show sizeV (scriptV a b)=sizeV (chgV (walkV a b 0 0++[⟨a.length,b.length⟩]) 0 0) from rfl,h2.1]
    omega
  · rw[show sizeV (scriptV a b)=sizeV (chgV (walkV a b 0 0++[⟨a.length,b.length⟩]) 0 0) from rfl,h2.2]
    omega
theorem script_fits {a b:List Int} (ha:a.length≤4096) (hb:b.length≤4096):fitsV (scriptV a b) a b=true:=by
  obtain⟨h1,h2,_⟩:=script_ok ha hb
  simp only[fitsV,h1,h2,Bool.true_and,List.all_eq_true,decide_eq_true_eq]
  intro s hs
  have:=walkV_mem a b 0 0 s hs
  simpa using this
def rowM (a b:List Int) (i:Nat):List Int:=(List.range (b.length+1)).map fun j=>(dist (a.drop i) (b.drop j):Int)
def tabM (a b:List Int):List (List Int):=(List.range (a.length+1)).map (rowM a b)
@[simp] def S_ref09_Table:List D→Prop × D:=spec2 (α:=List Int) (β:=List Int) (fun a b=>a.length≤4096∧b.length≤4096) (fun a b=>Rep.to (tabM a b))
theorem ct_ref09_Table {P:Program} {f:Nat} {G:Gam} (h:CodeOf P f 2 11 [2] x_ref09_Table) (hG:GamOk P G):Has P f S_ref09_Table:=h.has2 hG fun a b hp=>by
  obtain⟨ha,hb⟩:=hp
  have w1:=wrap_in (n:=(b.length:Int)+1) (by omega) (by omega)
  have w2:=wrap_in (n:=(a.length:Int)+1) (by omega) (by omega)
  simp[x_ref09_Table,w1,w2]
  refine⟨⟨by omega,by unfold room;omega,by omega⟩,?_⟩
  obtain⟨out,ho⟩:∃out:Nat→List A,∀i,out i=(List.range (a.length+1)).map (fun k=>if k<i then A.d .nilsl else .d (Rep.to (rowM a b k))):=⟨_,fun _=>rfl⟩
  obtain⟨row,hr⟩:∃row:Nat→Nat→List A,∀i j,row i j=(List.range (b.length+1)).map (fun k=>if k<j then A.d (.int .i64 0) else .d (.int .i64 (dist (a.drop i) (b.drop k):Int))):=⟨_,fun _ _=>rfl⟩
  have hol:∀i,(out i).length=a.length+1:=fun i=>by rw[ho];simp
  have hrl:∀i j,(row i j).length=b.length+1:=fun i j=>by rw[hr];simp
  obtain⟨Tf,hT⟩:∃Tf:Nat→List A,∀i,Tf i=[.d (Rep.to a),.d (Rep.to b),.any,.own 0 0 0 (a.length+1),.d (.int .i64 ((i:Int)-1)),.any,.any,.any,.any,.any,.any]:=⟨_,fun _=>rfl⟩
  obtain⟨sf,hsf⟩:∃sf:Nat→Store,∀i,sf i=[.cells 0 1 (out i)]:=⟨_,fun _=>rfl⟩
  have hoi:∀i,i≤a.length→∀x,((out (i+1)).set i x).getD i .any=x:=by
    intro i hi x
    have:i<((out (i+1)).set i x).length:=by rw[List.length_set,hol];omega
    rw[List.getD,List.getElem?_eq_getElem this]
    simp
  have hos:∀i,i≤a.length→(out (i+1)).set i (.d (Rep.to (rowM a b i)))=out i:=by
    intro i hi
    rw[ho,ho]
    apply List.ext_getElem
    · simp
    · intro k h1 h2
      rw[List.getElem_set]
      simp
      by_cases h3:i=k
      · subst h3;simp
      · by_cases h4:k<i
        · simp[h3,h4,show k<i+1 by omega]
        · simp[h3,h4,show ¬k<i+1 by omega]
  have hon:∀i k,i<k→k≤a.length→(out i).getD k .any=.d (Rep.to (rowM a b k)):=by
    intro i k h1 h2
    rw[ho]
    have:k<a.length+1:=by omega
    simp[List.getD,this,show ¬k<i by omega]
  have hrow:∀k,(rowM a b k).length=b.length+1:=fun k=>by simp[rowM]
  have hrg:∀k j,j≤b.length→((rowM a b k).map Rep.to)[j]?.getD default=D.int .i64 (dist (a.drop k) (b.drop j):Int):=by
    intro k j hj
    have:j<b.length+1:=by omega
    simp[rowM,this]
  have hrr:∀i j k,j≤k→k≤b.length→(row i j)[k]?.getD .any=.d (.int .i64 (dist (a.drop i) (b.drop k):Int)):=by
    intro i j k h1 h2
    have:k<b.length+1:=by omega
    rw[hr]
    simp[this,show ¬k<j by omega]
  have hrs:∀i j,j≤b.length→(row i (j+1)).set j (.d (.int .i64 (dist (a.drop i) (b.drop j):Int)))=row i j:=by
    intro i j hj
    rw[hr,hr]
    apply List.ext_getElem
    · simp
    · intro k h1 h2
      rw[List.getElem_set]
      simp
      by_cases h3:j=k
      · subst h3;simp
      · by_cases h4:k<j
        · simp[h3,h4,show k<j+1 by omega]
        · simp[h3,h4,show ¬k<j+1 by omega]
  have hnx:∀i x,i<a.length→((out (i+1)).set i x)[i+1]?.getD .any=.d (Rep.to (rowM a b (i+1))):=by
    intro i x h1
    have:=hon (i+0) (i+1) (by omega) (by omega)
    rw[List.getElem?_set_ne (by omega),ho]
    have:i+1<a.length+1:=by omega
    simp[this]
  have hng:∀i (h:i+1<(out (i+1)).length),(out (i+1))[i+1]=.d (Rep.to (rowM a b (i+1))):=by
    intro i h
    simp[ho]
  have hrg':∀k j (h:j<(rowM a b k).length),(rowM a b k)[j]=(dist (a.drop k) (b.drop j):Int):=by
    intro k j h
    simp[rowM]
  have hrr':∀i j (h:j<(row i j).length),(row i j)[j]=.d (.int .i64 (dist (a.drop i) (b.drop j):Int)):=by
    intro i j h
    simp[hr]
  have hcm:∀k,k≤a.length→∀j,j≤b.length→dist (a.drop k) (b.drop j)≤10000:=by
    intro k hk j hj
    have:=(dist_bounds (a.drop k) (b.drop j)).2.2.1
    simp at this
    omega
  refine vc_ghostR (σ:=Nat) (fun i=>i≤a.length+1) (fun i=>i) Tf sf (a.length+1) ⟨?_,by omega⟩ ?_
  · rw[hT,hsf]
    refine Re.wf _ [true,true,false,true,true] 1 (by omega) (by simp) (WkS.refl _ _ _) ?_ ?_ ?_
    · simp[inScope]
    · simp
    · simp
      rw[ho]
      apply List.ext_getElem
      · simp
      · intro k h1 h2
        simp at h1
        simp[h1]
  · intro i hi
    rw[hT,hsf]
    rcases i with _ | i
    · simp
      have hoe:out 0=(tabM a b).map (fun x=>A.d (Rep.to x)):=by rw[ho,tabM];simp
      have hol0:=hol 0
      refine⟨?_,?_⟩
      · simp only[bor,List.getD_cons_zero,hoe,List.drop_zero]
        refine⟨trivial,?_⟩
        rw[List.all_eq_true]
        intro x hx
        obtain⟨y,_,rfl⟩:=List.mem_map.1 (List.mem_of_mem_take hx)
        rfl
      · simp only[bor,List.getD_cons_zero,hoe,List.drop_zero]
        rw[List.take_of_length_le (by simp[tabM]),List.map_map]
        simp only[LeD_sl,true_and]
        rfl
    · have w3:((i+1:Nat):Int)-1=(i:Int):=by omega
      have hla:i<a.length+1:=by omega
      simp[w3,w1,hla,hol]
      refine⟨by unfold room;omega,by omega,?_⟩
      obtain⟨T2,hT2⟩:∃Tf:Nat→List A,∀j,Tf j=[.d (Rep.to a),.d (Rep.to b),.any,.own 0 0 0 (a.length+1),.d (.int .i64 i),.d (.int .i64 ((j:Int)-1)),.any,.any,.any,.any,.any]:=⟨_,fun _=>rfl⟩
      obtain⟨s2,hs2⟩:∃sf:Nat→Store,∀j,sf j=[.cells 0 1 ((out (i+1)).set i (.own 1 0 0 (b.length+1))),.cells 0 1 (row i j)]:=⟨_,fun _=>rfl⟩
      refine vc_ghostR (σ:=Nat) (fun j=>j≤b.length+1) (fun j=>j) T2 s2 (b.length+1) ⟨?_,by omega⟩ ?_
      · rw[hT2,hs2]
        refine Re.wf _ [true,true,false,true,true,true] 2 (by omega) (by simp) (WkS.refl _ _ _) ?_ ?_ ?_
        · simp[inScope]
        · simp
        · simp
          rw[hr]
          apply List.ext_getElem
          · simp
          · intro k h1 h2
            simp at h1
            simp[h1]
      · intro j hj
        rw[hT2,hs2]
        rcases j with _ | j
        · have w6:=wrap_in (n:=(i:Int)-1) (by omega) (by omega)
          simp[w6]
          have hrw0:row i 0=(rowM a b i).map (fun x=>A.d (Rep.to x)):=by rw[hr,rowM];simp
          have hfz:(((row i 0).drop 0).take (b.length+1)).all A.isD=true:=by
            rw[hrw0,List.drop_zero,List.take_of_length_le (by simp[hrow]),List.all_eq_true]
            intro x hx
            obtain⟨y,_,rfl⟩:=List.mem_map.1 hx
            rfl
          have hfr:=Fz.own 1 0 1 0 (b.length+1) (row i 0) hfz
          have e0:(((row i 0).drop 0).take (b.length+1)).map A.toD=(rowM a b i).map Rep.to:=by
            rw[hrw0,List.drop_zero,List.take_of_length_le (by simp[hrow]),List.map_map]
            rfl
          rw[e0] at hfr
          refine⟨i,by omega,?_,by omega⟩
          rw[hT,hsf]
          refine Re.trans (Re.freeze (s':=[.cells 0 1 (out i),.dead]) 1 0 1 (row i 0) rfl (FzL.refl _ _ _ _ _) ⟨rfl,?_⟩ rfl) ?_
          · intro k hk h0
            have hk0:k=0:=by simp at hk;omega
            subst hk0
            refine .inr ⟨0,1,_,_,rfl,rfl,by simp[hol],?_⟩
            intro k hk
            rw[← hos i (by omega)]
            have hkl:k<(out (i+1)).length:=by simp at hk;exact hk
            by_cases h1:i=k
            · subst h1
              simp[List.getD,hkl]
              exact hfr
            · simp[List.getD,hkl,List.getElem_set_ne h1]
              simp[ho]
              by_cases h2:k<i+1
              · simp[h2,A.cells]
              · simp[h2,A.cells]
          · refine Re.wf _ [true,true,false,true,true] 1 (by omega) (by simp) (WkS.refl _ _ _) ?_ ?_ ?_
            · simp[inScope]
              intro x hx
              rw[ho] at hx
              obtain⟨y,_,rfl⟩:=List.mem_map.1 hx
              by_cases h1:y<i <;> simp[h1]
            · simp
            · simp
        · have w4:((j+1:Nat):Int)-1=(j:Int):=by omega
          have hlb:j<b.length+1:=by omega
          have fin:∀v:Int,v=(dist (a.drop i) (b.drop j):Int)→∀c1 c2 c3 c4 c5:A,Re 0 [.d (Rep.to a),.d (Rep.to b),.any,.own 0 0 0 (a.length+1),.d (.int .i64 i),.d (.int .i64 ((j:Int)-1)),c1,c2,c3,c4,c5]
              [.cells 0 1 ((out (i+1)).set i (.own 1 0 0 (b.length+1))),.cells 0 1 ((row i (j+1)).set j (.d (.int .i64 v)))] (T2 j) (s2 j):=by
            intro v hv c1 c2 c3 c4 c5
            rw[hv,hrs i j (by omega),hT2,hs2]
            refine Re.wf _ [true,true,false,true,true,true] 2 (by omega) (by simp) (WkS.refl _ _ _) ?_ ?_ ?_
            · simp[inScope]
            · simp
            · simp
          have w5:=wrap_in (n:=(j:Int)-1) (by omega) (by omega)
          by_cases h1:i=a.length
          · subst h1
            simp[w4,hol,hrl,hla,hlb,w5]
            refine⟨by omega,by omega,j,by omega,fin _ ?_ _ _ _ _ _,by omega⟩
            rw[List.drop_length,dist_nil,List.length_drop,wrap_in (n:=(b.length:Int)-j) (by omega) (by omega)]
            omega
          · have h1':¬(i:Int)=a.length:=by omega
            by_cases h2:j=b.length
            · subst h2
              simp[w4,hol,hrl,hla,hlb,w5,h1']
              refine⟨by omega,by omega,b.length,by omega,fin _ ?_ _ _ _ _ _,by omega⟩
              rw[List.drop_length,dist_nil',List.length_drop,wrap_in (n:=(a.length:Int)-i) (by omega) (by omega)]
              omega
            · have h2':¬(j:Int)=b.length:=by omega
              have h3:i<a.length:=by omega
              have h4:j<b.length:=by omega
              have e1:=hnx i (.own 1 0 0 (b.length+1)) h3
              have e2:=hrg (i+1) (j+1) (by omega)
              have e3:=hrg (i+1) j (by omega)
              have e4:=hrr i (j+1) (j+1) (by omega) (by omega)
              by_cases h5:a[i]=b[j]
              · simp[w4,hol,hrl,hla,hlb,w5,h1',h2',h3,h4,getD_map,h5,pairsOk,disj,add1 h3 (by omega),add1 h4 (by omega),hng,hrg',hrow]
                refine⟨by omega,by omega,by omega,by omega,j,by omega,fin _ ?_ _ _ _ _ _,by omega⟩
                rw[List.drop_eq_getElem_cons h3,List.drop_eq_getElem_cons h4,h5,dist_eq]
              · have b1:=hcm (i+1) (by omega) j (by omega)
                have b2:=hcm i (by omega) (j+1) (by omega)
                simp[w4,hol,hrl,hla,hlb,w5,h1',h2',h3,h4,getD_map,h5,pairsOk,disj,add1 h3 (by omega),add1 h4 (by omega),hng,hrg',hrr',hrow]
                refine⟨by omega,by omega,by omega,by omega,by omega,by omega,j,by omega,fin _ ?_ _ _ _ _ _,by omega⟩
                rw[wrap_in (by omega) (by omega),List.drop_eq_getElem_cons h3,List.drop_eq_getElem_cons h4,dist_ne h5,← List.drop_eq_getElem_cons h3,← List.drop_eq_getElem_cons h4]
                omega
@[simp] def S_ref09_long:List D→Prop × D:=spec2 (α:=List Int) (β:=List Int) (fun a b=>a.length≤1048576∧b.length≤1048576) (fun a b=>Rep.to (decide (a.length > 4096∨b.length > 4096)))
theorem ct_ref09_long {P:Program} {f:Nat} {G:Gam} (h:CodeOf P f 2 3 [2] x_ref09_long) (hG:GamOk P G):Has P f S_ref09_long:=h.has2 hG fun a b hp=>by
  by_cases h1:4096<a.length
  · have:(4096:Int)<a.length:=by omega
    simp[x_ref09_long,h1,this]
  · have:¬(4096:Int)<a.length:=by omega
    simp[x_ref09_long,h1,this]
    omega
theorem tabM_len (a b:List Int):(tabM a b).length=a.length+1:=by simp[tabM]
theorem tabM_get (a b:List Int) (i:Nat) (h:i<(tabM a b).length):(tabM a b)[i]=rowM a b i:=by simp[tabM]
theorem rowM_len (a b:List Int) (i:Nat):(rowM a b i).length=b.length+1:=by simp[rowM]
theorem rowM_get (a b:List Int) (i j:Nat) (h:j<(rowM a b i).length):(rowM a b i)[j]=(dist (a.drop i) (b.drop j):Int):=by simp[rowM]
@[simp] def S_ref09_Walk:List D→Prop × D:=spec2 (α:=List Int) (β:=List Int) (fun a b=>a.length≤4096∧b.length≤4096) (fun a b=>Rep.to (scriptV a b))
theorem ct_ref09_Walk {P:Program} {f g1 g2:Nat} {G:Gam} (h:CodeOf P f 2 10 [2] (x_ref09_Walk g1 g2)) (hG:GamOk P G) (hg1:G.find g1=some S_ref09_Table) (hg2:G.find g2=some S_ref08_Made):Has P f S_ref09_Walk:=h.has2 hG fun a b hp=>by
  obtain⟨ha,hb⟩:=hp
  simp[x_ref09_Walk,hg1,hg2]
  refine⟨⟨ha,hb⟩,?_⟩
  have hasc:=walkV_asc a b 0 0
  simp only[Int.zero_add] at hasc
  obtain⟨W,hW⟩:∃W,W=walkV a b 0 0:=⟨_,rfl⟩
  have hWl:W.length≤4096:=by rw[hW];have:=walkV_len a b 0 0;omega
  have hWm:∀s,s∈W→numOk s.fr∧numOk s.to:=by
    intro s hs
    have:=ascB_mem hasc s (by rw[← hW];exact hs)
    unfold numOk
    omega
  have hWs:scriptV a b=madeV W a.length b.length:=by rw[hW];rfl
  obtain⟨Tf,hT⟩:∃Tf:Nat × Nat × List SpanT→List A,∀x,Tf x=[.d (Rep.to a),.d (Rep.to b),.any,.d (Rep.to (tabM a b)),.gr 0 2 (x.2.2.map Rep.to),.d (.int .i64 x.1),.d (.int .i64 x.2.1),.any,.any,.any]:=⟨_,fun _=>rfl⟩
  obtain⟨sf,hsf⟩:∃sf:Nat × Nat × List SpanT→Store,∀x,sf x=[.tip x.2.2.length]:=⟨_,fun _=>rfl⟩
  refine vc_ghost (σ:=Nat × Nat × List SpanT) [true,true,false,true,true,true,true] 1 (fun x=>x.1≤a.length∧x.2.1≤b.length∧x.2.2++walkV (a.drop x.1) (b.drop x.2.1) x.1 x.2.1=W)
    (fun x=>a.length-x.1+(b.length-x.2.1)) Tf sf (0,0,[]) (by omega) (by simp[inScope]) ?_ ?_
  · simp[hT,hsf,hW]
  rintro⟨i,j,out⟩ ⟨h1,h2,h3⟩
  simp only at h1 h2 h3
  rw[hT,hsf]
  have hol:out.length≤W.length:=by rw[← h3];simp
  have r1:room (out.length+1) 16:=by unfold room;omega
  have h7:i<a.length+1:=by omega
  have h8:j<b.length+1:=by omega
  have hcm:∀k l,dist (a.drop k) (b.drop l)≤10000:=by
    intro k l
    have:=(dist_bounds (a.drop k) (b.drop l)).2.2.1
    simp at this
    omega
  have b1:=hcm (i+1) j
  have w7:=wrap_in (n:=(dist (a.drop (i+1)) (b.drop j):Int)+1) (by omega) (by omega)
  by_cases h4:i<a.length
  · have h4':(i:Int)<a.length:=by omega
    by_cases h5:j<b.length
    · have h5':(j:Int)<b.length:=by omega
      by_cases h6:a[i]=b[j]
      · simp[h4,h5,h4',h5',h6,getD_map,inScope,pairsOk,disj,add1 h4 (by omega),add1 h5 (by omega)]
        rw[List.drop_eq_getElem_cons h4,List.drop_eq_getElem_cons h5,h6,walkV_eq] at h3
        refine⟨r1,i+1,j+1,by omega,out++[⟨i,j⟩],by rw[hT];simp,by rw[hsf];simp,by omega,by omega,?_⟩
        rw[← h3]
        simp
      · simp[h4,h5,h4',h5',h6,getD_map,inScope,pairsOk,disj,add1 h4 (by omega),add1 h5 (by omega),tabM_len,tabM_get,rowM_len,rowM_get,h7,h8,w7]
        have e3:walkV (a.drop i) (b.drop j) i j=if dist (a.drop (i+1)) (b.drop j)+1=dist (a.drop i) (b.drop j) then walkV (a.drop (i+1)) (b.drop j) (i+1) j else walkV (a.drop i) (b.drop (j+1)) i (j+1):=by
          rw[List.drop_eq_getElem_cons h4,List.drop_eq_getElem_cons h5,walkV_ne h6]
        rw[e3] at h3
        refine⟨by omega,by omega,by omega,by omega,fun h9=>⟨i+1,j,by omega,out,by rw[hT];simp,by rw[hsf],by omega,by omega,?_⟩,fun h9=>⟨i,j+1,by omega,out,by rw[hT];simp,by rw[hsf],by omega,by omega,?_⟩⟩
        · rw[if_pos (by omega)] at h3
          exact h3
        · rw[if_neg (by omega)] at h3
          exact h3
    · have h5':¬(j:Int)<b.length:=by omega
      simp[h4,h5,h4',h5',getD_map,inScope,pairsOk,disj,add1 h4 (by omega),tabM_len,tabM_get,rowM_len,rowM_get,h7,h8,w7]
      have e1:j=b.length:=by omega
      have e2:dist (a.drop i) (b.drop j)=dist (a.drop (i+1)) (b.drop j)+1:=by
        subst e1
        rw[List.drop_length,dist_nil',dist_nil',List.length_drop,List.length_drop]
        omega
      have e3:walkV (a.drop i) (b.drop j) i j=walkV (a.drop (i+1)) (b.drop j) ((i+1:Nat):Int) j:=by
        subst e1
        rw[List.drop_length,walkV_nil',walkV_nil']
      refine⟨by omega,by omega,by omega,by omega,fun h9=>⟨i+1,j,by omega,out,by rw[hT];simp,by rw[hsf],by omega,by omega,by rw[← h3,e3]⟩,fun h9=>?_⟩
      exact absurd (by rw[e2];push_cast;rfl) h9
  · have h4':¬(i:Int)<a.length:=by omega
    by_cases h5:j<b.length
    · have h5':(j:Int)<b.length:=by omega
      simp[h4,h5,h4',h5',getD_map,inScope,pairsOk,disj,add1 h5 (by omega),tabM_len,tabM_get,rowM_len,rowM_get,h7,h8,w7]
      have e1:i=a.length:=by omega
      subst e1
      rw[List.drop_length,walkV_nil] at h3
      exact⟨a.length,j+1,by omega,out,by rw[hT];simp,by rw[hsf],by omega,by omega,by rw[List.drop_length,walkV_nil];exact h3⟩
    · have h5':¬(j:Int)<b.length:=by omega
      simp[h4,h5,h4',h5',hg2]
      have e1:i=a.length:=by omega
      subst e1
      rw[List.drop_length,walkV_nil,List.append_nil] at h3
      subst h3
      refine⟨⟨by omega,by unfold numOk;omega,by unfold numOk;omega,hWm⟩,?_⟩
      rw[hWs]
@[simp] def S_ref09_Script:List D→Prop × D:=spec2 (α:=List Int) (β:=List Int) (fun a b=>a.length≤4096∧b.length≤4096) (fun a b=>.tup [Rep.to (scriptV a b),.int .i64 0])
theorem ct_ref09_Script {P:Program} {f g1 g2:Nat} {G:Gam} (h:CodeOf P f 2 5 [2,3] (x_ref09_Script g1 g2)) (hG:GamOk P G) (hg1:G.find g1=some S_ref09_long) (hg2:G.find g2=some S_ref09_Walk):Has P f S_ref09_Script:=h.has2 hG fun a b hp=>by
  obtain⟨ha,hb⟩:=hp
  have h1:¬(a.length > 4096∨b.length > 4096):=by omega
  simp[x_ref09_Script,hg1,hg2,h1]
  omega
def orU (a b:Int):Int:=IntKind.u32.wrap (((a % 2 ^ IntKind.u32.bits).toNat ||| (b % 2 ^ IntKind.u32.bits).toNat:Nat):Int)
def hitV (l:List MergedT) (bit:Int) (i e:Nat):List MergedT:=((l.drop i).take (e-i)).map fun m=>⟨m.line,orU m.parents bit⟩
theorem hitV_step {l:List MergedT} {bit:Int} {i e:Nat} (h:i<e) (h2:i<l.length):hitV l bit i e=⟨l[i].line,orU l[i].parents bit⟩::hitV l bit (i+1) e:=by
  unfold hitV
  rw[List.drop_eq_getElem_cons h2,show e-i=(e-(i+1))+1 by omega,List.take_succ_cons,List.map_cons]
theorem hitV_self (l:List MergedT) (bit:Int) (i:Nat):hitV l bit i i=[]:=by simp[hitV]
theorem okV_le:∀(l:List ChangeT) (i j m n:Int) (fst:Bool),okV l i j fst m n=true→i≤m∧j≤n
  | [],i,j,m,n,fst,h=>by
    simp only[okV,Bool.and_eq_true,decide_eq_true_eq] at h
    omega
  | c::l,i,j,m,n,fst,h=>by
    simp only[okV,Bool.and_eq_true] at h
    have h1:=okV_le l _ _ _ _ _ h.2
    have h2:=stepV_true h.1
    omega
def newV (lines:List Int) (bit:Int) (j e:Nat):List MergedT:=((lines.drop j).take (e-j)).map fun x=>⟨x,bit⟩
def oldV (l:List MergedT) (i e:Nat):List MergedT:=(l.drop i).take (e-i)
theorem newV_step {l:List Int} {bit:Int} {i e:Nat} (h:i<e) (h2:i<l.length):newV l bit i e=⟨l[i],bit⟩::newV l bit (i+1) e:=by
  unfold newV
  rw[List.drop_eq_getElem_cons h2,show e-i=(e-(i+1))+1 by omega,List.take_succ_cons,List.map_cons]
theorem oldV_step {l:List MergedT} {i e:Nat} (h:i<e) (h2:i<l.length):oldV l i e=l[i]::oldV l (i+1) e:=by
  unfold oldV
  rw[List.drop_eq_getElem_cons h2,show e-i=(e-(i+1))+1 by omega,List.take_succ_cons]
theorem newV_self (l:List Int) (bit:Int) (i:Nat):newV l bit i i=[]:=by simp[newV]
theorem oldV_self (l:List MergedT) (i:Nat):oldV l i i=[]:=by simp[oldV]
theorem newV_len (l:List Int) (bit:Int) (i e:Nat):(newV l bit i e).length≤e-i:=by simp[newV];omega
theorem oldV_len (l:List MergedT) (i e:Nat):(oldV l i e).length≤e-i:=by simp[oldV];omega
theorem hitV_len (l:List MergedT) (bit:Int) (i e:Nat):(hitV l bit i e).length≤e-i:=by simp[hitV];omega
def mergeS (l:List MergedT) (lines:List Int) (bit:Int):List ChangeT→Nat→List MergedT
  | [],t=>hitV l bit t l.length
  | c::r,t=>hitV l bit t c.old.toNat++oldV l c.old.toNat (c.old+c.oldLen).toNat++newV lines bit c.new.toNat (c.new+c.newLen).toNat++mergeS l lines bit r (c.old+c.oldLen).toNat
theorem mergeS_len (l:List MergedT) (lines:List Int) (bit:Int):∀(r:List ChangeT) (i j:Int) (fst:Bool),0≤i→0≤j→okV r i j fst l.length lines.length=true→(mergeS l lines bit r i.toNat).length+i.toNat+j.toNat≤l.length+lines.length
  | [],i,j,fst,hi,hj,h=>by
    have:=hitV_len l bit i.toNat l.length
    simp only[okV,Bool.and_eq_true,decide_eq_true_eq] at h
    simp only[mergeS]
    omega
  | c::r,i,j,fst,hi,hj,h=>by
    simp only[okV,Bool.and_eq_true] at h
    have h2:=stepV_true h.1
    have h1:=mergeS_len l lines bit r _ _ _ (by omega) (by omega) h.2
    have a1:=hitV_len l bit i.toNat c.old.toNat
    have a2:=oldV_len l c.old.toNat (c.old+c.oldLen).toNat
    have a3:=newV_len lines bit c.new.toNat (c.new+c.newLen).toNat
    simp only[mergeS,List.length_append]
    omega
def mlinesV (l:List MergedT):List Int:=l.map MergedT.line
@[simp] def S_ref15_lines:List D→Prop × D:=spec1 (α:=List MergedT) (fun l=>l.length≤4194304) (fun l=>Rep.to (mlinesV l))
theorem ct_ref15_lines {P:Program} {f:Nat} {G:Gam} (h:CodeOf P f 1 5 [1] x_ref15_lines) (hG:GamOk P G):Has P f S_ref15_lines:=h.has1 hG fun l hl=>by
  simp[x_ref15_lines]
  refine vc_lp (σ:=Nat) (fun k=>k≤l.length) (fun k=>l.length-k) (fun k=>[.d (Rep.to l),.any,.gr 0 1 (((mlinesV l).take k).map Rep.to),.d (.int .i64 k),.any]) (fun k=>[.tip k]) 0 (by simp) (by simp) (by simp) ?_
  intro k hk
  by_cases h1:k<l.length
  · have h2:k<(mlinesV l).length:=by simpa [mlinesV] using h1
    have h3:(mlinesV l)[k]=l[k].line:=by simp[mlinesV]
    have h4:(mlinesV l).length=l.length:=by simp[mlinesV]
    simp[h1,getD_map,add1 h1 (by omega),h4,Nat.min_eq_left (show k≤l.length by omega)]
    refine⟨by unfold room;omega,Nxt.mk (k+1) (by omega) ?_ (by simp) (by omega)⟩
    rw[take_to h2,h3]
    simp
  · have:k=l.length:=by omega
    subst this
    have h4:(mlinesV l).length=l.length:=by simp[mlinesV]
    simp
    rw[List.take_of_length_le (by simp[h4])]
def getU (m p:Int):Int:=IntKind.u32.wrap (((m.fdiv (2 ^ min p.toNat IntKind.u32.bits) % 2 ^ IntKind.u32.bits).toNat &&& 1 % 2 ^ IntKind.u32.bits:Nat):Int)
theorem u32_wrap {n:Nat} (h:n<4294967296):IntKind.u32.wrap ((n:Nat):Int)=n:=by
  simp only[IntKind.wrap,IntKind.bits,IntKind.signed]
  simp
  omega
theorem u64_wrap {n:Nat} (h:n<18446744073709551616):IntKind.u64.wrap ((n:Nat):Int)=n:=by
  simp only[IntKind.wrap,IntKind.bits,IntKind.signed]
  simp
  omega
theorem orU_nat {a b:Nat} (ha:a<4294967296) (hb:b<4294967296):orU a b=((a ||| b:Nat):Int):=by
  have e:(2:Int) ^ IntKind.u32.bits=4294967296:=rfl
  unfold orU
  rw[e]
  have h1:((a:Int) % 4294967296).toNat=a:=by omega
  have h2:((b:Int) % 4294967296).toNat=b:=by omega
  rw[h1,h2,u32_wrap]
  have:(4294967296:Nat)=2 ^ 32:=rfl
  rw[this] at *
  exact Nat.or_lt_two_pow ha hb
theorem getU_nat {m p:Nat} (hm:m<4294967296) (hp:p<32):getU m p=if m.testBit p=true then 1 else 0:=by
  have e:(2:Int) ^ IntKind.u32.bits=4294967296:=rfl
  have e2:(2:Nat) ^ IntKind.u32.bits=4294967296:=rfl
  have e3:min ((p:Int)).toNat IntKind.u32.bits=p:=by simp only[IntKind.bits,Int.toNat_natCast];omega
  unfold getU
  rw[e,e2,e3]
  have h0:((2:Int) ^ p)=((2 ^ p:Nat):Int):=by push_cast;rfl
  have h1:(m:Int).fdiv (2 ^ p)=((m / 2 ^ p:Nat):Int):=by rw[h0,Int.fdiv_eq_ediv_of_nonneg _ (Int.natCast_nonneg _)];rfl
  have h4:m.testBit p=decide ((m / 2 ^ p) % 2=1):=by rw[Nat.testBit_eq_decide_div_mod_eq]
  have hlt:m / 2 ^ p<4294967296:=Nat.lt_of_le_of_lt (Nat.div_le_self _ _) hm
  rw[h1]
  generalize m / 2 ^ p=d at *
  have h2:((d:Int) % 4294967296).toNat=d:=by omega
  rw[h2]
  have h3:d &&& 1 % 4294967296=d % 2:=by simp[Nat.and_one_is_mod]
  rw[h3,u32_wrap (by omega),h4]
  by_cases h5:d % 2=1
  · simp[h5]
  · have:d % 2=0:=by omega
    simp[this]
def hasV (p:Int) (m:MergedT):Bool:=decide (getU m.parents p=1)
def joinV (l:List MergedT) (lines:List Int) (bit:Int):List SpanT→Nat→Nat→List MergedT
  | [],i,j=>oldV l i l.length++newV lines bit j lines.length
  | s::q,i,j=>oldV l i s.fr.toNat++newV lines bit j s.to.toNat++hitV l bit s.fr.toNat (s.fr.toNat+1)++joinV l lines bit q (s.fr.toNat+1) (s.to.toNat+1)
theorem hitV_app {l:List MergedT} {bit:Int} {t i:Nat} (h:t≤i):hitV l bit t (i+1)=hitV l bit t i++hitV l bit i (i+1):=by
  unfold hitV
  rw[← List.map_append,show i+1-t=(i-t)+1 by omega,show i+1-i=1 by omega,List.take_add,List.drop_drop,show t+(i-t)=i by omega]
theorem mergeS_join (l:List MergedT) (lines:List Int) (bit:Int):∀(q:List SpanT) (i j t:Nat),t≤i→i≤l.length→j≤lines.length→ascB q i j l.length lines.length=true →
    mergeS l lines bit (chgV (q++[⟨l.length,lines.length⟩]) i j) t=hitV l bit t i++joinV l lines bit q i j
  | [],i,j,t,h1,h2,h3,_=>by
    simp only[List.nil_append,chgV,gt_iff_lt,joinV]
    split
    · have e1:((i:Int)+((l.length:Int)-i)).toNat=l.length:=by omega
      have e2:((j:Int)+((lines.length:Int)-j)).toNat=lines.length:=by omega
      simp only[mergeS,e1,e2,hitV_self,Int.toNat_natCast,List.append_nil,List.append_assoc]
    · have e1:i=l.length:=by omega
      have e2:j=lines.length:=by omega
      subst e1 e2
      simp[mergeS,oldV_self,newV_self]
  | s::q,i,j,t,h1,h2,h3,ha=>by
    simp only[ascB,Bool.and_eq_true,decide_eq_true_eq] at ha
    obtain⟨⟨⟨⟨k1,k2⟩,k3⟩,k4⟩,k5⟩:=ha
    obtain⟨fr,to⟩:=s
    simp only at k1 k2 k3 k4 k5
    obtain⟨fr,rfl⟩:=Int.eq_ofNat_of_zero_le (show 0≤fr by omega)
    obtain⟨to,rfl⟩:=Int.eq_ofNat_of_zero_le (show 0≤to by omega)
    have c1:((fr:Int)+1)=((fr+1:Nat):Int):=by push_cast;rfl
    have c2:((to:Int)+1)=((to+1:Nat):Int):=by push_cast;rfl
    rw[c1,c2] at k5
    simp only[List.cons_append,chgV,gt_iff_lt,joinV,Int.toNat_natCast]
    split
    · have e1:((i:Int)+((fr:Int)-i)).toNat=fr:=by omega
      have e2:((j:Int)+((to:Int)-j)).toNat=to:=by omega
      simp only[mergeS,e1,e2,Int.toNat_natCast]
      rw[c1,c2,mergeS_join l lines bit q (fr+1) (to+1) fr (by omega) (by omega) (by omega) k5]
      simp only[List.append_assoc]
    · have e1:i=fr:=by omega
      have e2:j=to:=by omega
      subst e1 e2
      rw[c1,c2,mergeS_join l lines bit q (i+1) (j+1) t (by omega) (by omega) (by omega) k5,oldV_self,newV_self,hitV_app h1]
      simp only[List.nil_append,List.append_assoc]
def mergeV (l:List MergedT) (lines:List Int) (bit:Int):List MergedT:=mergeS l lines bit (scriptV (mlinesV l) lines) 0
theorem mlinesV_len (l:List MergedT):(mlinesV l).length=l.length:=by simp[mlinesV]
theorem mergeV_join (l:List MergedT) (lines:List Int) (bit:Int):mergeV l lines bit=joinV l lines bit (walkV (mlinesV l) lines 0 0) 0 0:=by
  have hw:=walkV_asc (mlinesV l) lines 0 0
  simp only[Int.zero_add,mlinesV_len] at hw
  have:=mergeS_join l lines bit (walkV (mlinesV l) lines 0 0) 0 0 0 (by omega) (by omega) (by omega) hw
  rw[hitV_self,List.nil_append] at this
  rw[← this]
  simp[mergeV,scriptV,madeV,mlinesV_len]
theorem mergeV_len {l:List MergedT} {lines:List Int} (bit:Int) (h1:l.length≤4096) (h2:lines.length≤4096):(mergeV l lines bit).length≤l.length+lines.length:=by
  have k:=(script_ok (a:=mlinesV l) (b:=lines) (by rw[mlinesV_len];exact h1) h2).1
  simp only[checkV,Bool.and_eq_true,mlinesV_len] at k
  have:=mergeS_len l lines bit _ 0 0 true (by omega) (by omega) k.2
  simpa [mergeV] using this
def bitV (p:Nat):Int:=IntKind.u32.wrap (2 ^ min p IntKind.u32.bits)
theorem bitN (p:Nat):IntKind.u32.wrap (2 ^ min p IntKind.u32.bits)=bitV p:=rfl
theorem orU_eq (a b:Int):IntKind.u32.wrap (((a % 2 ^ IntKind.u32.bits).toNat ||| (b % 2 ^ IntKind.u32.bits).toNat:Nat):Int)=orU a b:=rfl
theorem bitV_nat {p:Nat} (h:p<32):bitV p=((2 ^ p:Nat):Int):=by
  have h1:min p IntKind.u32.bits=p:=by simp only[IntKind.bits];omega
  have h2:2 ^ p<2 ^ 32:=Nat.pow_lt_pow_right (by omega) h
  unfold bitV
  rw[h1,show ((2:Int) ^ p)=((2 ^ p:Nat):Int) by push_cast;rfl,u32_wrap (by omega)]
@[simp] def S_ref15_join:List D→Prop × D:=spec3 (α:=List MergedT) (β:=List Int) (γ:=Int) (fun l lines p=>l.length≤4096∧lines.length≤4096∧0≤p∧p<32) (fun l lines p=>.tup [Rep.to (mergeV l lines (bitV p.toNat)),.int .i64 0])
theorem ct_ref15_join {P:Program} {f g1 g2 g3:Nat} {G:Gam} (h:CodeOf P f 3 19 [3,4] (x_ref15_join g1 g2 g3)) (hG:GamOk P G) (hg1:G.find g1=some S_ref15_lines) (hg2:G.find g2=some S_ref09_Script) (hg3:G.find g3=some S_ref08_Matched):Has P f S_ref15_join:=h.has3 hG fun l lines p hp=>by
  obtain⟨hl,hn,hp0,hp1⟩:=hp
  obtain⟨p,rfl⟩:=Int.eq_ofNat_of_zero_le hp0
  simp only[Int.toNat_natCast]
  have l1:l.length≤4194304:=by omega
  have hsl:=scriptV_len (mlinesV l) lines
  have hll:=mlinesV_len l
  have l2:(scriptV (mlinesV l) lines).length≤100000:=by omega
  obtain⟨k1,k2,_⟩:=script_ok (a:=mlinesV l) (b:=lines) (by omega) hn
  have k0:∃n,checkV (scriptV (mlinesV l) lines) (l.length:Int) n=true:=⟨lines.length,by rw[hll] at k1;exact k1⟩
  rw[hll] at k2
  have hjn:=mergeV_join l lines (bitV p)
  have hml:=mergeV_len (bitV p) hl hn
  have hwa:=walkV_asc (mlinesV l) lines 0 0
  have hwl:=walkV_len (mlinesV l) lines 0 0
  simp only[Int.zero_add,hll] at hwa
  simp[x_ref15_join,hg1,hg2,hg3,hl,hn,l1,l2,hll,k0,k2]
  generalize walkV (mlinesV l) lines 0 0=q at *
  generalize mergeV l lines (bitV p)=R at *
  refine vc_lp (σ:=Nat × Nat × Nat × List MergedT) (fun x=>x.1≤q.length+1∧x.2.1≤l.length∧x.2.2.1≤lines.length∧(x.1≤q.length→ascB (q.drop x.1) x.2.1 x.2.2.1 l.length lines.length=true∧x.2.2.2++joinV l lines (bitV p) (q.drop x.1) x.2.1 x.2.2.1=R)∧(x.1=q.length+1→x.2.2.2=R)) (fun x=>q.length+1-x.1)
    (fun x=>[.d (Rep.to l),.d (Rep.to lines),.d (.int .i64 p),.any,.any,.any,.any,.d (Rep.to q),.gr 0 2 (x.2.2.2.map Rep.to),.d (.int .i64 x.2.1),.d (.int .i64 x.2.2.1),.d (.int .i64 x.1),.any,.any,.any,.any,.any,.any,.any])
    (fun x=>[.tip x.2.2.2.length]) (0,0,0,[]) (by simp) (by simp) ⟨by simp,by simp,by simp,fun _=>⟨by simpa using hwa,by simp[hjn]⟩,by simp⟩ ?_
  rintro⟨k,i,j,out⟩ ⟨b1,b2,b3,b4,b5⟩
  simp only at b1 b2 b3 b4 b5
  by_cases hk1:k≤q.length
  · obtain⟨b6,b7⟩:=b4 hk1
    have w1:IntKind.i64.wrap ((k:Int)+1)=((k+1:Nat):Int):=by rw[wrap_in (by omega) (by omega)];push_cast;rfl
    by_cases hk:k<q.length
    · rw[List.drop_eq_getElem_cons hk] at b6 b7
      obtain⟨s,hs⟩:∃s,s=q[k]:=⟨_,rfl⟩
      have hs':q[k]=s:=hs.symm
      rw[← hs] at b6 b7
      obtain⟨fr,to⟩:=s
      simp only[ascB,Bool.and_eq_true,decide_eq_true_eq] at b6
      obtain⟨⟨⟨⟨m1,m2⟩,m3⟩,m4⟩,k5⟩:=b6
      obtain⟨fr,rfl⟩:=Int.eq_ofNat_of_zero_le (show 0≤fr by omega)
      obtain⟨to,rfl⟩:=Int.eq_ofNat_of_zero_le (show 0≤to by omega)
      obtain⟨Z,hZ⟩:∃Z,Z=hitV l (bitV p) fr (fr+1)++joinV l lines (bitV p) (q.drop (k+1)) (fr+1) (to+1):=⟨_,rfl⟩
      obtain⟨Z0,hZe⟩:∃Z0,Z0=newV lines (bitV p) j to++Z:=⟨_,rfl⟩
      have hZ0:out++(oldV l i fr++Z0)=R:=by rw[← b7,hZe,hZ];simp only[joinV,Int.toNat_natCast,List.append_assoc]
      have hfl:fr<l.length:=by omega
      have htl:to<lines.length:=by omega
      have hk2:(k:Int)≤q.length:=by omega
      simp[hk1,hk,hs',getD_map]
      refine vc_lp (σ:=Nat × List MergedT) (fun x=>i≤x.1∧x.1≤fr∧x.2++(oldV l x.1 fr++Z0)=R) (fun x=>fr-x.1)
        (fun x=>[.d (Rep.to l),.d (Rep.to lines),.d (.int .i64 p),.any,.any,.any,.any,.d (Rep.to q),.gr 0 2 (x.2.map Rep.to),.d (.int .i64 x.1),.d (.int .i64 j),.d (.int .i64 k),.ref 1 0 0 0,.any,.any,.any,.any,.any,.any])
        (fun x=>[.tip x.2.length,.cells 0 2 [.d (Rep.to (⟨fr,to⟩:SpanT))]]) (i,out) (by simp) (by simp) ⟨by omega,by omega,hZ0⟩ ?_
      rintro⟨i',o1⟩ ⟨d0,d1,d2⟩
      simp only at d0 d1 d2
      have ho1:o1.length≤R.length:=by rw[← d2];simp
      by_cases d3:i'<fr
      · have d4:i'<l.length:=by omega
        simp[d3,d4,getD_map,add1 d4 (by omega)]
        refine⟨by unfold room;omega,Nxt.mk (i'+1,o1++[l[i']]) (by simp;omega) (by simp) (by simp) ⟨by simp;omega,by simp;omega,?_⟩⟩
        rw[← d2,oldV_step d3 d4]
        simp
      · have:i'=fr:=by omega
        subst this
        rw[oldV_self,List.nil_append] at d2
        simp
        refine vc_lp (σ:=Nat × List MergedT) (fun x=>j≤x.1∧x.1≤to∧x.2++(newV lines (bitV p) x.1 to++Z)=R) (fun x=>to-x.1)
          (fun x=>[.d (Rep.to l),.d (Rep.to lines),.d (.int .i64 p),.any,.any,.any,.any,.d (Rep.to q),.gr 0 2 (x.2.map Rep.to),.d (.int .i64 i'),.d (.int .i64 x.1),.d (.int .i64 k),.ref 1 0 0 0,.any,.any,.any,.any,.any,.any])
          (fun x=>[.tip x.2.length,.cells 0 2 [.d (Rep.to (⟨i',to⟩:SpanT))]]) (j,o1) (by simp) (by simp) ⟨by omega,by omega,by rw[← d2,hZe]⟩ ?_
        rintro⟨j',o2⟩ ⟨f0,f1,f2⟩
        simp only at f0 f1 f2
        have ho2:o2.length≤R.length:=by rw[← f2];simp
        by_cases f3:j'<to
        · have f4:j'<lines.length:=by omega
          simp[f3,f4,getD_map,add1 f4 (by omega),u64_wrap (show p<18446744073709551616 by omega),bitN]
          refine⟨by unfold room;omega,Nxt.mk (j'+1,o2++[⟨lines[j'],bitV p⟩]) (by simp;omega) (by simp) (by simp) ⟨by simp;omega,by simp;omega,?_⟩⟩
          rw[← f2,newV_step f3 f4]
          simp
        · have:j'=to:=by omega
          subst this
          rw[newV_self,List.nil_append] at f2
          rw[hZ,hitV_step (by omega) hfl,hitV_self] at f2
          simp[hk,hfl,getD_map,u64_wrap (show p<18446744073709551616 by omega),bitN,w1,add1 hfl (by omega),add1 htl (by omega),orU_eq]
          refine⟨by unfold room;omega,Nxt.mk (k+1,i'+1,j'+1,o2++[⟨l[i'].line,orU l[i'].parents (bitV p)⟩]) (by simp;omega) (by simp) (by simp) ⟨by simp;omega,by simp;omega,by simp;omega,fun _=>⟨?_,?_⟩,fun h=>by simp at h;omega⟩⟩
          · simpa using k5
          · simp only
            rw[← f2]
            simp
    · have hkq:k=q.length:=by omega
      subst hkq
      rw[List.drop_length] at b7
      simp only[joinV] at b7
      obtain⟨fr,hfr⟩:∃fr,fr=l.length:=⟨_,rfl⟩
      obtain⟨to,hto⟩:∃to,to=lines.length:=⟨_,rfl⟩
      obtain⟨Z,hZ⟩:∃Z:List MergedT,Z=[]:=⟨_,rfl⟩
      obtain⟨Z0,hZe⟩:∃Z0,Z0=newV lines (bitV p) j to++Z:=⟨_,rfl⟩
      have hZ0:out++(oldV l i fr++Z0)=R:=by rw[← b7,hZe,hZ,hfr,hto,List.append_nil]
      obtain⟨k,hk⟩:∃k,k=q.length:=⟨_,rfl⟩
      simp[← hfr,← hto,← hk]
      refine vc_lp (σ:=Nat × List MergedT) (fun x=>i≤x.1∧x.1≤fr∧x.2++(oldV l x.1 fr++Z0)=R) (fun x=>fr-x.1)
        (fun x=>[.d (Rep.to l),.d (Rep.to lines),.d (.int .i64 p),.any,.any,.any,.any,.d (Rep.to q),.gr 0 2 (x.2.map Rep.to),.d (.int .i64 x.1),.d (.int .i64 j),.d (.int .i64 k),.ref 1 0 0 0,.any,.any,.any,.any,.any,.any])
        (fun x=>[.tip x.2.length,.cells 0 2 [.agg [.d (.int .i64 fr),.d (.int .i64 to)]]]) (i,out) (by simp) (by simp) ⟨by omega,by omega,hZ0⟩ ?_
      rintro⟨i',o1⟩ ⟨d0,d1,d2⟩
      simp only at d0 d1 d2
      have ho1:o1.length≤R.length:=by rw[← d2];simp
      by_cases d3:i'<fr
      · have d4:i'<l.length:=by omega
        simp[d3,d4,getD_map,add1 d4 (by omega)]
        refine⟨by unfold room;omega,Nxt.mk (i'+1,o1++[l[i']]) (by simp;omega) (by simp) (by simp) ⟨by simp;omega,by simp;omega,?_⟩⟩
        rw[← d2,oldV_step d3 d4]
        simp
      · have:i'=fr:=by omega
        subst this
        rw[oldV_self,List.nil_append] at d2
        simp
        refine vc_lp (σ:=Nat × List MergedT) (fun x=>j≤x.1∧x.1≤to∧x.2++(newV lines (bitV p) x.1 to++Z)=R) (fun x=>to-x.1)
          (fun x=>[.d (Rep.to l),.d (Rep.to lines),.d (.int .i64 p),.any,.any,.any,.any,.d (Rep.to q),.gr 0 2 (x.2.map Rep.to),.d (.int .i64 i'),.d (.int .i64 x.1),.d (.int .i64 k),.ref 1 0 0 0,.any,.any,.any,.any,.any,.any])
          (fun x=>[.tip x.2.length,.cells 0 2 [.agg [.d (.int .i64 i'),.d (.int .i64 to)]]]) (j,o1) (by simp) (by simp) ⟨by omega,by omega,by rw[← d2,hZe]⟩ ?_
        rintro⟨j',o2⟩ ⟨f0,f1,f2⟩
        simp only at f0 f1 f2
        have ho2:o2.length≤R.length:=by rw[← f2];simp
        by_cases f3:j'<to
        · have f4:j'<lines.length:=by omega
          simp[f3,f4,getD_map,add1 f4 (by omega),u64_wrap (show p<18446744073709551616 by omega),bitN]
          refine⟨by unfold room;omega,Nxt.mk (j'+1,o2++[⟨lines[j'],bitV p⟩]) (by simp;omega) (by simp) (by simp) ⟨by simp;omega,by simp;omega,?_⟩⟩
          rw[← f2,newV_step f3 f4]
          simp
        · have:j'=to:=by omega
          subst this
          rw[newV_self,List.nil_append] at f2
          rw[hZ,List.append_nil] at f2
          subst hk
          simp[w1]
          exact Nxt.mk (q.length+1,i',j',o2) (by simp) (by simp) (by simp) ⟨by simp,by simp only;omega,by simp only;omega,fun h=>absurd h (by simp),fun _=>f2⟩
  · have e:k=q.length+1:=by omega
    have:=b5 e
    subst this
    simp[hk1]
def coalO:List (List Int)→Nat→List MergedT→Option (List MergedT)
  | [],_,l=>some l
  | x::r,p,l=>if longV (mlinesV l) x then none else coalO r (p+1) (mergeV l x (bitV p))
def sumL (l:List (List Int)):Nat:=(l.map List.length).sum
def coalD (xs:List (List Int)):D:=match (if 32<xs.length then none else coalO xs 0 []) with
  | some m=>.tup [Rep.to m,.int .i64 0]
  | none=>.tup [Rep.to ([]:List MergedT),.int .i64 1]
theorem sumL_drop {xs:List (List Int)} {k:Nat} (h:k<xs.length):sumL (xs.drop k)=xs[k].length+sumL (xs.drop (k+1)):=by
  unfold sumL
  rw[List.drop_eq_getElem_cons h,List.map_cons,List.sum_cons]
@[simp] def S_ref15_Coalesce:List D→Prop × D:=spec1 (α:=List (List Int)) (fun xs=>sumL xs≤4096∧xs.length≤1048576) (fun xs=>coalD xs)
theorem ct_ref15_Coalesce {P:Program} {f g1:Nat} {G:Gam} (h:CodeOf P f 1 10 [1,2] (x_ref15_Coalesce g1)) (hG:GamOk P G) (hg1:G.find g1=some S_ref15_join):Has P f S_ref15_Coalesce:=h.has1 hG fun xs hp=>by
  obtain⟨hs,hx⟩:=hp
  by_cases h32:32<xs.length
  · have h32':(32:Int)<xs.length:=by omega
    simp[x_ref15_Coalesce,h32',coalD,h32]
  have h32':¬(32:Int)<xs.length:=by omega
  simp[x_ref15_Coalesce,h32',coalD,h32]
  refine vc_lp (σ:=Nat × List MergedT) (fun x=>x.1≤xs.length∧x.2.length+sumL (xs.drop x.1)≤4096∧coalO (xs.drop x.1) x.1 x.2=coalO xs 0 []) (fun x=>xs.length-x.1)
    (fun x=>[.d (Rep.to xs),.any,.any,.d (Rep.to x.2),.d (.int .i64 x.1),.any,.any,.any,.any,.any]) (fun _=>[]) (0,[]) (by simp) (by simp) ⟨by simp,by simpa using hs,rfl⟩ ?_
  rintro⟨k,m⟩ ⟨g1,g2,g3⟩
  simp only at g1 g2 g3
  by_cases h1:k<xs.length
  · have e:=sumL_drop h1
    have hl:¬longV (mlinesV m) xs[k]:=by unfold longV;rw[mlinesV_len];omega
    have hm:=mergeV_len (l:=m) (lines:=xs[k]) (bitV k) (by omega) (by omega)
    rw[List.drop_eq_getElem_cons h1,coalO,if_neg hl] at g3
    simp[h1,getD_map,hg1,add1 h1 (by omega)]
    refine⟨⟨by omega,by omega,by omega⟩,Nxt.mk (k+1,mergeV m xs[k] (bitV k)) (by simp;omega) (by simp) (by simp) ⟨by simp;omega,by simp only;omega,g3⟩⟩
  · have h9:k=xs.length:=by omega
    subst h9
    rw[List.drop_length,coalO] at g3
    simp[← g3]
end Go.AE
namespace Go.AE
def okM (p:Nat) (m:MergedT):Prop:=∃k:Nat,m.parents=(k:Int)∧0<k∧k<2 ^ p
theorem pow_le {p:Nat} (h:p≤32):2 ^ p≤4294967296:=by
  have:(4294967296:Nat)=2 ^ 32:=rfl
  rw[this]
  exact Nat.pow_le_pow_right (by omega) h
theorem okM_old {p:Nat} {m:MergedT} (h:okM p m) (hp:p<32):okM (p+1) m∧hasV p m=false:=by
  obtain⟨k,h1,h2,h3⟩:=h
  have h4:=pow_le (p:=p) (by omega)
  refine⟨⟨k,h1,h2,by rw[Nat.pow_succ];omega⟩,?_⟩
  simp only[hasV,h1,getU_nat (m:=k) (p:=p) (by omega) hp,Nat.testBit_lt_two_pow h3]
  decide
theorem okM_new {p:Nat} (x:Int) (hp:p<32):okM (p+1) ⟨x,bitV p⟩∧hasV p ⟨x,bitV p⟩=true∧∀b:Nat,b<p→hasV b ⟨x,bitV p⟩=false:=by
  have h4:=pow_le (p:=p+1) (by omega)
  have h5:0<2 ^ p:=Nat.pow_pos (by omega)
  rw[Nat.pow_succ] at h4
  refine⟨⟨2 ^ p,bitV_nat hp,h5,by rw[Nat.pow_succ];omega⟩,?_,fun b hb=>?_⟩
  · simp only[hasV,bitV_nat hp,getU_nat (m:=2 ^ p) (p:=p) (by omega) hp,Nat.testBit_two_pow_self]
    decide
  · simp only[hasV,bitV_nat hp,getU_nat (m:=2 ^ p) (p:=b) (by omega) (by omega),Nat.testBit_two_pow_of_ne (show p≠b by omega)]
    decide
theorem okM_hit {p:Nat} {m:MergedT} (h:okM p m) (hp:p<32):okM (p+1) ⟨m.line,orU m.parents (bitV p)⟩∧hasV p ⟨m.line,orU m.parents (bitV p)⟩=true∧∀b:Nat,b<p→hasV b ⟨m.line,orU m.parents (bitV p)⟩=hasV b m:=by
  obtain⟨k,h1,h2,h3⟩:=h
  have h4:=pow_le (p:=p+1) (by omega)
  have h5:0<2 ^ p:=Nat.pow_pos (by omega)
  rw[Nat.pow_succ] at h4
  have h6:k ||| 2 ^ p<2 ^ (p+1):=Nat.or_lt_two_pow (by rw[Nat.pow_succ];omega) (by rw[Nat.pow_succ];omega)
  have e:orU m.parents (bitV p)=((k ||| 2 ^ p:Nat):Int):=by rw[h1,bitV_nat hp,orU_nat (by omega) (by omega)]
  have h7:k≤k ||| 2 ^ p:=Nat.left_le_or
  rw[Nat.pow_succ] at h6
  refine⟨⟨k ||| 2 ^ p,e,by omega,by rw[Nat.pow_succ];exact h6⟩,?_,fun b hb=>?_⟩
  · simp only[hasV,e,getU_nat (m:=k ||| 2 ^ p) (p:=p) (by omega) hp,Nat.testBit_or,Nat.testBit_two_pow_self,Bool.or_true]
    decide
  · simp only[hasV]
    rw[e,getU_nat (m:=k ||| 2 ^ p) (p:=b) (by omega) (by omega),h1,getU_nat (m:=k) (p:=b) (by omega) (by omega),Nat.testBit_or,Nat.testBit_two_pow_of_ne (show p≠b by omega),Bool.or_false]
def prB (b:Nat) (l:List MergedT):List Int:=mlinesV (l.filter (hasV b))
theorem prB_app (b:Nat) (l m:List MergedT):prB b (l++m)=prB b l++prB b m:=by simp[prB,mlinesV]
theorem prB_none {b:Nat} {l:List MergedT} (h:∀m,m∈l→hasV b m=false):prB b l=[]:=by
  have:l.filter (hasV b)=[]:=List.filter_eq_nil_iff.2 fun m hm=>by rw[h m hm];simp
  simp[prB,this,mlinesV]
theorem prB_all {b:Nat} {l:List MergedT} (h:∀m,m∈l→hasV b m=true):prB b l=mlinesV l:=by
  have:l.filter (hasV b)=l:=List.filter_eq_self.2 h
  simp[prB,this]
theorem newV_mem {lines:List Int} {bit:Int} {i e:Nat} {m:MergedT} (h:m∈newV lines bit i e):∃x,m=⟨x,bit⟩:=by
  simp only[newV,List.mem_map] at h
  obtain⟨x,_,rfl⟩:=h
  exact⟨x,rfl⟩
theorem oldV_mem {l:List MergedT} {i e:Nat} {m:MergedT} (h:m∈oldV l i e):m∈l:=List.mem_of_mem_drop (List.mem_of_mem_take h)
theorem newV_lines (lines:List Int) (bit:Int) (i e:Nat):mlinesV (newV lines bit i e)=(lines.drop i).take (e-i):=by
  have:(MergedT.line ∘ fun x=>(⟨x,bit⟩:MergedT))=id:=rfl
  simp only[mlinesV,newV,List.map_map,this,List.map_id]
theorem hitV_one {l:List MergedT} {bit:Int} {i:Nat} (h:i<l.length):hitV l bit i (i+1)=[⟨l[i].line,orU l[i].parents bit⟩]:=by rw[hitV_step (by omega) h,hitV_self]
theorem joinV_ok {l:List MergedT} {lines:List Int} {p:Nat} (hp:p<32) (hl:∀m,m∈l→okM p m):∀(q:List SpanT) (i j:Nat),i≤l.length→j≤lines.length→ascB q i j l.length lines.length=true →
    (∀s,s∈q→(mlinesV l).getD s.fr.toNat 0=lines.getD s.to.toNat 0) →
    (∀m,m∈joinV l lines (bitV p) q i j→okM (p+1) m)∧(∀b,b<p→prB b (joinV l lines (bitV p) q i j)=prB b (l.drop i))∧prB p (joinV l lines (bitV p) q i j)=lines.drop j∧l.length≤(joinV l lines (bitV p) q i j).length+i
  | [],i,j,hi,hj,_,_=>by
    have e:oldV l i l.length=l.drop i:=by unfold oldV;exact List.take_of_length_le (by simp)
    have en:mlinesV (newV lines (bitV p) j lines.length)=lines.drop j:=by rw[newV_lines,List.take_of_length_le (by simp)]
    simp only[joinV,e]
    refine⟨fun m hm=>?_,fun b hb=>?_,?_,by simp;omega⟩
    · rcases List.mem_append.1 hm with hm | hm
      · exact (okM_old (hl m (List.mem_of_mem_drop hm)) hp).1
      · obtain⟨x,rfl⟩:=newV_mem hm
        exact (okM_new x hp).1
    · rw[prB_app,prB_none (l:=newV _ _ _ _) fun m hm=>?_,List.append_nil]
      obtain⟨x,rfl⟩:=newV_mem hm
      exact (okM_new x hp).2.2 b hb
    · rw[prB_app,prB_none fun m hm=>(okM_old (hl m (List.mem_of_mem_drop hm)) hp).2,List.nil_append,prB_all fun m hm=>?_,en]
      obtain⟨x,rfl⟩:=newV_mem hm
      exact (okM_new x hp).2.1
  | s::q,i,j,hi,hj,ha,hm=>by
    simp only[ascB,Bool.and_eq_true,decide_eq_true_eq] at ha
    obtain⟨⟨⟨⟨k1,k2⟩,k3⟩,k4⟩,k5⟩:=ha
    have hms:=hm s (by simp)
    obtain⟨fr,to⟩:=s
    simp only at k1 k2 k3 k4 k5 hms
    obtain⟨fr,rfl⟩:=Int.eq_ofNat_of_zero_le (show 0≤fr by omega)
    obtain⟨to,rfl⟩:=Int.eq_ofNat_of_zero_le (show 0≤to by omega)
    have c1:((fr:Int)+1)=((fr+1:Nat):Int):=by push_cast;rfl
    have c2:((to:Int)+1)=((to+1:Nat):Int):=by push_cast;rfl
    rw[c1,c2] at k5
    have hf:fr<l.length:=by omega
    have ht:to<lines.length:=by omega
    obtain⟨i1,i2,i3,i4⟩:=joinV_ok hp hl q (fr+1) (to+1) (by omega) (by omega) k5 fun s hs=>hm s (by simp[hs])
    have hok:=okM_hit (hl l[fr] (List.getElem_mem hf)) hp
    simp only[Int.toNat_natCast] at hms
    have hms':l[fr].line=lines[to]:=by simpa [List.getD,mlinesV,hf,ht] using hms
    simp only[joinV,Int.toNat_natCast,hitV_one hf]
    have eo:l.drop i=oldV l i fr++l[fr]::l.drop (fr+1):=by
      rw[← List.drop_eq_getElem_cons hf]
      unfold oldV
      rw[show l.drop fr=(l.drop i).drop (fr-i) by rw[List.drop_drop,show i+(fr-i)=fr by omega],List.take_append_drop]
    have en:lines.drop j=mlinesV (newV lines (bitV p) j to)++lines[to]::lines.drop (to+1):=by
      rw[newV_lines,← List.drop_eq_getElem_cons ht,show lines.drop to=(lines.drop j).drop (to-j) by rw[List.drop_drop,show j+(to-j)=to by omega],List.take_append_drop]
    refine⟨fun m hm=>?_,fun b hb=>?_,?_,?_⟩
    · simp only[List.mem_append,List.mem_singleton] at hm
      rcases hm with ((hm | hm) | rfl) | hm
      · exact (okM_old (hl m (oldV_mem hm)) hp).1
      · obtain⟨x,rfl⟩:=newV_mem hm
        exact (okM_new x hp).1
      · exact hok.1
      · exact i1 m hm
    · rw[prB_app,prB_app,prB_app,i2 b hb,prB_none (l:=newV _ _ _ _) fun m hm=>?_,List.append_nil,eo]
      · rw[show l[fr]::l.drop (fr+1)=[l[fr]]++l.drop (fr+1) from rfl,prB_app,prB_app,List.append_assoc]
        congr 2
        simp only[prB,List.filter_cons,List.filter_nil,hok.2.2 b hb]
        split <;> rfl
      · obtain⟨x,rfl⟩:=newV_mem hm
        exact (okM_new x hp).2.2 b hb
    · rw[prB_app,prB_app,prB_app,i3,prB_none (l:=oldV _ _ _) fun m hm=>(okM_old (hl m (oldV_mem hm)) hp).2,List.nil_append,prB_all (l:=newV _ _ _ _) fun m hm=>?_,en,List.append_assoc]
      · congr 1
        have h9:=hok.2.1
        rw[hms'] at h9
        simp only[prB,hms',List.filter_cons,List.filter_nil,h9,if_true,mlinesV,List.map_cons,List.map_nil]
        rfl
      · obtain⟨x,rfl⟩:=newV_mem hm
        exact (okM_new x hp).2.1
    · have:(oldV l i fr).length=fr-i:=by simp[oldV];omega
      simp only[List.length_append,List.length_cons,List.length_nil,this]
      omega
theorem mergeV_ok {l:List MergedT} {lines:List Int} {p:Nat} (hp:p<32) (hl:∀m,m∈l→okM p m) :
    (∀m,m∈mergeV l lines (bitV p)→okM (p+1) m)∧(∀b,b<p→prB b (mergeV l lines (bitV p))=prB b l)∧prB p (mergeV l lines (bitV p))=lines∧l.length≤(mergeV l lines (bitV p)).length:=by
  have hw:=walkV_asc (mlinesV l) lines 0 0
  simp only[Int.zero_add,mlinesV_len] at hw
  have:=joinV_ok (lines:=lines) hp hl (walkV (mlinesV l) lines 0 0) 0 0 (by omega) (by omega) hw fun s hs=>by
    have:=walkV_mem (mlinesV l) lines 0 0 s hs
    simpa using this
  rw[mergeV_join]
  simpa using this
structure CoalOk (ys:List (List Int)) (l:List MergedT):Prop where
  ok:∀m,m∈l→okM ys.length m
  pr:∀b (h:b<ys.length),prB b l=ys[b]
  len:l.length≤sumL ys
theorem sumL_app (a b:List (List Int)):sumL (a++b)=sumL a+sumL b:=by simp[sumL]
theorem coalO_ok:∀(xs ys:List (List Int)) (l:List MergedT),ys.length+xs.length≤32→sumL ys+sumL xs≤4096→CoalOk ys l→∃m,coalO xs ys.length l=some m∧CoalOk (ys++xs) m
  | [],ys,l,_,_,h=>⟨l,rfl,by rw[List.append_nil];exact h⟩
  | x::xs,ys,l,h1,h2,h=>by
    have e:sumL (x::xs)=x.length+sumL xs:=by simp[sumL]
    have hlen:=h.len
    simp only[List.length_cons] at h1
    have hl:¬longV (mlinesV l) x:=by unfold longV;rw[mlinesV_len];omega
    obtain⟨k1,k2,k3,k4⟩:=mergeV_ok (lines:=x) (p:=ys.length) (by omega) h.ok
    have hm:=mergeV_len (l:=l) (lines:=x) (bitV ys.length) (by omega) (by omega)
    have hs:sumL [x]=x.length:=by simp[sumL]
    obtain⟨m,m1,m2⟩:=coalO_ok xs (ys++[x]) (mergeV l x (bitV ys.length)) (by simp;omega) (by rw[sumL_app,hs];omega) ⟨by simpa using k1,fun b hb=>by
      simp at hb
      by_cases hb2:b<ys.length
      · rw[List.getElem_append_left hb2,← h.pr b hb2]
        exact k2 b hb2
      · have:b=ys.length:=by omega
        subst this
        simp[k3],by rw[sumL_app,hs];omega⟩
    refine⟨m,?_,by simpa using m2⟩
    simp only[coalO,hl,if_false]
    simpa using m1
def placeV (l:List Str) (x:Str):Int:=match l.findIdx? (· == x) with | some i=>(i:Int) | none=>-1
theorem placeV_some {l:List Str} {x:Str} {i:Nat} (h:i<l.length) (h1:l[i]=x) (h2:∀k (h:k<l.length),k<i→l[k]≠x):placeV l x=i:=by
  have:l.findIdx? (· == x)=some i:=by
    rw[List.findIdx?_eq_some_iff_getElem]
    exact⟨h,by simpa using h1,fun j hj=>by simpa using h2 j (by omega) hj⟩
  simp[placeV,this]
theorem placeV_none {l:List Str} {x:Str} (h2:∀k (h:k<l.length),l[k]≠x):placeV l x=-1:=by
  have:l.findIdx? (· == x)=none:=by
    rw[List.findIdx?_eq_none_iff]
    intro y hy
    obtain⟨k,hk,rfl⟩:=List.getElem_of_mem hy
    simpa using h2 k hk
  simp[placeV,this]
@[simp] def S_ref03_place:List D→Prop × D:=spec2 (α:=List Str) (β:=Str) (fun a _=>a.length≤9223372036854775807) (fun a b=>Rep.to (placeV a b))
theorem ct_ref03_place {P:Program} {f:Nat} {G:Gam} (h:CodeOf P f 2 6 [2] x_ref03_place) (hG:GamOk P G):Has P f S_ref03_place:=h.has2 hG fun l x h=>by
  simp[x_ref03_place]
  refine vc_ghost (σ:=Nat) [true,true,false,true] 0 (fun i=>i≤l.length∧∀k (h:k<l.length),k<i→l[k]≠x) (fun i=>l.length-i) (fun i=>[.d (Rep.to l),.d (Rep.to x),.any,.d (.int .i64 i),.any,.any]) (fun i=>[]) 0 (Nat.le_refl _) (by simp) (by simp) ?_
  rintro i ⟨hm,hi⟩
  simp
  refine⟨fun h2=>?_,fun h2=>?_⟩
  · simp[getD_map,h2,add1 h2 h]
    refine⟨fun h3=>(placeV_some h2 h3 hi).symm,fun h3=>⟨i+1,by omega,by simp,by omega,fun k k1 k2=>?_⟩⟩
    rcases Nat.lt_or_ge k i with k4 | k4
    · exact hi k k1 k4
    · have:k=i:=by omega
      subst this
      exact h3
  · exact (placeV_none fun k k1=>hi k k1 (by omega)).symm
def addV (out:List Str) (x:Str):List Str:=if x∈out then out else out++[x]
def namesV (l:List (List Str)):List Str:=l.flatten.foldl addV []
theorem addV_len (out:List Str) (x:Str):(addV out x).length≤out.length+1:=by
  unfold addV;split <;> simp
theorem fold_len (xs:List Str):∀out:List Str,(xs.foldl addV out).length≤out.length+xs.length:=by
  induction xs with
  | nil=>intro out;simp
  | cons x xs ih=>intro out;have:=ih (addV out x);have:=addV_len out x;simp;omega
theorem take_flat_le {α:Type} (l:List (List α)) (i:Nat):(l.take i).flatten.length≤l.flatten.length:=by
  have:l.flatten=(l.take i).flatten++(l.drop i).flatten:=by rw[← List.flatten_append,List.take_append_drop]
  rw[this];simp
theorem mem_flat_le {α:Type} {l:List (List α)} {i:Nat} (h:i<l.length):(l.take i).flatten.length+l[i].length≤l.flatten.length:=by
  have h1:=take_flat_le l (i+1)
  rw[take_snoc h] at h1
  simpa only[List.flatten_append,List.length_append,List.flatten_cons,List.flatten_nil,List.append_nil] using h1
def part (l:List (List Str)) (i j:Nat):List Str:=((l.take i).flatten++(l.getD i []).take j).foldl addV []
theorem part_step {l:List (List Str)} {i j:Nat} (h:i<l.length) (hj:j<l[i].length):part l i (j+1)=addV (part l i j) l[i][j]:=by
  unfold part
  have:l.getD i []=l[i]:=by simp[List.getD,h]
  rw[this,take_snoc hj,← List.append_assoc,List.foldl_append]
  rfl
theorem part_next {l:List (List Str)} {i:Nat} (h:i<l.length):part l i l[i].length=part l (i+1) 0:=by
  unfold part
  have:l.getD i []=l[i]:=by simp[List.getD,h]
  rw[this,take_snoc h]
  simp only[List.flatten_append,List.flatten_cons,List.flatten_nil,List.append_nil,List.take_zero,List.take_length]
theorem part_end (l:List (List Str)):part l l.length 0=namesV l:=by simp[part,namesV]
theorem part_len {l:List (List Str)} {i j:Nat} (h:i<l.length) (hj:j≤l[i].length):(part l i j).length≤l.flatten.length:=by
  have h1:=fold_len ((l.take i).flatten++(l.getD i []).take j) []
  have:l.getD i []=l[i]:=by simp[List.getD,h]
  have h2:=mem_flat_le h
  rw[this] at h1
  simp only[List.length_append,List.length_take,List.length_nil] at h1
  unfold part
  rw[this]
  omega
theorem addV_in {out:List Str} {x:Str} (h:placeV out x ≥ 0):addV out x=out:=by
  unfold addV
  by_cases hx:x∈out
  · simp[hx]
  · exfalso
    rw[placeV_none (fun k hk (he:out[k]=x)=>hx (by rw[← he];exact List.getElem_mem _))] at h
    omega
theorem addV_out {out:List Str} {x:Str} (h:placeV out x<0):addV out x=out++[x]:=by
  unfold addV
  have:x ∉ out:=by
    intro hx
    unfold placeV at h
    cases hf:out.findIdx? (· == x) with
    | some i=>rw[hf] at h;simp only at h;omega
    | none =>
      rw[List.findIdx?_eq_none_iff] at hf
      simpa using hf x hx
  simp[this]
def smallL (l:List (List Str)):Prop:=l.length≤1048576∧l.flatten.length≤1048576
@[simp] def S_ref03_Names:List D→Prop × D:=spec1 (α:=List (List Str)) smallL (fun a=>Rep.to (namesV a))
theorem ct_ref03_Names {P:Program} {f g:Nat} {G:Gam} (h:CodeOf P f 1 8 [1] (x_ref03_Names g)) (hG:GamOk P G) (hg:G.find g=some S_ref03_place):Has P f S_ref03_Names:=h.has1 hG fun l hp=>by
  obtain⟨h,h0⟩:=hp
  simp[x_ref03_Names]
  refine vc_loop _ _ _ _ _ [true,false,true,true] 1 (fun m T s=>∃i:Nat,i+m=l.length∧s=[.tip (part l i 0).length]∧T=[.d (Rep.to l),.any,.gr 0 1 ((part l i 0).map Rep.to),.d (.int .i64 i),.any,.any,.any,.any]) _ (by omega) (by simp[inScope]) ⟨l.length,0,by simp[part]⟩ ?_
  rintro m T s ⟨i,hm,rfl,rfl⟩
  simp
  refine⟨fun h1=>?_,fun h1=>?_⟩
  · refine vc_loop _ _ _ _ _ [true,false,true,true,true] 1 (fun m T s=>∃j:Nat,j+m=l[i].length∧s=[.tip (part l i j).length]∧T=[.d (Rep.to l),.any,.gr 0 1 ((part l i j).map Rep.to),.d (.int .i64 i),.d (.int .i64 j),.any,.any,.any]) _ (by omega) (by simp[inScope]) ⟨l[i].length,0,by simp⟩ ?_
    rintro m2 T s ⟨j,hm2,rfl,rfl⟩
    have h2:=mem_flat_le h1
    simp[getD_map,h1]
    refine⟨fun h3=>?_,fun h3=>?_⟩
    · have h4:=part_len (l:=l) h1 (j:=j) (by omega)
      have e:=add1 h3 (by omega:l[i].length≤_)
      simp[getD_map,h1,h3,e,inScope,hg]
      refine⟨by omega,fun h5=>⟨by unfold room;omega,m2-1,by omega,j+1,by omega,?_⟩,fun h5=>⟨m2-1,by omega,j+1,by omega,?_⟩⟩
      · rw[part_step h1 h3,addV_out h5]
        simp
      · rw[part_step h1 h3,addV_in h5]
        simp
    · have h5:j=l[i].length:=by omega
      subst h5
      simp[getD_map,h1,add1 h1 (by omega:l.length≤_),inScope]
      refine⟨m-1,by omega,i+1,by omega,?_⟩
      rw[part_next h1]
      simp
  · have:i=l.length:=by omega
    subst this
    simp[part_end]
theorem namesV_len (l:List (List Str)):(namesV l).length≤l.flatten.length:=by
  have:=fold_len l.flatten []
  simpa [namesV] using this
def idsV (l:List (List Str)):List (List Int):=l.map fun x=>x.map (placeV (namesV l))
theorem elem_flat_le {α:Type} {l:List (List α)} {i:Nat} (h:i<l.length):l[i].length≤l.flatten.length:=by
  have:=mem_flat_le h;omega
@[simp] def S_ref03_Ids:List D→Prop × D:=spec1 (α:=List (List Str)) smallL (fun a=>Rep.to (idsV a))
theorem ct_ref03_Ids {P:Program} {f g1 g2:Nat} {G:Gam} (h:CodeOf P f 1 9 [1] (x_ref03_Ids g1 g2)) (hG:GamOk P G) (hg1:G.find g1=some S_ref03_Names) (hg2:G.find g2=some S_ref03_place):Has P f S_ref03_Ids:=h.has1 hG fun l hp=>by
  obtain⟨h,h0⟩:=hp
  have hn:=namesV_len l
  have hN:(namesV l).length≤9223372036854775807:=by omega
  simp[x_ref03_Ids,hg1]
  refine⟨⟨h,h0⟩,?_⟩
  refine vc_loop _ _ _ _ _ [true,false,true,true,true] 1 (fun m T s=>∃(i:Nat) (out:List (List Int)),i+m=l.length∧s=[.tip i]∧T=[.d (Rep.to l),.any,.d (Rep.to (namesV l)),.gr 0 1 (out.map Rep.to),.d (.int .i64 i),.any,.any,.any,.any]∧out.length=i∧Eqv out ((l.take i).map fun x=>x.map (placeV (namesV l)))) _ (by omega) (by simp[inScope]) ⟨l.length,0,[],by simp[Eqv]⟩ ?_
  rintro m T s ⟨i,out,hm,rfl,rfl,hol,ho⟩
  simp
  refine⟨fun h1=>?_,fun h1=>?_⟩
  · refine vc_loop _ _ _ _ _ [true,false,true,true,true,true,true] 2 (fun m T s=>∃(j:Nat) (o2:List Int),j+m=l[i].length∧s=[.tip i,.tip j]∧T=[.d (Rep.to l),.any,.d (Rep.to (namesV l)),.gr 0 1 (out.map Rep.to),.d (.int .i64 i),.gr 1 1 (o2.map Rep.to),.d (.int .i64 j),.any,.any]∧o2.length=j∧Eqv o2 ((l[i].take j).map (placeV (namesV l)))) _ (by omega) (by simp[inScope]) ⟨l[i].length,0,[],by simp[Eqv]⟩ ?_
    rintro m2 T s ⟨j,o2,hm2,rfl,rfl,hol2,ho2⟩
    have h2:=elem_flat_le h1
    simp[getD_map,h1]
    refine⟨fun h3=>?_,fun h3=>?_⟩
    · have e:=add1 h3 (by omega:l[i].length≤_)
      simp[getD_map,h1,h3,e,inScope,hN,hol2,hg2]
      refine⟨by unfold room;omega,m2-1,by omega,j+1,by omega,rfl,o2++[placeV (namesV l) l[i][j]],⟨by simp,by simp⟩,by simp[hol2],?_⟩
      unfold Eqv at *
      rw[← List.map_take,take_snoc h3,List.map_append,← ho2];rfl
    · have h5:j=l[i].length:=by omega
      simp[getD_map,h1,add1 h1 (by omega:l.length≤_),inScope,hol]
      refine⟨by unfold room;omega,m-1,by omega,i+1,by omega,rfl,out++[o2],⟨by simp,by simp⟩,by simp[hol],?_⟩
      unfold Eqv at *
      rw[← List.map_take,take_snoc h1,List.map_append,← ho,ho2,h5,List.take_length];rfl
  · have:i=l.length:=by omega
    unfold Eqv at ho
    rw[this,List.take_length] at ho
    rw[ho]
    rfl
end Go.AE
namespace Go.AE
theorem mem_fold (xs:List Str):∀out:List Str,∀x,x∈xs.foldl addV out↔x∈out∨x∈xs:=by
  induction xs with
  | nil=>intro out x;simp
  | cons y xs ih =>
    intro out x
    rw[List.foldl_cons,ih]
    unfold addV
    by_cases hy:y∈out
    · simp only[hy,if_true,List.mem_cons]
      constructor
      · rintro (h | h)
        · exact .inl h
        · exact .inr (.inr h)
      · rintro (h | rfl | h)
        · exact .inl h
        · exact .inl hy
        · exact .inr h
    · simp only[hy,if_false,List.mem_append,List.mem_cons,List.not_mem_nil,or_false,or_assoc]
theorem mem_names {l:List (List Str)} {x:Str}:x∈namesV l↔∃y,y∈l∧x∈y:=by
  unfold namesV
  rw[mem_fold]
  simp
theorem placeV_mem {l:List Str} {x:Str} (h:x∈l):∃k:Nat,∃hk:k<l.length,placeV l x=k∧l[k]=x:=by
  unfold placeV
  cases hf:l.findIdx? (· == x) with
  | none =>
    rw[List.findIdx?_eq_none_iff] at hf
    simpa using hf x h
  | some k =>
    rw[List.findIdx?_eq_some_iff_getElem] at hf
    obtain⟨hk,h1,_⟩:=hf
    exact⟨k,hk,rfl,by simpa using h1⟩
def linesF (cur:Str):Str→List Str
  | []=>if cur=[] then [] else [cur]
  | c::s=>if c=10 then (cur++[c])::linesF [] s else linesF (cur++[c]) s
def linesV (s:Str):List Str:=linesF [] s
theorem occ10 (s:Str) (j:Nat):Lib.occAt s [10] j=true↔s[j]?=some 10:=by
  unfold Lib.occAt
  rw[← List.head?_drop]
  cases h:s.drop j with
  | nil=>simp
  | cons a t=>simp[List.isPrefixOf];exact eq_comm
theorem first10 (s:Str):(∀j:Nat,s[j]?≠some 10)∨∃i,s[i]?=some 10∧∀j:Nat,j<i→s[j]?≠some 10:=by
  induction s with
  | nil=>exact .inl fun j=>by simp
  | cons c s ih =>
    by_cases h:c=10
    · exact .inr ⟨0,by simp[h],fun j hj=>absurd hj (by omega)⟩
    · rcases ih with h1 | ⟨i,h1,h2⟩
      · refine .inl fun j=>?_
        cases j with
        | zero=>simpa using h
        | succ j=>simpa using h1 j
      · refine .inr ⟨i+1,by simpa using h1,fun j hj=>?_⟩
        cases j with
        | zero=>simpa using h
        | succ j=>simpa using h2 j (by omega)
theorem linesF_count:∀(s cur:Str),(linesF cur s).length=s.count 10+if cur++s=[]∨(cur++s).getLast?=some 10∧s≠[] then 0 else 1
  | [],cur=>by
    by_cases h:cur=[] <;> simp[linesF,h]
  | c::s,cur=>by
    by_cases h:c=10
    · subst h
      have ih:=linesF_count s []
      simp only[linesF,if_true,List.length_cons,ih,List.nil_append,List.count_cons_self]
      by_cases hs:s=[]
      · subst hs;simp
      · simp only[hs,false_or,ne_eq,not_false_eq_true,and_true]
        have e:(cur++10::s).getLast?=s.getLast?:=by
          rw[List.getLast?_append]
          obtain⟨a,t,rfl⟩:=List.exists_cons_of_ne_nil hs
          simp[List.getLast?_cons]
        rw[e]
        simp only[List.append_eq_nil_iff,List.cons_ne_nil,and_false,reduceCtorEq,not_false_eq_true,and_true,false_or]
        omega
    · have ih:=linesF_count s (cur++[c])
      simp only[linesF,h,if_false,ih,List.append_assoc,List.singleton_append,List.count_cons_of_ne h]
      by_cases hs:s=[]
      · subst hs
        simp[h]
      · simp[hs]
theorem linesF_flat:∀(s cur:Str),(linesF cur s).flatten=cur++s
  | [],cur=>by by_cases h:cur=[] <;> simp[linesF,h]
  | c::s,cur=>by
    by_cases h:c=10
    · simp[linesF,h,linesF_flat s []]
    · simp[linesF,h,linesF_flat s (cur++[c])]
/-! what the library's functions answer -/
@[simp] def S_strings_HasSuffix:List D→Prop × D:=spec2 (α:=Str) (β:=Str) (fun s _=>s.length≤9223372036854775807) (fun s p=>.bool (Lib.hasSuffix s p))
@[simp] def S_strings_TrimSuffix:List D→Prop × D:=spec2 (α:=Str) (β:=Str) (fun s _=>s.length≤9223372036854775807) (fun s p=>.str (Lib.trimSuffix s p))
def endedV (s:Str):Bool:=decide (s.getLast?=some 10)
def bareV (s:Str):Str:=if endedV s then s.dropLast else s
theorem hasSuffix_ended (s:Str):Lib.hasSuffix s [10]=endedV s:=by
  unfold Lib.hasSuffix endedV
  by_cases h:s.getLast?=some 10
  · obtain⟨t,rfl⟩:=List.getLast?_eq_some_iff.1 h
    simp[List.isSuffixOf_iff_suffix]
  · simp only[h,decide_false]
    cases h2:[10].isSuffixOf s with
    | false=>rfl
    | true =>
      obtain⟨t,rfl⟩:=List.isSuffixOf_iff_suffix.1 h2
      simp at h
theorem trimSuffix_bare (s:Str):Lib.trimSuffix s [10]=bareV s:=by
  unfold Lib.trimSuffix bareV
  rw[hasSuffix_ended,List.dropLast_eq_take]
  rfl
@[simp] def S_text_Ended:List D→Prop × D:=spec1 (α:=Str) (fun s=>s.length≤9223372036854775807) (fun s=>.bool (endedV s))
theorem ct_text_Ended {P:Program} {f g:Nat} {G:Gam} (h:CodeOf P f 1 2 [1] (x_text_Ended g)) (hG:GamOk P G) (hg:G.find g=some S_strings_HasSuffix):Has P f S_text_Ended:=h.has1 hG fun s hp=>by
  simp[x_text_Ended,hg,hp,hasSuffix_ended]
@[simp] def S_text_Bare:List D→Prop × D:=spec1 (α:=Str) (fun s=>s.length≤9223372036854775807) (fun s=>.str (bareV s))
theorem ct_text_Bare {P:Program} {f g:Nat} {G:Gam} (h:CodeOf P f 1 2 [1] (x_text_Bare g)) (hG:GamOk P G) (hg:G.find g=some S_strings_TrimSuffix):Has P f S_text_Bare:=h.has1 hG fun s hp=>by
  simp[x_text_Bare,hg,hp,trimSuffix_bare]
theorem linesV_len (s:Str):(linesV s).length=s.count 10+if s≠[]∧endedV s=false then 1 else 0:=by
  rw[linesV,linesF_count]
  simp only[List.nil_append]
  by_cases h:s=[]
  · subst h;simp[endedV]
  · by_cases h2:s.getLast?=some 10 <;> simp[h,h2,endedV]
def checkT (s:Str):Int:=if s.length≤1048576∧(linesV s).length≤4096 then 0 else 1
def lenOk (s:Str):Prop:=s.length≤9223372036854775807
@[simp] theorem lenOk_4 {s:Str} (h:s.length≤4194304):lenOk s:=by unfold lenOk;omega
@[simp] theorem lenOk_1 {s:Str} (h:s.length≤1048576):lenOk s:=by unfold lenOk;omega
@[simp] theorem lenOk_9 {s:Str} (h:s.length≤9223372036854775807):lenOk s:=h
@[simp] def S_ref02_Ended:List D→Prop × D:=spec1 (α:=Str) (fun s=>s.length≤9223372036854775807) (fun s=>.bool (endedV s))
theorem ct_ref02_Ended {P:Program} {f:Nat} {G:Gam} (h:CodeOf P f 1 2 [1] x_ref02_Ended) (hG:GamOk P G):Has P f S_ref02_Ended:=h.has1 hG fun s hp=>by
  rcases List.eq_nil_or_concat s with rfl | ⟨t,c,rfl⟩
  · simp[x_ref02_Ended,endedV]
  · simp only[List.concat_eq_append] at *
    simp at hp
    have w:IntKind.i64.wrap (t.length:Int)=t.length:=wrap_in (by omega) (by omega)
    have e:((c.toNat:Int)=10)=(c=10):=by
      apply propext
      constructor
      · intro h
        exact UInt8.toNat_inj.1 (by simp;omega)
      · rintro rfl;rfl
    simp[x_ref02_Ended,endedV,w,e]
    omega
@[simp] def S_ref02_Lines:List D→Prop × D:=spec1 (α:=Str) (fun s=>s.length≤4194304) (fun s=>Rep.to (linesV s))
theorem ct_ref02_Lines {P:Program} {f:Nat} {G:Gam} (h:CodeOf P f 1 7 [1] x_ref02_Lines) (hG:GamOk P G):Has P f S_ref02_Lines:=h.has1 hG fun s hp=>by
  simp[x_ref02_Lines]
  refine vc_lp (σ:=Nat × Nat × List Str) (fun x=>x.1≤x.2.1∧x.2.1≤s.length∧x.2.2.length≤x.2.1∧(x.2.1<s.length∨x.1=x.2.1)∧x.2.2++linesF ((s.take x.2.1).drop x.1) (s.drop x.2.1)=linesV s) (fun x=>s.length-x.2.1)
    (fun x=>[.d (Rep.to s),.any,.gr 0 1 (x.2.2.map Rep.to),.d (.int .i64 x.1),.d (.int .i64 x.2.1),.any,.any]) (fun x=>[.tip x.2.2.length]) (0,0,[]) (by simp) (by simp) ⟨by simp,by simp,by simp,by simp,by simp[linesV]⟩ ?_
  rintro⟨fr,i,o⟩ ⟨b1,b2,b3,b5,b4⟩
  simp only at b1 b2 b3 b4 b5
  by_cases hi:i<s.length
  · have w1:IntKind.i64.wrap ((i:Int)+1)=((i+1:Nat):Int):=by rw[wrap_in (by omega) (by omega)];omega
    have ed:s.drop i=s[i]::s.drop (i+1):=List.drop_eq_getElem_cons hi
    have et:(s.take (i+1)).drop fr=(s.take i).drop fr++[s[i]]:=by
      rw[List.take_succ_eq_append_getElem hi,List.drop_append_of_le_length (by simp;omega)]
    have es:List.take (i+1-fr) (s.drop fr)=(s.take (i+1)).drop fr:=by rw[List.drop_take]
    rw[ed] at b4
    simp only[linesF,← et] at b4
    have i2:(i:Int)+1≤s.length:=by omega
    have i3:(fr:Int)≤(i:Int)+1:=by omega
    have e:((s[i].toNat:Int)=10)=(s[i]=10):=by
      apply propext
      constructor
      · intro h
        exact UInt8.toNat_inj.1 (by simp;omega)
      · intro h;rw[h];rfl
    have en:(s.take (i+1)).drop (i+1)=[]:=List.drop_eq_nil_of_le (by simp;omega)
    by_cases c:s[i]=10
    · rw[if_pos c] at b4
      simp[hi,w1,e,c,i2,i3]
      rw[es]
      exact⟨by unfold room;omega,Nxt.mk (i+1,i+1,o++[(s.take (i+1)).drop fr]) (by simp;omega) (by simp) (by simp) ⟨by simp,by simp;omega,by simp;omega,by simp,by simp only[en];rw[← b4];simp⟩⟩
    · rw[if_neg c] at b4
      by_cases l:i+1=s.length
      · have l':s.length=i+1:=by omega
        have ez:s.drop (i+1)=[]:=List.drop_eq_nil_of_le (by omega)
        have ec:(s.take (i+1)).drop fr≠[]:=by
          intro hh
          have:=congrArg List.length hh
          simp at this
          omega
        rw[ez] at b4
        simp only[linesF,ec,if_false] at b4
        have i4:(i:Int)<(i:Int)+1:=by omega
        simp[l',w1,e,c,i3,i4]
        rw[es]
        refine⟨by unfold room;omega,Nxt.mk (i+1,i+1,o++[(s.take (i+1)).drop fr]) (by simp) (by simp) (by simp) ⟨by simp,by simp,by simp;omega,by simp,?_⟩⟩
        simp only[en,ez,linesF,if_true]
        rw[← b4]
        simp
      · have l':¬((i:Int)+1=s.length):=by omega
        simp[hi,w1,e,c,l']
        exact Nxt.mk (fr,i+1,o) (by simp;omega) (by simp) (by simp) ⟨by simp only;omega,by simp only;omega,by simp only;omega,by simp only;omega,by simpa using b4⟩
  · have h1:i=s.length:=by omega
    subst h1
    have h2:fr=s.length:=by omega
    subst h2
    simp[linesF] at b4
    simp[b4]
@[simp] def S_ref02_Check:List D→Prop × D:=spec1 (α:=Str) lenOk (fun s=>.int .i64 (checkT s))
theorem ct_ref02_Check {P:Program} {f g:Nat} {G:Gam} (h:CodeOf P f 1 3 [1] (x_ref02_Check g)) (hG:GamOk P G) (hg:G.find g=some S_ref02_Lines):Has P f S_ref02_Check:=h.has1 hG fun s hp=>by
  by_cases a:s.length≤1048576
  · have a':¬((1048576:Int)<s.length):=by omega
    have hp:s.length≤4194304:=by omega
    by_cases b:(linesV s).length≤4096
    · have b':¬((4096:Int)<(linesV s).length):=by omega
      simp[x_ref02_Check,hg,hp,a,a',b,b',checkT]
    · have b':((4096:Int)<(linesV s).length):=by omega
      simp[x_ref02_Check,hg,hp,a,a',b,b',checkT]
  · have a':((1048576:Int)<s.length):=by omega
    simp[x_ref02_Check,a,a',checkT]
def okL (x:Str):Bool:=decide (x≠[]∧(10:UInt8) ∉ x.dropLast)
def listV:List Str→Bool
  | []=>true
  | [x]=>okL x
  | x::y::r=>okL x && endedV x && listV (y::r)
theorem listV_cons {x:Str} {l:List Str} (h1:okL x=true) (h2:endedV x=true) (h3:listV l=true):listV (x::l)=true:=by
  cases l with
  | nil=>exact h1
  | cons y r=>simp[listV,h1,h2,h3]
theorem listV_lines:∀(s cur:Str),(10:UInt8) ∉ cur→listV (linesF cur s)=true
  | [],cur,h=>by
    by_cases hc:cur=[]
    · simp[linesF,hc,listV]
    · simp only[linesF,hc,if_false,listV,okL,ne_eq,not_false_eq_true,true_and,decide_eq_true_eq]
      exact fun hm=>h (List.dropLast_subset _ hm)
  | c::s,cur,h=>by
    by_cases hc:c=10
    · subst hc
      simp only[linesF,if_true]
      exact listV_cons (by simp[okL,h]) (by simp[endedV]) (listV_lines s [] (by simp))
    · simp only[linesF,hc,if_false]
      refine listV_lines s (cur++[c]) ?_
      simp[h]
      exact fun e=>hc e.symm
def blobS (raw:List Int) (fr kinds:Int) (k:Nat):Str:=(List.range k).flatMap fun (i:Nat)=>lineV (modV (atV raw (fr+1+i)) kinds)++[10]
theorem blobS_succ (raw:List Int) (fr kinds:Int) (k:Nat):blobS raw fr kinds (k+1)=blobS raw fr kinds k++lineV (modV (atV raw (fr+1+k)) kinds)++[10]:=by
  simp[blobS,List.range_succ]
def blobV (raw:List Int) (fr n kinds:Int):Str :=
  let s:=blobS raw fr kinds (modV (atV raw fr) (n+1)).toNat
  if (atV raw (fr+90)).tmod 4=0∧1<s.length∧s.getD (s.length-2) 0≠10 then s.dropLast else s
theorem lines_good:∀x,x∈lines→x.length≤3∧x.count 10=0:=by decide
theorem lineV_good (k:Int):(lineV k).length≤3∧(lineV k).count 10=0:=by
  obtain⟨h1,h2⟩:=modV_lt k (n:=10) (by omega)
  unfold lineV
  have hl:(modV k 10).toNat<lines.length:=by
    have:lines.length=10:=rfl
    omega
  have e:lines.getD (modV k 10).toNat []=lines[(modV k 10).toNat]:=by simp[List.getD,hl]
  rw[e]
  exact lines_good _ (List.getElem_mem hl)
theorem blobS_good (raw:List Int) (fr kinds:Int):∀k,(blobS raw fr kinds k).length≤4 * k∧(blobS raw fr kinds k).count 10=k
  | 0=>by simp[blobS]
  | k+1=>by
    obtain⟨h1,h2⟩:=blobS_good raw fr kinds k
    obtain⟨h3,h4⟩:=lineV_good (modV (atV raw (fr+1+k)) kinds)
    rw[blobS_succ]
    simp only[List.length_append,List.count_append,List.length_singleton,h2,h4]
    simp
    omega
theorem blobV_good (raw:List Int) (fr kinds:Int) {n:Int} (hn:0≤n):(blobV raw fr n kinds).length≤4 * n.toNat∧(blobV raw fr n kinds).count 10≤n.toNat:=by
  obtain⟨m1,m2⟩:=modV_lt (atV raw fr) (n:=n+1) (by omega)
  obtain⟨h1,h2⟩:=blobS_good raw fr kinds (modV (atV raw fr) (n+1)).toNat
  have e:(modV (atV raw fr) (n+1)).toNat≤n.toNat:=by omega
  unfold blobV
  generalize blobS raw fr kinds (modV (atV raw fr) (n+1)).toNat=s at *
  simp only
  split
  · have hs:=(List.dropLast_sublist s).count_le 10
    simp only[List.length_dropLast]
    omega
  · omega
theorem check_of {s:Str} (h1:s.length≤1048576) (h2:s.count 10≤4095):checkT s=0:=by
  have h3:(linesV s).length≤4096:=by
    rw[linesV_len]
    split <;> omega
  simp[checkT,h1,h3]
theorem lines_flat (s:Str):(linesV s).flatten=s:=by
  rw[linesV,linesF_flat];rfl
def insB (s:List ChangeT) (k:Nat):Bool:=s.any fun c=>decide (c.new≤(k:Int)∧(k:Int)<c.new+c.newLen)
theorem runN_mem:∀(n:Nat) (i j:Int) (s:SpanT),s∈runN n i j↔∃t:Nat,t<n∧s=⟨i+t,j+t⟩
  | 0,i,j,s=>by simp[runN]
  | n+1,i,j,s=>by
    simp only[runN,List.mem_cons,runN_mem n]
    constructor
    · rintro (rfl | ⟨t,ht,rfl⟩)
      · exact⟨0,by omega,by simp⟩
      · exact⟨t+1,by omega,by push_cast;simp;omega⟩
    · rintro⟨t,ht,rfl⟩
      rcases Nat.eq_zero_or_pos t with rfl | h
      · exact .inl (by simp)
      · exact .inr ⟨t-1,by omega,by simp;omega⟩
theorem okV_new:∀(l:List ChangeT) (i j m n:Int) (fst:Bool),okV l i j fst m n=true→j≤n∧∀c,c∈l→j≤c.new∧0≤c.newLen∧c.new+c.newLen≤n∧i≤c.old∧0≤c.oldLen∧c.old+c.oldLen≤m
  | [],i,j,m,n,fst,h=>by
    simp only[okV,Bool.and_eq_true,decide_eq_true_eq] at h
    exact⟨by omega,by simp⟩
  | c::l,i,j,m,n,fst,h=>by
    simp only[okV,Bool.and_eq_true] at h
    have h2:=stepV_true h.1
    obtain⟨h3,h4⟩:=okV_new l _ _ _ _ _ h.2
    have h5:=okV_le l _ _ _ _ _ h.2
    refine⟨by omega,fun d hd=>?_⟩
    rcases List.mem_cons.1 hd with rfl | hd
    · omega
    · have:=h4 d hd
      omega
theorem insB_low {l:List ChangeT} {i j m n:Int} {fst:Bool} (h:okV l i j fst m n=true) {k:Nat} (hk:(k:Int)<j):insB l k=false:=by
  unfold insB
  rw[List.any_eq_false]
  intro c hc
  have:=(okV_new l _ _ _ _ _ h).2 c hc
  simp
  omega
theorem ins_mat:∀(l:List ChangeT) (i j m n:Int) (fst:Bool),okV l i j fst m n=true→∀k:Nat,j≤k→(k:Int)<n→((∃s,s∈matV l i j m∧s.to=k)↔insB l k=false)
  | [],i,j,m,n,fst,h,k,hk,hk2=>by
    simp only[okV,Bool.and_eq_true,decide_eq_true_eq] at h
    constructor
    · intro _;rfl
    · intro _
      exact⟨⟨i+((k-j).toNat:Nat),j+((k-j).toNat:Nat)⟩,(runN_mem _ _ _ _).2 ⟨(k-j).toNat,by omega,rfl⟩,by simp;omega⟩
  | c::l,i,j,m,n,fst,h,k,hk,hk2=>by
    simp only[okV,Bool.and_eq_true] at h
    have h2:=stepV_true h.1
    have hlow:=fun hk=>insB_low h.2 (k:=k) hk
    have hm:=matV_mem l _ _ _ _ _ h.2
    have hins:insB (c::l) k=(decide (c.new≤(k:Int)∧(k:Int)<c.new+c.newLen) || insB l k):=by simp[insB]
    rw[hins]
    by_cases h3:c.new+c.newLen≤(k:Int)
    · have ih:=ins_mat l _ _ _ _ _ h.2 k h3 hk2
      have e:decide (c.new≤(k:Int)∧(k:Int)<c.new+c.newLen)=false:=by simp;omega
      rw[e,Bool.false_or,← ih]
      simp only[matV,List.mem_append]
      constructor
      · rintro⟨s,hs | hs,h4⟩
        · obtain⟨t,ht,rfl⟩:=(runN_mem _ _ _ _).1 hs
          simp at h4
          omega
        · exact⟨s,hs,h4⟩
      · rintro⟨s,hs,h4⟩
        exact⟨s,.inr hs,h4⟩
    · have hl:=hlow (by omega)
      rw[hl,Bool.or_false]
      by_cases h4:c.new≤(k:Int)
      · have e:decide (c.new≤(k:Int)∧(k:Int)<c.new+c.newLen)=true:=by simp;omega
        rw[e]
        simp only[Bool.true_eq_false,iff_false,matV,List.mem_append]
        rintro⟨s,hs | hs,h5⟩
        · obtain⟨t,ht,rfl⟩:=(runN_mem _ _ _ _).1 hs
          simp at h5
          omega
        · have:=hm s hs
          omega
      · have e:decide (c.new≤(k:Int)∧(k:Int)<c.new+c.newLen)=false:=by simp;omega
        rw[e]
        simp only[iff_true,matV,List.mem_append]
        exact⟨⟨i+((k-j).toNat:Nat),j+((k-j).toNat:Nat)⟩,.inl ((runN_mem _ _ _ _).2 ⟨(k-j).toNat,by omega,rfl⟩),by simp;omega⟩
/-! ### the table -/
def scrV (ids:List (List Int)) (p:Nat):List ChangeT:=scriptV (ids.getD (p+1) []) (ids.getD 0 [])
def markN (ids:List (List Int)) (k:Nat):Nat→Nat
  | 0=>0
  | p+1=>if insB (scrV ids p) k=true then markN ids k p ||| 2 ^ p else markN ids k p
theorem markN_lt (ids:List (List Int)) (k:Nat):∀n,markN ids k n<2 ^ n
  | 0=>by simp[markN]
  | n+1=>by
    have ih:=markN_lt ids k n
    have e:2 ^ (n+1)=2 ^ n+2 ^ n:=by rw[Nat.pow_succ];omega
    unfold markN
    split
    · exact Nat.or_lt_two_pow (by omega) (by omega)
    · omega
def gapS (x:List Int) (s:List ChangeT) (k:Nat):List Int:=s.foldl (fun acc c=>if c.new=(k:Int) then (x.drop c.old.toNat).take c.oldLen.toNat else acc) []
def gapV (ids:List (List Int)) (n k:Nat):List (List Int):=(List.range n).map fun p=>gapS (ids.getD (p+1) []) (scrV ids p) k
theorem gapS_len (x:List Int) (s:List ChangeT) (k:Nat):(gapS x s k).length≤x.length:=by
  unfold gapS
  suffices ∀(s:List ChangeT) (acc:List Int),acc.length≤x.length→(s.foldl (fun acc c=>if c.new=(k:Int) then (x.drop c.old.toNat).take c.oldLen.toNat else acc) acc).length≤x.length from this s [] (by simp)
  intro s
  induction s with
  | nil=>intro acc h;exact h
  | cons c s ih =>
    intro acc h
    rw[List.foldl_cons]
    refine ih _ ?_
    split
    · simp;omega
    · exact h
theorem gapS_mem (x:List Int) (s:List ChangeT) (k:Nat):∀y,y∈gapS x s k→y∈x:=by
  unfold gapS
  suffices ∀(s:List ChangeT) (acc:List Int),(∀y,y∈acc→y∈x)→∀y,y∈(s.foldl (fun acc c=>if c.new=(k:Int) then (x.drop c.old.toNat).take c.oldLen.toNat else acc) acc)→y∈x from this s [] (by simp)
  intro s
  induction s with
  | nil=>intro acc h;exact h
  | cons c s ih =>
    intro acc h
    rw[List.foldl_cons]
    refine ih _ ?_
    split
    · intro y hy
      exact List.mem_of_mem_drop (List.mem_of_mem_take hy)
    · exact h
def mergedV (xs:List (List Int)):List MergedT:=(coalO xs 0 []).getD []
def lostRow (names:List Str) (m:MergedT):RowT:=⟨true,m.parents,names.getD m.line.toNat []⟩
def keptRow (names:List Str) (ids:List (List Int)) (n k:Nat):RowT:=⟨false,markN ids k n,names.getD ((ids.getD 0 []).getD k 0).toNat []⟩
def gapRows (names:List Str) (ids:List (List Int)) (n k:Nat):List RowT :=
  (mergedV (gapV ids n k)).map (lostRow names)++if k<(ids.getD 0 []).length then [keptRow names ids n k] else []
def rowsTo (names:List Str) (ids:List (List Int)) (n k:Nat):List RowT:=(List.range k).flatMap (gapRows names ids n)
theorem rowsTo_succ (names:List Str) (ids:List (List Int)) (n k:Nat):rowsTo names ids n (k+1)=rowsTo names ids n k++gapRows names ids n k:=by
  simp[rowsTo,List.range_succ]
def filesV (result:Str) (parents:List Str):List (List Str):=(result::parents).map linesV
def makeV (result:Str) (parents:List Str):TableT :=
  ⟨parents.length,rowsTo (namesV (filesV result parents)) (idsV (filesV result parents)) parents.length ((linesV result).length+1)⟩
def makeD (result:Str) (parents:List Str):D :=
  if parents.length<1∨32<parents.length then .tup [Rep.to (⟨0,[]⟩:TableT),.int .i64 2] else .tup [Rep.to (makeV result parents),.int .i64 0]
theorem idsV_getD {files:List (List Str)} {p:Nat} (h:p<files.length):(idsV files).getD p []=(files[p]).map (placeV (namesV files)):=by
  simp[idsV,List.getD,h]
theorem id_name {files:List (List Str)} {p:Nat} (h:p<files.length) {x:Int} (hx:x∈(idsV files).getD p []):∃k:Nat,x=k∧k<(namesV files).length∧∃y,y∈files[p]∧(namesV files).getD k []=y∧x=placeV (namesV files) y:=by
  rw[idsV_getD h] at hx
  obtain⟨y,hy,rfl⟩:=List.mem_map.1 hx
  obtain⟨k,hk,h1,h2⟩:=placeV_mem (mem_names.2 ⟨_,List.getElem_mem h,hy⟩)
  exact⟨k,h1,hk,y,hy,by simp[List.getD,hk,h2],rfl⟩
theorem filesV_len (r:Str) (ps:List Str):(filesV r ps).length=ps.length+1:=by simp[filesV]
theorem filesV_zero (r:Str) (ps:List Str):(filesV r ps)[0]'(by rw[filesV_len];omega)=linesV r:=by simp[filesV]
theorem filesV_succ (r:Str) (ps:List Str) {p:Nat} (h:p<ps.length):(filesV r ps)[p+1]'(by rw[filesV_len];omega)=linesV ps[p]:=by simp[filesV]
theorem ids0_len (r:Str) (ps:List Str):((idsV (filesV r ps)).getD 0 []).length=(linesV r).length:=by
  rw[idsV_getD (by rw[filesV_len];omega),List.length_map,filesV_zero]
theorem kept_text (r:Str) (ps:List Str) {k:Nat} (hk:k<(linesV r).length):(namesV (filesV r ps)).getD (((idsV (filesV r ps)).getD 0 []).getD k 0).toNat []=(linesV r)[k]∧0≤((idsV (filesV r ps)).getD 0 []).getD k 0∧(((idsV (filesV r ps)).getD 0 []).getD k 0).toNat<(namesV (filesV r ps)).length:=by
  have h0:0<(filesV r ps).length:=by rw[filesV_len];omega
  have hl:=ids0_len r ps
  have hm:((idsV (filesV r ps)).getD 0 []).getD k 0∈(idsV (filesV r ps)).getD 0 []:=by
    exact getD_mem _ 0 (by rw[hl];exact hk)
  obtain⟨j,h1,h2,y,h3,h4,h5⟩:=id_name h0 hm
  have e:((idsV (filesV r ps)).getD 0 []).getD k 0=placeV (namesV (filesV r ps)) (linesV r)[k]:=by
    rw[idsV_getD h0,List.getD,List.getElem?_eq_getElem (by rw[List.length_map,filesV_zero];exact hk)]
    simp[filesV_zero]
  have hin:(linesV r)[k]∈namesV (filesV r ps):=mem_names.2 ⟨_,List.getElem_mem h0,by rw[filesV_zero];exact List.getElem_mem _⟩
  obtain⟨i,hi,g1,g2⟩:=placeV_mem hin
  rw[e,g1]
  simp[List.getD,hi,g2]
theorem coal_mem {ys:List (List Int)} {l:List MergedT} (h:CoalOk ys l) (hn:ys.length≤32) {m:MergedT} (hm:m∈l):∃b,∃hb:b<ys.length,m.line∈ys[b]:=by
  obtain⟨k,h1,h2,h3⟩:=h.ok m hm
  obtain⟨b,hb⟩:=Nat.exists_testBit_of_ne_zero (show k≠0 by omega)
  have hbl:b<ys.length:=by
    rcases Nat.lt_or_ge b ys.length with h4 | h4
    · exact h4
    · have:k<2 ^ b:=Nat.lt_of_lt_of_le h3 (Nat.pow_le_pow_right (by omega) h4)
      rw[Nat.testBit_lt_two_pow this] at hb
      exact absurd hb (by simp)
  have hk:k<4294967296:=Nat.lt_of_lt_of_le h3 (pow_le hn)
  refine⟨b,hbl,?_⟩
  rw[← h.pr b hbl]
  refine List.mem_map.2 ⟨m,List.mem_filter.2 ⟨hm,?_⟩,rfl⟩
  unfold hasV
  rw[h1,getU_nat hk (by omega),if_pos hb]
  rfl
@[simp] def S_gen_Blob:List D→Prop × D:=spec4 (α:=List Int) (β:=Int) (γ:=Int) (δ:=Int) (fun raw fr n kinds=>raw.length≤9223372036854775807∧0≤fr∧fr≤100000∧0≤n∧n≤1000∧1≤kinds∧kinds≤1000) (fun raw fr n kinds=>Rep.to (blobV raw fr n kinds))
theorem ct_gen_Blob {P:Program} {f g1 g2 g3:Nat} {G:Gam} (h:CodeOf P f 4 9 [4] (x_gen_Blob g1 g2 g3)) (hG:GamOk P G) (h1:G.find g1=some S_gen_At) (h2:G.find g2=some S_gen_Mod) (h3:G.find g3=some S_gen_Line):Has P f S_gen_Blob:=h.has4 hG fun raw fr n kinds hp=>by
  obtain⟨p1,p2,p3,p4,p5,p6,p7⟩:=hp
  obtain⟨m1,m2⟩:=modV_lt (atV raw fr) (n:=n+1) (by omega)
  have q1:(fr:Int)<9223372036854775807:=by omega
  have q2:raw.length≤9223372036854775807:=by omega
  have q3:1≤n+1∧n+1≤9223372036854775807:=by omega
  have q4:1≤kinds∧kinds≤9223372036854775807:=by omega
  have w0:IntKind.i64.wrap (n+1)=n+1:=wrap_in (by omega) (by omega)
  have w2:IntKind.i64.wrap (fr+1)=fr+1:=wrap_in (by omega) (by omega)
  have w3:IntKind.i64.wrap (fr+90)=fr+90:=wrap_in (by omega) (by omega)
  obtain⟨m,hm⟩:=Int.eq_ofNat_of_zero_le m1
  have hv:blobV raw fr n kinds=if (atV raw (fr+90)).tmod 4=0∧1<(blobS raw fr kinds m).length∧(blobS raw fr kinds m).getD ((blobS raw fr kinds m).length-2) 0≠10 then (blobS raw fr kinds m).dropLast else blobS raw fr kinds m:=by
    unfold blobV
    rw[hm]
    rfl
  have hr:=atV_range raw (fr+90)
  obtain⟨hb,_⟩:=blobS_good raw fr kinds m
  have r1:0≤fr+90∧fr+90<9223372036854775807:=by omega
  rw[hv]
  clear hv
  simp[x_gen_Blob,h1,h2,p2,q1,q2,q3,w0]
  rw[hm]
  refine vc_lp (σ:=Nat) (fun i=>i≤m) (fun i=>m-i) (fun i=>[.d (Rep.to raw),.d (.int .i64 fr),.d (.int .i64 m),.d (.int .i64 kinds),.any,.d (.str (blobS raw fr kinds i)),.d (.int .i64 i),.any,.any]) (fun _=>[]) 0 (by simp[blobS]) (by simp) (by simp) ?_
  intro i hi
  by_cases h6:i<m
  · have w1:IntKind.i64.wrap (fr+1+i)=fr+1+i:=wrap_in (by omega) (by omega)
    have w4:IntKind.i64.wrap ((i:Int)+1)=(i:Int)+1:=wrap_in (by omega) (by omega)
    have r2:0≤fr+1+(i:Int)∧fr+1+(i:Int)<9223372036854775807:=by omega
    obtain⟨hl,_⟩:=lineV_good (modV (atV raw (fr+1+i)) kinds)
    obtain⟨hbi,_⟩:=blobS_good raw fr kinds i
    simp[h1,h2,h3,w1,w2,w4,h6,q2,q4,r2]
    refine⟨by omega,by omega,?_⟩
    exact Nxt.mk (i+1) (by omega) (by simp[blobS_succ]) (by simp) (by omega)
  · have h7:i=m:=by omega
    subst h7
    generalize blobS raw fr kinds i=s at *
    simp[h1,q2,w3,r1]
    generalize atV raw (fr+90)=z at *
    refine⟨fun c1=>⟨fun c2=>?_,fun c2 c3 c4=>by omega⟩,fun a b=>absurd b a⟩
    have c2':1<s.length:=by omega
    have wA:IntKind.i64.wrap ((s.length:Int)-2)=((s.length-2:Nat):Int):=by rw[wrap_in (by omega) (by omega)];omega
    have wB:IntKind.i64.wrap ((s.length:Int)-1)=((s.length-1:Nat):Int):=by rw[wrap_in (by omega) (by omega)];omega
    rw[wA,wB]
    simp only[Int.toNat_natCast]
    refine⟨by omega,fun c3=>⟨by omega,?_⟩,fun c3 _ _ c4=>?_⟩
    · have c4:¬s[s.length-2]?.getD 0=10:=fun e=>c3 (by rw[e];rfl)
      rw[if_pos ⟨c1,c2',c4⟩,List.dropLast_eq_take]
    · exact absurd (UInt8.toNat_inj.1 (by simp;omega)) c4
def flen (l:List Str):Nat:=l.flatten.length
theorem flen_take (l:List Str) (k:Nat):flen l=flen (l.take k)+flen (l.drop k):=by
  unfold flen
  rw[← List.length_append,← List.flatten_append,List.take_append_drop]
theorem flen_succ {l:List Str} {i:Nat} (hi:i<l.length):flen (l.take (i+1))=flen (l.take i)+l[i].length:=by
  unfold flen
  rw[List.take_succ_eq_append_getElem hi,List.flatten_append,List.length_append]
  congr 1
  rw[List.flatten_cons,List.flatten_nil,List.append_nil]
theorem listV_drop {l:List Str} {i:Nat} (h:i<l.length):listV (l.drop i)=(okL l[i] && (decide (i+1=l.length) || endedV l[i]) && listV (l.drop (i+1))):=by
  rw[List.drop_eq_getElem_cons h]
  cases h2:l.drop (i+1) with
  | nil =>
    have h3:l.length≤i+1:=List.drop_eq_nil_iff.1 h2
    have h4:i+1=l.length:=by omega
    simp[listV,h4]
  | cons y r =>
    have h4:¬i+1=l.length:=by
      intro h5
      have:l.drop (i+1)=[]:=List.drop_eq_nil_iff.2 (by omega)
      rw[this] at h2
      simp at h2
    simp[listV,h4]
def strsOk (l:List Str):Prop:=∀x,x∈l→x.length≤9223372036854775807
theorem mem_flen {x:Str}:∀{l:List Str},x∈l→x.length≤flen l
  | y::r,h=>by
    unfold flen
    rw[List.flatten_cons,List.length_append]
    rcases List.mem_cons.1 h with rfl | h
    · omega
    · have:=mem_flen h
      unfold flen at this
      omega
@[simp] theorem strsOk_flen {l:List Str} (h:flen l≤4194304):strsOk l:=fun x hx=>by have:=mem_flen hx;omega
@[simp] def S_ref02_List:List D→Prop × D:=spec1 (α:=List Str) (fun l=>strsOk l∧l.length≤4194304) (fun l=>.bool (listV l))
theorem ct_ref02_List {P:Program} {f g:Nat} {G:Gam} (h:CodeOf P f 1 8 [1] (x_ref02_List g)) (hG:GamOk P G) (hg:G.find g=some S_ref02_Ended):Has P f S_ref02_List:=h.has1 hG fun l hp=>by
  obtain⟨p1,p2⟩:=hp
  simp[x_ref02_List]
  refine vc_lp (σ:=Nat) (fun i=>i≤l.length∧listV l=listV (l.drop i)) (fun i=>l.length-i) (fun i=>[.d (Rep.to l),.any,.d (.int .i64 i),.any,.any,.any,.any,.any]) (fun _=>[]) 0 (by simp) (by simp) ⟨by simp,by simp⟩ ?_
  rintro i ⟨i1,i2⟩
  by_cases hi:i<l.length
  · have w1:IntKind.i64.wrap ((i:Int)+1)=(i:Int)+1:=wrap_in (by omega) (by omega)
    rw[listV_drop hi] at i2
    have hx:=p1 _ (List.getElem_mem hi)
    obtain⟨x,hq⟩:∃x,l[i]=x:=⟨_,rfl⟩
    rw[hq] at i2 hx
    simp[hi,getD_map,hq]
    refine vc_lp (σ:=Nat) (fun k=>(k=0∨k<x.length)∧∀j,j<k→x.getD j 0≠10) (fun k=>x.length-k) (fun k=>[.d (Rep.to l),.any,.d (.int .i64 i),.d (.int .i64 k),.any,.any,.any,.any]) (fun _=>[]) 0 (by simp) (by simp) ⟨by simp,by simp⟩ ?_
    rintro k ⟨k1,k2⟩
    have w2:IntKind.i64.wrap ((k:Int)+1)=(k:Int)+1:=wrap_in (by omega) (by omega)
    by_cases hk:k+1<x.length
    · have hk':(k:Int)+1<x.length:=by omega
      have hk2:k<x.length:=by omega
      have e:((x[k].toNat:Int)=10)=(x[k]=10):=by
        apply propext
        constructor
        · intro h
          exact UInt8.toNat_inj.1 (by simp;omega)
        · intro h;rw[h];rfl
      by_cases c:x[k]=10
      · have hb:listV l=false:=by
          rw[i2]
          have:(10:UInt8)∈x.dropLast:=by
            rw[List.dropLast_eq_take,List.mem_take_iff_getElem]
            exact⟨k,by omega,c⟩
          simp[okL,this]
        simp[hi,getD_map,hq,w2,hk',hk2,e,c,hb]
      · simp[hi,getD_map,hq,w2,hk',hk2,e,c]
        refine Nxt.mk (k+1) (by omega) (by simp) (by simp) ⟨by omega,fun j hj=>?_⟩
        by_cases hjk:j<k
        · exact k2 j hjk
        · obtain rfl:j=k:=by omega
          simpa [List.getD,hk2] using c
    · have hk':¬((k:Int)+1<x.length):=by omega
      have hn:(10:UInt8) ∉ x.dropLast:=by
        intro hm
        rw[List.dropLast_eq_take,List.mem_take_iff_getElem] at hm
        obtain⟨j,hj,hm⟩:=hm
        have:=k2 j (by omega)
        have hj2:j<x.length:=by omega
        simp[List.getD,hj2] at this
        exact this hm
      have hx2:x.length≤9223372036854775807:=by omega
      by_cases hx0:x=[]
      · subst hx0
        have hb:listV l=false:=by rw[i2];simp[okL]
        have hk0:¬((k:Int)+1<0):=by omega
        simp[hi,getD_map,hq,w2,hb,hk0]
      · have hok:okL x=true:=by simp[okL,hx0,hn]
        rw[hok] at i2
        by_cases hlast:i+1<l.length
        · have hl':(i:Int)+1<l.length:=by omega
          have hne:¬i+1=l.length:=by omega
          cases he:endedV x with
          | false =>
            have hb:listV l=false:=by rw[i2,he];simp[hne]
            simp[hi,getD_map,hq,w1,w2,hk',hx0,hl',hg,hx2,he,hb]
          | true =>
            simp[hi,getD_map,hq,w1,w2,hk',hx0,hl',hg,hx2,he]
            exact Nxt.mk (i+1) (by omega) (by simp) (by simp) ⟨by omega,by rw[i2,he];simp⟩
        · have hl':¬((i:Int)+1<l.length):=by omega
          simp[hi,getD_map,hq,w1,w2,hk',hx0,hl']
          exact Nxt.mk (i+1) (by omega) (by simp) (by simp) ⟨by omega,by rw[i2];simp;omega⟩
  · have hi2:i=l.length:=by omega
    subst hi2
    have hb:listV l=true:=by rw[i2];simp[listV]
    simp[hb]
end Go.AE
namespace Go.AE
def indOk (s n:Str):Prop:=s.length<4294967281∨n.length=1
@[simp] theorem indOk_of {s n:Str} (h:s.length<4294967281):indOk s n:=.inl h
@[simp] def S_strings_Index:List D→Prop × D:=spec2 (α:=Str) (β:=Str) indOk (fun s n=>.int .i64 (Lib.index s n))
def rowOk (r:RowT):Prop:=0≤r.marks∧r.marks<4294967296
def blankV (r:RowT):Bool:=!r.lost && decide (r.marks=0)
@[simp] def S_ref17_Blank:List D→Prop × D:=spec1 (α:=RowT) (fun _=>True) (fun r=>.bool (blankV r))
theorem ct_ref17_Blank {P:Program} {f:Nat} {G:Gam} (h:CodeOf P f 1 3 [2] x_ref17_Blank) (hG:GamOk P G):Has P f S_ref17_Blank:=h.has1 hG fun r _=>by
  cases hl:r.lost <;> simp[x_ref17_Blank,hl,blankV]
@[simp] def S_interest_blank:List D→Prop × D:=spec1 (α:=RowT) (fun _=>True) (fun r=>.bool (blankV r))
theorem ct_interest_blank {P:Program} {f:Nat} {G:Gam} (h:CodeOf P f 1 3 [2] x_interest_blank) (hG:GamOk P G):Has P f S_interest_blank:=h.has1 hG fun r _=>by
  cases hl:r.lost <;> simp[x_interest_blank,hl,blankV]
def visB (r:RowT) (c:Int):Bool:=if c=-1 then !r.lost else if c < -1∨32≤c then false else (decide (getU r.marks c=1) == r.lost)
@[simp] def S_ref16_Visible:List D→Prop × D:=spec2 (α:=RowT) (β:=Int) (fun _ _=>True) (fun r c=>.bool (visB r c))
theorem ct_ref16_Visible {P:Program} {f:Nat} {G:Gam} (h:CodeOf P f 2 6 [3] x_ref16_Visible) (hG:GamOk P G):Has P f S_ref16_Visible:=h.has2 hG fun r c _=>by
  by_cases c1:c=-1
  · subst c1
    simp[x_ref16_Visible,visB]
  · by_cases c2:c < -1∨32≤c
    · rcases c2 with c2 | c2
      · simp[x_ref16_Visible,visB,c1,c2]
      · have c3:¬c < -1:=by omega
        simp[x_ref16_Visible,visB,c1,c2,c3]
    · have c3:¬c < -1:=by omega
      have c4:¬32≤c:=by omega
      obtain⟨p,rfl⟩:=Int.eq_ofNat_of_zero_le (show 0≤c by omega)
      have e:getU r.marks p=IntKind.u32.wrap ↑((r.marks.fdiv (2 ^ min p IntKind.u32.bits) % 2 ^ IntKind.u32.bits).toNat &&& 1 % 2 ^ IntKind.u32.bits):=rfl
      simp[x_ref16_Visible,visB,c1,c3,c4,u64_wrap (show p<18446744073709551616 by omega)]
      rw[← e]
def colV (rows:List RowT) (c:Int):List Str:=(rows.filter fun r=>visB r c).map RowT.text
@[simp] def S_ref16_Column:List D→Prop × D:=spec2 (α:=List RowT) (β:=Int) (fun rows _=>rows.length≤1048576) (fun rows c=>Rep.to (colV rows c))
theorem ct_ref16_Column {P:Program} {f g1:Nat} {G:Gam} (h:CodeOf P f 2 7 [2] (x_ref16_Column g1)) (hG:GamOk P G) (h1:G.find g1=some S_ref16_Visible):Has P f S_ref16_Column:=h.has2 hG fun rows c hp=>by
  simp[x_ref16_Column]
  refine vc_lp (σ:=Nat × List Str) (fun x=>x.1≤rows.length∧x.2.length≤x.1∧x.2++colV (rows.drop x.1) c=colV rows c) (fun x=>rows.length-x.1) (fun x=>[.d (Rep.to rows),.d (.int .i64 c),.any,.gr 0 1 (x.2.map Rep.to),.d (.int .i64 x.1),.any,.any]) (fun x=>[.tip x.2.length]) (0,[]) (by simp) (by simp) (by simp) ?_
  rintro⟨k,o⟩ ⟨g1',g2,g3⟩
  simp only at g1' g2 g3
  by_cases hk:k<rows.length
  · rw[List.drop_eq_getElem_cons hk] at g3
    have w1:IntKind.i64.wrap ((k:Int)+1)=(k:Int)+1:=wrap_in (by omega) (by omega)
    cases hv:visB rows[k] c with
    | true =>
      simp only[colV,List.filter_cons,hv,if_true,List.map_cons] at g3
      simp[hk,getD_map,h1,hv,w1]
      exact⟨by unfold room;omega,Nxt.mk (k+1,o++[rows[k].text]) (by simp;omega) (by simp) (by simp) ⟨by simp;omega,by simp;omega,by simp only[colV];rw[← g3];simp⟩⟩
    | false =>
      simp only[colV,List.filter_cons,hv] at g3
      simp[hk,getD_map,h1,hv,w1]
      exact Nxt.mk (k+1,o) (by simp;omega) (by simp) (by simp) ⟨by simp;omega,by simp;omega,by simpa [colV] using g3⟩
  · have h9:k=rows.length:=by omega
    subst h9
    rw[List.drop_length] at g3
    simp[colV] at g3
    simp[g3,colV]
def lineB (s:Str):Bool:=okL s
@[simp] def S_ref12_Line:List D→Prop × D:=spec1 (α:=Str) lenOk (fun s=>.bool (lineB s))
theorem ct_ref12_Line {P:Program} {f:Nat} {G:Gam} (h:CodeOf P f 1 5 [1] x_ref12_Line) (hG:GamOk P G):Has P f S_ref12_Line:=h.has1 hG fun x hp=>by
  unfold lenOk at hp
  simp[x_ref12_Line]
  refine vc_lp (σ:=Nat) (fun k=>(k=0∨k<x.length)∧∀j,j<k→x.getD j 0≠10) (fun k=>x.length-k) (fun k=>[.d (Rep.to x),.any,.d (.int .i64 k),.any,.any]) (fun _=>[]) 0 (by simp) (by simp) ⟨by simp,by simp⟩ ?_
  rintro k ⟨k1,k2⟩
  have w2:IntKind.i64.wrap ((k:Int)+1)=(k:Int)+1:=wrap_in (by omega) (by omega)
  by_cases hk:k+1<x.length
  · have hk':(k:Int)+1<x.length:=by omega
    have hk2:k<x.length:=by omega
    have e:((x[k].toNat:Int)=10)=(x[k]=10):=by
      apply propext
      constructor
      · intro h
        exact UInt8.toNat_inj.1 (by simp;omega)
      · intro h;rw[h];rfl
    by_cases c:x[k]=10
    · have hb:lineB x=false:=by
        have:(10:UInt8)∈x.dropLast:=by
          rw[List.dropLast_eq_take,List.mem_take_iff_getElem]
          exact⟨k,by omega,c⟩
        simp[lineB,okL,this]
      simp[w2,hk',hk2,e,c,hb]
    · simp[w2,hk',hk2,e,c]
      refine Nxt.mk (k+1) (by omega) (by simp) (by simp) ⟨by omega,fun j hj=>?_⟩
      by_cases hjk:j<k
      · exact k2 j hjk
      · obtain rfl:j=k:=by omega
        simpa [List.getD,hk2] using c
  · have hk':¬((k:Int)+1<x.length):=by omega
    have hn:(10:UInt8) ∉ x.dropLast:=by
      intro hm
      rw[List.dropLast_eq_take,List.mem_take_iff_getElem] at hm
      obtain⟨j,hj,hm⟩:=hm
      have:=k2 j (by omega)
      have hj2:j<x.length:=by omega
      simp[List.getD,hj2] at this
      exact this hm
    by_cases hx0:x=[]
    · subst hx0
      have hb:lineB []=false:=by simp[lineB,okL]
      have hk0:¬((k:Int)+1<0):=by omega
      simp[w2,hb,hk0]
    · have hb:lineB x=true:=by simp[lineB,okL,hx0,hn]
      simp[w2,hk',hb,hx0]
def marksB (rows:List RowT) (n:Nat):Bool:=rows.all fun r=>decide (r.marks.toNat<2 ^ n) && (!r.lost || decide (r.marks≠0))
theorem shr64 {m:Int} {n:Nat} (h1:0≤m) (h2:m<4294967296) (hn:n≤32):((IntKind.u64.wrap m).fdiv (2 ^ min n IntKind.u64.bits)=0)=(m.toNat<2 ^ n):=by
  obtain⟨m,rfl⟩:=Int.eq_ofNat_of_zero_le h1
  have e3:min n IntKind.u64.bits=n:=by simp only[IntKind.bits];omega
  have h0:((2:Int) ^ n)=((2 ^ n:Nat):Int):=by push_cast;rfl
  have hlt:m / 2 ^ n≤m:=Nat.div_le_self _ _
  rw[u64_wrap (by omega),e3,h0,Int.fdiv_eq_ediv_of_nonneg _ (Int.natCast_nonneg _),show ((m:Int) / ((2 ^ n:Nat):Int))=((m / 2 ^ n:Nat):Int) from rfl]
  have h3:m / 2 ^ n=0↔m<2 ^ n:=by rw[Nat.div_eq_zero_iff];have:=Nat.two_pow_pos n;omega
  simp only[Int.toNat_natCast,eq_iff_iff,← h3]
  omega
@[simp] def S_ref16_Marks:List D→Prop × D:=spec2 (α:=List RowT) (β:=Int) (fun rows n=>rows.length≤1048576∧(∀r,r∈rows→rowOk r)∧0≤n∧n≤32) (fun rows n=>.bool (marksB rows n.toNat))
theorem ct_ref16_Marks {P:Program} {f:Nat} {G:Gam} (h:CodeOf P f 2 6 [2] x_ref16_Marks) (hG:GamOk P G):Has P f S_ref16_Marks:=h.has2 hG fun rows n hp=>by
  obtain⟨p1,p2,p3,p4⟩:=hp
  obtain⟨n,rfl⟩:=Int.eq_ofNat_of_zero_le p3
  simp[x_ref16_Marks]
  refine vc_lp (σ:=Nat) (fun k=>k≤rows.length∧marksB rows n=marksB (rows.drop k) n) (fun k=>rows.length-k) (fun k=>[.d (Rep.to rows),.d (.int .i64 n),.any,.d (.int .i64 k),.any,.any]) (fun _=>[]) 0 (by simp) (by simp) ⟨by simp,by simp⟩ ?_
  rintro k ⟨k1,k2⟩
  by_cases hk:k<rows.length
  · have w1:IntKind.i64.wrap ((k:Int)+1)=(k:Int)+1:=wrap_in (by omega) (by omega)
    have hr:=p2 _ (List.getElem_mem hk)
    have hs:=shr64 hr.1 hr.2 (show n≤32 by omega)
    rw[List.drop_eq_getElem_cons hk] at k2
    have k3:marksB (rows[k]::rows.drop (k+1)) n=((decide (rows[k].marks.toNat<2 ^ n) && (!rows[k].lost || decide (rows[k].marks≠0))) && marksB (rows.drop (k+1)) n):=by rw[marksB,List.all_cons];rfl
    rw[k3] at k2
    have w64:IntKind.u64.wrap (n:Int)=n:=u64_wrap (by omega)
    by_cases c1:rows[k].marks.toNat<2 ^ n
    · cases hl:rows[k].lost with
      | false =>
        have hb:marksB rows n=marksB (rows.drop (k+1)) n:=by rw[k2];simp[c1,hl]
        simp[hk,getD_map,w1,w64,hs,c1,hl]
        exact Nxt.mk (k+1) (by omega) (by simp) (by simp) ⟨by omega,hb⟩
      | true =>
        by_cases c2:rows[k].marks=0
        · have hb:marksB rows n=false:=by rw[k2];simp[c2,hl]
          simp[hk,getD_map,w1,w64,hs,c1,hl,c2,hb]
        · have hb:marksB rows n=marksB (rows.drop (k+1)) n:=by rw[k2];simp[c1,hl,c2]
          simp[hk,getD_map,w1,w64,hs,c1,hl,c2]
          exact Nxt.mk (k+1) (by omega) (by simp) (by simp) ⟨by omega,hb⟩
    · have hb:marksB rows n=false:=by rw[k2];simp[c1]
      simp[hk,getD_map,w1,w64,hs,c1,hb]
  · have hk2:k=rows.length:=by omega
    subst hk2
    have hb:marksB rows n=true:=by rw[k2];simp[marksB]
    simp[hb]
def markB (n:Nat) (r:RowT):Bool:=decide (r.marks.toNat<2 ^ n) && (!r.lost || decide (r.marks≠0))
theorem marksB_all (rows:List RowT) (n:Nat):marksB rows n=rows.all (markB n):=rfl
def textsB (rows:List RowT) (n:Nat):Bool:=(rows.all fun r=>lineB r.text) && (List.range (n+1)).all fun (c:Nat)=>listV (colV rows ((c:Int)-1))
def inN (r:RowT):Nat:=if r.lost then r.marks.toNat else 4294967295 ^^^ r.marks.toNat
def endsB:Bool→Nat→List RowT→Bool
  | _,_,[]=>true
  | res,par,r::rs=>decide (par &&& inN r=0) && (r.lost || !res) && endsB (res || (!endedV r.text && !r.lost)) (if endedV r.text then par else par ||| inN r) rs
def colB (c:Int):Bool→List RowT→Bool
  | _,[]=>true
  | had,r::rs=>if visB r c then !had && colB c (!endedV r.text) rs else colB c had rs
theorem testBit_ones {p:Nat} (h:p<32):(4294967295:Nat).testBit p=true:=by
  have:(4294967295:Nat)=2 ^ 32-1:=rfl
  rw[this,Nat.testBit_two_pow_sub_one]
  simpa using h
theorem inN_bit {r:RowT} (h:rowOk r) {p:Nat} (hp:p<32):(inN r).testBit p=visB r p:=by
  obtain⟨h1,h2⟩:=h
  have hm:getU r.marks p=if r.marks.toNat.testBit p=true then 1 else 0:=by
    have:=getU_nat (m:=r.marks.toNat) (p:=p) (by omega) hp
    rwa [show ((r.marks.toNat:Nat):Int)=r.marks by omega] at this
  have n1:¬((p:Int)=-1):=by omega
  have n2:¬((p:Int) < -1∨32≤(p:Int)):=by omega
  unfold inN visB
  rw[if_neg n1,if_neg n2,hm]
  cases hl:r.lost with
  | true=>cases hb:r.marks.toNat.testBit p <;> simp[hb]
  | false =>
    simp only[Bool.false_eq_true,if_false,Nat.testBit_xor,testBit_ones hp]
    cases hb:r.marks.toNat.testBit p <;> simp
theorem inN_lt {r:RowT} (h:rowOk r):inN r<2 ^ 32:=by
  obtain⟨h1,h2⟩:=h
  unfold inN
  split
  · have:(2:Nat) ^ 32=4294967296:=rfl
    omega
  · exact Nat.xor_lt_two_pow (by omega) (by have:(2:Nat) ^ 32=4294967296:=rfl;omega)
theorem and_zero {a b:Nat} (hb:b<2 ^ 32):(a &&& b=0)↔∀p:Nat,p<32→¬(a.testBit p=true∧b.testBit p=true):=by
  constructor
  · intro h p _ h2
    have:(a &&& b).testBit p=true:=by rw[Nat.testBit_and,h2.1,h2.2];rfl
    rw[h] at this
    simp at this
  · intro h
    apply Nat.eq_of_testBit_eq
    intro p
    rw[Nat.testBit_and,Nat.zero_testBit]
    by_cases hp:p<32
    · have:=h p hp
      cases h1:a.testBit p <;> cases h2:b.testBit p <;> simp_all
    · rw[Nat.testBit_lt_two_pow (Nat.lt_of_lt_of_le hb (Nat.pow_le_pow_right (by omega) (by omega)))]
      simp
theorem vis_res (r:RowT):visB r (-1)=!r.lost:=by simp[visB]
theorem ends_cols:∀(rows:List RowT) (res:Bool) (par:Nat),(∀r,r∈rows→rowOk r)→(endsB res par rows=true↔colB (-1) res rows=true∧∀p:Nat,p<32→colB p (par.testBit p) rows=true)
  | [],res,par,_=>by simp[endsB,colB]
  | r::rs,res,par,h=>by
    have hr:=h r (by simp)
    have ih:=ends_cols rs (res || (!endedV r.text && !r.lost)) (if endedV r.text then par else par ||| inN r) fun x hx=>h x (by simp[hx])
    simp only[endsB,Bool.and_eq_true,decide_eq_true_eq,ih,and_zero (inN_lt hr),colB,vis_res]
    constructor
    · rintro⟨⟨h1,h2⟩,h3,h4⟩
      refine⟨?_,fun p hp=>?_⟩
      · cases hl:r.lost with
        | true=>simpa [hl] using h3
        | false =>
          have hres:res=false:=by simpa [hl] using h2
          subst hres
          simpa [hl] using h3
      · have h5:=h4 p hp
        have h6:=h1 p hp
        rw[inN_bit hr hp] at h6
        cases hv:visB r p with
        | true =>
          have hpf:par.testBit p=false:=by
            cases hx:par.testBit p with
            | false=>rfl
            | true=>exact absurd ⟨hx,hv⟩ h6
          rw[hpf]
          cases he:endedV r.text with
          | true=>rw[he] at h5;simp[hpf] at h5;simpa using h5
          | false=>rw[he] at h5;simp[Nat.testBit_or,inN_bit hr hp,hv] at h5;simpa using h5
        | false =>
          cases he:endedV r.text with
          | true=>rw[he] at h5;simpa using h5
          | false=>rw[he] at h5;simp[Nat.testBit_or,inN_bit hr hp,hv] at h5;simpa using h5
    · rintro⟨h3,h4⟩
      have h1:∀p,p<32→¬(par.testBit p=true∧(inN r).testBit p=true):=by
        rintro p hp ⟨a,b⟩
        rw[inN_bit hr hp] at b
        have:=h4 p hp
        simp[b,a] at this
      refine⟨⟨h1,?_⟩,?_,fun p hp=>?_⟩
      · cases hl:r.lost with
        | true=>rfl
        | false =>
          simp[hl] at h3
          simp[h3.1]
      · cases hl:r.lost with
        | true=>simpa [hl] using h3
        | false =>
          simp[hl] at h3
          simp[h3]
      · have h5:=h4 p hp
        cases hv:visB r p with
        | true =>
          simp[hv] at h5
          cases he:endedV r.text with
          | true=>simp[h5.1];simpa [he] using h5.2
          | false=>simp[Nat.testBit_or,inN_bit hr hp,hv];simpa [he] using h5.2
        | false =>
          simp[hv] at h5
          cases he:endedV r.text with
          | true=>simpa using h5
          | false=>simpa [Nat.testBit_or,inN_bit hr hp,hv] using h5
theorem col_far {n:Nat}:∀(rows:List RowT) (had:Bool) (p:Nat),(∀r,r∈rows→rowOk r)→rows.all (markB n)=true→n≤p→p<32→colB p had rows=colB (-1) had rows
  | [],_,_,_,_,_,_=>rfl
  | r::rs,had,p,h,hm,hn,hp=>by
    have hr:=h r (by simp)
    simp only[List.all_cons,Bool.and_eq_true] at hm
    have ih:=fun had=>col_far rs had p (fun x hx=>h x (by simp[hx])) hm.2 hn hp
    have hlt:r.marks.toNat<2 ^ n:=by
      have:=hm.1
      simp only[markB,Bool.and_eq_true,decide_eq_true_eq] at this
      exact this.1
    have hb:r.marks.toNat.testBit p=false:=Nat.testBit_lt_two_pow (Nat.lt_of_lt_of_le hlt (Nat.pow_le_pow_right (by omega) hn))
    have hv:visB r p=!r.lost:=by
      rw[← inN_bit hr hp]
      unfold inN
      cases hl:r.lost with
      | true=>simp[hb]
      | false=>simp only[Bool.false_eq_true,if_false,Nat.testBit_xor,testBit_ones hp,hb];rfl
    simp only[colB,hv,vis_res,ih]
def lastB:List Str→Bool
  | []=>true
  | [_]=>true
  | x::y::r=>endedV x && lastB (y::r)
theorem listV_last:∀l:List Str,listV l=(l.all okL && lastB l)
  | []=>rfl
  | [x]=>by simp[listV,lastB]
  | x::y::r=>by
    have ih:=listV_last (y::r)
    simp only[listV,lastB,ih,List.all_cons]
    cases okL x <;> cases endedV x <;> simp
theorem col_had (c:Int):∀(rows:List RowT),colB c true rows=(colV rows c).isEmpty
  | []=>rfl
  | r::rs=>by
    simp only[colB]
    cases hv:visB r c with
    | true=>simp[colV,hv]
    | false=>simp[colV,hv,col_had c rs]
theorem last_cons (x:Str) (l:List Str):lastB (x::l)=if endedV x then lastB l else l.isEmpty:=by
  cases l with
  | nil=>simp[lastB]
  | cons y r=>cases h:endedV x <;> simp[lastB,h]
theorem col_last (c:Int):∀(rows:List RowT),colB c false rows=lastB (colV rows c)
  | []=>rfl
  | r::rs=>by
    simp only[colB]
    cases hv:visB r c with
    | true =>
      have e:colV (r::rs) c=r.text::colV rs c:=by simp[colV,hv]
      rw[e,last_cons]
      cases he:endedV r.text with
      | true=>simp[col_last c rs]
      | false=>simp[col_had]
    | false=>simp[colV,hv,col_last c rs]
theorem texts_ends {rows:List RowT} {n:Nat} (h:∀r,r∈rows→rowOk r) (hm:rows.all (markB n)=true) (hn:n≤32) :
    textsB rows n=((rows.all fun r=>lineB r.text) && endsB false 0 rows):=by
  unfold textsB
  cases hl:rows.all fun r=>lineB r.text with
  | false=>rfl
  | true =>
    simp only[Bool.true_and]
    have hcol:∀c,listV (colV rows c)=colB c false rows:=by
      intro c
      rw[listV_last,col_last]
      have:(colV rows c).all okL=true:=by
        rw[List.all_eq_true] at hl ⊢
        intro x hx
        obtain⟨r,hr,rfl⟩:=List.mem_map.1 hx
        exact hl r (List.mem_filter.1 hr).1
      rw[this,Bool.true_and]
    rw[Bool.eq_iff_iff,ends_cols rows false 0 h]
    simp only[hcol,List.all_eq_true,List.mem_range,Nat.zero_testBit]
    constructor
    · intro h1
      have h0:=h1 0 (by omega)
      simp at h0
      refine⟨h0,fun p hp=>?_⟩
      by_cases hpn:p<n
      · have:=h1 (p+1) (by omega)
        rwa [show (((p+1:Nat):Int)-1)=p by omega] at this
      · rw[col_far rows false p h hm (by omega) hp]
        exact h0
    · rintro⟨h0,h1⟩ c hc
      rcases Nat.eq_zero_or_pos c with rfl | hc0
      · simpa using h0
      · have:=h1 (c-1) (by omega)
        rwa [show ((c:Int)-1)=((c-1:Nat):Int) by omega]
def checkTab (t:TableT):Int:=if t.parents<1∨32<t.parents then 2 else if marksB t.rows t.parents.toNat=true then (if textsB t.rows t.parents.toNat=true then 0 else 4) else 180
def tabOk (t:TableT):Prop:=t.rows.length≤1048576∧(∀r,r∈t.rows→rowOk r)∧flen (t.rows.map RowT.text)≤4194304
theorem text_le {rows:List RowT} {r:RowT} (h:r∈rows):r.text.length≤flen (rows.map RowT.text):=by
  induction rows with
  | nil=>simp at h
  | cons x rs ih =>
    unfold flen at *
    rw[List.map_cons,List.flatten_cons,List.length_append]
    rcases List.mem_cons.1 h with rfl | h
    · omega
    · have:=ih h
      omega
def tabBig (t:TableT):Prop:=t.rows.length≤9223372036854775807∧(∀r,r∈t.rows→rowOk r)∧∀r,r∈t.rows→r.text.length≤9223372036854775807
def tabWide (t:TableT):Prop:=t.rows.length≤1048576∧(∀r,r∈t.rows→rowOk r)∧∀r,r∈t.rows→r.text.length≤9223372036854775807
@[simp] theorem tabWide_of {t:TableT} (h:tabOk t):tabWide t:=⟨h.1,h.2.1,fun r hr=>by have:=text_le hr;have:=h.2.2;omega⟩
theorem tabBig.wide {t:TableT} (h:tabBig t) (hl:t.rows.length≤1048576):tabWide t:=⟨hl,h.2.1,h.2.2⟩
theorem col_mem {rows:List RowT} {c:Int} {x:Str} (h:x∈colV rows c):∃r,r∈rows∧r.text=x:=by
  unfold colV at h
  obtain⟨r,hr,rfl⟩:=List.mem_map.1 h
  exact⟨r,(List.mem_filter.1 hr).1,rfl⟩
theorem col_flen (rows:List RowT) (c:Int):flen (colV rows c)≤flen (rows.map RowT.text)∧(colV rows c).length≤rows.length:=by
  refine⟨?_,by unfold colV;rw[List.length_map];exact List.length_filter_le _ _⟩
  induction rows with
  | nil=>simp[colV,flen]
  | cons x rs ih =>
    unfold flen colV at *
    rw[List.map_cons,List.flatten_cons,List.length_append,List.filter_cons]
    split
    · rw[List.map_cons,List.flatten_cons,List.length_append];omega
    · omega
@[simp] def S_ref16_Texts:List D→Prop × D:=spec2 (α:=List RowT) (β:=Int) (fun rows n=>rows.length≤1048576∧(∀r,r∈rows→r.text.length≤9223372036854775807)∧0≤n∧n≤32) (fun rows n=>.bool (textsB rows n.toNat))
theorem ct_ref16_Texts {P:Program} {f g1 g2 g3:Nat} {G:Gam} (h:CodeOf P f 2 9 [2] (x_ref16_Texts g1 g2 g3)) (hG:GamOk P G) (h1:G.find g1=some S_ref12_Line) (h2:G.find g2=some S_ref16_Column) (h3:G.find g3=some S_ref02_List):Has P f S_ref16_Texts:=h.has2 hG fun rows n hp=>by
  obtain⟨p1,p2,p3,p4⟩:=hp
  obtain⟨n,rfl⟩:=Int.eq_ofNat_of_zero_le p3
  simp[x_ref16_Texts]
  refine vc_lp (σ:=Nat) (fun k=>k≤rows.length∧(rows.all fun r=>lineB r.text)=((rows.drop k).all fun r=>lineB r.text)) (fun k=>rows.length-k) (fun k=>[.d (Rep.to rows),.d (.int .i64 n),.any,.d (.int .i64 k),.any,.any,.any,.any,.any]) (fun _=>[]) 0 (by simp) (by simp) ⟨by simp,by simp⟩ ?_
  rintro k ⟨k1,k2⟩
  by_cases hk:k<rows.length
  · have w1:IntKind.i64.wrap ((k:Int)+1)=(k:Int)+1:=wrap_in (by omega) (by omega)
    rw[List.drop_eq_getElem_cons hk,List.all_cons] at k2
    have hl2:=p2 _ (List.getElem_mem hk)
    cases hb:lineB rows[k].text with
    | true =>
      rw[hb,Bool.true_and] at k2
      simp[hk,getD_map,h1,hl2,hb,w1]
      exact Nxt.mk (k+1) (by omega) (by simp) (by simp) ⟨by omega,k2⟩
    | false =>
      rw[hb,Bool.false_and] at k2
      have ht:textsB rows n=false:=by unfold textsB;rw[k2];rfl
      simp[hk,getD_map,h1,hl2,hb,ht]
  · have hk2:k=rows.length:=by omega
    subst hk2
    rw[List.drop_length] at k2
    have ht:textsB rows n=(List.range (n+1)).all fun (c:Nat)=>listV (colV rows ((c:Int)-1)):=by unfold textsB;rw[k2];rfl
    simp
    refine vc_lp (σ:=Nat) (fun c=>c≤n+1∧∀d,d<c→listV (colV rows ((d:Int)-1))=true) (fun c=>n+1-c) (fun c=>[.d (Rep.to rows),.d (.int .i64 n),.any,.any,.d (.int .i64 ((c:Int)-1)),.any,.any,.any,.any]) (fun _=>[]) 0 (by simp) (by simp) ⟨by simp,by simp⟩ ?_
    rintro c ⟨c1,c2⟩
    by_cases hc:c<n+1
    · have hc':(c:Int)-1<n:=by omega
      have w1:IntKind.i64.wrap (c:Int)=(c:Int):=wrap_in (by omega) (by omega)
      obtain⟨q1,q2⟩:=col_flen rows ((c:Int)-1)
      have q3:strsOk (colV rows ((c:Int)-1)):=fun x hx=>by obtain⟨r,hr,rfl⟩:=col_mem hx;exact p2 r hr
      have q4:(colV rows ((c:Int)-1)).length≤4194304:=by omega
      cases hb:listV (colV rows ((c:Int)-1)) with
      | true =>
        simp[hc',h2,h3,p1,q3,q4,hb,w1]
        refine Nxt.mk (c+1) (by omega) (by simp) (by simp) ⟨by omega,fun d hd=>?_⟩
        by_cases hdc:d<c
        · exact c2 d hdc
        · obtain rfl:d=c:=by omega
          exact hb
      | false =>
        have hf:textsB rows n=false:=by
          rw[ht,List.all_eq_false]
          exact⟨c,by simp;omega,by rw[hb];simp⟩
        simp[hc',h2,h3,p1,q3,q4,hb,hf]
    · have hc':¬(c:Int)-1<n:=by omega
      have hf:textsB rows n=true:=by
        rw[ht,List.all_eq_true]
        intro d hd
        exact c2 d (by simp at hd;omega)
      simp[hc',hf]
@[simp] def S_ref16_Check:List D→Prop × D:=spec1 (α:=TableT) tabWide (fun t=>.int .i64 (checkTab t))
theorem ct_ref16_Check {P:Program} {f g1 g2:Nat} {G:Gam} (h:CodeOf P f 1 6 [2] (x_ref16_Check g1 g2)) (hG:GamOk P G) (h1:G.find g1=some S_ref16_Marks) (h2:G.find g2=some S_ref16_Texts):Has P f S_ref16_Check:=h.has1 hG fun t hp=>by
  obtain⟨p1,p2,p3⟩:=hp
  by_cases c1:t.parents<1
  · simp[x_ref16_Check,checkTab,c1]
  · by_cases c2:32<t.parents
    · simp[x_ref16_Check,checkTab,c1,c2]
    · have c3:0≤t.parents:=by omega
      have c4:t.parents≤32:=by omega
      cases hm:marksB t.rows t.parents.toNat with
      | false=>simp[x_ref16_Check,checkTab,c1,c2,h1,p1,c3,c4,hm,p2];exact fun a h=>p2 a h
      | true =>
        cases ht:textsB t.rows t.parents.toNat with
        | false=>simp[x_ref16_Check,checkTab,c1,c2,h1,h2,p1,c3,c4,hm,ht];exact⟨p2,p3⟩
        | true=>simp[x_ref16_Check,checkTab,c1,c2,h1,h2,p1,c3,c4,hm,ht];exact⟨p2,p3⟩
theorem shr32 {m:Int} {n:Nat} (h1:0≤m) (h2:m<4294967296) (hn:1≤n) (hn2:n≤32):((m.fdiv (2 ^ min 1 IntKind.u32.bits)).fdiv (2 ^ min (n-1) IntKind.u32.bits)=0)=(m.toNat<2 ^ n):=by
  obtain⟨m,rfl⟩:=Int.eq_ofNat_of_zero_le h1
  have e3:min (n-1) IntKind.u32.bits=n-1:=by simp only[IntKind.bits];omega
  have e4:min 1 IntKind.u32.bits=1:=rfl
  have h0:((2:Int) ^ (n-1))=((2 ^ (n-1):Nat):Int):=by push_cast;rfl
  have h5:(m:Int).fdiv ((2:Int) ^ 1)=((m / 2:Nat):Int):=by
    rw[show ((2:Int) ^ 1)=((2:Nat):Int) from rfl,Int.fdiv_eq_ediv_of_nonneg _ (Int.natCast_nonneg _)]
    rfl
  rw[e3,e4,h0,h5,Int.fdiv_eq_ediv_of_nonneg _ (Int.natCast_nonneg _),show (((m / 2:Nat):Int) / ((2 ^ (n-1):Nat):Int))=((m / 2 / 2 ^ (n-1):Nat):Int) from rfl,Nat.div_div_eq_div_mul]
  have e5:2 * 2 ^ (n-1)=2 ^ n:=by rw[Nat.mul_comm,← Nat.pow_succ];congr 1;omega
  rw[e5]
  have h3:m / 2 ^ n=0↔m<2 ^ n:=by rw[Nat.div_eq_zero_iff];have:=Nat.two_pow_pos n;omega
  simp only[Int.toNat_natCast,eq_iff_iff,← h3]
  omega
@[simp] def S_weave_Marked:List D→Prop × D:=spec2 (α:=RowT) (β:=Int) (fun r n=>rowOk r∧1≤n∧n≤32) (fun r n=>.bool (markB n.toNat r))
theorem ct_weave_Marked {P:Program} {f:Nat} {G:Gam} (h:CodeOf P f 2 4 [3] x_weave_Marked) (hG:GamOk P G):Has P f S_weave_Marked:=h.has2 hG fun r n hp=>by
  obtain⟨p1,p2,p3⟩:=hp
  obtain⟨n,rfl⟩:=Int.eq_ofNat_of_zero_le (show 0≤n by omega)
  have w1:IntKind.i64.wrap ((n:Int)-1)=((n-1:Nat):Int):=by rw[wrap_in (by omega) (by omega)];omega
  have hs:=shr32 p1.1 p1.2 (show 1≤n by omega) (by omega)
  by_cases c:r.marks.toNat<2 ^ n
  · cases hl:r.lost with
    | true=>simp[x_weave_Marked,w1,hs,c,hl,markB]
    | false=>simp[x_weave_Marked,w1,hs,c,hl,markB]
  · simp[x_weave_Marked,w1,hs,c,markB]
theorem index_ten (s:Str):(0≤Lib.index s [10])↔(10:UInt8)∈s:=by
  rcases first10 s with h | ⟨i,h1,h2⟩
  · have:Lib.index s [10]=-1:=Lib.index_none fun j hj=>by
      cases h3:Lib.occAt s [10] j with
      | false=>rfl
      | true=>exact absurd ((occ10 s j).1 h3) (h j)
    rw[this]
    constructor
    · intro h3;omega
    · intro h3
      obtain⟨k,hk⟩:=List.mem_iff_getElem?.1 h3
      exact absurd hk (h k)
  · have:Lib.index s [10]=i:=Lib.index_first (by have:=List.getElem?_eq_some_iff.1 h1;obtain⟨h3,_⟩:=this;omega) ((occ10 s i).2 h1) fun j hj=>by
      have:=h2 j hj
      cases h3:Lib.occAt s [10] j with
      | false=>rfl
      | true=>exact absurd ((occ10 s j).1 h3) this
    rw[this]
    constructor
    · intro _;exact List.mem_iff_getElem?.2 ⟨i,h1⟩
    · intro _;omega
@[simp] def S_strings_Contains:List D→Prop × D:=spec2 (α:=Str) (β:=Str) indOk (fun s n=>.bool (decide (0≤Lib.index s n)))
theorem ct_strings_Contains {P:Program} {f g1:Nat} {G:Gam} (h:CodeOf P f 2 3 [2] (x_strings_Contains g1)) (hG:GamOk P G) (h1:G.find g1=some S_strings_Index):Has P f S_strings_Contains:=h.has2 hG fun s n hp=>by
  simp[x_strings_Contains,h1,hp]
theorem bareV_le (x:Str):(bareV x).length≤x.length:=by
  unfold bareV
  split <;> simp
theorem bare_ten (s:Str):(10:UInt8)∈bareV s↔(10:UInt8)∈s.dropLast:=by
  rcases List.eq_nil_or_concat s with rfl | ⟨t,c,rfl⟩
  · simp[bareV,endedV]
  · simp only[List.concat_eq_append,bareV,endedV,List.getLast?_append,List.getLast?_singleton,Option.some_or,List.dropLast_concat]
    by_cases hc:c=10
    · simp[hc]
    · simp[hc,Ne.symm hc]
@[simp] def S_weave_Single:List D→Prop × D:=spec1 (α:=RowT) (fun r=>r.text.length≤9223372036854775807) (fun r=>.bool (lineB r.text))
theorem ct_weave_Single {P:Program} {f g1 g2:Nat} {G:Gam} (h:CodeOf P f 1 3 [2] (x_weave_Single g1 g2)) (hG:GamOk P G) (h1:G.find g1=some S_text_Bare) (h2:G.find g2=some S_strings_Contains):Has P f S_weave_Single:=h.has1 hG fun r hp=>by
  have hb:=bareV_le r.text
  have q1:=hp
  have q2:indOk (bareV r.text) [10]:=.inr rfl
  have e:decide (0≤Lib.index (bareV r.text) [10])=decide ((10:UInt8)∈r.text.dropLast):=by
    rw[Bool.eq_iff_iff,decide_eq_true_eq,decide_eq_true_eq,index_ten,bare_ten]
  by_cases c:r.text=[]
  · simp[x_weave_Single,c,lineB,okL]
  · have e2:(0≤Lib.index (bareV r.text) [10])=((10:UInt8)∈r.text.dropLast):=by rw[eq_iff_iff,index_ten,bare_ten]
    simp[x_weave_Single,h1,h2,q1,q2,c,e2,lineB,okL]
/-! ### following the rows -/
theorem xor_ones {m:Int} (h1:0≤m) (h2:m<4294967296):IntKind.u32.wrap ((((if IntKind.u32.signed=true then -1 else IntKind.u32.max) % 2 ^ IntKind.u32.bits).toNat ^^^ (m % 2 ^ IntKind.u32.bits).toNat:Nat):Int)=((4294967295 ^^^ m.toNat:Nat):Int):=by
  obtain⟨m,rfl⟩:=Int.eq_ofNat_of_zero_le h1
  have e:((if IntKind.u32.signed=true then -1 else IntKind.u32.max) % 2 ^ IntKind.u32.bits:Int).toNat=4294967295:=by decide
  have e2:(2:Int) ^ IntKind.u32.bits=4294967296:=rfl
  have e3:((m:Int) % 2 ^ IntKind.u32.bits).toNat=m:=by rw[e2];omega
  rw[e,e3,Int.toNat_natCast,u32_wrap]
  have:(4294967296:Nat)=2 ^ 32:=rfl
  rw[this]
  exact Nat.xor_lt_two_pow (by omega) (by omega)
theorem andU2 {a b:Nat} (ha:a<4294967296) (hb:b<4294967296):IntKind.u32.wrap ((a % 2 ^ IntKind.u32.bits &&& b % 2 ^ IntKind.u32.bits:Nat):Int)=((a &&& b:Nat):Int):=by
  have e:(2:Nat) ^ IntKind.u32.bits=4294967296:=rfl
  rw[e,Nat.mod_eq_of_lt ha,Nat.mod_eq_of_lt hb,u32_wrap]
  exact Nat.lt_of_le_of_lt Nat.and_le_left ha
theorem orU2 {a b:Nat} (ha:a<4294967296) (hb:b<4294967296):IntKind.u32.wrap ((a % 2 ^ IntKind.u32.bits ||| b % 2 ^ IntKind.u32.bits:Nat):Int)=((a ||| b:Nat):Int):=by
  have e:(2:Nat) ^ IntKind.u32.bits=4294967296:=rfl
  rw[e,Nat.mod_eq_of_lt ha,Nat.mod_eq_of_lt hb,u32_wrap]
  have:(4294967296:Nat)=2 ^ 32:=rfl
  rw[this] at *
  exact Nat.or_lt_two_pow ha hb
def A.gvd (α:Type) [Rep α] [Inhabited α] (x:A):α:=(Rep.of x.toD).getD default
attribute [simp] A.gvd
structure EndsX where
  res:Bool
  par:Nat
  row:RowT
  v:Nat
def endsOk (res:Bool) (par:Nat) (r:RowT):Bool:=decide (par &&& inN r=0) && (r.lost || !res)
def endsRes (res:Bool) (r:RowT):Bool:=res || (!endedV r.text && !r.lost)
def endsPar (par:Nat) (r:RowT):Nat:=if endedV r.text then par else par ||| inN r
@[simp] def F_weave_Ends_Add:RF EndsX where
  new:=0
  view a s:=⟨((s.getD 0 .dead).at 0 0).gb,((s.getD 0 .dead).at 0 1).gi.toNat,(a.getD 1 .any).gvd RowT,(s.getD 0 .dead).ver⟩
  args x:=[.ref 0 x.v 0 0,.agg [.d (.bool x.row.lost),.d (.int .u32 x.row.marks),.d (.str x.row.text)]]
  st x:=[.cells x.v 2 [.agg [.d (.bool x.res),.d (.int .u32 x.par)]]]
  pre x:=x.par<4294967296∧rowOk x.row∧x.row.text.length≤9223372036854775807
  res x:=.d (.bool (endsOk x.res x.par x.row))
  st' x:=[.cells x.v 2 [.agg [.d (.bool (endsRes x.res x.row)),.d (.int .u32 (endsPar x.par x.row))]]]
abbrev R_weave_Ends_Add:RSpec:=F_weave_Ends_Add.spec
theorem ct_weave_Ends_Add {P:Program} {f g1:Nat} {G:Gam} (hc:CodeOf P f 2 8 [3] (x_weave_Ends_Add g1)) (hG:GamOk P G) (h1:G.find g1=some S_text_Ended):RSpec.Ok P f R_weave_Ends_Add:=by
  refine RF.ok hc.call fun x hx=>hc.rcalls hG rfl ?_
  obtain⟨res,par,row,v⟩:=x
  obtain⟨p1,p2,p3⟩:=hx
  simp only at p1 p2 p3
  have q1:row.text.length≤9223372036854775807:=by omega
  have hx:=xor_ones p2.1 p2.2
  have hin:=inN_lt p2
  have h32:(2:Nat) ^ 32=4294967296:=rfl
  rw[h32] at hin
  have hin2:(4294967295 ^^^ row.marks.toNat:Nat)<4294967296:=by
    rw[← h32]
    obtain⟨a,b⟩:=p2
    exact Nat.xor_lt_two_pow (by omega) (by omega)
  have hmm:row.marks=((row.marks.toNat:Nat):Int):=by have:=p2.1;omega
  have hml:row.marks.toNat<4294967296:=by have:=p2.2;omega
  cases hl:row.lost with
  | true =>
    have hn:inN row=row.marks.toNat:=by simp[inN,hl]
    generalize row.marks.toNat=m at *
    cases he:endedV row.text <;> cases res <;> by_cases ha:par &&& m=0 <;>
      simp[x_weave_Ends_Add,startA,h1,hl,he,q1,hmm,andU2 p1 hml,orU2 p1 hml,ha]
    all_goals try exact FinR.done (by simp) (by simp[endsRes,endsPar,he,hl,hn,hmm]) rfl (by simp[resOf,endsOk,hl,hn,ha]) (by simp) (by simp)
  | false =>
    have hn:inN row=4294967295 ^^^ row.marks.toNat:=by simp[inN,hl]
    generalize hq:(4294967295 ^^^ row.marks.toNat:Nat)=m at *
    cases he:endedV row.text <;> cases res <;> by_cases ha:par &&& m=0 <;>
      simp[x_weave_Ends_Add,startA,h1,hl,he,q1,hx,andU2 p1 hin2,orU2 p1 hin2,ha]
    all_goals try exact FinR.done (by simp) (by simp[endsRes,endsPar,he,hl,hn]) rfl (by simp[resOf,endsOk,hl,hn,ha]) (by simp) (by simp)
theorem endsPar_lt {par:Nat} {r:RowT} (h:par<4294967296) (hr:rowOk r):endsPar par r<4294967296:=by
  have hin:=inN_lt hr
  unfold endsPar
  split
  · exact h
  · have:(4294967296:Nat)=2 ^ 32:=rfl
    rw[this] at *
    exact Nat.or_lt_two_pow h hin
theorem WkL.refl' (n:Nat) (k:List Ob):∀xs:List A,WkL n k xs xs
  | []=>trivial
  | _::xs=>⟨Wk.refl _ _ _,WkL.refl' n k xs⟩
theorem WkO.agg1 (n:Nat) (k:List Ob) (v e:Nat) (cs:List D) (h:(A.agg (cs.map .d)).fits e=true):WkO n k (.cells v e [.d (.agg cs)]) (.cells v e [.agg (cs.map .d)]):=by
  refine .inr ⟨v,e,_,_,rfl,rfl,rfl,fun i hi=>?_⟩
  simp only[List.length_singleton] at hi
  obtain rfl:i=0:=by omega
  exact⟨h,WkL.refl' _ _ _⟩
@[simp] def S_weave_Check:List D→Prop × D:=spec1 (α:=TableT) tabWide (fun t=>.int .i64 (checkTab t))
theorem ct_weave_Check {P:Program} {f g1 g2 g3:Nat} {G:Gam} (h:CodeOf P f 1 17 [2] (x_weave_Check g1 g2 g3)) (hG:GamOk P G) (h1:G.find g1=some S_weave_Marked) (h2:G.find g2=some S_weave_Single) (h3:G.findR g3=some R_weave_Ends_Add):Has P f S_weave_Check:=h.has1 hG fun t hp=>by
  obtain⟨p1,p2,p3⟩:=hp
  obtain⟨par,rows⟩:=t
  simp only at p1 p2 p3
  by_cases c1:par<1
  · simp[x_weave_Check,checkTab,c1]
  by_cases c2:32<par
  · simp[x_weave_Check,checkTab,c1,c2]
  obtain⟨n,rfl⟩:=Int.eq_ofNat_of_zero_le (show 0≤par by omega)
  have n1:(1:Int)≤n:=by omega
  have n2:(n:Int)≤32:=by omega
  have n3:n≤32:=by omega
  have hck:checkTab ⟨n,rows⟩=if marksB rows n=true then (if textsB rows n=true then 0 else 4) else 180:=by
    unfold checkTab
    rw[if_neg (by simp;omega)]
    rfl
  simp[x_weave_Check,c1,c2]
  refine vc_lp (σ:=Nat) (fun k=>k≤rows.length∧rows.all (markB n)=(rows.drop k).all (markB n)) (fun k=>rows.length-k) (fun k=>[.any,.ref 0 0 0 0,.any,.any,.any,.any,.any,.d (.sl 3 (rows.map Rep.to)),.d (.int .i64 rows.length),.d (.int .i64 k),.any,.any,.any,.any,.any,.any,.any])
    (fun k=>[.cells 0 2 [.d (Rep.to (⟨n,rows⟩:TableT))]]) 0 (by simp) (by simp) ⟨by simp,by simp⟩ ?_
  rintro k ⟨k1,k2⟩
  by_cases hk:k<rows.length
  · have w1:IntKind.i64.wrap ((k:Int)+1)=(k:Int)+1:=wrap_in (by omega) (by omega)
    have hr:=p2 _ (List.getElem_mem hk)
    rw[List.drop_eq_getElem_cons hk,List.all_cons] at k2
    cases hb:markB n rows[k] with
    | true =>
      rw[hb,Bool.true_and] at k2
      simp[hk,getD_map,w1,h1,hr,n1,n2,hb]
      exact Nxt.mk (k+1) (by omega) (by simp) (by simp) ⟨by omega,k2⟩
    | false =>
      rw[hb,Bool.false_and] at k2
      have hc:checkTab ⟨n,rows⟩=180:=by rw[hck,marksB_all,k2];rfl
      simp[hk,getD_map,h1,hr,n1,n2,hb,hc]
  have hk2:k=rows.length:=by omega
  subst hk2
  rw[List.drop_length] at k2
  have hm:rows.all (markB n)=true:=by rw[k2];rfl
  have hck2:checkTab ⟨n,rows⟩=if ((rows.all fun r=>lineB r.text) && endsB false 0 rows)=true then 0 else 4:=by
    rw[hck,marksB_all,hm,if_pos rfl,texts_ends p2 hm n3]
  simp
  refine vc_lpR (σ:=Nat × Bool × Nat) (fun x=>x.1≤rows.length∧x.2.2<4294967296∧((rows.all fun r=>lineB r.text) && endsB false 0 rows)=(((rows.drop x.1).all fun r=>lineB r.text) && endsB x.2.1 x.2.2 (rows.drop x.1))) (fun x=>rows.length-x.1)
    (fun x=>[.any,.ref 0 0 0 0,.any,.any,.ref 1 0 0 0,.any,.any,.any,.any,.any,.any,.any,.d (.sl 3 (rows.map Rep.to)),.d (.int .i64 rows.length),.d (.int .i64 x.1),.any,.any])
    (fun x=>[.cells 0 2 [.d (Rep.to (⟨n,rows⟩:TableT))],.cells 0 2 [.agg [.d (.bool x.2.1),.d (.int .u32 x.2.2)]]]) (0,false,0) ?_ ⟨by simp,by simp,by simp⟩ ?_
  · refine Re.wn (s':=[.cells 0 2 [.d (Rep.to (⟨n,rows⟩:TableT))],.cells 0 2 [.agg [.d (.bool false),.d (.int .u32 0)]]]) [false,true,false,false,true,false,false,false,false,false,false,false,true,true,true] [] (by simp) (by simp) ?_ ?_ (by simp)
    · simp
    · exact⟨.inl rfl,WkO.agg1 _ _ 0 2 [.bool false,.int .u32 0] rfl,trivial⟩
  rintro⟨k,res,par⟩ ⟨k1,k3,k4⟩
  simp only at k1 k3 k4
  by_cases hk:k<rows.length
  · have w1:IntKind.i64.wrap ((k:Int)+1)=(k:Int)+1:=wrap_in (by omega) (by omega)
    have hr:=p2 _ (List.getElem_mem hk)
    have hl2:=p3 _ (List.getElem_mem hk)
    rw[List.drop_eq_getElem_cons hk,List.all_cons,endsB] at k4
    have e1:(res || !endedV rows[k].text && !rows[k].lost)=endsRes res rows[k]:=rfl
    have e2:(if endedV rows[k].text=true then par else par ||| inN rows[k])=endsPar par rows[k]:=rfl
    have e3:(decide (par &&& inN rows[k]=0) && (rows[k].lost || !res))=endsOk res par rows[k]:=rfl
    rw[e1,e2,e3] at k4
    have q:=endsPar_lt k3 hr
    cases hb:lineB rows[k].text with
    | false =>
      have hc:checkTab ⟨n,rows⟩=4:=by rw[hck2,k4,hb];rfl
      simp[hk,getD_map,h2,hl2,hb,hc]
    | true =>
      cases ho:endsOk res par rows[k] with
      | false =>
        have hc:checkTab ⟨n,rows⟩=4:=by rw[hck2,k4,ho];simp
        simp[hk,getD_map,h2,h3,hl2,hb,ho,eRCall,k3,hr,hc]
      | true =>
        rw[hb,ho,Bool.true_and,Bool.true_and] at k4
        simp[hk,getD_map,h2,h3,hl2,hb,ho,eRCall,k3,hr,w1]
        exact Nxt.mk (k+1,endsRes res rows[k],endsPar par rows[k]) (by simp;omega) (by simp) (by simp) ⟨by simp;omega,q,k4⟩
  · have hk2:k=rows.length:=by omega
    subst hk2
    rw[List.drop_length] at k4
    have hc:checkTab ⟨n,rows⟩=0:=by rw[hck2,k4];rfl
    simp[hc]
def spV (p:Nat→Bool):Nat→List SpanT
  | 0=>[]
  | i+1=>if p i then (if decide (0<i) && p (i-1) then (spV p i).set ((spV p i).length-1) ⟨((spV p i).getD ((spV p i).length-1) default).fr,(i:Int)+1⟩ else spV p i++[⟨i,(i:Int)+1⟩]) else spV p i
theorem spV_len (p:Nat→Bool):∀i,(spV p i).length≤i
  | 0=>by simp[spV]
  | i+1=>by
    have:=spV_len p i
    unfold spV
    split
    · split
      · rw[List.length_set];omega
      · simp;omega
    · omega
theorem spV_ne (p:Nat→Bool):∀i,0<i→p (i-1)=true→spV p i≠[]
  | 0,h,_=>absurd h (by omega)
  | i+1,_,h=>by
    simp only[Nat.add_sub_cancel] at h
    unfold spV
    rw[if_pos h]
    split
    · rename_i h2
      simp only[Bool.and_eq_true,decide_eq_true_eq] at h2
      have:=spV_ne p i h2.1 h2.2
      intro h3
      have h4:=congrArg List.length h3
      rw[List.length_set] at h4
      exact this (List.eq_nil_of_length_eq_zero h4)
    · simp
def spanA (s:SpanT):A:=.agg [.d (.int .i64 s.fr),.d (.int .i64 s.to)]
theorem spans_all (l:List SpanT):(l.map spanA).all A.isD=true∧(l.map spanA).map A.toD=l.map Rep.to:=by
  constructor
  · rw[List.all_eq_true]
    intro y hy
    obtain⟨x,_,rfl⟩:=List.mem_map.1 hy
    rfl
  · rw[List.map_map]
    rfl
theorem under_spans (n:Nat) (l:List SpanT):(l.map spanA).all (A.under n)=true:=by
  rw[List.all_eq_true]
  intro y hy
  obtain⟨x,_,rfl⟩:=List.mem_map.1 hy
  rfl
theorem span_snoc (n:Nat) (k:List Ob) (v:Nat) (l:List SpanT) (s:SpanT):WkO n k (.cells v 2 (l.map spanA++[A.d (.agg [.int .i64 s.fr,.int .i64 s.to])])) (.cells v 2 ((l++[s]).map spanA)):=by
  refine .inr ⟨v,2,_,_,rfl,rfl,by simp,fun i hi=>?_⟩
  simp only[List.length_append,List.length_map,List.length_singleton] at hi
  by_cases h:i<l.length
  · have e1:(l.map spanA++[A.d (.agg [.int .i64 s.fr,.int .i64 s.to])]).getD i .any=spanA l[i]:=by
      simp[List.getD,List.getElem?_append,h]
    have e2:((l++[s]).map spanA).getD i .any=spanA l[i]:=by
      simp[List.getD,List.getElem?_append,h]
    rw[e1,e2]
    exact⟨rfl,WkL.refl' _ _ _⟩
  · obtain rfl:i=l.length:=by omega
    have e1:(l.map spanA++[A.d (.agg [.int .i64 s.fr,.int .i64 s.to])]).getD l.length .any=.d (.agg [.int .i64 s.fr,.int .i64 s.to]):=by
      simp[List.getD]
    have e2:((l++[s]).map spanA).getD l.length .any=spanA s:=by
      simp[List.getD]
    rw[e1,e2]
    exact⟨rfl,WkL.refl' _ _ _⟩
theorem spans_loop {G:Gam} {rs0:List A} {f:Nat} {fnA:A} {o0:Ob} (n:Nat) (hn:n≤1048576) (p:Nat→Bool) (hcall:∀(y:Ob) (i nw:Nat),i<n→eCallv G [o0,y] nw [.d (.int .i64 i)] fnA=⟨True,[(0,o0)],.d (.bool (p i))⟩) (hu:o0.under 2=true) (hfn:fnA.under 2=true)
    (Q:XE→List A→Store→Prop) (hQ:Q .ret [.d (.int .i64 n),fnA,.d (Rep.to (spV p n)),.d (Rep.to (spV p n)),.any,.any,.any,.any,.any,.any] [o0,.dead]) :
    vc G 1 x_interest_spans Q (startA [.d (.int .i64 n),fnA] 10) [o0]:=by
  simp[x_interest_spans,startA]
  refine vc_lpR (σ:=Nat) (fun i=>i≤n) (fun i=>n-i)
    (fun i=>[.d (.int .i64 n),fnA,.any,.own 1 (spV p i).length 0 (spV p i).length,.any,.d (.int .i64 n),.d (.int .i64 i),.any,.any,.any]) (fun i=>[o0,.cells (spV p i).length 2 ((spV p i).map spanA)]) 0 ?_ (by simp) ?_
  · refine Re.wn (s':=[o0]) [true,true,false,true,false,true,true,false,false,false] [.cells 0 2 []] (by simp) (by simp) ?_ ⟨.inl rfl,trivial⟩ (by simp[spV])
    simp[spV]
    exact Wk.freshO _ _ _ 0 rfl
  intro i hi
  by_cases h1:i<n
  · have w1:IntKind.i64.wrap ((i:Int)+1)=(i:Int)+1:=wrap_in (by omega) (by omega)
    have hc:=fun y nw=>hcall y i nw h1
    have hlen:=spV_len p i
    cases hp:p i with
    | false =>
      have e:spV p (i+1)=spV p i:=by rw[spV];simp[hp]
      simp[h1,w1,hc,hp]
      exact Nxt.mk (i+1) (by omega) (by simp[e]) (by simp[e]) (by omega)
    | true =>
      by_cases h0:0<i
      · have w0:IntKind.i64.wrap ((i:Int)-1)=((i-1:Nat):Int):=by rw[wrap_in (by omega) (by omega)];omega
        have hc0:=fun y nw=>hcall y (i-1) nw (by omega)
        cases hp0:p (i-1) with
        | true =>
          have hne:=spV_ne p i h0 hp0
          have hpos:=List.length_pos_iff.2 hne
          have wl:IntKind.i64.wrap (((spV p i).length:Int)-1)=(((spV p i).length-1:Nat):Int):=by rw[wrap_in (by omega) (by omega)];omega
          have e:spV p (i+1)=(spV p i).set ((spV p i).length-1) ⟨((spV p i).getD ((spV p i).length-1) default).fr,(i:Int)+1⟩:=by rw[spV];simp[hp,hp0,h0]
          have el:(spV p (i+1)).length=(spV p i).length:=by rw[e,List.length_set]
          generalize hl:spV p i=l at *
          have hlt:l.length-1<l.length:=by omega
          have hg:(l.map spanA)[l.length-1]?=some (spanA l[l.length-1]):=by simp[hlt]
          simp[h1,w1,hc,hp,h0,w0,hc0,hp0,wl,hlt,hg,spanA]
          refine Nxt.mk (i+1) (by omega) (by simp[el]) ?_ (by omega)
          have eset:(l.map spanA).set (l.length-1) (A.agg [A.d (D.int IntKind.i64 l[l.length-1].fr),A.d (D.int IntKind.i64 ((i:Int)+1))])=(spV p (i+1)).map spanA:=by
            rw[e,List.map_set]
            simp[spanA,List.getD,hlt]
          simp[el,eset]
        | false =>
          have e:spV p (i+1)=spV p i++[⟨i,(i:Int)+1⟩]:=by rw[spV];simp[hp,hp0]
          simp[h1,w1,hc,hp,h0,w0,hc0,hp0]
          have el:(spV p (i+1)).length=(spV p i).length+1:=by rw[e];simp
          refine⟨by unfold room;omega,Nxt.re (i+1) (by omega) ?_ (by omega)⟩
          refine Re.wf [o0,.cells ((spV p i).length+1) 2 ((spV p (i+1)).map spanA),.res] [true,true,false,true,false,true,true,false,false,false] 2 (by omega) (by simp) ?_ (.inr ⟨?_,?_⟩) (by simp[el]) (by simp[el])
          · rw[e]
            exact⟨.inl rfl,span_snoc _ _ _ _ ⟨i,(i:Int)+1⟩,.inl rfl,trivial⟩
          · simp[hfn]
          · have h9:(Ob.cells ((spV p i).length+1) 2 ((spV p (i+1)).map spanA)).under 2=true:=under_spans 2 _
            simp only[List.take_succ_cons,List.take_zero,List.all_cons,List.all_nil,hu,h9,Bool.true_and,Bool.and_true]
      · obtain rfl:i=0:=by omega
        have e:spV p 1=[⟨0,1⟩]:=by rw[spV];simp[hp,spV]
        have e0:spV p 0=[]:=rfl
        have hc0:∀(y:Ob) (nw:Nat),eCallv G [o0,y] nw [.d (.int .i64 0)] fnA=⟨True,[(0,o0)],.d (.bool (p 0))⟩:=fun y nw=>by simpa using hcall y 0 nw h1
        have w2:IntKind.i64.wrap 1=1:=wrap_in (by omega) (by omega)
        simp[h1,w2,hc0,hp,e0]
        refine⟨by unfold room;omega,Nxt.re 1 (by omega) ?_ (by omega)⟩
        refine Re.wf [o0,.cells 1 2 ((spV p 1).map spanA),.res] [true,true,false,true,false,true,true,false,false,false] 2 (by omega) (by simp) ?_ (.inr ⟨?_,?_⟩) (by simp[e]) (by simp[e])
        · rw[e]
          exact⟨.inl rfl,span_snoc 3 [] 1 [] ⟨0,1⟩,.inl rfl,trivial⟩
        · simp[hfn]
        · have h9:(Ob.cells 1 2 ((spV p 1).map spanA)).under 2=true:=under_spans 2 _
          simp only[List.take_succ_cons,List.take_zero,List.all_cons,List.all_nil,hu,h9,Bool.true_and,Bool.and_true]
  · have hi2:i=n:=by omega
    subst hi2
    obtain⟨d1,d2⟩:=spans_all (spV p i)
    simp
    refine Hint.of (T':=[.d (.int .i64 i),fnA,.any,.d (Rep.to (spV p i)),.any,.any,.any,.any,.any,.any]) (s':=[o0,.dead]) (Re.freeze 1 (spV p i).length 2 _ rfl ?_ ⟨rfl,?_⟩ rfl) ?_
    · have hf:=Fz.own 1 (spV p i).length 2 0 (spV p i).length ((spV p i).map spanA) (by rw[List.drop_zero,List.take_of_length_le (by simp)];exact d1)
      rw[List.drop_zero,List.take_of_length_le (by simp),d2] at hf
      simp
      simpa using hf
    · intro k hk h0
      simp at hk
      obtain rfl:k=0:=by omega
      exact .inl rfl
    · simpa using hQ
def A.gfn:A→Nat
  | .fn (.func g) _ _=>g
  | _=>0
attribute [simp] A.gfn
structure RunX where
  i:Nat
  tab:TableT
  v:Nat
@[simp] def F_interest_runs_1:RF RunX where
  new:=0
  view a s:=⟨(a.getD 0 .any).gi.toNat,((s.getD 0 .dead).el 0).gv TableT,(s.getD 0 .dead).ver⟩
  args x:=[.d (.int .i64 x.i),.ref 0 x.v 0 0]
  st x:=[.cells x.v 2 [.d (Rep.to x.tab)]]
  pre x:=x.i<x.tab.rows.length
  res x:=.d (.bool (!blankV (x.tab.rows.getD x.i default)))
  st' x:=[.cells x.v 2 [.d (Rep.to x.tab)]]
abbrev R_interest_runs_1:RSpec:=F_interest_runs_1.spec
theorem ct_interest_runs_1 {P:Program} {f g1:Nat} {G:Gam} (hc:CodeOf P f 2 3 [2] (x_interest_runs_1 g1)) (hG:GamOk P G) (h1:G.find g1=some S_interest_blank):RSpec.Ok P f R_interest_runs_1:=by
  refine RF.ok hc.call fun x hx=>hc.rcalls hG rfl ?_
  obtain⟨i,tab,v⟩:=x
  have hx:i<tab.rows.length:=hx
  simp[x_interest_runs_1,startA,h1,hx,getD_map]
  exact FinR.done (by simp) (by simp) rfl rfl (by simp) (by simp)
structure ShowX where
  i:Nat
  sh:List Bool
  v:Nat
@[simp] def F_interest_Hunks_1:RF ShowX where
  new:=0
  view a s:=⟨(a.getD 0 .any).gi.toNat,((s.getD 0 .dead).at 0 0).gl Bool,(s.getD 0 .dead).ver⟩
  args x:=[.d (.int .i64 x.i),.ref 0 x.v 0 0]
  st x:=[.cells x.v 1 [.d (Rep.to x.sh)]]
  pre x:=x.i<x.sh.length
  res x:=.d (.bool (x.sh.getD x.i false))
  st' x:=[.cells x.v 1 [.d (Rep.to x.sh)]]
abbrev R_interest_Hunks_1:RSpec:=F_interest_Hunks_1.spec
theorem ct_interest_Hunks_1 {P:Program} {f:Nat} (hc:CodeOf P f 2 3 [2] x_interest_Hunks_1):RSpec.Ok P f R_interest_Hunks_1:=by
  refine RF.ok hc.call fun x hx=>hc.rcalls (GamOk.nil _) rfl ?_
  obtain⟨i,sh,v⟩:=x
  have hx:i<sh.length:=hx
  simp[x_interest_Hunks_1,startA,hx,getD_map]
  exact FinR.done (by simp) (by simp) rfl rfl (by simp) (by simp)
structure SpansX where
  n:Nat
  b:Bool
  tab:TableT
  sh:List Bool
  v:Nat
def spansP (x:SpansX) (i:Nat):Bool:=if x.b then !blankV (x.tab.rows.getD i default) else x.sh.getD i false
def spansL (x:SpansX):Nat:=if x.b then x.tab.rows.length else x.sh.length
@[simp] def F_interest_spans (g1 g2:Nat):RF SpansX where
  new:=0
  view a s:=⟨(a.getD 0 .any).gi.toNat,decide ((a.getD 1 .any).gfn=g1),((s.getD 0 .dead).el 0).gv TableT,((s.getD 0 .dead).at 0 0).gl Bool,(s.getD 0 .dead).ver⟩
  args x:=[.d (.int .i64 x.n),.fn (.func (if x.b then g1 else g2)) [] [.ref 0 x.v 0 0]]
  st x:=[if x.b then .cells x.v 2 [.d (Rep.to x.tab)] else .cells x.v 1 [.d (Rep.to x.sh)]]
  pre x:=x.n=spansL x∧x.n≤1048576
  res x:=.d (Rep.to (spV (spansP x) x.n))
  st' x:=[if x.b then .cells x.v 2 [.d (Rep.to x.tab)] else .cells x.v 1 [.d (Rep.to x.sh)]]
abbrev R_interest_spans (g1 g2:Nat):RSpec:=(F_interest_spans g1 g2).spec
theorem FinR.drop {rs:List Nat} {o:Ob} {r:D} {T:List A} (h:resOf rs T [o,.dead]=.d r) (ho:o.under 1=true) (hp:resPre rs T [o,.dead]):FinR rs [o] (.d r) [o] .ret T [o,.dead]:=by
  refine FinR.done (by simp) ?_ rfl h.symm ?_ rfl hp
  · simp
  · simpa using ho
theorem ct_interest_spans {P:Program} {f g1 g2:Nat} {G:Gam} (hc:CodeOf P f 2 10 [2] x_interest_spans) (hG:GamOk P G) (h1:G.findR g1=some R_interest_runs_1) (h2:G.findR g2=some R_interest_Hunks_1):RSpec.Ok P f (R_interest_spans g1 g2):=by
  refine RF.ok hc.call fun x hx=>hc.rcalls hG rfl ?_
  obtain⟨n,b,tab,sh,v⟩:=x
  obtain⟨hn,hn2⟩:=hx
  simp only at hn hn2
  cases b with
  | true =>
    have hn:n=tab.rows.length:=hn
    refine spans_loop (f:=f) (rs0:=[]) n hn2 (spansP ⟨n,true,tab,sh,v⟩) (fun y i nw hi=>?_) (by simp) (by simp) _ ?_
    · have hi2:i<tab.rows.length:=by omega
      simp[eCallv,eRCall,h1,hi2,spansP]
    · exact FinR.drop rfl rfl (by simp[resPre,resE])
  | false =>
    have hn:n=sh.length:=hn
    refine spans_loop (f:=f) (rs0:=[]) n hn2 (spansP ⟨n,false,tab,sh,v⟩) (fun y i nw hi=>?_) (by simp) (by simp) _ ?_
    · have hi2:i<sh.length:=by omega
      simp[eCallv,eRCall,h2,hi2,spansP]
    · exact FinR.drop rfl rfl (by simp[resPre,resE])
def runsV (t:TableT):List SpanT:=spV (fun i=>!blankV (t.rows.getD i default)) t.rows.length
@[simp] def S_interest_runs:List D→Prop × D:=spec1 (α:=TableT) (fun t=>t.rows.length≤1048576) (fun t=>Rep.to (runsV t))
theorem ct_interest_runs {P:Program} {f g1 g2 g3:Nat} {G:Gam} (h:CodeOf P f 1 3 [2] (x_interest_runs g1 g2)) (hG:GamOk P G) (h1:G.findR g1=some (R_interest_spans g2 g3)) (_:G.findR g2=some R_interest_runs_1):Has P f S_interest_runs:=h.has1 hG fun t hp=>by
  have e:∀(sh:List Bool) (v:Nat),spV (spansP ⟨t.rows.length,true,⟨t.parents,t.rows⟩,sh,v⟩) t.rows.length=runsV t:=fun _ _=>rfl
  simp[x_interest_runs,h1,eRCall,hp,spansL,e]
theorem bor_spans (s:Store) (j v:Nat) (l:List SpanT) (h:s.getD j .dead=.cells v 2 (l.map spanA)):bor s (.own j v 0 l.length)=(True,Rep.to l):=by
  obtain⟨d1,d2⟩:=spans_all l
  unfold bor
  simp only[h,List.drop_zero]
  rw[List.take_of_length_le (by simp),d1,d2]
  simp
def spansB (l:List Bool):List SpanT:=spV (fun i=>l.getD i false) l.length
@[simp] def S_ref17_spans:List D→Prop × D:=spec1 (α:=List Bool) (fun l=>l.length≤1048576) (fun l=>Rep.to (spansB l))
theorem ct_ref17_spans {P:Program} {f:Nat} {G:Gam} (h:CodeOf P f 1 7 [1] x_ref17_spans) (hG:GamOk P G):Has P f S_ref17_spans:=h.has1 hG fun l hp=>by
  obtain⟨p,hpd⟩:∃p:Nat→Bool,p=fun i=>l.getD i false:=⟨_,rfl⟩
  have hsp:spansB l=spV p l.length:=by rw[hpd];rfl
  have hpi:∀i (h:i<l.length),l[i]=p i:=fun i h=>by rw[hpd];simp[List.getD,h]
  simp[x_ref17_spans]
  refine vc_lpR (σ:=Nat) (fun i=>i≤l.length) (fun i=>l.length-i)
    (fun i=>[.d (Rep.to l),.any,.own 0 (spV p i).length 0 (spV p i).length,.d (.int .i64 i),.any,.any,.any]) (fun i=>[.cells (spV p i).length 2 ((spV p i).map spanA)]) 0 ?_ (by simp) ?_
  · refine Re.wn (s':=[]) [true,false,true,true,false,false,false] [.cells 0 2 []] (by simp) (by simp) ?_ trivial (by simp[spV])
    simp[spV]
    exact Wk.freshO _ _ _ 0 rfl
  intro i hi
  by_cases h1:i<l.length
  · have w1:IntKind.i64.wrap ((i:Int)+1)=(i:Int)+1:=wrap_in (by omega) (by omega)
    have hlen:=spV_len p i
    cases hpp:p i with
    | false =>
      have e:spV p (i+1)=spV p i:=by rw[spV];simp[hpp]
      simp[h1,getD_map,w1,hpi i h1,hpp]
      exact Nxt.mk (i+1) (by omega) (by simp[e]) (by simp[e]) (by omega)
    | true =>
      by_cases hc:0<i∧p (i-1)=true
      · obtain⟨h0,hp0⟩:=hc
        have w0:IntKind.i64.wrap ((i:Int)-1)=((i-1:Nat):Int):=by rw[wrap_in (by omega) (by omega)];omega
        have hne:=spV_ne p i h0 hp0
        have hpos:=List.length_pos_iff.2 hne
        have wl:IntKind.i64.wrap (((spV p i).length:Int)-1)=(((spV p i).length-1:Nat):Int):=by rw[wrap_in (by omega) (by omega)];omega
        have e:spV p (i+1)=(spV p i).set ((spV p i).length-1) ⟨((spV p i).getD ((spV p i).length-1) default).fr,(i:Int)+1⟩:=by rw[spV];simp[hpp,hp0,h0]
        have el:(spV p (i+1)).length=(spV p i).length:=by rw[e,List.length_set]
        have hi1:i-1<l.length:=by omega
        have h00:¬i=0:=by omega
        generalize hl:spV p i=q at *
        have hlt:q.length-1<q.length:=by omega
        have hg:(q.map spanA)[q.length-1]?=some (spanA q[q.length-1]):=by simp[hlt]
        simp[h1,getD_map,w1,hpi i h1,hpi (i-1) hi1,hpp,hp0,h00,w0,hi1,wl,hlt,hg,spanA]
        refine Nxt.mk (i+1) (by omega) (by simp[el]) ?_ (by omega)
        have eset:(q.map spanA).set (q.length-1) (A.agg [A.d (D.int IntKind.i64 q[q.length-1].fr),A.d (D.int IntKind.i64 ((i:Int)+1))])=(spV p (i+1)).map spanA:=by
          rw[e,List.map_set]
          simp[spanA,List.getD,hlt]
        simp[el,eset]
      · have e:spV p (i+1)=spV p i++[⟨i,(i:Int)+1⟩]:=by
          rw[spV,if_pos hpp,if_neg]
          simpa using hc
        have el:(spV p (i+1)).length=(spV p i).length+1:=by rw[e];simp
        have hset:(List.map spanA (spV p i)++[A.d (D.agg [D.int IntKind.i64 i,D.int IntKind.i64 i])]).set (spV p i).length (A.agg [A.d (D.int IntKind.i64 i),A.d (D.int IntKind.i64 ((i:Int)+1))])=(spV p (i+1)).map spanA:=by
          rw[e,List.set_append_right _ _ (by simp)]
          simp[spanA]
        have wl:IntKind.i64.wrap ((spV p i).length:Int)=((spV p i).length:Int):=wrap_in (by omega) (by omega)
        by_cases h0:i=0
        · subst h0
          have e0:spV p 0=[]:=rfl
          have w2:IntKind.i64.wrap 1=1:=wrap_in (by omega) (by omega)
          have w3:IntKind.i64.wrap 0=0:=wrap_in (by omega) (by omega)
          rw[e0] at e el
          simp[h1,getD_map,w2,w3,hpi 0 h1,hpp,e0]
          exact⟨by unfold room;omega,Nxt.mk 1 (by omega) (by simp[e]) (by simp[e,spanA]) (by omega) (h4:=.inr ⟨by simp,by simp[e,spanA]⟩)⟩
        · have hp0:p (i-1)=false:=by
            cases h9:p (i-1) with
            | false=>rfl
            | true=>exact absurd ⟨by omega,h9⟩ hc
          have w0:IntKind.i64.wrap ((i:Int)-1)=((i-1:Nat):Int):=by rw[wrap_in (by omega) (by omega)];omega
          have hi1:i-1<l.length:=by omega
          have ef:List.map spanA (spV p i)++[A.agg [A.d (D.int IntKind.i64 i),A.d (D.int IntKind.i64 ((i:Int)+1))]]=(spV p (i+1)).map spanA:=by rw[e,List.map_append];rfl
          have h9:(Ob.cells ((spV p i).length+1) 2 ((spV p (i+1)).map spanA)).under 1=true:=under_spans 1 _
          simp[h1,getD_map,w1,hpi i h1,hpi (i-1) hi1,hpp,hp0,h0,w0,hi1,wl]
          rw[ef]
          exact⟨by unfold room;omega,by omega,Nxt.mk (i+1) (by omega) (by simp[el]) (by simp[el]) (by omega) (h4:=.inr ⟨by simp,by rw[el];simpa using h9⟩)⟩
  · have hi2:i=l.length:=by omega
    subst hi2
    have hb:=bor_spans [.cells (spV p l.length).length 2 ((spV p l.length).map spanA)] 0 (spV p l.length).length (spV p l.length) rfl
    simp only[to_list,size_Span] at hb
    simp[hb,hsp]
/-! ### runs,and which of them are shown -/
@[simp] def S_ref17_Runs:List D→Prop × D:=spec1 (α:=TableT) tabWide (fun t=>if checkTab t=0 then .tup [Rep.to (runsV t),.int .i64 0] else .tup [.nilsl,.int .i64 (checkTab t)])
theorem ct_ref17_Runs {P:Program} {f g1 g2 g3:Nat} {G:Gam} (h:CodeOf P f 1 9 [2,3] (x_ref17_Runs g1 g2 g3)) (hG:GamOk P G) (h1:G.find g1=some S_ref16_Check) (h2:G.find g2=some S_ref17_Blank) (h3:G.find g3=some S_ref17_spans):Has P f S_ref17_Runs:=h.has1 hG fun t hp=>by
  have hp1:=hp.1
  by_cases c:checkTab t=0
  · simp[x_ref17_Runs,h1,hp,c]
    refine vc_lp (σ:=Nat) (fun i=>i≤t.rows.length) (fun i=>t.rows.length-i)
      (fun i=>[.any,.ref 0 0 0 0,.any,.any,.any,.gr 1 1 ((t.rows.take i).map fun r=>.bool (!blankV r)),.d (.int .i64 i),.any,.any]) (fun i=>[.cells 0 2 [.d (Rep.to t)],.tip i]) 0 (by simp) (by simp) (by simp) ?_
    intro i hi
    by_cases hk:i<t.rows.length
    · have w1:IntKind.i64.wrap ((i:Int)+1)=(i:Int)+1:=wrap_in (by omega) (by omega)
      have e:((t.rows.take i).map fun r=>D.bool (!blankV r))++[D.bool (!blankV t.rows[i])]=(t.rows.take (i+1)).map fun r=>.bool (!blankV r):=by
        rw[List.take_succ_eq_append_getElem hk,List.map_append]
        rfl
      have el:min i t.rows.length=i:=by omega
      simp[hk,getD_map,h2,w1,e,el,-List.map_take]
      exact⟨by unfold room;omega,Nxt.mk (i+1) (by omega) (by simp) (by simp) (by omega)⟩
    · have h9:i=t.rows.length:=by omega
      subst h9
      have e1:(t.rows.map fun r=>D.bool (!blankV r))=(t.rows.map fun r=>!blankV r).map Rep.to:=by rw[List.map_map];rfl
      have e2:spansB (t.rows.map fun r=>!blankV r)=runsV t:=by
        unfold spansB runsV
        rw[List.length_map]
        have key:∀i,i≤t.rows.length→spV (fun i=>(t.rows.map fun r=>!blankV r).getD i false) i=spV (fun i=>!blankV (t.rows.getD i default)) i:=by
          intro i
          induction i with
          | zero=>intro _;rfl
          | succ i ih =>
            intro hi
            have a1:∀j,j<t.rows.length→(t.rows.map fun r=>!blankV r).getD j false=!blankV (t.rows.getD j default):=by
              intro j hj
              simp[List.getD,hj]
            rw[spV,spV,ih (by omega),a1 i (by omega)]
            by_cases h0:0<i
            · rw[a1 (i-1) (by omega)]
            · simp[h0]
        exact key _ (Nat.le_refl _)
      rw[List.take_length]
      simp[e1,h3,hp1,e2,-List.map_map]
  · simp[x_ref17_Runs,h1,hp,c]
@[simp] def S_interest_Runs:List D→Prop × D:=spec1 (α:=TableT) tabWide (fun t=>if checkTab t=0 then .tup [Rep.to (runsV t),.int .i64 0] else .tup [.nilsl,.int .i64 (checkTab t)])
theorem ct_interest_Runs {P:Program} {f g1 g2:Nat} {G:Gam} (h:CodeOf P f 1 6 [2,3] (x_interest_Runs g1 g2)) (hG:GamOk P G) (h1:G.find g1=some S_weave_Check) (h2:G.find g2=some S_interest_runs):Has P f S_interest_Runs:=h.has1 hG fun t hp=>by
  have hp1:=hp.1
  by_cases c:checkTab t=0
  · simp[x_interest_Runs,h1,h2,hp,hp1,c]
  · simp[x_interest_Runs,h1,hp,c]
structure SpOk (p:Nat→Bool) (n:Nat) (l:List SpanT):Prop where
  rng:∀s,s∈l→0≤s.fr∧s.fr<s.to∧s.to≤n∧∀i:Nat,s.fr≤i→(i:Int)<s.to→p i=true
  cov:∀i:Nat,i<n→p i=true→∃s,s∈l∧s.fr≤i∧(i:Int)<s.to
  asc:l.Pairwise fun s t=>s.to<t.fr
  last:0<n→p (n-1)=true→∃(m:List SpanT) (s:SpanT),l=m++[s]∧s.to=(n:Int)
  low:(n=0∨p (n-1)=false)→∀s:SpanT,s∈l→s.to<(n:Int)
theorem spV_ok (p:Nat→Bool):∀n,SpOk p n (spV p n)
  | 0=>⟨by simp[spV],by simp,by simp[spV],by simp,by simp[spV]⟩
  | n+1=>by
    have ih:=spV_ok p n
    rw[spV]
    by_cases hp:p n=true
    · rw[if_pos hp]
      by_cases hc:0<n∧p (n-1)=true
      · rw[if_pos (by simpa using hc)]
        obtain⟨m,s,hl,hs⟩:=ih.last hc.1 hc.2
        have e:(spV p n).set ((spV p n).length-1) ⟨((spV p n).getD ((spV p n).length-1) default).fr,(n:Int)+1⟩=m++[⟨s.fr,(n:Int)+1⟩]:=by
          rw[hl]
          have e1:(m++[s]).length-1=m.length:=by simp
          rw[e1,List.set_append_right _ _ (Nat.le_refl _)]
          simp[List.getD]
        rw[e]
        have hsm:s∈spV p n:=by rw[hl];simp
        have hsr:=ih.rng s hsm
        refine⟨fun t ht=>?_,fun i hi hpi=>?_,?_,fun _ _=>⟨m,_,rfl,by push_cast;rfl⟩,fun h=>?_⟩
        · rcases List.mem_append.1 ht with ht | ht
          · have:=ih.rng t (by rw[hl];simp[ht])
            refine⟨this.1,this.2.1,by push_cast;omega,this.2.2.2⟩
          · simp at ht
            subst ht
            refine⟨hsr.1,by simp;omega,by push_cast;simp,fun i h1 h2=>?_⟩
            simp at h1 h2
            by_cases h3:(i:Int)<s.to
            · exact hsr.2.2.2 i h1 h3
            · obtain rfl:i=n:=by omega
              exact hp
        · by_cases h3:i=n
          · subst h3
            exact⟨⟨s.fr,(i:Int)+1⟩,by simp,by simp;omega,by simp;omega⟩
          · obtain⟨t,t1,t2,t3⟩:=ih.cov i (by omega) hpi
            rw[hl] at t1
            rcases List.mem_append.1 t1 with t1 | t1
            · exact⟨t,by simp[t1],t2,t3⟩
            · simp at t1
              subst t1
              exact⟨⟨t.fr,(n:Int)+1⟩,by simp,t2,by simp;omega⟩
        · have:=ih.asc
          rw[hl,List.pairwise_append] at this
          rw[List.pairwise_append]
          refine⟨this.1,by simp,fun a ha b hb=>?_⟩
          simp at hb
          subst hb
          exact this.2.2 a ha s (by simp)
        · rcases h with h | h
          · omega
          · simp only[Nat.add_sub_cancel] at h
            rw[hp] at h
            exact absurd h (by simp)
      · rw[if_neg (by simpa using hc)]
        have hlow:=ih.low (by
          rcases Nat.eq_zero_or_pos n with h | h
          · exact .inl h
          · right
            cases h9:p (n-1) with
            | false=>rfl
            | true=>exact absurd ⟨h,h9⟩ hc)
        refine⟨fun t ht=>?_,fun i hi hpi=>?_,?_,fun _ _=>⟨spV p n,_,rfl,by push_cast;rfl⟩,fun h=>?_⟩
        · rcases List.mem_append.1 ht with ht | ht
          · have:=ih.rng t ht
            exact⟨this.1,this.2.1,by push_cast;omega,this.2.2.2⟩
          · simp at ht
            subst ht
            refine⟨by simp,by simp;omega,by push_cast;simp,fun i h1 h2=>?_⟩
            simp at h1 h2
            obtain rfl:i=n:=by omega
            exact hp
        · by_cases h3:i=n
          · subst h3
            exact⟨⟨i,(i:Int)+1⟩,by simp,by simp,by simp;omega⟩
          · obtain⟨t,t1,t2,t3⟩:=ih.cov i (by omega) hpi
            exact⟨t,by simp[t1],t2,t3⟩
        · rw[List.pairwise_append]
          refine⟨ih.asc,by simp,fun a ha b hb=>?_⟩
          simp at hb
          subst hb
          exact hlow a ha
        · rcases h with h | h
          · omega
          · simp only[Nat.add_sub_cancel] at h
            rw[hp] at h
            exact absurd h (by simp)
    · rw[if_neg hp]
      refine⟨fun t ht=>?_,fun i hi hpi=>?_,ih.asc,fun _ h=>?_,fun _ s hs=>?_⟩
      · have:=ih.rng t ht
        exact⟨this.1,this.2.1,by push_cast;omega,this.2.2.2⟩
      · have h3:i≠n:=by
          rintro rfl
          exact hp hpi
        exact ih.cov i (by omega) hpi
      · simp only[Nat.add_sub_cancel] at h
        exact absurd h hp
      · have:=ih.rng s hs
        push_cast
        omega
/-! ### dense runs -/
def orN (rows:List RowT):Nat:=rows.foldl (fun a r=>a ||| r.marks.toNat) 0
def denseB (rows:List RowT) (n:Nat):Bool:=decide (orN rows=2 ^ n-1)
theorem foldl_or (rows:List RowT):∀(a:Nat) (p:Nat),(rows.foldl (fun a r=>a ||| r.marks.toNat) a).testBit p=(a.testBit p || rows.any fun r=>r.marks.toNat.testBit p):=by
  induction rows with
  | nil=>intro a p;simp
  | cons r rs ih=>intro a p;rw[List.foldl_cons,ih,Nat.testBit_or,List.any_cons,Bool.or_assoc]
theorem orN_bit (rows:List RowT) (p:Nat):(orN rows).testBit p=rows.any fun r=>r.marks.toNat.testBit p:=by
  unfold orN
  rw[foldl_or]
  simp
theorem orN_lt {rows:List RowT} {n:Nat} (h:∀r,r∈rows→r.marks.toNat<2 ^ n):orN rows<2 ^ n:=by
  unfold orN
  suffices ∀(rows:List RowT) (a:Nat),a<2 ^ n→(∀r,r∈rows→r.marks.toNat<2 ^ n)→rows.foldl (fun a r=>a ||| r.marks.toNat) a<2 ^ n from this rows 0 (Nat.two_pow_pos n) h
  intro rows
  induction rows with
  | nil=>intro a h _;exact h
  | cons r rs ih =>
    intro a h h2
    rw[List.foldl_cons]
    exact ih _ (Nat.or_lt_two_pow h (h2 r (by simp))) fun x hx=>h2 x (by simp[hx])
theorem dense_bits {rows:List RowT} {n:Nat} (h:∀r,r∈rows→r.marks.toNat<2 ^ n):denseB rows n=true↔∀p,p<n→(orN rows).testBit p=true:=by
  unfold denseB
  rw[decide_eq_true_eq]
  have hlt:=orN_lt h
  constructor
  · intro h1 p hp
    rw[h1,Nat.testBit_two_pow_sub_one]
    simpa using hp
  · intro h1
    apply Nat.eq_of_testBit_eq
    intro p
    rw[Nat.testBit_two_pow_sub_one]
    by_cases hp:p<n
    · rw[h1 p hp];simpa using hp
    · rw[Nat.testBit_lt_two_pow (Nat.lt_of_lt_of_le hlt (Nat.pow_le_pow_right (by omega) (by omega)))]
      simpa using hp
def runRows (t:TableT) (s:SpanT):List RowT:=(t.rows.drop s.fr.toNat).take (s.to.toNat-s.fr.toNat)
def intV (t:TableT) (all:Bool):List SpanT:=(runsV t).filter fun s=>all || denseB (runRows t s) t.parents.toNat
theorem runsV_ok (t:TableT):SpOk (fun i=>!blankV (t.rows.getD i default)) t.rows.length (runsV t):=spV_ok _ _
theorem runsV_len (t:TableT):(runsV t).length≤t.rows.length:=spV_len _ _
def nearB (l:List SpanT) (c:Int) (i:Nat):Bool:=l.any fun s=>decide (s.fr-c≤i∧(i:Int)<s.to+c)
def hunksV (t:TableT) (c:Int) (all:Bool):List SpanT:=spV (nearB (intV t all) c) t.rows.length
theorem orN_take {rows:List RowT} {i:Nat} (h:i<rows.length):orN (rows.take (i+1))=orN (rows.take i) ||| rows[i].marks.toNat:=by
  unfold orN
  rw[List.take_succ_eq_append_getElem h,List.foldl_append]
  rfl
theorem orN_lt32 {rows:List RowT} (h:∀r,r∈rows→rowOk r):orN rows<4294967296:=by
  have:(4294967296:Nat)=2 ^ 32:=rfl
  rw[this]
  exact orN_lt fun r hr=>by have:=h r hr;unfold rowOk at this;omega
theorem ones_shr {n:Nat} (h1:1≤n) (h2:n≤32):(4294967295:Int).fdiv (2 ^ min (32-n) IntKind.u32.bits)=((2 ^ n-1:Nat):Int):=by
  have e:min (32-n) IntKind.u32.bits=32-n:=by simp only[IntKind.bits];omega
  rw[e]
  have:∀n:_root_.Fin 33,1≤n.val→(4294967295:Int).fdiv (2 ^ (32-n.val))=((2 ^ n.val-1:Nat):Int):=by decide
  exact this ⟨n,by omega⟩ h1
@[simp] def S_interest_dense:List D→Prop × D:=spec2 (α:=List RowT) (β:=Int) (fun rows n=>rows.length≤1048576∧(∀r,r∈rows→rowOk r)∧1≤n∧n≤32) (fun rows n=>.bool (denseB rows n.toNat))
theorem ct_interest_dense {P:Program} {f:Nat} {G:Gam} (h:CodeOf P f 2 9 [2] x_interest_dense) (hG:GamOk P G):Has P f S_interest_dense:=h.has2 hG fun rows n hp=>by
  obtain⟨p1,p2,p3,p4⟩:=hp
  obtain⟨n,rfl⟩:=Int.eq_ofNat_of_zero_le (show 0≤n by omega)
  simp[x_interest_dense]
  refine vc_lp (σ:=Nat) (fun i=>i≤rows.length) (fun i=>rows.length-i)
    (fun i=>[.any,.d (.int .i64 n),.any,.d (.int .u32 (orN (rows.take i))),.any,.d (Rep.to rows),.d (.int .i64 rows.length),.d (.int .i64 i),.any]) (fun _=>[]) 0 (by simp[orN]) (by simp) (by simp) ?_
  intro i hi
  by_cases h1:i<rows.length
  · have w1:IntKind.i64.wrap ((i:Int)+1)=(i:Int)+1:=wrap_in (by omega) (by omega)
    have hr:=p2 _ (List.getElem_mem h1)
    have hm:rows[i].marks=((rows[i].marks.toNat:Nat):Int):=by have:=hr.1;omega
    have hlt:=orN_lt32 (rows:=rows.take i) fun r hr=>p2 r (List.mem_of_mem_take hr)
    have ho:=orU2 hlt (show rows[i].marks.toNat<4294967296 by have:=hr.2;unfold rowOk at hr;omega)
    rw[← orN_take h1] at ho
    have ho':IntKind.u32.wrap ((orN (rows.take i) % 2 ^ IntKind.u32.bits ||| (rows[i].marks % 2 ^ IntKind.u32.bits).toNat:Nat):Int)=orN (rows.take (i+1)):=by
      rw[← ho]
      congr 2
      have:(2:Int) ^ IntKind.u32.bits=4294967296:=rfl
      have e2:(2:Nat) ^ IntKind.u32.bits=4294967296:=rfl
      rw[this,e2]
      congr 1
      have:=hr.2
      omega
    simp[h1,getD_map,w1,ho']
    exact Nxt.mk (i+1) (by omega) (by simp) (by simp) (by omega)
  · have h9:i=rows.length:=by omega
    subst h9
    have w1:IntKind.i64.wrap (32-(n:Int))=((32-n:Nat):Int):=by rw[wrap_in (by omega) (by omega)];omega
    have hs:=ones_shr (n:=n) (by omega) (by omega)
    simp[w1,hs,denseB]
    rw[Int.ofNat_inj]
@[simp] def S_ref17_Dense:List D→Prop × D:=spec2 (α:=TableT) (β:=SpanT) (fun t s=>t.rows.length≤1048576∧(∀r,r∈t.rows→rowOk r)∧1≤t.parents∧t.parents≤32∧marksB t.rows t.parents.toNat=true∧0≤s.fr∧s.fr≤s.to∧s.to≤t.rows.length) (fun t s=>.bool (denseB (runRows t s) t.parents.toNat))
theorem ct_ref17_Dense {P:Program} {f:Nat} {G:Gam} (h:CodeOf P f 2 11 [4] x_ref17_Dense) (hG:GamOk P G):Has P f S_ref17_Dense:=h.has2 hG fun t s hp=>by
  obtain⟨p1,p2,p3,p4,p5,p6,p7,p8⟩:=hp
  obtain⟨par,rows⟩:=t
  obtain⟨a,b⟩:=s
  simp only at p1 p2 p3 p4 p5 p6 p7 p8
  obtain⟨n,rfl⟩:=Int.eq_ofNat_of_zero_le (show 0≤par by omega)
  obtain⟨a,rfl⟩:=Int.eq_ofNat_of_zero_le p6
  obtain⟨b,rfl⟩:=Int.eq_ofNat_of_zero_le (show 0≤b by omega)
  have hab:a≤b:=by omega
  have hb:b≤rows.length:=by omega
  simp[x_ref17_Dense]
  have hrr:runRows ⟨n,rows⟩ ⟨a,b⟩=(rows.drop a).take (b-a):=rfl
  have hmk:∀r,r∈rows→r.marks.toNat<2 ^ n:=by
    intro r hr
    rw[marksB_all,List.all_eq_true] at p5
    have:=p5 r hr
    simp only[markB,Bool.and_eq_true,decide_eq_true_eq] at this
    exact this.1
  refine vc_lp (σ:=Nat) (fun i=>a≤i∧i≤b) (fun i=>b-i)
    (fun i=>[.any,.any,.ref 0 0 0 0,.ref 1 0 0 0,.any,.d (.int .u32 (orN ((rows.drop a).take (i-a)))),.d (.int .i64 i),.any,.any,.any,.any])
    (fun _=>[.cells 0 2 [.d (Rep.to (⟨n,rows⟩:TableT))],.cells 0 2 [.d (Rep.to (⟨a,b⟩:SpanT))]]) a (by simp[orN]) (by simp) (by simp;omega) ?_
  rintro i ⟨i1,i2⟩
  by_cases h1:i<b
  · have w1:IntKind.i64.wrap ((i:Int)+1)=(i:Int)+1:=wrap_in (by omega) (by omega)
    have hil:i<rows.length:=by omega
    have hr:=p2 _ (List.getElem_mem hil)
    have hlt:=orN_lt32 (rows:=(rows.drop a).take (i-a)) fun r hr=>p2 r (List.mem_of_mem_drop (List.mem_of_mem_take hr))
    have ho:=orU2 hlt (show rows[i].marks.toNat<4294967296 by have:=hr.2;unfold rowOk at hr;omega)
    have e9:(rows.drop a).take (i+1-a)=(rows.drop a).take (i-a)++[rows[i]]:=by
      rw[show i+1-a=(i-a)+1 by omega,List.take_succ_eq_append_getElem (by simp;omega)]
      congr 2
      simp only[List.getElem_drop]
      congr 1
      omega
    have e8:orN ((rows.drop a).take (i+1-a))=orN ((rows.drop a).take (i-a)) ||| rows[i].marks.toNat:=by
      rw[e9]
      unfold orN
      rw[List.foldl_append]
      rfl
    rw[← e8] at ho
    have ho':IntKind.u32.wrap ((orN ((rows.drop a).take (i-a)) % 2 ^ IntKind.u32.bits ||| (rows[i].marks % 2 ^ IntKind.u32.bits).toNat:Nat):Int)=orN ((rows.drop a).take (i+1-a)):=by
      rw[← ho]
      congr 2
      have:(2:Int) ^ IntKind.u32.bits=4294967296:=rfl
      have e2:(2:Nat) ^ IntKind.u32.bits=4294967296:=rfl
      rw[this,e2]
      congr 1
      have:=hr.1
      have:=hr.2
      omega
    simp[h1,hil,getD_map,w1,ho']
    exact Nxt.mk (i+1) (by omega) (by simp) (by simp) (by omega)
  · have h9:i=b:=by omega
    subst h9
    have hin:∀r,r∈(rows.drop a).take (i-a)→r.marks.toNat<2 ^ n:=fun r hr=>hmk r (List.mem_of_mem_drop (List.mem_of_mem_take hr))
    have hdb:=dense_bits hin
    have hlt:=orN_lt32 (rows:=(rows.drop a).take (i-a)) fun r hr=>p2 r (List.mem_of_mem_drop (List.mem_of_mem_take hr))
    rw[← hrr] at hdb hlt ⊢
    obtain⟨m,hm⟩:∃m,orN (runRows ⟨n,rows⟩ ⟨a,i⟩)=m:=⟨_,rfl⟩
    rw[hm] at hdb hlt ⊢
    simp
    refine vc_lp (σ:=Nat) (fun p=>p≤n∧∀q,q<p→m.testBit q=true) (fun p=>n-p)
      (fun p=>[.any,.any,.ref 0 0 0 0,.any,.any,.d (.int .u32 m),.any,.d (.int .i64 p),.any,.any,.any])
      (fun _=>[.cells 0 2 [.d (Rep.to (⟨n,rows⟩:TableT))]]) 0 (by simp) (by simp) (by simp) ?_
    rintro p ⟨q1,q2⟩
    by_cases hp:p<n
    · have w1:IntKind.i64.wrap ((p:Int)+1)=(p:Int)+1:=wrap_in (by omega) (by omega)
      have e:getU m p=IntKind.u32.wrap ↑(((m:Int).fdiv (2 ^ min p IntKind.u32.bits) % 2 ^ IntKind.u32.bits).toNat &&& 1 % 2 ^ IntKind.u32.bits):=rfl
      have hg:=getU_nat hlt (show p<32 by omega)
      cases hb:m.testBit p with
      | true =>
        rw[hb,if_pos rfl] at hg
        simp[hp,w1,u64_wrap (show p<18446744073709551616 by omega),← e,hg]
        refine Nxt.mk (p+1) (by omega) (by simp) (by simp) ⟨by omega,fun q hq=>?_⟩
        by_cases hqp:q<p
        · exact q2 q hqp
        · obtain rfl:q=p:=by omega
          exact hb
      | false =>
        rw[hb,if_neg (by simp)] at hg
        have hd:denseB (runRows ⟨n,rows⟩ ⟨a,i⟩) n=false:=by
          cases h9:denseB (runRows ⟨n,rows⟩ ⟨a,i⟩) n with
          | false=>rfl
          | true =>
            have:=hdb.1 h9 p hp
            rw[hb] at this
            exact absurd this (by simp)
        simp[hp,u64_wrap (show p<18446744073709551616 by omega),← e,hg,hd]
    · have h9:p=n:=by omega
      subst h9
      have hd:denseB (runRows ⟨p,rows⟩ ⟨a,i⟩) p=true:=hdb.2 q2
      simp[hd]
theorem intV_mem {t:TableT} {all:Bool} {s:SpanT} (h:s∈intV t all):0≤s.fr∧s.fr<s.to∧s.to≤t.rows.length:=by
  have:=(runsV_ok t).rng s (List.mem_filter.1 h).1
  exact⟨this.1,this.2.1,this.2.2.1⟩
theorem intV_len (t:TableT) (all:Bool):(intV t all).length≤t.rows.length:=Nat.le_trans (List.length_filter_le _ _) (runsV_len t)
def tabGood (t:TableT):Prop:=t.rows.length≤1048576∧(∀r,r∈t.rows→rowOk r)∧1≤t.parents∧t.parents≤32∧marksB t.rows t.parents.toNat=true
theorem tabGood_of {t:TableT} (h:tabWide t) (hc:checkTab t=0):tabGood t:=by
  unfold checkTab at hc
  split at hc
  · simp at hc
  · rename_i h1
    split at hc
    · rename_i h2
      exact⟨h.1,h.2.1,by omega,by omega,h2⟩
    · simp at hc
@[simp] def S_interest_interesting:List D→Prop × D:=spec2 (α:=TableT) (β:=Bool) (fun t _=>tabGood t) (fun t all=>Rep.to (intV t all))
theorem ct_interest_interesting {P:Program} {f g1 g2:Nat} {G:Gam} (h:CodeOf P f 2 11 [3] (x_interest_interesting g1 g2)) (hG:GamOk P G) (h1:G.find g1=some S_interest_runs) (h2:G.find g2=some S_interest_dense):Has P f S_interest_interesting:=h.has2 hG fun t all hp=>by
  obtain⟨p1,p2,p3,p4,p5⟩:=hp
  have hrl:=runsV_len t
  simp[x_interest_interesting,h1,p1]
  refine vc_lp (σ:=Nat × List SpanT) (fun x=>x.1≤(runsV t).length∧x.2.length≤x.1∧x.2++((runsV t).drop x.1).filter (fun s=>all || denseB (runRows t s) t.parents.toNat)=intV t all) (fun x=>(runsV t).length-x.1)
    (fun x=>[.any,.d (.bool all),.ref 0 0 0 0,.any,.gr 1 2 (x.2.map Rep.to),.any,.d (Rep.to (runsV t)),.d (.int .i64 (runsV t).length),.d (.int .i64 x.1),.any,.any])
    (fun x=>[.cells 0 2 [.d (Rep.to t)],.tip x.2.length]) (0,[]) (by simp) (by simp) (by simp[intV]) ?_
  rintro⟨i,o⟩ ⟨i1,i2,i3⟩
  simp only at i1 i2 i3
  by_cases hi:i<(runsV t).length
  · have w1:IntKind.i64.wrap ((i:Int)+1)=(i:Int)+1:=wrap_in (by omega) (by omega)
    have hr:=(runsV_ok t).rng _ (List.getElem_mem hi)
    rw[List.drop_eq_getElem_cons hi,List.filter_cons] at i3
    generalize hs:(runsV t)[i]=s at *
    obtain⟨a,b⟩:=s
    simp only at hr
    obtain⟨a,rfl⟩:=Int.eq_ofNat_of_zero_le hr.1
    obtain⟨b,rfl⟩:=Int.eq_ofNat_of_zero_le (show 0≤b by omega)
    have hrr:(t.rows.drop a).take (b-a)=runRows t ⟨a,b⟩:=rfl
    have q1:(runRows t ⟨a,b⟩).length≤1048576:=by rw[← hrr];simp;omega
    have q2:∀r,r∈runRows t ⟨a,b⟩→rowOk r:=fun r hr=>p2 r (List.mem_of_mem_drop (List.mem_of_mem_take hr))
    have q3:(a:Int)≤b:=by omega
    have q4:(b:Int)≤t.rows.length:=by omega
    have q5:a≤b:=by omega
    have q6:b≤t.rows.length:=by omega
    have hmap:((t.rows.map Rep.to).drop a).take (b-a)=(runRows t ⟨a,b⟩).map Rep.to:=by rw[← hrr,List.map_take,List.map_drop]
    have hmapD:List.take (b-a) (List.drop a (List.map (Rep.to:RowT→D) t.rows))=(runRows t ⟨a,b⟩).map Rep.to:=hmap
    cases all with
    | true =>
      simp[hi,getD_map,hs,w1]
      exact⟨by unfold room;omega,Nxt.mk (i+1,o++[⟨a,b⟩]) (by simp;omega) (by simp) (by simp) ⟨by simp;omega,by simp;omega,by rw[← i3];simp⟩⟩
    | false =>
      cases hd:denseB (runRows t ⟨a,b⟩) t.parents.toNat with
      | true =>
        simp[hi,getD_map,hs,w1,q3,q4,q5,q6,hmapD,h2,q1,p3,p4,hd]
        have i3':o++⟨a,b⟩::((runsV t).drop (i+1)).filter (fun s=>denseB (runRows t s) t.parents.toNat)=intV t false:=by simpa [hd] using i3
        exact⟨q2,by unfold room;omega,Nxt.mk (i+1,o++[⟨a,b⟩]) (by simp;omega) (by simp) (by simp) ⟨by simp;omega,by simp;omega,by rw[← i3'];simp⟩⟩
      | false =>
        simp[hi,getD_map,hs,w1,q3,q4,q5,q6,hmapD,h2,q1,p3,p4,hd]
        have i3':o++((runsV t).drop (i+1)).filter (fun s=>denseB (runRows t s) t.parents.toNat)=intV t false:=by simpa [hd] using i3
        exact⟨q2,Nxt.mk (i+1,o) (by simp;omega) (by simp) (by simp) ⟨by simp;omega,by simp;omega,by simpa using i3'⟩⟩
  · have h9:i=(runsV t).length:=by omega
    subst h9
    rw[List.drop_length] at i3
    simp at i3
    simp[i3]
def intD (t:TableT) (dense:Bool):D:=if checkTab t=0 then .tup [Rep.to (intV t (!dense)),.int .i64 0] else .tup [.nilsl,.int .i64 (checkTab t)]
@[simp] def S_interest_Interesting:List D→Prop × D:=spec2 (α:=TableT) (β:=Bool) (fun t _=>tabWide t) (fun t dense=>intD t dense)
theorem ct_interest_Interesting {P:Program} {f g1 g2:Nat} {G:Gam} (h:CodeOf P f 2 7 [3,4] (x_interest_Interesting g1 g2)) (hG:GamOk P G) (h1:G.find g1=some S_weave_Check) (h2:G.find g2=some S_interest_interesting):Has P f S_interest_Interesting:=h.has2 hG fun t dense hp=>by
  by_cases c:checkTab t=0
  · have hg:=tabGood_of hp c
    simp[x_interest_Interesting,h1,h2,hp,hg,c,intD]
  · simp[x_interest_Interesting,h1,hp,c,intD]
@[simp] def S_ref17_Interesting:List D→Prop × D:=spec2 (α:=TableT) (β:=Bool) (fun t _=>tabWide t) (fun t dense=>intD t dense)
theorem ct_ref17_Interesting {P:Program} {f g1 g2:Nat} {G:Gam} (h:CodeOf P f 2 12 [3,4] (x_ref17_Interesting g1 g2)) (hG:GamOk P G) (h1:G.find g1=some S_ref17_Runs) (h2:G.find g2=some S_ref17_Dense):Has P f S_ref17_Interesting:=h.has2 hG fun t dense hp=>by
  by_cases c:checkTab t=0
  · have hg:=tabGood_of hp c
    obtain⟨p1,p2,p3,p4,p5⟩:=hg
    have hrl:=runsV_len t
    simp[x_ref17_Interesting,h1,hp,c,intD]
    refine vc_lp (σ:=Nat × List SpanT) (fun x=>x.1≤(runsV t).length∧x.2.length≤x.1∧x.2++((runsV t).drop x.1).filter (fun s=>!dense || denseB (runRows t s) t.parents.toNat)=intV t (!dense)) (fun x=>(runsV t).length-x.1)
      (fun x=>[.any,.d (.bool dense),.ref 0 0 0 0,.any,.any,.d (Rep.to (runsV t)),.any,.gr 1 2 (x.2.map Rep.to),.d (.int .i64 x.1),.any,.any,.any])
      (fun x=>[.cells 0 2 [.d (Rep.to t)],.tip x.2.length]) (0,[]) (by simp) (by simp) (by simp[intV]) ?_
    rintro⟨i,o⟩ ⟨i1,i2,i3⟩
    simp only at i1 i2 i3
    by_cases hi:i<(runsV t).length
    · have w1:IntKind.i64.wrap ((i:Int)+1)=(i:Int)+1:=wrap_in (by omega) (by omega)
      have hr:=(runsV_ok t).rng _ (List.getElem_mem hi)
      rw[List.drop_eq_getElem_cons hi,List.filter_cons] at i3
      generalize hs:(runsV t)[i]=s at *
      have q3:s.fr≤s.to:=by omega
      have q4:s.to≤t.rows.length:=hr.2.2.1
      cases dense with
      | false =>
        have hf:∀l:List SpanT,l.filter (fun _=>true)=l:=fun l=>List.filter_eq_self.2 (by simp)
        have i3':o++s::((runsV t).drop (i+1))=intV t true:=by simpa [hf] using i3
        simp[hi,getD_map,hs,w1]
        exact⟨by unfold room;omega,Nxt.mk (i+1,o++[s]) (by simp;omega) (by simp) (by simp) ⟨by simp;omega,by simp;omega,by rw[← i3'];simp[hf]⟩⟩
      | true =>
        cases hd:denseB (runRows t s) t.parents.toNat with
        | true =>
          have i3':o++s::((runsV t).drop (i+1)).filter (fun s=>denseB (runRows t s) t.parents.toNat)=intV t false:=by simpa [hd] using i3
          simp[hi,getD_map,hs,w1,h2,p1,p3,p4,p5,hr.1,q3,q4,hd]
          exact⟨p2,by unfold room;omega,Nxt.mk (i+1,o++[s]) (by simp;omega) (by simp) (by simp) ⟨by simp;omega,by simp;omega,by rw[← i3'];simp⟩⟩
        | false =>
          have i3':o++((runsV t).drop (i+1)).filter (fun s=>denseB (runRows t s) t.parents.toNat)=intV t false:=by simpa [hd] using i3
          simp[hi,getD_map,hs,w1,h2,p1,p3,p4,p5,hr.1,q3,q4,hd]
          exact⟨p2,Nxt.mk (i+1,o) (by simp;omega) (by simp) (by simp) ⟨by simp;omega,by simp;omega,by simpa using i3'⟩⟩
    · have h9:i=(runsV t).length:=by omega
      subst h9
      rw[List.drop_length] at i3
      simp at i3
      simp[i3]
  · simp[x_ref17_Interesting,h1,hp,c,intD]
def hunksD (t:TableT) (c:Int) (dense:Bool):D:=if checkTab t=0 then (if 0≤c∧c≤1048576 then .tup [Rep.to (hunksV t c (!dense)),.int .i64 0] else .tup [.nilsl,.int .i64 3]) else .tup [.nilsl,.int .i64 (checkTab t)]
def boolC (n:Nat) (q:Nat→Bool):List A:=(List.range n).map fun i=>.d (.bool (q i))
theorem boolC_len (n:Nat) (q:Nat→Bool):(boolC n q).length=n:=by simp[boolC]
theorem boolC_false (n:Nat):List.replicate n (A.d (.bool false))=boolC n fun _=>false:=by
  apply List.ext_getElem
  · simp[boolC]
  · intro i h1 h2
    simp[boolC]
theorem boolC_get {n:Nat} {q:Nat→Bool} {i:Nat} (h:i<n):(boolC n q)[i]?=some (.d (.bool (q i))):=by simp[boolC,h]
theorem boolC_set {n:Nat} {q r:Nat→Bool} {i:Nat} {b:Bool} (h:∀k,k<n→r k=if k=i then b else q k):(boolC n q).set i (.d (.bool b))=boolC n r:=by
  apply List.ext_getElem
  · simp[boolC]
  · intro k h1 h2
    have hk:k<n:=by simpa [boolC] using h2
    rw[List.getElem_set]
    simp only[boolC,List.getElem_map,List.getElem_range,h k hk]
    by_cases e:i=k
    · simp[e]
    · simp[e,Ne.symm e]
theorem boolC_all (n:Nat) (q:Nat→Bool):(boolC n q).all A.isD=true∧(boolC n q).map A.toD=((List.range n).map q).map Rep.to:=by
  constructor
  · rw[List.all_eq_true]
    intro y hy
    obtain⟨x,_,rfl⟩:=List.mem_map.1 hy
    rfl
  · simp[boolC,Function.comp_def,A.toD]
theorem boolC_under (n m:Nat) (q:Nat→Bool):(boolC n q).all (A.under m)=true:=by
  rw[List.all_eq_true]
  intro y hy
  obtain⟨x,_,rfl⟩:=List.mem_map.1 hy
  rfl
theorem spV_congr {p q:Nat→Bool}:∀n,(∀i,i<n→p i=q i)→spV p n=spV q n
  | 0,_=>rfl
  | n+1,h=>by
    have ih:=spV_congr n fun i hi=>h i (by omega)
    rw[spV,spV,ih,h n (by omega)]
    by_cases h0:0<n
    · rw[h (n-1) (by omega)]
    · simp[h0]
theorem spansB_of (n:Nat) (q:Nat→Bool):spansB ((List.range n).map q)=spV q n:=by
  unfold spansB
  rw[List.length_map,List.length_range]
  exact spV_congr n fun i hi=>by simp[List.getD,hi]
theorem near_take {l:List SpanT} {k:Nat} (h:k<l.length) (c:Int) (i:Nat):nearB (l.take (k+1)) c i=(nearB (l.take k) c i || decide (l[k].fr-c≤i∧(i:Int)<l[k].to+c)):=by
  unfold nearB
  rw[List.take_succ_eq_append_getElem h,List.any_append]
  simp
theorem intV_asc (t:TableT) (all:Bool):(intV t all).Pairwise fun s u=>s.to<u.fr:=List.Pairwise.filter _ (runsV_ok t).asc
def shP (l:List SpanT) (c:Int) (i:Nat):Nat→Bool:=fun j=>decide (j<i) && nearB l c j
def shQ (l:List SpanT) (c:Int) (i k:Nat):Nat→Bool:=fun j=>if j=i then nearB (l.take k) c j else decide (j<i) && nearB l c j
@[simp] def S_ref17_Hunks:List D→Prop × D:=spec3 (α:=TableT) (β:=Int) (γ:=Bool) (fun t _ _=>tabWide t) (fun t c dense=>hunksD t c dense)
theorem ct_ref17_Hunks {P:Program} {f g1 g2:Nat} {G:Gam} (h:CodeOf P f 3 15 [4,5] (x_ref17_Hunks g1 g2)) (hG:GamOk P G) (h1:G.find g1=some S_ref17_Interesting) (h2:G.find g2=some S_ref17_spans):Has P f S_ref17_Hunks:=h.has3 hG fun t c dense hp=>by
  by_cases ck:checkTab t=0
  · by_cases c1:c<0
    · have c9:¬0≤c:=by omega
      simp[x_ref17_Hunks,h1,hp,intD,ck,c1,hunksD,c9]
    by_cases c2:1048576<c
    · have c9:¬c≤1048576:=by omega
      simp[x_ref17_Hunks,h1,hp,intD,ck,c1,c2,hunksD,c9]
    have c3:0≤c:=by omega
    have c4:c≤1048576:=by omega
    have hn:=hp.1
    have hil:=intV_len t (!dense)
    have him:=fun s h=>intV_mem (t:=t) (all:=!dense) (s:=s) h
    obtain⟨l,hl⟩:∃l,intV t (!dense)=l:=⟨_,rfl⟩
    rw[hl] at hil him
    obtain⟨n,hnl⟩:∃n,t.rows.length=n:=⟨_,rfl⟩
    rw[hnl] at hn hil him
    simp[x_ref17_Hunks,h1,hp,intD,ck,c1,c2,hunksD,c3,c4,hl,hnl]
    rw[boolC_false]
    refine⟨⟨by unfold room;omega,by omega⟩,?_⟩
    refine vc_lp (σ:=Nat) (fun i=>i≤n) (fun i=>n-i)
      (fun i=>[.any,.d (.int .i64 c),.d (.bool dense),.any,.any,.any,.d (Rep.to l),.any,.own 1 0 0 n,.d (.int .i64 i),.any,.any,.any,.any,.any])
      (fun i=>[.cells 0 2 [.d (Rep.to t)],.cells 0 1 (boolC n (shP l c i))]) 0 (by simp) (by simp[show shP l c 0=(fun _=>false) from funext fun j=>by simp[shP]]) (by simp) ?_
    intro i hi
    by_cases hin:i<n
    · have w1:IntKind.i64.wrap ((i:Int)+1)=(i:Int)+1:=wrap_in (by omega) (by omega)
      simp[hin]
      refine vc_lp (σ:=Nat) (fun k=>k≤l.length) (fun k=>l.length-k)
        (fun k=>[.any,.d (.int .i64 c),.d (.bool dense),.any,.any,.any,.d (Rep.to l),.any,.own 1 0 0 n,.d (.int .i64 i),.d (.int .i64 k),.any,.any,.any,.any])
        (fun k=>[.cells 0 2 [.d (Rep.to t)],.cells 0 1 (boolC n (shQ l c i k))]) 0 (by simp) ?_ (by simp) ?_
      · have e:boolC n (shP l c i)=boolC n (shQ l c i 0):=by
          congr 1
          funext j
          unfold shP shQ
          by_cases hj:j=i
          · subst hj;simp[nearB]
          · simp[hj]
        simp[e]
      intro k hk
      by_cases hkl:k<l.length
      · have w2:IntKind.i64.wrap ((k:Int)+1)=(k:Int)+1:=wrap_in (by omega) (by omega)
        obtain⟨m1,m2,m3⟩:=him _ (List.getElem_mem hkl)
        have wa:IntKind.i64.wrap (l[k].fr-c)=l[k].fr-c:=wrap_in (by omega) (by omega)
        have wb:IntKind.i64.wrap (l[k].to+c)=l[k].to+c:=wrap_in (by omega) (by omega)
        have hg:=boolC_get (q:=shQ l c i k) hin
        rw[show shQ l c i k i=nearB (l.take k) c i by simp[shQ]] at hg
        have hnt:=near_take hkl c i
        have hset:∀b,b=nearB (l.take (k+1)) c i→(boolC n (shQ l c i k)).set i (.d (.bool b))=boolC n (shQ l c i (k+1)):=by
          rintro b rfl
          refine boolC_set fun j hj=>?_
          unfold shQ
          by_cases e:j=i
          · subst e;simp
          · simp[e]
        have hlen:=boolC_len n (shQ l c i k)
        generalize boolC n (shQ l c i k)=q at *
        cases hb:nearB (l.take k) c i with
        | true =>
          rw[hb] at hg hnt
          have hg2:∀(h:i<q.length),q[i]'h=A.d (.bool true):=fun h=>by obtain⟨_,h9⟩:=List.getElem?_eq_some_iff.1 hg;exact h9
          have hs:=hset true (by rw[hnt];rfl)
          simp[hkl,getD_map,hin,hlen,hg,hg2,w2,hs]
          exact Nxt.mk (k+1) (by omega) (by simp) (by simp) (by omega)
        | false =>
          rw[hb] at hg hnt
          have hg2:∀(h:i<q.length),q[i]'h=A.d (.bool false):=fun h=>by obtain⟨_,h9⟩:=List.getElem?_eq_some_iff.1 hg;exact h9
          by_cases q1:l[k].fr-c≤i
          · by_cases q2:(i:Int)<l[k].to+c
            · have hs:=hset true (by rw[hnt];simp[q1,q2])
              simp[hkl,getD_map,hin,hlen,hg,hg2,w2,wa,wb,q1,q2,hs]
              exact Nxt.mk (k+1) (by omega) (by simp) (by simp) (by omega)
            · have hs:=hset false (by rw[hnt];simp[q2])
              simp[hkl,getD_map,hin,hlen,hg,hg2,w2,wa,wb,q1,q2,hs]
              exact Nxt.mk (k+1) (by omega) (by simp) (by simp) (by omega)
          · have hs:=hset false (by rw[hnt];simp[q1])
            simp[hkl,getD_map,hin,hlen,hg,hg2,w2,wa,wb,q1,hs]
            exact Nxt.mk (k+1) (by omega) (by simp) (by simp) (by omega)
      · have h9:k=l.length:=by omega
        subst h9
        have e:boolC n (shQ l c i l.length)=boolC n (shP l c (i+1)):=by
          congr 1
          funext j
          unfold shP shQ
          by_cases hj:j=i
          · subst hj;simp
          · have:decide (j<i+1)=decide (j<i):=by simp;omega
            rw[if_neg hj,this]
        simp[w1,e]
        exact Nxt.mk (i+1) (by omega) (by simp) (by simp) (by omega)
    · have h9:i=n:=by omega
      subst h9
      have hh:spansB ((List.range i).map (shP l c i))=hunksV t c (!dense):=by
        rw[spansB_of]
        unfold hunksV
        rw[hl,hnl]
        exact spV_congr i fun j hj=>by simp[hj,shP]
      obtain⟨d1,d2⟩:=boolC_all i (shP l c i)
      have hcl:=boolC_len i (shP l c i)
      have hbl:((List.range i).map (shP l c i)).length=i:=by simp
      generalize (List.range i).map (shP l c i)=bl at d2 hh hbl
      generalize boolC i (shP l c i)=bc at d1 d2 hcl
      have hbn:bl.length≤1048576:=by omega
      simp
      refine Hint.of (T':=[.any,.d (.int .i64 c),.d (.bool dense),.any,.any,.any,.any,.any,.d (Rep.to bl),.any,.any,.any,.any,.any,.any]) (s':=[.cells 0 2 [.d (Rep.to t)],.dead]) (Re.freeze 1 0 1 bc rfl ?_ ⟨rfl,?_⟩ rfl) ?_
      · have hf:=Fz.own 1 0 1 0 i bc (by rw[List.drop_zero,List.take_of_length_le (by omega)];exact d1)
        rw[List.drop_zero,List.take_of_length_le (by omega),d2] at hf
        simp
        simpa using hf
      · intro k hk h0
        simp at hk
        obtain rfl:k=0:=by omega
        exact .inl rfl
      · simp[h2,hbn,hh]
  · simp[x_ref17_Hunks,h1,hp,intD,ck,hunksD]
theorem near_step {t:TableT} {all:Bool} {c:Int} {k:Nat} (hk:k<(intV t all).length) (hc:0≤c) {e:Int} (he:e=if k=0 then 0 else min (((intV t all).getD (k-1) default).to+c) t.rows.length) {x:Nat} (hx:x<t.rows.length) :
    nearB ((intV t all).take (k+1)) c x=(nearB ((intV t all).take k) c x || decide (max ((intV t all)[k].fr-c) e≤x∧(x:Int)<min ((intV t all)[k].to+c) t.rows.length)):=by
  rw[near_take hk]
  by_cases h1:(intV t all)[k].fr-c≤x∧(x:Int)<(intV t all)[k].to+c
  · by_cases h2:e≤(x:Int)
    · have:decide (max ((intV t all)[k].fr-c) e≤x∧(x:Int)<min ((intV t all)[k].to+c) t.rows.length)=true:=by simp;omega
      rw[this]
      simp[h1]
    · have hk0:k≠0:=by rintro rfl;simp at he;omega
      rw[if_neg hk0] at he
      have hk1:k-1<(intV t all).length:=by omega
      have hg:(intV t all).getD (k-1) default=(intV t all)[k-1]:=by simp[List.getD,hk1]
      rw[hg] at he
      have hasc:=List.pairwise_iff_getElem.1 (intV_asc t all) (k-1) k hk1 hk (by omega)
      have hm:=intV_mem (List.getElem_mem hk1)
      have:nearB ((intV t all).take k) c x=true:=by
        unfold nearB
        rw[List.any_eq_true]
        refine⟨(intV t all)[k-1],List.mem_take_iff_getElem.2 ⟨k-1,by omega,rfl⟩,?_⟩
        simp
        omega
      simp[this]
  · have h3:decide ((intV t all)[k].fr-c≤x∧(x:Int)<(intV t all)[k].to+c)=false:=by simpa using h1
    have h4:decide (max ((intV t all)[k].fr-c) e≤x∧(x:Int)<min ((intV t all)[k].to+c) t.rows.length)=false:=by
      rw[decide_eq_false_iff_not]
      omega
    rw[h3,h4]
def hQ (l:List SpanT) (c:Int) (k:Nat) (a j:Int):Nat→Bool:=fun x=>nearB (l.take k) c x || decide (a≤x∧(x:Int)<j)
theorem boolC_congr {n:Nat} {q r:Nat→Bool} (h:∀x,x<n→q x=r x):boolC n q=boolC n r:=by
  unfold boolC
  exact List.map_congr_left fun x hx=>by rw[h x (by simpa using hx)]
def eV (l:List SpanT) (c:Int) (n k:Nat):Int:=if k=0 then 0 else min ((l.getD (k-1) default).to+c) n
@[simp] def S_interest_Hunks:List D→Prop × D:=spec3 (α:=TableT) (β:=Int) (γ:=Bool) (fun t _ _=>tabWide t) (fun t c dense=>hunksD t c dense)
theorem ct_interest_Hunks {P:Program} {f g1 g2 g3 g4 g5:Nat} {G:Gam} (h:CodeOf P f 3 19 [4,5] (x_interest_Hunks g1 g2 g3 g4)) (hG:GamOk P G) (h1:G.find g1=some S_weave_Check) (h2:G.find g2=some S_interest_interesting) (h3:G.findR g3=some (R_interest_spans g5 g4)) (hne:decide (g4=g5)=false):Has P f S_interest_Hunks:=h.has3 hG fun t c dense hp=>by
  have hne:g4≠g5:=of_decide_eq_false hne
  by_cases ck:checkTab t=0
  · by_cases c1:c<0
    · have c9:¬0≤c:=by omega
      simp[x_interest_Hunks,h1,hp,ck,c1,hunksD,c9]
    by_cases c2:1048576<c
    · have c9:¬c≤1048576:=by omega
      simp[x_interest_Hunks,h1,hp,ck,c1,c2,hunksD,c9]
    have c3:0≤c:=by omega
    have c4:c≤1048576:=by omega
    have hgood:=tabGood_of hp ck
    have hn:=hp.1
    have hil:=intV_len t (!dense)
    have him:=fun s h=>intV_mem (t:=t) (all:=!dense) (s:=s) h
    have hstep:=fun k hk e he x hx=>near_step (t:=t) (all:=!dense) (c:=c) (k:=k) hk c3 (e:=e) he (x:=x) hx
    have hhv:hunksV t c (!dense)=spV (nearB (intV t (!dense)) c) t.rows.length:=rfl
    generalize hl:intV t (!dense)=l at hil him hstep hhv
    generalize hnl:t.rows.length=n at hn hil him hstep hhv
    simp[x_interest_Hunks,h1,h2,hp,hgood,ck,c1,c2,hunksD,c3,c4,hl,hnl]
    rw[boolC_false]
    refine⟨⟨by unfold room;omega,by omega⟩,?_⟩
    refine vc_lp (σ:=Nat) (fun k=>k≤l.length) (fun k=>l.length-k)
      (fun k=>[.any,.d (.int .i64 c),.any,.any,.any,.any,.any,.ref 2 0 0 0,.d (.int .i64 (eV l c n k)),.any,.any,.any,.any,.any,.d (Rep.to l),.d (.int .i64 l.length),.d (.int .i64 k),.any,.any])
      (fun k=>[.cells 0 2 [.d (Rep.to t)],.cells 0 1 (boolC n (nearB (l.take k) c)),.cells 0 1 [.own 1 0 0 n]]) 0 (by simp[eV]) ?_ (by simp) ?_
    · have e:(boolC n fun _=>false)=boolC n (nearB (l.take 0) c):=boolC_congr fun x _=>by simp[nearB]
      simp only[to_Table,SbS_cons,SbO_refl,true_and,SbS_nil,and_true]
      rw[e]
      simp
    intro k hk
    by_cases hkl:k<l.length
    · have w1:IntKind.i64.wrap ((k:Int)+1)=(k:Int)+1:=wrap_in (by omega) (by omega)
      obtain⟨m1,m2,m3⟩:=him _ (List.getElem_mem hkl)
      have wa:IntKind.i64.wrap (l[k].fr-c)=l[k].fr-c:=wrap_in (by omega) (by omega)
      have wb:IntKind.i64.wrap (l[k].to+c)=l[k].to+c:=wrap_in (by omega) (by omega)
      have e0:0≤eV l c n k:=by
        unfold eV
        split
        · omega
        · have hk1:k-1<l.length:=by omega
          have hg:l.getD (k-1) default=l[k-1]:=by simp[List.getD,hk1]
          have:=him _ (List.getElem_mem hk1)
          rw[hg]
          omega
      have e1:eV l c n (k+1)=min (l[k].to+c) n:=by
        unfold eV
        rw[if_neg (by omega)]
        simp[List.getD,hkl]
      have hns:=fun x hx=>hstep k hkl (eV l c n k) rfl x hx
      obtain⟨a,ha⟩:∃a:Nat,max (l[k].fr-c) (eV l c n k)=a:=⟨(max (l[k].fr-c) (eV l c n k)).toNat,by omega⟩
      obtain⟨b,hb⟩:∃b:Nat,min (l[k].to+c) (n:Int)=b:=⟨(min (l[k].to+c) (n:Int)).toNat,by omega⟩
      rw[ha,hb] at hns
      have hbn:b≤n:=by omega
      have hln:=boolC_len n (nearB (l.take k) c)
      simp[hkl,getD_map,wa,wb,ha,hb]
      refine vc_lp (σ:=Nat) (fun j=>a≤j∧(j≤b∨j=a)) (fun j=>b-j)
        (fun j=>[.any,.d (.int .i64 c),.any,.any,.any,.any,.any,.ref 2 0 0 0,.d (.int .i64 b),.any,.any,.d (.int .i64 j),.any,.any,.d (Rep.to l),.d (.int .i64 l.length),.d (.int .i64 k),.any,.any])
        (fun j=>[.cells 0 2 [.d (Rep.to t)],.cells 0 1 (boolC n (hQ l c k a j)),.cells 0 1 [.own 1 0 0 n]]) a (by simp) ?_ (by simp) ?_ (hc:=.inr ⟨by simp,by simpa using boolC_under n 3 (hQ l c k a a)⟩)
      · have e:boolC n (nearB (l.take k) c)=boolC n (hQ l c k a a):=boolC_congr fun x _=>by
          unfold hQ
          have:decide ((a:Int)≤x∧(x:Int)<a)=false:=by rw[decide_eq_false_iff_not];omega
          rw[this,Bool.or_false]
        rw[e]
        simp
      rintro j ⟨j1,j2⟩
      have hlen:=boolC_len n (hQ l c k a j)
      by_cases hj:j<b
      · have w2:IntKind.i64.wrap ((j:Int)+1)=(j:Int)+1:=wrap_in (by omega) (by omega)
        have hjn:j<n:=by omega
        have hset:(boolC n (hQ l c k a j)).set j (.d (.bool true))=boolC n (hQ l c k a ((j+1:Nat):Int)):=boolC_set fun x hx=>by
          unfold hQ
          by_cases e:x=j
          · subst e
            have:decide ((a:Int)≤x∧(x:Int)<((x+1:Nat):Int))=true:=by simp;omega
            rw[this]
            simp
          · have:decide ((a:Int)≤x∧(x:Int)<((j+1:Nat):Int))=decide ((a:Int)≤x∧(x:Int)<j):=by
              rw[decide_eq_decide]
              omega
            rw[this,if_neg e]
        simp[hj,hjn,hlen,w2,hset]
        exact Nxt.mk (j+1) (by omega) (by simp) (by simp) ⟨by omega,by omega⟩
      · have e:boolC n (hQ l c k a j)=boolC n (nearB (l.take (k+1)) c):=boolC_congr fun x hx=>by
          rw[hns x hx]
          unfold hQ
          congr 1
          rw[decide_eq_decide]
          omega
        simp[hj,w1,e]
        exact Nxt.mk (k+1) (by omega) (by simp[e1,hb]) (by simp) (by omega)
    · have h9:k=l.length:=by omega
      subst h9
      obtain⟨d1,d2⟩:=boolC_all n (nearB l c)
      have hcl:=boolC_len n (nearB l c)
      have hbl:((List.range n).map (nearB l c)).length=n:=by simp
      have hh:spansB ((List.range n).map (nearB l c))=hunksV t c (!dense):=by rw[spansB_of,hhv]
      have htk:l.take l.length=l:=List.take_length
      rw[htk]
      generalize (List.range n).map (nearB l c)=bl at d2 hh hbl
      generalize boolC n (nearB l c)=bc at d1 d2 hcl ⊢
      have hbn:bl.length≤1048576:=by omega
      simp
      refine Hint.of (T':=[.any,.d (.int .i64 c),.any,.any,.any,.any,.any,.ref 2 0 0 0,.any,.any,.any,.any,.any,.any,.any,.any,.any,.any,.any]) (s':=[.cells 0 2 [.d (Rep.to t)],.dead,.cells 0 1 [.d (Rep.to bl)]]) (Re.freeze 1 0 1 bc rfl ?_ ⟨rfl,?_⟩ rfl) ?_
      · simp
      · have hf:=Fz.own 1 0 1 0 n bc (by rw[List.drop_zero,List.take_of_length_le (by omega)];exact d1)
        rw[List.drop_zero,List.take_of_length_le (by omega),d2] at hf
        intro k hk h0
        simp at hk
        match k,hk,h0 with
        | 0,_,_=>exact .inl rfl
        | 2,_,_=>exact .inr ⟨0,1,_,_,rfl,rfl,rfl,fun i hi=>by
            simp at hi
            subst hi
            exact⟨rfl,hf,trivial⟩⟩
      · have hsp:∀(tb:TableT) (v:Nat),spV (spansP ⟨bl.length,false,tb,bl,v⟩) bl.length=hunksV t c (!dense):=fun _ _=>hh
        simp[h3,eRCall,hne,spansL,hbn,hsp]
  · simp[x_interest_Hunks,h1,hp,ck,hunksD]
@[simp] def S_gen_Spans:List D→Prop × D:=spec2 (α:=List SpanT) (β:=List SpanT) (fun a _=>a.length≤9223372036854775807) (fun a b=>Rep.to (decide (a=b)))
theorem span_ext {a b:SpanT}:a=b↔a.fr=b.fr∧a.to=b.to:=by
  constructor
  · rintro rfl;exact⟨rfl,rfl⟩
  · rintro⟨h1,h2⟩
    cases a;cases b
    simp_all
theorem ct_gen_Spans {P:Program} {f:Nat} {G:Gam} (h:CodeOf P f 2 7 [2] x_gen_Spans) (hG:GamOk P G):Has P f S_gen_Spans:=h.has2 hG fun a b h=>by
  simp[x_gen_Spans]
  refine⟨fun h1 h2=>h1 (by rw[h2]),fun h1=>?_⟩
  have h1:a.length=b.length:=by omega
  refine vc_ghost (σ:=Nat) [true,true,false,true] 0 (fun i=>i≤a.length∧∀k (h:k<a.length) (h2:k<b.length),k<i→a[k]=b[k]) (fun i=>a.length-i) (fun i=>[.d (Rep.to a),.d (Rep.to b),.any,.d (.int .i64 i),.any,.any,.any]) (fun _=>[]) 0 (Nat.le_refl _) (by simp) (by simp) ?_
  rintro i ⟨hm,hi⟩
  simp
  refine⟨fun h2=>?_,fun h2=>?_⟩
  · have h3:i<b.length:=by omega
    have key:a[i]=b[i]↔a[i].fr=b[i].fr∧a[i].to=b[i].to:=span_ext
    simp[getD_map,h2,h3,add1 h2 h,pairsOk,eSeq,cellsEq,cellEq]
    refine⟨fun h4 h5=>?_,fun q1 q2=>⟨i+1,by omega,by simp,by omega,fun k k1 k2 k3=>?_⟩⟩
    · have:=key.1 (by simp only[h5])
      omega
    · rcases Nat.lt_or_ge k i with k4 | k4
      · exact hi k k1 k2 k4
      · have:k=i:=by omega
        subst this
        exact key.2 ⟨q1,q2⟩
  · exact List.ext_getElem h1 fun k k1 k2=>hi k k1 k2 (by omega)
theorem aw17a:checkTab ⟨2,[⟨false,0,[97,10]⟩,⟨true,1,[98,10]⟩,⟨false,1,[99,10]⟩]⟩=0:=by decide
theorem aw17b:runsV ⟨2,[⟨false,0,[97,10]⟩,⟨true,1,[98,10]⟩,⟨false,1,[99,10]⟩]⟩=[⟨1,3⟩]:=by decide
theorem aw17c:intV ⟨2,[⟨false,0,[97,10]⟩,⟨true,1,[98,10]⟩,⟨false,1,[99,10]⟩]⟩ false=[]:=by decide
@[simp] def S_law17_awake:List D→Prop × D:=spec0 True (.bool true)
theorem ct_law17_awake {P:Program} {f g1 g2 g3:Nat} {G:Gam} (h:CodeOf P f 0 6 [0] (x_law17_awake g1 g2 g3)) (hG:GamOk P G) (h1:G.find g1=some S_interest_Runs) (h2:G.find g2=some S_interest_Interesting) (h3:G.find g3=some S_gen_Spans):Has P f S_law17_awake:=h.has0 hG fun _=>by
  have hok:tabOk ⟨2,[⟨false,0,[97,10]⟩,⟨true,1,[98,10]⟩,⟨false,1,[99,10]⟩]⟩:=by
    refine⟨by simp,?_,by decide⟩
    intro r hr
    simp at hr
    rcases hr with rfl | rfl | rfl <;> simp[rowOk]
  have e1:ofAll (Rep.of (α:=RowT)) [.agg [.bool false,.int .u32 0,.str [97,10]],.agg [.bool true,.int .u32 1,.str [98,10]],.agg [.bool false,.int .u32 1,.str [99,10]]]=some [⟨false,0,[97,10]⟩,⟨true,1,[98,10]⟩,⟨false,1,[99,10]⟩]:=rfl
  simp[x_law17_awake,h1,h2,h3,hok,aw17a,aw17b,aw17c,intD]
@[simp] def S_law17_InterestRefuses:List D→Prop × D:=spec3 (α:=TableT) (β:=Int) (γ:=Bool) (fun t _ _=>tabBig t) (fun _ _ _=>.bool true)
theorem ct_law17_InterestRefuses {P:Program} {f g1 g2 g3 g4 g5:Nat} {G:Gam} (h:CodeOf P f 3 12 [4] (x_law17_InterestRefuses g1 g2 g3 g4 g5)) (hG:GamOk P G) (h1:G.find g1=some S_law17_awake) (h2:G.find g2=some S_ref16_Check) (h3:G.find g3=some S_interest_Runs) (h4:G.find g4=some S_interest_Interesting) (h5:G.find g5=some S_interest_Hunks):Has P f S_law17_InterestRefuses:=h.has3 hG fun t c dense hp=>by
  by_cases hl:12<(t.rows.length:Int)
  · simp[x_law17_InterestRefuses,h1,hl]
  · have hp:=hp.wide (by omega)
    by_cases ck:checkTab t=0
    · simp[x_law17_InterestRefuses,h1,h2,hl,hp,ck]
    · simp[x_law17_InterestRefuses,h1,h2,h3,h4,h5,hl,hp,ck,intD,hunksD]
theorem tab_wf {t:TableT} (h:Arg.wf t):tabBig t:=by
  have h2:Arg.wf t.rows:=h.2
  refine⟨len_wf h2,fun r hr=>?_,fun r hr=>str_wf (h2.2 r hr).2.2⟩
  have h3:=h2.2 r hr
  have h4:0≤r.marks∧r.marks≤4294967295:=h3.2.1
  exact⟨h4.1,by omega⟩
theorem law17_InterestRefuses_pre (t:TableT) (c:Int) (d:Bool) (w0:Arg.wf t) (w1:Arg.wf c) (w2:Arg.wf d):tabBig t:=tab_wf w0
end Go.AE
