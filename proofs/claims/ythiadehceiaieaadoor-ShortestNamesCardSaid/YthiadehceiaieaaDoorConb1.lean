/-
  A script depends on which lines are equal alone.
-/
import Derived.Test.YthiadehceiaieaaDoorCona1
import Derived.Test.YthiadehceiaieaaDoorCode1
import Derived.Test.YthiadehceiaieaaDoorAe3

set_option linter.unusedSimpArgs false
set_option linter.unusedVariables false
set_option linter.unnecessarySimpa false
set_option maxRecDepth 20000
set_option maxHeartbeats 4000000
namespace Go.AE
def injOn (f:Int→Int) (a b:List Int):Prop:=∀x,x∈a→∀y,y∈b→f x=f y→x=y
theorem dist_map (f:Int→Int):∀(n:Nat) (a b:List Int),a.length+b.length≤n→injOn f a b→dist (a.map f) (b.map f)=dist a b
  | _,[],b,_,_=>by rw[List.map_nil,dist_nil,dist_nil,List.length_map]
  | _,x::a,[],_,_=>by rw[List.map_nil,dist_nil',dist_nil',List.length_map]
  | 0,x::a,y::b,h,_=>by simp at h
  | n+1,x::a,y::b,h,hi=>by
    simp only[List.length_cons] at h
    have i1:injOn f a b:=fun u hu v hv=>hi u (by simp[hu]) v (by simp[hv])
    have i2:injOn f a (y::b):=fun u hu v hv=>hi u (by simp[hu]) v hv
    have i3:injOn f (x::a) b:=fun u hu v hv=>hi u hu v (by simp[hv])
    have d1:=dist_map f n a b (by omega) i1
    have d2:=dist_map f n a (y::b) (by simp;omega) i2
    have d3:=dist_map f n (x::a) b (by simp;omega) i3
    simp only[List.map_cons] at d2 d3 ⊢
    rw[dist,dist]
    by_cases e:x=y
    · subst e
      rw[if_pos rfl,if_pos rfl,d1]
    · rw[if_neg e,if_neg (fun h=>e (hi x (by simp) y (by simp) h)),d2,d3]
theorem walk_map (f:Int→Int):∀(n:Nat) (a b:List Int) (i j:Int),a.length+b.length≤n→injOn f a b→walkV (a.map f) (b.map f) i j=walkV a b i j
  | _,[],b,i,j,_,_=>by rw[List.map_nil,walkV_nil,walkV_nil]
  | _,x::a,[],i,j,_,_=>by rw[List.map_nil,walkV_nil',walkV_nil']
  | 0,x::a,y::b,i,j,h,_=>by simp at h
  | n+1,x::a,y::b,i,j,h,hi=>by
    simp only[List.length_cons] at h
    have i1:injOn f a b:=fun u hu v hv=>hi u (by simp[hu]) v (by simp[hv])
    have i2:injOn f a (y::b):=fun u hu v hv=>hi u (by simp[hu]) v hv
    have i3:injOn f (x::a) b:=fun u hu v hv=>hi u hu v (by simp[hv])
    have d1:=walk_map f n a b (i+1) (j+1) (by omega) i1
    have d2:=walk_map f n a (y::b) (i+1) j (by simp;omega) i2
    have d3:=walk_map f n (x::a) b i (j+1) (by simp;omega) i3
    have e1:=dist_map f _ a (y::b) (Nat.le_refl _) i2
    have e2:=dist_map f _ (x::a) (y::b) (Nat.le_refl _) hi
    simp only[List.map_cons] at d2 d3 e1 e2 ⊢
    rw[walkV,walkV]
    by_cases e:x=y
    · subst e
      rw[if_pos rfl,if_pos rfl,d1]
    · rw[if_neg e,if_neg (fun h=>e (hi x (by simp) y (by simp) h)),d2,d3,e1,e2]
theorem script_inj {f:Int→Int} {a b:List Int} (h:injOn f a b):scriptV (a.map f) (b.map f)=scriptV a b:=by
  unfold scriptV
  rw[walk_map f _ a b 0 0 (Nat.le_refl _) h,List.length_map,List.length_map]
structure TwoX where
  u:List Str
  v:List Str
def idA (N:List Str) (u:List Str):List A:=u.map fun s=>.d (.int .i64 (placeV N s))
@[simp] theorem idA_len (N u:List Str):(idA N u).length=u.length:=by simp[idA]
theorem idA_snoc (N u:List Str) (s:Str):idA N (u++[s])=idA N u++[.d (.int .i64 (placeV N s))]:=by simp[idA]
theorem idA_under (N u:List Str) (n:Nat):∀x,x∈idA N u→A.under n x=true:=by
  intro x hx
  obtain⟨y,_,rfl⟩:=List.mem_map.1 hx
  rfl
theorem idA_ren (N u:List Str) (f:Nat→Nat):(idA N u).map (A.ren f)=idA N u:=by
  unfold idA
  rw[List.map_map]
  rfl
def F_ref03_IdsOwn:RF TwoX where
  new:=3
  view a _:=⟨((a.getD 0 .any).gl (List Str)).getD 0 [],((a.getD 0 .any).gl (List Str)).getD 1 []⟩
  args x:=[.d (Rep.to [x.u,x.v])]
  st _:=[.res,.res,.res]
  pre x:=x.u.length≤100000∧x.v.length≤100000
  res x:=.own 0 2 0 2
  st' x:=[.cells 2 1 [.own 1 x.u.length 0 x.u.length,.own 2 x.v.length 0 x.v.length],.cells x.u.length 1 (idA (namesV [x.u,x.v]) x.u),.cells x.v.length 1 (idA (namesV [x.u,x.v]) x.v)]
abbrev R_ref03_IdsOwn:RSpec:=F_ref03_IdsOwn.spec
def idsSt (N u v:List Str):Nat→Store
  | 0=>[.res,.res,.res,.cells 0 1 []]
  | 1=>[.res,.res,.res,.cells 1 1 [.own 4 u.length 0 u.length],.cells u.length 1 (idA N u)]
  | _=>[.res,.res,.res,.cells 2 1 [.own 4 u.length 0 u.length,.own 5 v.length 0 v.length],.cells u.length 1 (idA N u),.cells v.length 1 (idA N v)]
theorem ct_ref03_IdsOwn {P:Program} {f g1 g2:Nat} {G:Gam} (h:CodeOf P f 1 9 [1] (x_ref03_IdsOwn g1 g2)) (hG:GamOk P G) (h1:G.find g1=some S_ref03_Names) (h2:G.find g2=some S_ref03_place):RSpec.Ok P f R_ref03_IdsOwn:=by
  refine RF.ok h.call fun x hx=>h.rcalls hG rfl ?_
  obtain⟨u,v⟩:=x
  obtain⟨p1,p2⟩:=hx
  simp only at p1 p2
  have hsm:smallL [u,v]:=by unfold smallL;simp;omega
  have hnl:(namesV [u,v]).length≤9223372036854775807:=by have:=namesV_len [u,v];simp at this;omega
  simp[F_ref03_IdsOwn,x_ref03_IdsOwn,startA,h1,hsm]
  obtain⟨N,hN⟩:∃N,namesV [u,v]=N:=⟨_,rfl⟩
  rw[hN] at hnl
  simp only[hN]
  refine vc_lpR (σ:=Nat) (fun k=>k≤2) (fun k=>2-k)
    (fun k=>[.d (Rep.to [u,v]),.any,.d (Rep.to N),.own 3 k 0 k,.d (.int .i64 k),.any,.any,.any,.any])
    (fun k=>idsSt N u v k) 0 ?_ (by simp) ?_
  · refine Re.weak (k:=[.cells 0 1 []]) (s':=[.res,.res,.res]) (by simp) (by simp) ?_ (by simp)
    simp
    exact Wk.freshO 3 [.cells 0 1 []] 1 0 rfl
  intro k hk
  have w2:IntKind.i64.wrap 1=1:=wrap_in (by omega) (by omega)
  have w3:IntKind.i64.wrap 2=2:=wrap_in (by omega) (by omega)
  match k,hk with
  | 0,_ =>
    simp[idsSt]
    refine vc_lp (σ:=Nat) (fun i=>i≤u.length) (fun i=>u.length-i)
      (fun i=>[.d (Rep.to [u,v]),.any,.d (Rep.to N),.own 3 0 0 0,.d (.int .i64 0),.own 4 i 0 i,.d (.int .i64 i),.any,.any])
      (fun i=>[.res,.res,.res,.cells 0 1 []]++[.cells i 1 (idA N (u.take i))]) 0 (by simp) (by simp[idA]) (by simp) ?_ (hc:=.inl (by simp))
    intro i hi
    have hil:(idA N (u.take i)).length=i:=by rw[idA_len,List.length_take];omega
    by_cases hiu:i<u.length
    · have w1:IntKind.i64.wrap ((i:Int)+1)=(i:Int)+1:=wrap_in (by omega) (by omega)
      have hs:idA N (u.take (i+1))=idA N (u.take i)++[.d (.int .i64 (placeV N u[i]))]:=by rw[take_snoc hiu,idA_snoc]
      have hu:=idA_under N (u.take (i+1)) 5
      simp[hiu,h2,hnl,w1,hil]
      rw[← hs]
      exact⟨by unfold room;omega,Nxt.mk (i+1) (by omega) (by simp) (by simp) (by omega) (by simp) (.inr ⟨by simp,by simpa using hu⟩)⟩
    · have h9:i=u.length:=by omega
      subst h9
      have ht:u.take u.length=u:=List.take_length
      rw[ht] at hil ⊢
      simp[w2]
      exact⟨by unfold room;omega,Nxt.mk 1 (by omega) (by simp) (by simp[idsSt]) (by omega) (by simp) (.inr ⟨by simp,by simp[idsSt];exact idA_under N u 5⟩)⟩
  | 1,_ =>
    simp[idsSt]
    refine vc_lp (σ:=Nat) (fun i=>i≤v.length) (fun i=>v.length-i)
      (fun i=>[.d (Rep.to [u,v]),.any,.d (Rep.to N),.own 3 1 0 1,.d (.int .i64 1),.own 5 i 0 i,.d (.int .i64 i),.any,.any])
      (fun i=>[.res,.res,.res,.cells 1 1 [.own 4 u.length 0 u.length],.cells u.length 1 (idA N u)]++[.cells i 1 (idA N (v.take i))]) 0 (by simp) (by simp[idA]) (by simp) ?_ (hc:=.inl (by simp))
    intro i hi
    have hil:(idA N (v.take i)).length=i:=by rw[idA_len,List.length_take];omega
    by_cases hiu:i<v.length
    · have w1:IntKind.i64.wrap ((i:Int)+1)=(i:Int)+1:=wrap_in (by omega) (by omega)
      have hs:idA N (v.take (i+1))=idA N (v.take i)++[.d (.int .i64 (placeV N v[i]))]:=by rw[take_snoc hiu,idA_snoc]
      have hu:=idA_under N (v.take (i+1)) 6
      simp[hiu,h2,hnl,w1,hil]
      rw[← hs]
      exact⟨by unfold room;omega,Nxt.mk (i+1) (by omega) (by simp) (by simp) (by omega) (by simp) (.inr ⟨by simp,by have hu2:=idA_under N u 6;simp;exact⟨hu2,hu⟩⟩)⟩
    · have h9:i=v.length:=by omega
      subst h9
      have ht:v.take v.length=v:=List.take_length
      rw[ht] at hil ⊢
      simp[w2]
      exact⟨by unfold room;omega,Nxt.mk 2 (by omega) (by simp[w3]) (by simp[idsSt]) (by omega) (by simp) (.inr ⟨by simp,by simp[idsSt];exact⟨idA_under N u 6,idA_under N v 6⟩⟩)⟩
  | 2,_ =>
    simp[idsSt]
    refine⟨by simp[resPre,resE],[3,4,5],rfl,⟨by decide,by simp,?_⟩,fun k hk=>?_,?_,?_,by simp[A.under,A.unders]⟩
    · simp[pickS,Ob.ren,idA_ren]
      exact⟨idA_under N u 3,idA_under N v 3⟩
    · match k,hk with
      | 0,_=>exact .inr rfl
      | 1,_=>exact .inr rfl
      | 2,_=>exact .inr rfl
    · simp[pickS,Ob.ren,idA_ren]
    · simp[resOf,resE,A.ren,A.rens,idxIn] <;> rfl
def rowT9 (y:Int) (xs:List Int) (i:Nat):List A:=(List.range xs.length).map fun j=>.d (.int .i64 (if j<i then 5-y * xs.getD j 0 else xs.getD j 0))
theorem rowT9_len (y:Int) (xs:List Int) (i:Nat):(rowT9 y xs i).length=xs.length:=by simp[rowT9]
theorem rowT9_under (y:Int) (xs:List Int) (i n:Nat):∀x,x∈rowT9 y xs i→A.under n x=true:=by
  intro x hx
  obtain⟨k,_,rfl⟩:=List.mem_map.1 hx
  rfl
theorem rowT9_isD (y:Int) (xs:List Int) (i:Nat):(rowT9 y xs i).all A.isD=true:=by
  rw[List.all_eq_true]
  intro x hx
  obtain⟨k,_,rfl⟩:=List.mem_map.1 hx
  rfl
theorem rowT9_get (y:Int) (xs:List Int) {i:Nat} (h:i<xs.length):(rowT9 y xs i)[i]?=some (.d (.int .i64 (xs.getD i 0))):=by
  simp[rowT9,h]
theorem rowT9_set (y:Int) (xs:List Int) {i:Nat} (h:i<xs.length):(rowT9 y xs i).set i (.d (.int .i64 (5-y * xs.getD i 0)))=rowT9 y xs (i+1):=by
  apply List.ext_getElem
  · simp[rowT9]
  · intro j h1 h2
    rw[List.getElem_set]
    simp only[rowT9,List.getElem_map,List.getElem_range]
    by_cases e:i=j
    · subst e
      rw[if_pos rfl,if_pos (by omega)]
    · rw[if_neg e]
      by_cases e2:j<i
      · rw[if_pos e2,if_pos (by omega)]
      · rw[if_neg e2,if_neg (by omega)]
theorem rowT9_full (y:Int) (xs:List Int):(rowT9 y xs xs.length).map A.toD=(xs.map fun x=>5-y * x).map Rep.to:=by
  apply List.ext_getElem
  · simp[rowT9]
  · intro j h1 h2
    have hj:j<xs.length:=by simpa [rowT9] using h1
    simp[rowT9,A.toD,hj]
theorem rowT9_zero (y:Int) (N u:List Str):idA N u=rowT9 y (u.map (placeV N)) 0:=by
  apply List.ext_getElem
  · simp[rowT9,idA]
  · intro j h1 h2
    have hj:j<u.length:=by simpa [idA] using h1
    simp[rowT9,idA,hj]
def turnSt (y:Int) (xu xv:List Int):Nat→Store
  | 0=>[.cells 2 1 [.own 1 xu.length 0 xu.length,.own 2 xv.length 0 xv.length],.cells xu.length 1 (rowT9 y xu 0),.cells xv.length 1 (rowT9 y xv 0)]
  | 1=>[.cells 2 1 [.own 1 xu.length 0 xu.length,.own 2 xv.length 0 xv.length],.cells xu.length 1 (rowT9 y xu xu.length),.cells xv.length 1 (rowT9 y xv 0)]
  | _=>[.cells 2 1 [.own 1 xu.length 0 xu.length,.own 2 xv.length 0 xv.length],.cells xu.length 1 (rowT9 y xu xu.length),.cells xv.length 1 (rowT9 y xv xv.length)]
theorem freezeTwo {a1 a2 a3 a4 a6 a12:A} (y:Int) (xu xv:List Int) :
    Re 0 [.any,a1,a2,a3,a4,.own 0 2 0 2,a6,.any,.any,.any,.any,.any,a12,.any] (turnSt y xu xv 2)
      [.any,a1,a2,a3,a4,.d (.sl 1 [Rep.to (xu.map fun x=>5-y * x),Rep.to (xv.map fun x=>5-y * x)]),a6,.any,.any,.any,.any,.any,a12,.any] [.dead,.dead,.dead]:=by
  have d:∀(xs:List Int),((((rowT9 y xs xs.length).drop 0).take xs.length)).map A.toD=(xs.map fun x=>5-y * x).map Rep.to:=fun xs=>by
    rw[List.drop_zero,List.take_of_length_le (by rw[rowT9_len];exact Nat.le_refl _),rowT9_full]
  have e:∀(xs:List Int),(((rowT9 y xs xs.length).drop 0).take xs.length).all A.isD=true:=fun xs=>by
    rw[List.drop_zero,List.take_of_length_le (by rw[rowT9_len];exact Nat.le_refl _),rowT9_isD]
  refine Re.trans (Re.freeze (T':=[.any,a1,a2,a3,a4,.own 0 2 0 2,a6,.any,.any,.any,.any,.any,a12,.any])
    (s':=[.cells 2 1 [.d (Rep.to (xu.map fun x=>5-y * x)),.own 2 xv.length 0 xv.length],.dead,.cells xv.length 1 (rowT9 y xv xv.length)]) 1 xu.length 1 (rowT9 y xu xu.length) rfl (FzL.refl _ _ _ _ _) ⟨rfl,?_⟩ rfl) ?_
  · intro j hj hne
    match j,hj,hne with
    | 0,_,_ =>
      refine .inr ⟨_,_,_,_,rfl,rfl,rfl,fun i hi=>?_⟩
      match i,hi with
      | 0,_ =>
        refine⟨rfl,?_,trivial⟩
        have:=Fz.own 1 xu.length 1 0 xu.length (rowT9 y xu xu.length) (e xu)
        rw[d xu] at this
        exact this
      | 1,_=>exact⟨rfl,Fz.refl _ _ _ _ _,trivial⟩
    | 2,_,_=>exact .inl rfl
    | j+3,hj,_=>exact absurd hj (by simp[turnSt])
  refine Re.trans (Re.freeze (T':=[.any,a1,a2,a3,a4,.own 0 2 0 2,a6,.any,.any,.any,.any,.any,a12,.any])
    (s':=[.cells 2 1 [.d (Rep.to (xu.map fun x=>5-y * x)),.d (Rep.to (xv.map fun x=>5-y * x))],.dead,.dead]) 2 xv.length 1 (rowT9 y xv xv.length) rfl (FzL.refl _ _ _ _ _) ⟨rfl,?_⟩ rfl) ?_
  · intro j hj hne
    match j,hj,hne with
    | 0,_,_ =>
      refine .inr ⟨_,_,_,_,rfl,rfl,rfl,fun i hi=>?_⟩
      match i,hi with
      | 0,_=>exact⟨rfl,Fz.refl _ _ _ _ _,trivial⟩
      | 1,_ =>
        refine⟨rfl,?_,trivial⟩
        have:=Fz.own 2 xv.length 1 0 xv.length (rowT9 y xv xv.length) (e xv)
        rw[d xv] at this
        exact this
    | 1,_,_=>exact .inl rfl
    | j+3,hj,_=>exact absurd hj (by simp)
  refine Re.freeze 0 2 1 [.d (Rep.to (xu.map fun x=>5-y * x)),.d (Rep.to (xv.map fun x=>5-y * x))] rfl ?_ ⟨rfl,?_⟩ rfl
  · simp only[FzL_cons,FzL_nil,Fz_refl,Fz_any,true_and,and_true]
    exact Fz.own 0 2 1 0 2 [.d (Rep.to (xu.map fun x=>5-y * x)),.d (Rep.to (xv.map fun x=>5-y * x))] rfl
  · intro j hj hne
    match j,hj,hne with
    | 1,_,_=>exact .inl rfl
    | 2,_,_=>exact .inl rfl
    | j+3,hj,_=>exact absurd hj (by simp)
theorem placeV_range (N:List Str) (s:Str):-1≤placeV N s∧placeV N s≤N.length:=by
  unfold placeV
  split
  · rename_i i hi
    have:=(List.findIdx?_eq_some_iff_getElem.1 hi).1
    omega
  · omega
@[simp] def S_law09_ShortestNames:List D→Prop × D:=spec2 (α:=List Int) (β:=Int) (fun raw _=>raw.length≤9223372036854775807) (fun _ _=>.bool true)
theorem ct_law09_ShortestNames {P:Program} {f g1 g2 g3 g4 g5 g6 g7 g8 g9:Nat} {G:Gam} (h:CodeOf P f 2 14 [2] (x_law09_ShortestNames g1 g2 g3 g4 g5 g6 g7 g8 g9)) (hG:GamOk P G) (h1:G.find g1=some S_gen_Blob) (h2:G.find g2=some S_gen_Near) (h3:G.find g3=some S_ref02_Lines) (h4:G.find g4=some S_gen_Mod) (h5:G.find g5=some S_shortest_Blobs) (h6:G.find g6=some S_shortest_Script) (h7:G.find g7=some S_gen_Changes) (h8:G.find g8=some S_law09_awake) (h9:G.findR g9=some R_ref03_IdsOwn):Has P f S_law09_ShortestNames:=h.has2 hG fun raw by' p1=>by
  have b1:=(blobV_good raw 0 5 (n:=9) (by omega)).1
  have b2:=(nearV_good (blobV raw 0 9 5) raw 100).1
  have b3:=lines_blob raw 0 5 (n:=9) (by omega)
  obtain⟨m1,m2⟩:=modV_lt by' (n:=1000) (by omega)
  obtain⟨y,hy⟩:∃y,1+modV by' 1000=y:=⟨_,rfl⟩
  have w0:IntKind.i64.wrap (1+modV by' 1000)=y:=by rw[hy];exact wrap_in (by omega) (by omega)
  generalize hA:blobV raw 0 9 5=A at *
  generalize hB:nearV A raw 100=B at *
  have ckA:checkT A=0:=check_of (by omega) (by have:A.count 10≤A.length:=List.count_le_length;omega)
  have hlA:(linesV A).length≤4096:=checkT_lines ckA
  have ckB:checkT B=0:=check_of (by omega) (by have:B.count 10≤B.length:=List.count_le_length;omega)
  have hlB:(linesV B).length≤4096:=checkT_lines ckB
  have hren:=idA_ren
  simp[x_law09_ShortestNames,h1,h2,h3,h4,h9,p1,hA,hB,w0,eRCall,F_ref03_IdsOwn,hren,show A.length≤4096 by omega,show A.length≤4194304 by omega,show B.length≤4194304 by omega,show (linesV A).length≤100000 by omega,show (linesV B).length≤100000 by omega]
  refine⟨⟨idA_under _ _ 3,idA_under _ _ 3⟩,?_⟩
  have hN:=namesV_len [linesV A,linesV B]
  have hNl:(namesV [linesV A,linesV B]).length≤8192:=by simp at hN;omega
  obtain⟨N,hNe⟩:∃N,namesV [linesV A,linesV B]=N:=⟨_,rfl⟩
  obtain⟨xu,hxu⟩:∃xu,(linesV A).map (placeV N)=xu:=⟨_,rfl⟩
  obtain⟨xv,hxv⟩:∃xv,(linesV B).map (placeV N)=xv:=⟨_,rfl⟩
  have e1:blobsD A B=.tup [Rep.to (scriptV xu xv),.int .i64 0]:=by
    have hi:idsV [linesV A,linesV B]=[xu,xv]:=by rw[← hxu,← hxv,← hNe];rfl
    unfold blobsD
    rw[if_pos ckA,if_pos ckB,hi]
    rfl
  rw[hNe] at hNl ⊢
  have l1:(linesV A).length=xu.length:=by rw[← hxu,List.length_map]
  have l2:(linesV B).length=xv.length:=by rw[← hxv,List.length_map]
  rw[rowT9_zero y,rowT9_zero y,hxu,hxv,l1,l2]
  rw[l1] at hlA
  rw[l2] at hlB
  have hrgx:∀(w:List Str) (i:Nat) (hi:i<(w.map (placeV N)).length),IntKind.i64.wrap (y * (w.map (placeV N)).getD i 0)=y * (w.map (placeV N)).getD i 0∧IntKind.i64.wrap (5-y * (w.map (placeV N)).getD i 0)=5-y * (w.map (placeV N)).getD i 0:=fun w i hi=>by
    have e:(w.map (placeV N)).getD i 0=placeV N (w[i]'(by simpa using hi)):=by simp[List.getD,show i<w.length by simpa using hi]
    rw[e]
    obtain⟨q1,q2⟩:=placeV_range N (w[i]'(by simpa using hi))
    generalize placeV N _=z at *
    have a1:y * z≤1000 * 8192:=Int.le_trans (Int.mul_le_mul_of_nonneg_left (show z≤8192 by omega) (by omega)) (Int.mul_le_mul_of_nonneg_right (by omega) (by omega))
    have a2:-1000≤y * z:=by
      have:y * (-1)≤y * z:=Int.mul_le_mul_of_nonneg_left q1 (by omega)
      omega
    exact⟨wrap_in (by omega) (by omega),wrap_in (by omega) (by omega)⟩
  have hrgxu:∀i,i<xu.length→IntKind.i64.wrap (y * xu.getD i 0)=y * xu.getD i 0∧IntKind.i64.wrap (5-y * xu.getD i 0)=5-y * xu.getD i 0:=fun i hi=>by rw[← hxu] at hi ⊢;exact hrgx _ i hi
  have hrgxv:∀i,i<xv.length→IntKind.i64.wrap (y * xv.getD i 0)=y * xv.getD i 0∧IntKind.i64.wrap (5-y * xv.getD i 0)=5-y * xv.getD i 0:=fun i hi=>by rw[← hxv] at hi ⊢;exact hrgx _ i hi
  have w2:IntKind.i64.wrap 1=1:=wrap_in (by omega) (by omega)
  have w3:IntKind.i64.wrap 2=2:=wrap_in (by omega) (by omega)
  refine vc_lp (σ:=Nat) (fun k=>k≤2) (fun k=>2-k)
    (fun k=>[.any,.d (.int .i64 y),.d (.bool false),.d (.str A),.d (.str B),.own 0 2 0 2,.d (.int .i64 k),.any,.any,.any,.any,.any,.any,.any])
    (fun k=>turnSt y xu xv k) 0 (by simp) (by simp[turnSt]) (by simp) ?_ (hc:=.inr ⟨by simp[turnSt],by simp[turnSt];exact⟨rowT9_under y xu _ 3,rowT9_under y xv _ 3⟩⟩)
  intro k hk
  match k,hk with
  | 0,_ =>
    simp[turnSt]
    refine vc_lp (σ:=Nat) (fun i=>i≤xu.length) (fun i=>xu.length-i)
      (fun i=>[.any,.d (.int .i64 y),.d (.bool false),.d (.str A),.d (.str B),.own 0 2 0 2,.d (.int .i64 0),.d (.int .i64 i),.any,.any,.any,.any,.any,.any])
      (fun i=>[.cells 2 1 [.own 1 xu.length 0 xu.length,.own 2 xv.length 0 xv.length],.cells xu.length 1 (rowT9 y xu i),.cells xv.length 1 (rowT9 y xv 0)]) 0 (by simp) (by simp) (by simp) ?_ (hc:=.inl (by simp))
    intro i hi
    have hil:=rowT9_len y xu i
    by_cases hiu:i<xu.length
    · have w1:IntKind.i64.wrap ((i:Int)+1)=(i:Int)+1:=wrap_in (by omega) (by omega)
      have hg:=rowT9_get y xu hiu
      have hg2:∀h:i<(rowT9 y xu i).length,(rowT9 y xu i)[i]'h=.d (.int .i64 (xu.getD i 0)):=fun h=>by obtain⟨_,h9⟩:=List.getElem?_eq_some_iff.1 hg;exact h9
      have hst:=rowT9_set y xu hiu
      have hu:=rowT9_under y xu
      have hv:=rowT9_under y xv
      have hr:=hrgxu i hiu
      generalize xu.getD i 0=z at *
      obtain⟨r1,r2⟩:=hr
      simp[hiu,w1,hil,hg,hg2,hst,r1,r2]
      exact Nxt.mk (i+1) (by omega) (by simp) (by simp) (by omega) (by simp) (.inr ⟨by simp,by simp;exact⟨hu _ 3,hv _ 3⟩⟩)
    · have h10:i=xu.length:=by omega
      subst h10
      simp[w2,w3]
      exact Nxt.mk 1 (by omega) (by simp) (by simp[turnSt]) (by omega) (by simp) (.inr ⟨by simp,by simp[turnSt];exact⟨rowT9_under y xu _ 3,rowT9_under y xv _ 3⟩⟩)
  | 1,_ =>
    simp[turnSt]
    refine vc_lp (σ:=Nat) (fun i=>i≤xv.length) (fun i=>xv.length-i)
      (fun i=>[.any,.d (.int .i64 y),.d (.bool false),.d (.str A),.d (.str B),.own 0 2 0 2,.d (.int .i64 1),.d (.int .i64 i),.any,.any,.any,.any,.any,.any])
      (fun i=>[.cells 2 1 [.own 1 xu.length 0 xu.length,.own 2 xv.length 0 xv.length],.cells xu.length 1 (rowT9 y xu xu.length),.cells xv.length 1 (rowT9 y xv i)]) 0 (by simp) (by simp) (by simp) ?_ (hc:=.inl (by simp))
    intro i hi
    have hil:=rowT9_len y xv i
    by_cases hiu:i<xv.length
    · have w1:IntKind.i64.wrap ((i:Int)+1)=(i:Int)+1:=wrap_in (by omega) (by omega)
      have hg:=rowT9_get y xv hiu
      have hg2:∀h:i<(rowT9 y xv i).length,(rowT9 y xv i)[i]'h=.d (.int .i64 (xv.getD i 0)):=fun h=>by obtain⟨_,h9⟩:=List.getElem?_eq_some_iff.1 hg;exact h9
      have hst:=rowT9_set y xv hiu
      have hu:=rowT9_under y xu
      have hv:=rowT9_under y xv
      have hr:=hrgxv i hiu
      generalize xv.getD i 0=z at *
      obtain⟨r1,r2⟩:=hr
      simp[hiu,w1,hil,hg,hg2,hst,r1,r2]
      exact Nxt.mk (i+1) (by omega) (by simp) (by simp) (by omega) (by simp) (.inr ⟨by simp,by simp;exact⟨hu _ 3,hv _ 3⟩⟩)
    · have h10:i=xv.length:=by omega
      subst h10
      simp[w2,w3]
      exact Nxt.mk 2 (by omega) (by simp) (by simp[turnSt]) (by omega) (by simp) (.inr ⟨by simp,by simp[turnSt];exact⟨rowT9_under y xu _ 3,rowT9_under y xv _ 3⟩⟩)
  | 2,_ =>
    have hfr:=fun a2=>freezeTwo (a1:=.d (.int .i64 y)) (a2:=a2) (a3:=.d (.str A)) (a4:=.d (.str B)) (a6:=.d (.int .i64 2)) (a12:=.d (.bool false)) y xu xv
    have hinj:scriptV (xu.map fun x=>5-y * x) (xv.map fun x=>5-y * x)=scriptV xu xv:=script_inj fun x _ z _ e=>by
      have e':y * x=y * z:=by omega
      exact Int.eq_of_mul_eq_mul_left (by omega) e'
    have hsl:=scriptV_len xu xv
    have hlu:(xu.map fun x=>5-y * x).length=xu.length:=List.length_map _
    have hlv:(xv.map fun x=>5-y * x).length=xv.length:=List.length_map _
    generalize (xu.map fun x=>5-y * x)=mu at *
    generalize (xv.map fun x=>5-y * x)=mv at *
    have hlg:¬longV mu mv:=by unfold longV;omega
    simp[turnSt]
    refine Hint.of (hfr _) ?_
    simp[h5,h6,h7,h8,e1,hinj,hlg,show A.length≤4194304 by omega,show B.length≤4194304 by omega,show mu.length≤1048576 by omega,show mv.length≤1048576 by omega]
    omega
theorem law09_ShortestNames_pre (raw:List Int) (k:Int) (w0:Arg.wf raw) (w1:Arg.wf k):raw.length≤9223372036854775807:=by
  have:=len_wf w0
  omega
end Go.AE
