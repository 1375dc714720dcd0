/-
  An abstract reading of Go values and memory: immutable data (D),references to owned objects (A),and when a concrete world bears them.
-/
import Derived.ChangeAgain
import Derived.Laws.StructEq
import Derived.Lib.Strings
import Derived.Orders
import Derived.WalkKit

set_option linter.unusedSimpArgs false
set_option linter.unusedVariables false
set_option linter.unnecessarySimpa false
namespace Go.AE
inductive D where
  | bool (b:Bool)
  | int (k:IntKind) (n:Int)
  | str (s:List UInt8)
  | nilp
  | nilsl
  | nilif
  | nilfn
  | nilmp
  | sl (esz:Nat) (xs:List D)
  | agg (cs:List D)
  | tup (vs:List D)
  | iface (t:TypeId) (x:D)
  | fn (f:Fn) (first captured:List D)
  deriving Inhabited
def D.cells:D→List D
  | .agg cs=>cs
  | x=>[x]
def D.one:D→Bool
  | .agg _ | .tup _=>false
  | _=>true
def D.fits (x:D) (esz:Nat):Bool:=x.cells.length == esz && x.cells.all D.one
inductive DRep (w:World) (I:Nat→Nat→Prop):D→Value→Prop where
  | bool (b:Bool):DRep w I (.bool b) (.bool b)
  | int (k:IntKind) (n:Int):DRep w I (.int k n) (.int k n)
  | str (s:List UInt8):DRep w I (.str s) (.string ⟨s.toArray⟩)
  | nilp:DRep w I .nilp (.pointer none)
  | nilsl:DRep w I .nilsl (.slice none 0 0)
  | nilif:DRep w I .nilif .nilIface
  | nilfn:DRep w I .nilfn .nilFunc
  | nilmp:DRep w I .nilmp (.map none)
  | sl0 (esz:Nat) (a:Option Addr) (cap:Nat):DRep w I (.sl esz []) (.slice a 0 cap)
  | sl (esz:Nat) (xs:List D) (b off n cap:Nat) (u:Nat→Nat→Value) (hn:n=xs.length) (hcap:n≤cap)
      (hsz:∀x,x∈xs→x.fits esz=true)
      (hI:∀i j,i<n→j<esz→I b (off+i * esz+j))
      (hc:∀i j,i<n→j<esz→w.cell? ⟨b,off+i * esz+j,none⟩=some (u i j))
      (hr:∀i j,i<n→j<esz→DRep w I ((xs.getD i default).cells.getD j default) (u i j)) :
      DRep w I (.sl esz xs) (.slice (some ⟨b,off,none⟩) n cap)
  | agg (cs:List D) (vs:Array Value) (hl:vs.size=cs.length) (ho:cs.all D.one=true)
      (hr:∀k,k<cs.length→DRep w I (cs.getD k default) (vs.getD k undef)):DRep w I (.agg cs) (.agg vs)
  | tup (cs:List D) (vs:Array Value) (hl:vs.size=cs.length)
      (hr:∀k,k<cs.length→DRep w I (cs.getD k default) (vs.getD k undef)):DRep w I (.tup cs) (.tuple vs)
  | iface (t:TypeId) (x:D) (v:Value) (h:DRep w I x v):DRep w I (.iface t x) (.iface t v)
  | fn (f:Fn) (fi ca:List D) (vf vc:Array Value) (h1:vf.size=fi.length) (h2:vc.size=ca.length)
      (h3:∀k,k<fi.length→DRep w I (fi.getD k default) (vf.getD k undef))
      (h4:∀k,k<ca.length→DRep w I (ca.getD k default) (vc.getD k undef)):DRep w I (.fn f fi ca) (.func f vf vc)
theorem DRep.mono {w w':World} {I I':Nat→Nat→Prop} (h:∀b j,I b j→I' b j∧w'.cell? ⟨b,j,none⟩=w.cell? ⟨b,j,none⟩)
    {x:D} {v:Value} (r:DRep w I x v):DRep w' I' x v:=by
  induction r with
  | sl esz xs b off n cap u hn hcap hsz hI hc hr ih =>
    exact .sl esz xs b off n cap u hn hcap hsz (fun i j hi hj=>(h _ _ (hI i j hi hj)).1) (fun i j hi hj=>by rw[(h _ _ (hI i j hi hj)).2];exact hc i j hi hj) ih
  | agg cs vs hl ho hr ih=>exact .agg cs vs hl ho ih
  | tup cs vs hl hr ih=>exact .tup cs vs hl ih
  | iface t x v _ ih=>exact .iface t x v ih
  | fn f fi ca vf vc h1 h2 h3 h4 ih1 ih2=>exact .fn f fi ca vf vc h1 h2 ih1 ih2
  | _=>constructor
inductive A where
  | any
  | d (x:D)
  | ref (l ver i j:Nat)
  | own (l ver off n:Nat)
  | gr (l esz:Nat) (xs:List D)
  | iptr (cs:List D)
  | mp (l:Nat)
  | agg (cs:List A)
  | tup (vs:List A)
  | fn (f:Fn) (first captured:List A)
  | iface (t:TypeId) (x:A)
  | tref (l ver:Nat) (t:TypeId)
  | bgr (l:Nat) (t:TypeId) (bs:List UInt8)
  deriving Inhabited
inductive Ob where
  | dead
  | res
  | cells (ver esz:Nat) (xs:List A)
  | tip (n:Nat)
  | map (es:List (D × D))
  deriving Inhabited
abbrev Store:=List Ob
def A.cells:A→List A
  | .d (.agg cs)=>cs.map .d
  | .agg cs=>cs
  | x=>[x]
def A.one:A→Bool
  | .any | .agg _ | .tup _=>false
  | .d x=>x.one
  | _=>true
def A.fits (x:A) (esz:Nat):Bool:=x.cells.length == esz && x.cells.all A.one
structure Mem where
  I:Nat→Nat→Prop
  B:Nat→Option (Nat × Nat)
  N:Nat
def refOk (w:World) (M:Mem) (s:Store) (l ver i j:Nat) (v:Value):Prop :=
  match s[l]? with
  | some .dead=>True
  | some (.cells ver' esz _)=>ver≤ver'∧(ver=ver'→∃b o,M.B l=some (b,o)∧v=.pointer (some ⟨b,o+i * esz+j,none⟩))
  | _=>False
def ownOk (w:World) (M:Mem) (s:Store) (l ver off n:Nat) (v:Value):Prop :=
  match s[l]? with
  | some .dead=>True
  | some (.cells ver' esz xs)=>ver≤ver'∧(ver=ver'→(M.B l=none∧off+n≤xs.length∧n=0∧v=.slice none 0 0)∨∃b o a cap c E f,M.B l=some (b,o)∧v=.slice a n cap∧off+n≤xs.length∧n≤cap ∧
      (cap≠0→a=some ⟨b,o+off * esz,none⟩)∧w.heap[b]?=some (.cells c E f)∧o+(off+cap) * esz≤c.size)
  | _=>False
def grOk (w:World) (M:Mem) (s:Store) (l esz:Nat) (xs:List D) (v:Value):Prop :=
  DRep w M.I (.sl esz xs) v ∧
  match s[l]? with
  | some .dead=>True
  | some (.tip n)=>xs.length≤n∧(xs.length=n→∃a cap,v=.slice a n cap ∧
      ((M.B l=none∧cap=n)∨∃b o c E f,M.B l=some (b,o)∧n * esz≤o∧a=some ⟨b,o-n * esz,none⟩∧w.heap[b]?=some (.cells c E f)∧o+(cap-n) * esz≤c.size∧n≤cap))
  | _=>False
def mpOk (w:World) (M:Mem) (s:Store) (l:Nat) (v:Value):Prop :=
  match s[l]? with
  | some .dead=>True
  | some (.map _)=>∃b,M.B l=some (b,0)∧v=.map (some b)
  | _=>False
def bytD (bs:List UInt8):List D:=bs.map fun c=>.int .u8 c.toNat
def tipOk (M:Mem) (s:Store) (l k b:Nat):Prop :=
  match s[l]? with
  | some .dead=>True
  | some (.tip m)=>k≤m∧(k=m→∃o,M.B l=some (b,o))
  | _=>False
def typedOk (w:World) (M:Mem) (s:Store) (l:Nat) (t:TypeId) (k:Nat) (v:Value):Prop:=v=.slice none 0 0∨∃b n cap c f,v=.slice (some ⟨b,0,none⟩) n cap∧0<cap∧w.heap[b]?=some (.cells c t f)∧tipOk M s l k b
def trefOk (w:World) (M:Mem) (s:Store) (l ver:Nat) (t:TypeId) (v:Value):Prop :=
  match s[l]? with
  | some .dead=>True
  | some (.cells ver' _ _)=>ver≤ver'∧(ver=ver'→∃b,M.B l=some (b,0)∧(∃c f,w.heap[b]?=some (.cells c t f)∧c.size=2)∧(v=.pointer none∨v=.pointer (some ⟨b,0,none⟩)))
  | _=>False
def iptrOk (w:World) (M:Mem) (cs:List D) (v:Value):Prop :=
  ∃b off,v=.pointer (some ⟨b,off,none⟩)∧∀j,j<cs.length→M.I b (off+j)∧∃u,w.cell? ⟨b,off+j,none⟩=some u∧DRep w M.I (cs.getD j default) u
inductive ARep (w:World) (M:Mem) (s:Store):A→Value→Prop where
  | any (v:Value):ARep w M s .any v
  | d (x:D) (v:Value) (h:DRep w M.I x v):ARep w M s (.d x) v
  | ref (l ver i j:Nat) (v:Value) (h1:v.oneCell'=true) (h:refOk w M s l ver i j v):ARep w M s (.ref l ver i j) v
  | own (l ver off n:Nat) (v:Value) (h1:v.oneCell'=true) (h:ownOk w M s l ver off n v):ARep w M s (.own l ver off n) v
  | gr (l esz:Nat) (xs:List D) (v:Value) (h:grOk w M s l esz xs v):ARep w M s (.gr l esz xs) v
  | iptr (cs:List D) (v:Value) (h:iptrOk w M cs v):ARep w M s (.iptr cs) v
  | mp (l:Nat) (v:Value) (h1:v.oneCell'=true) (h:mpOk w M s l v):ARep w M s (.mp l) v
  | agg (cs:List A) (vs:Array Value) (hl:vs.size=cs.length) (ho:cs.all A.one=true)
      (hr:∀k,k<cs.length→ARep w M s (cs.getD k .any) (vs.getD k undef)):ARep w M s (.agg cs) (.agg vs)
  | tup (cs:List A) (vs:Array Value) (hl:vs.size=cs.length)
      (hr:∀k,k<cs.length→ARep w M s (cs.getD k .any) (vs.getD k undef)):ARep w M s (.tup cs) (.tuple vs)
  | fn (f:Fn) (fi ca:List A) (vf vc:Array Value) (h1:vf.size=fi.length) (h2:vc.size=ca.length)
      (h3:∀k,k<fi.length→ARep w M s (fi.getD k .any) (vf.getD k undef))
      (h4:∀k,k<ca.length→ARep w M s (ca.getD k .any) (vc.getD k undef)):ARep w M s (.fn f fi ca) (.func f vf vc)
  | iface (t:TypeId) (x:A) (v:Value) (h:ARep w M s x v):ARep w M s (.iface t x) (.iface t v)
  | tref (l ver:Nat) (t:TypeId) (v:Value) (h1:v.oneCell'=true) (h:trefOk w M s l ver t v):ARep w M s (.tref l ver t) v
  | bgr (l:Nat) (t:TypeId) (bs:List UInt8) (v:Value) (h:grOk w M s l 1 (bytD bs) v) (h2:typedOk w M s l t bs.length v):ARep w M s (.bgr l t bs) v
theorem ARep.mono {w w':World} {M M':Mem} {s s':Store}
    (hD:∀x v,DRep w M.I x v→DRep w' M'.I x v)
    (hR:∀l ver i j v,refOk w M s l ver i j v→refOk w' M' s' l ver i j v)
    (hO:∀l ver off n v,ownOk w M s l ver off n v→ownOk w' M' s' l ver off n v)
    (hG:∀l esz xs v,grOk w M s l esz xs v→grOk w' M' s' l esz xs v)
    (hP:∀cs v,iptrOk w M cs v→iptrOk w' M' cs v)
    (hM:∀l v,mpOk w M s l v→mpOk w' M' s' l v)
    (hT:∀l ver t v,trefOk w M s l ver t v→trefOk w' M' s' l ver t v)
    (hY:∀l t k v,typedOk w M s l t k v→typedOk w' M' s' l t k v)
    {x:A} {v:Value} (r:ARep w M s x v):ARep w' M' s' x v:=by
  induction r with
  | any v=>exact .any v
  | d x v h=>exact .d x v (hD _ _ h)
  | ref l ver i j v h1 h=>exact .ref _ _ _ _ _ h1 (hR _ _ _ _ _ h)
  | own l ver off n v h1 h=>exact .own _ _ _ _ _ h1 (hO _ _ _ _ _ h)
  | gr l esz xs v h=>exact .gr _ _ _ _ (hG _ _ _ _ h)
  | iptr cs v h=>exact .iptr _ _ (hP _ _ h)
  | mp l v h1 h=>exact .mp _ _ h1 (hM _ _ h)
  | agg cs vs hl ho _ ih=>exact .agg cs vs hl ho ih
  | tup cs vs hl _ ih=>exact .tup cs vs hl ih
  | fn f fi ca vf vc h1 h2 _ _ ih1 ih2=>exact .fn f fi ca vf vc h1 h2 ih1 ih2
  | iface t x v _ ih=>exact .iface t x v ih
  | tref l ver t v h1 h=>exact .tref _ _ _ _ h1 (hT _ _ _ _ h)
  | bgr l t bs v h h2=>exact .bgr _ _ _ _ (hG _ _ _ _ h) (hY _ _ _ _ h2)
theorem DRep.oneCell {w:World} {I:Nat→Nat→Prop} {x:D} {v:Value} (h:DRep w I x v) (ho:x.one=true):v.oneCell'=true:=by
  cases h <;> first | rfl | simp[D.one] at ho
theorem ARep.oneCell {w:World} {M:Mem} {s:Store} {x:A} {v:Value} (h:ARep w M s x v) (ho:x.one=true):v.oneCell'=true:=by
  cases h with
  | any v=>simp[A.one] at ho
  | d x v h=>exact h.oneCell ho
  | ref l ver i j v h1 h=>exact h1
  | own l ver off n v h1 h=>exact h1
  | gr l esz xs v h=>exact h.1.oneCell rfl
  | iptr cs v h =>
    obtain⟨b,off,rfl,_⟩:=h
    rfl
  | mp l v h1 h=>exact h1
  | agg cs vs hl ho hr=>simp[A.one] at ho
  | tup cs vs hl hr=>simp[A.one] at ho
  | fn f fi ca vf vc h1 h2 h3 h4=>rfl
  | iface t x v h=>rfl
  | tref l ver t v h1 h=>exact h1
  | bgr l t bs v h h2=>exact h.1.oneCell rfl
def unfrozen (f:Nat × Nat) (o n:Nat):Prop:=∀j,o≤j→j<n→¬(f.1≤j∧j<f.2)
def mapRep (w:World) (I:Nat→Nat→Prop) (ms:List (D × D)) (es:Array MapEntry):Prop :=
  es.size=ms.length∧∀k,k<ms.length→DRep w I (ms.getD k default).1 (es.getD k default).key∧DRep w I (ms.getD k default).2 (es.getD k default).val
def obOk (w:World) (M:Mem) (s:Store) (l:Nat):Ob→Prop
  | .dead | .res=>M.B l=none
  | .cells _ esz xs=>(xs=[]∧M.B l=none)∨∃b o c E f,M.B l=some (b,o)∧w.heap[b]?=some (.cells c E f)∧unfrozen f o c.size∧o+xs.length * esz≤c.size ∧
      (∀x,x∈xs→x.fits esz=true) ∧
      ∀i j,i<xs.length→j<esz→ARep w M s ((xs.getD i .any).cells.getD j .any) (c.getD (o+i * esz+j) undef)
  | .tip _=>∀b o,M.B l=some (b,o)→∃c E f,w.heap[b]?=some (.cells c E f)∧unfrozen f o c.size∧o≤c.size
  | .map ms=>∃b es clock,M.B l=some (b,0)∧w.heap[b]?=some (.map es clock)∧mapRep w M.I ms es
structure Good (w:World) (M:Mem) (s:Store):Prop where
  imm:∀b j,M.I b j→(w.cell? ⟨b,j,none⟩).isSome=true
  off:∀b j l o,M.I b j→M.B l=some (b,o)→j<o
  sep:∀l l' b o o',M.B l=some (b,o)→M.B l'=some (b,o')→l=l'
  obj:∀l,obOk w M s l (s.getD l .dead)
  nle:M.N≤w.heap.size
  nof:∀l b o,M.B l=some (b,o)→M.N≤b
theorem Good.lt {w:World} {M:Mem} {s:Store} (g:Good w M s) {l b o:Nat} (h:M.B l=some (b,o)):b<w.heap.size:=by
  have:=g.obj l
  cases hs:s.getD l .dead with
  | dead=>rw[hs] at this;simp only[obOk] at this;rw[h] at this;simp at this
  | res=>rw[hs] at this;simp only[obOk] at this;rw[h] at this;simp at this
  | cells ver esz xs =>
    rw[hs] at this
    rcases this with ⟨_,h1⟩ | ⟨b',o',c,E,f,h1,h2,_⟩
    · rw[h] at h1;simp at h1
    rw[h] at h1;simp at h1;obtain⟨rfl,rfl⟩:=h1
    exact (Array.getElem?_eq_some_iff.1 h2).1
  | tip n =>
    rw[hs] at this
    obtain⟨c,E,f,h2,_⟩:=this b o h
    exact (Array.getElem?_eq_some_iff.1 h2).1
  | map ms =>
    rw[hs] at this
    obtain⟨b',es,cl,h1,h2,_⟩:=this
    rw[h] at h1;simp at h1;obtain⟨rfl,rfl⟩:=h1
    exact (Array.getElem?_eq_some_iff.1 h2).1
def obStep (M M':Mem) (l:Nat):Ob→Ob→Prop
  | .res,_=>True
  | .cells v esz xs,.cells v' esz' xs'=>v≤v'∧(v=v'→M'.B l=M.B l∧esz=esz'∧xs.length≤xs'.length)
  | .tip n,.tip n'=>n≤n'∧(n=n'→M'.B l=M.B l)
  | .map _,.map _=>M'.B l=M.B l
  | _,.dead=>True
  | _,_=>False
structure Ext (w:World) (M:Mem) (s:Store) (w':World) (M':Mem) (s':Store):Prop where
  os:w'.os=w.os
  tape:w'.tape=w.tape
  output:w'.output=w.output
  size:w.heap.size≤w'.heap.size
  keep:∀b,b<w.heap.size→(∀l o,M.B l≠some (b,o))→w'.heap[b]?=w.heap[b]?
  low:∀l b o j,M.B l=some (b,o)→j<o→w'.cell? ⟨b,j,none⟩=w.cell? ⟨b,j,none⟩
  blk:∀l b o c E f,M.B l=some (b,o)→w.heap[b]?=some (.cells c E f)→∃c' f',w'.heap[b]?=some (.cells c' E f')∧c'.size=c.size
  imm:∀b j,M.I b j→M'.I b j
  immNew:∀b j,M'.I b j→M.I b j∨w.heap.size≤b∨∃l o,M.B l=some (b,o)∧o≤j
  own:∀l b o,M'.B l=some (b,o)→w.heap.size≤b∨∃l' o',M.B l'=some (b,o')∧o'≤o
  N:M'.N=M.N
  len:s.length≤s'.length
  ob:∀l,l<s.length→obStep M M' l (s.getD l .dead) (s'.getD l .dead)
theorem cell?_of_heap {w w':World} {b j:Nat} (h:w'.heap[b]?=w.heap[b]?):w'.cell? ⟨b,j,none⟩=w.cell? ⟨b,j,none⟩:=by
  simp only[World.cell?,h]
theorem Ext.cell {w:World} {M:Mem} {s:Store} {w':World} {M':Mem} {s':Store} (g:Good w M s) (e:Ext w M s w' M' s') {b j:Nat} (h:M.I b j) :
    w'.cell? ⟨b,j,none⟩=w.cell? ⟨b,j,none⟩:=by
  by_cases hx:∃l o,M.B l=some (b,o)
  · obtain⟨l,o,hl⟩:=hx
    exact e.low l b o j hl (g.off b j l o h hl)
  · refine cell?_of_heap (e.keep b ?_ ?_)
    · have:=g.imm b j h
      simp only[World.cell?] at this
      by_cases hb:b<w.heap.size
      · exact hb
      · simp[Array.getElem?_eq_none (Nat.le_of_not_lt hb)] at this
    · intro l o hl
      exact hx ⟨l,o,hl⟩
theorem Ext.drep {w:World} {M:Mem} {s:Store} {w':World} {M':Mem} {s':Store} (g:Good w M s) (e:Ext w M s w' M' s') {x:D} {v:Value}
    (h:DRep w M.I x v):DRep w' M'.I x v :=
  h.mono fun b j hb=>⟨e.imm b j hb,e.cell g hb⟩
theorem getD_getElem? {s:Store} {l:Nat} {o:Ob} (h:s[l]?=some o):s.getD l .dead=o∧l<s.length:=by
  obtain⟨h1,h2⟩:=List.getElem?_eq_some_iff.1 h
  exact⟨by simp[h],h1⟩
theorem getElem?_of_lt {s:Store} {l:Nat} (h:l<s.length):s[l]?=some (s.getD l .dead):=by
  simp[h]
theorem Ext.tipOk {w:World} {M:Mem} {s:Store} {w':World} {M':Mem} {s':Store} (e:Ext w M s w' M' s') {l k b:Nat} (h:tipOk M s l k b):tipOk M' s' l k b:=by
  unfold AE.tipOk at h ⊢
  split at h
  · rename_i hs
    obtain⟨hs,hl⟩:=getD_getElem? hs
    have:=e.ob l hl
    rw[hs] at this
    rw[getElem?_of_lt (Nat.lt_of_lt_of_le hl e.len)]
    cases hs':s'.getD l .dead <;> rw[hs'] at this <;> simp_all [obStep]
  · rename_i m hs
    obtain⟨hs,hl⟩:=getD_getElem? hs
    have:=e.ob l hl
    rw[hs] at this
    rw[getElem?_of_lt (Nat.lt_of_lt_of_le hl e.len)]
    cases hs':s'.getD l .dead <;> rw[hs'] at this <;> simp only[obStep] at this
    · trivial
    · obtain⟨h1,h2⟩:=h
      obtain⟨h3,h4⟩:=this
      refine⟨by omega,fun h5=>?_⟩
      obtain⟨o,h6⟩:=h2 (by omega)
      exact⟨o,by rw[h4 (by omega)];exact h6⟩
  · exact h.elim
theorem Ext.arep {w:World} {M:Mem} {s:Store} {w':World} {M':Mem} {s':Store} (g:Good w M s) (e:Ext w M s w' M' s') {x:A} {v:Value}
    (h:ARep w M s x v):ARep w' M' s' x v:=by
  refine h.mono (fun x v h=>e.drep g h) ?_ ?_ ?_ ?_ ?_ ?_ ?_
  · intro l ver i j v h
    unfold refOk at h
    split at h
    · rename_i hs
      obtain⟨hs,hl⟩:=getD_getElem? hs
      have:=e.ob l hl
      rw[hs] at this
      unfold refOk
      rw[getElem?_of_lt (Nat.lt_of_lt_of_le hl e.len)]
      cases hs':s'.getD l .dead <;> rw[hs'] at this <;> simp_all [obStep]
    · rename_i ver' esz xs hs
      obtain⟨hs,hl⟩:=getD_getElem? hs
      have:=e.ob l hl
      rw[hs] at this
      unfold refOk
      rw[getElem?_of_lt (Nat.lt_of_lt_of_le hl e.len)]
      cases hs':s'.getD l .dead <;> rw[hs'] at this <;> simp only[obStep] at this
      · trivial
      · obtain⟨h1,h2⟩:=h
        obtain⟨h3,h4⟩:=this
        refine⟨by omega,fun h5=>?_⟩
        have h6:ver=ver':=by omega
        obtain⟨b,o,h7,h8⟩:=h2 h6
        obtain⟨h9,rfl,h10⟩:=h4 (by omega)
        exact⟨b,o,by rw[h9];exact h7,h8⟩
    · exact h.elim
  · intro l ver off n v h
    unfold ownOk at h
    split at h
    · rename_i hs
      obtain⟨hs,hl⟩:=getD_getElem? hs
      have:=e.ob l hl
      rw[hs] at this
      unfold ownOk
      rw[getElem?_of_lt (Nat.lt_of_lt_of_le hl e.len)]
      cases hs':s'.getD l .dead <;> rw[hs'] at this <;> simp_all [obStep]
    · rename_i ver' esz xs hs
      obtain⟨hs,hl⟩:=getD_getElem? hs
      have:=e.ob l hl
      rw[hs] at this
      unfold ownOk
      rw[getElem?_of_lt (Nat.lt_of_lt_of_le hl e.len)]
      cases hs':s'.getD l .dead <;> rw[hs'] at this <;> simp only[obStep] at this
      · trivial
      · obtain⟨h1,h2⟩:=h
        obtain⟨h3,h4⟩:=this
        refine⟨by omega,fun h5=>?_⟩
        have h6:ver=ver':=by omega
        obtain⟨h14,rfl,h15⟩:=h4 (by omega)
        rcases h2 h6 with ⟨h7,h8,h9⟩ | ⟨b,o,a,cap,c,E,f,h7,h8,h9,h10,h11,h12,h13⟩
        · exact .inl ⟨by rw[h14];exact h7,by omega,h9⟩
        obtain⟨c',f',h16,h17⟩:=e.blk l b o c E f h7 h12
        exact .inr ⟨b,o,a,cap,c',E,f',by rw[h14];exact h7,h8,by omega,h10,h11,h16,by omega⟩
    · exact h.elim
  · intro l esz xs v h
    unfold grOk at h
    obtain⟨h0,h⟩:=h
    refine⟨e.drep g h0,?_⟩
    split at h
    · rename_i hs
      obtain⟨hs,hl⟩:=getD_getElem? hs
      have:=e.ob l hl
      rw[hs] at this
      rw[getElem?_of_lt (Nat.lt_of_lt_of_le hl e.len)]
      cases hs':s'.getD l .dead <;> rw[hs'] at this <;> simp_all [obStep]
    · rename_i n hs
      obtain⟨hs,hl⟩:=getD_getElem? hs
      have:=e.ob l hl
      rw[hs] at this
      rw[getElem?_of_lt (Nat.lt_of_lt_of_le hl e.len)]
      cases hs':s'.getD l .dead <;> rw[hs'] at this <;> simp only[obStep] at this
      · trivial
      · obtain⟨h1,h2⟩:=h
        obtain⟨h3,h4⟩:=this
        refine⟨by omega,fun h5=>?_⟩
        have h6:n=_:=Nat.le_antisymm h3 (by omega)
        subst h6
        obtain⟨a,cap,h7,h8⟩:=h2 h5
        have h14:=h4 rfl
        refine⟨a,cap,h7,?_⟩
        rcases h8 with ⟨h8,h9⟩ | ⟨b,o,c,E,f,h8,h9,h10,h11,h12,h13⟩
        · exact .inl ⟨by rw[h14];exact h8,h9⟩
        · obtain⟨c',f',h16,h17⟩:=e.blk l b o c E f h8 h11
          exact .inr ⟨b,o,c',E,f',by rw[h14];exact h8,h9,h10,h16,by omega,h13⟩
    · exact h.elim
  · rintro cs v ⟨b,off,h1,h2⟩
    refine⟨b,off,h1,fun j hj=>?_⟩
    obtain⟨h3,u,h4,h5⟩:=h2 j hj
    exact⟨e.imm _ _ h3,u,by rw[e.cell g h3];exact h4,e.drep g h5⟩
  · intro l v h
    unfold mpOk at h
    split at h
    · rename_i hs
      obtain⟨hs,hl⟩:=getD_getElem? hs
      have:=e.ob l hl
      rw[hs] at this
      unfold mpOk
      rw[getElem?_of_lt (Nat.lt_of_lt_of_le hl e.len)]
      cases hs':s'.getD l .dead <;> rw[hs'] at this <;> simp_all [obStep]
    · rename_i ms hs
      obtain⟨hs,hl⟩:=getD_getElem? hs
      have:=e.ob l hl
      rw[hs] at this
      unfold mpOk
      rw[getElem?_of_lt (Nat.lt_of_lt_of_le hl e.len)]
      cases hs':s'.getD l .dead <;> rw[hs'] at this <;> simp only[obStep] at this
      · trivial
      · obtain⟨b,h1,h2⟩:=h
        exact⟨b,by rw[this];exact h1,h2⟩
    · exact h.elim
  · intro l ver t v h
    unfold trefOk at h
    split at h
    · rename_i hs
      obtain⟨hs,hl⟩:=getD_getElem? hs
      have:=e.ob l hl
      rw[hs] at this
      unfold trefOk
      rw[getElem?_of_lt (Nat.lt_of_lt_of_le hl e.len)]
      cases hs':s'.getD l .dead <;> rw[hs'] at this <;> simp_all [obStep]
    · rename_i ver' esz xs hs
      obtain⟨hs,hl⟩:=getD_getElem? hs
      have:=e.ob l hl
      rw[hs] at this
      unfold trefOk
      rw[getElem?_of_lt (Nat.lt_of_lt_of_le hl e.len)]
      cases hs':s'.getD l .dead <;> rw[hs'] at this <;> simp only[obStep] at this
      · trivial
      · obtain⟨h1,h2⟩:=h
        obtain⟨h3,h4⟩:=this
        refine⟨by omega,fun h5=>?_⟩
        have h6:ver=ver':=by omega
        obtain⟨b,h7,⟨c,f,h8,h9⟩,h10⟩:=h2 h6
        obtain⟨h11,_⟩:=h4 (by omega)
        obtain⟨c',f',h12,h13⟩:=e.blk l b 0 c t f h7 h8
        exact⟨b,by rw[h11];exact h7,⟨c',f',h12,by omega⟩,h10⟩
    · exact h.elim
  · intro l t k v h
    rcases h with h | ⟨b,n,cap,c,f,h1,h2,h3,h9⟩
    · exact .inl h
    · have h9:=e.tipOk h9
      by_cases hx:∃l o,M.B l=some (b,o)
      · obtain⟨l,o,hl⟩:=hx
        obtain⟨c',f',h4,_⟩:=e.blk l b o c t f hl h3
        exact .inr ⟨b,n,cap,c',f',h1,h2,h4,h9⟩
      · refine .inr ⟨b,n,cap,c,f,h1,h2,?_,h9⟩
        rw[e.keep b (Array.getElem?_eq_some_iff.1 h3).1 fun l o hl=>hx ⟨l,o,hl⟩]
        exact h3
theorem obStep.refl (M:Mem) (l:Nat) (x:Ob):obStep M M l x x:=by
  cases x <;> simp[obStep]
theorem Ext.refl (w:World) (M:Mem) (s:Store):Ext w M s w M s where
  os:=rfl
  tape:=rfl
  output:=rfl
  size:=Nat.le_refl _
  keep _ _ _:=rfl
  low _ _ _ _ _ _:=rfl
  blk _ _ _ c E f _ h:=⟨c,f,h,rfl⟩
  imm _ _ h:=h
  immNew _ _ h:=.inl h
  own l b o h:=.inr ⟨l,o,h,Nat.le_refl _⟩
  N:=rfl
  len:=Nat.le_refl _
  ob l _:=obStep.refl M l _
theorem obStep.trans {M M' M'':Mem} {l:Nat} {x y z:Ob} (h:obStep M M' l x y) (k:obStep M' M'' l y z):obStep M M'' l x z:=by
  cases x <;> cases y <;> simp only[obStep] at h <;> cases z <;> simp only[obStep] at k ⊢ <;> try trivial
  · obtain⟨h1,h2⟩:=h
    obtain⟨k1,k2⟩:=k
    refine⟨by omega,fun e=>?_⟩
    have a:=h2 (by omega)
    have b:=k2 (by omega)
    exact⟨b.1.trans a.1,a.2.1.trans b.2.1,Nat.le_trans a.2.2 b.2.2⟩
  · obtain⟨h1,h2⟩:=h
    obtain⟨k1,k2⟩:=k
    refine⟨by omega,fun e=>?_⟩
    exact (k2 (by omega)).trans (h2 (by omega))
  · exact k.trans h
theorem Ext.trans {w:World} {M:Mem} {s:Store} {w':World} {M':Mem} {s':Store} {w'':World} {M'':Mem} {s'':Store}
    (g:Good w M s) (e:Ext w M s w' M' s') (g':Good w' M' s') (k:Ext w' M' s' w'' M'' s''):Ext w M s w'' M'' s'' where
  os:=k.os.trans e.os
  tape:=k.tape.trans e.tape
  output:=k.output.trans e.output
  size:=Nat.le_trans e.size k.size
  keep b hb h:=by
    rw[k.keep b (Nat.lt_of_lt_of_le hb e.size) ?_,e.keep b hb h]
    intro l o hl
    rcases e.own l b o hl with h1 | ⟨l',o',h1,_⟩
    · omega
    · exact h l' o' h1
  low l b o j hl hj:=by
    have hb:=g.lt hl
    by_cases hx:∃l' o',M'.B l'=some (b,o')
    · obtain⟨l',o',hl'⟩:=hx
      rcases e.own l' b o' hl' with h1 | ⟨l2,o2,h1,h2⟩
      · omega
      · have h3:=g.sep l l2 b o o2 hl h1
        subst h3
        rw[hl] at h1
        simp at h1
        rw[k.low l' b o' j hl' (by omega),e.low l b o j hl hj]
    · rw[cell?_of_heap (k.keep b (Nat.lt_of_lt_of_le hb e.size) fun l' o' h=>hx ⟨l',o',h⟩),e.low l b o j hl hj]
  blk l b o c E f hl hc:=by
    have hb:=g.lt hl
    obtain⟨c',f',h1,h2⟩:=e.blk l b o c E f hl hc
    by_cases hx:∃l' o',M'.B l'=some (b,o')
    · obtain⟨l',o',hl'⟩:=hx
      obtain⟨c'',f'',h3,h4⟩:=k.blk l' b o' c' E f' hl' h1
      exact⟨c'',f'',h3,by omega⟩
    · exact⟨c',f',by rw[k.keep b (Nat.lt_of_lt_of_le hb e.size) fun l' o' h=>hx ⟨l',o',h⟩];exact h1,h2⟩
  imm b j h:=k.imm b j (e.imm b j h)
  immNew b j h:=by
    rcases k.immNew b j h with h | h | ⟨l,o,h,ho⟩
    · exact e.immNew b j h
    · exact .inr (.inl (Nat.le_trans e.size h))
    · rcases e.own l b o h with h1 | ⟨l',o',h1,h2⟩
      · exact .inr (.inl h1)
      · exact .inr (.inr ⟨l',o',h1,by omega⟩)
  own l b o h:=by
    rcases k.own l b o h with h1 | ⟨l',o',h1,h2⟩
    · exact .inl (Nat.le_trans e.size h1)
    · rcases e.own l' b o' h1 with h3 | ⟨l2,o2,h3,h4⟩
      · exact .inl h3
      · exact .inr ⟨l2,o2,h3,by omega⟩
  N:=k.N.trans e.N
  len:=Nat.le_trans e.len k.len
  ob l hl:=(e.ob l hl).trans (k.ob l (Nat.lt_of_lt_of_le hl e.len))
def pow10Z:List Int:=(List.range 20).map fun k=>(10:Int) ^ k
def pow10N : String := "internal/strconv.uint64pow10"
def powTabOk (P:Program) (w:World):Prop:=∀g,P.globalNamed pow10N=some g→g<P.low∧w.var? P pow10N=some (pow10Z.map fun z=>Value.int .u64 z).toArray
structure Wok (P:Program) (w:World):Prop where
  shaped:w.ShapedOpen P
  low:P.low≤w.heap.size
  tab:powTabOk P w
theorem Ext.wok {P:Program} {w:World} {M:Mem} {s:Store} {w':World} {M':Mem} {s':Store} (g:Good w M s) (e:Ext w M s w' M' s') (h:Wok P w) (hN:P.low≤M.N):Wok P w':=by
  have shape:∀(b:Nat) (x:TypeId × Nat),w.shape? b=some x→w'.shape? b=some x:=by
    intro b x hx
    have hb:b<w.heap.size:=by
      rcases Nat.lt_or_ge b w.heap.size with hb | hb
      · exact hb
      · simp[World.shape?,Array.getElem?_eq_none hb] at hx
    by_cases ho:∃l o,M.B l=some (b,o)
    · obtain⟨l,o,hl⟩:=ho
      cases hc:w.heap[b]? with
      | none=>simp[World.shape?,hc] at hx
      | some ob =>
        cases ob with
        | cells c E f =>
          obtain⟨c',f',h1,h2⟩:=e.blk l b o c E f hl hc
          simp only[World.shape?,hc] at hx
          simp only[World.shape?,h1,h2]
          exact hx
        | _=>simp[World.shape?,hc] at hx
    · have:=e.keep b hb fun l o hl=>ho ⟨l,o,hl⟩
      simpa [World.shape?,this] using hx
  have same:∀i,i<P.low→w'.heap[i]?=w.heap[i]?:=fun i hi=>e.keep i (Nat.lt_of_lt_of_le hi h.low) fun l o hl=>by
    have:=g.nof l i o hl
    omega
  refine⟨⟨fun g' zero t hg hz=>?_,fun k hk1 hk2=>?_⟩,Nat.le_trans h.low e.size,fun g' hg=>?_⟩
  rotate_left 2
  · obtain⟨h1,h2⟩:=h.tab g' hg
    refine⟨h1,?_⟩
    rw[← h2]
    simp only[World.var?,hg,Option.bind_some,same g' h1]
  · obtain⟨cs,h1,h2,h3⟩:=h.shaped.1 g' zero t hg hz
    have hlow:g'<P.low:=by
      unfold Program.low
      rcases Nat.lt_or_ge g' (begin P (fun _ _=>0) default).world.heap.size with h' | h'
      · exact h'
      · simp[Array.getElem?_eq_none h'] at hz
    exact⟨cs,(same g' hlow).trans h1,h2,fun hb=>Row.ok_of_shape shape (h3 hb)⟩
  · obtain⟨o,o₀,h1,h2,h3⟩:=h.shaped.2 k hk1 hk2
    exact⟨o,o₀,(same k hk2).trans h1,h2,h3⟩
theorem obOk.keep {w:World} {M:Mem} {s:Store} {w':World} {M':Mem} {s':Store} (g:Good w M s) (e:Ext w M s w' M' s') {l:Nat} {x:Ob} (h:obOk w M s l x)
    (hB:M'.B l=M.B l) (hh:∀b o,M.B l=some (b,o)→w'.heap[b]?=w.heap[b]?):obOk w' M' s' l x:=by
  cases x with
  | dead=>simp only[obOk] at h ⊢;rw[hB];exact h
  | res=>simp only[obOk] at h ⊢;rw[hB];exact h
  | cells ver esz xs =>
    rcases h with ⟨h1,h2⟩ | ⟨b,o,c,E,f,h1,h2,h3,h4,h5,h6⟩
    · exact .inl ⟨h1,by rw[hB];exact h2⟩
    exact .inr ⟨b,o,c,E,f,by rw[hB];exact h1,by rw[hh b o h1];exact h2,h3,h4,h5,fun i j hi hj=>e.arep g (h6 i j hi hj)⟩
  | tip n =>
    intro b o hb
    rw[hB] at hb
    obtain⟨c,E,f,h2,h3,h4⟩:=h b o hb
    exact⟨c,E,f,by rw[hh b o hb];exact h2,h3,h4⟩
  | map ms =>
    obtain⟨b,es,cl,h1,h2,h3,h4⟩:=h
    exact⟨b,es,cl,by rw[hB];exact h1,by rw[hh b 0 h1];exact h2,h3,fun k hk=>⟨e.drep g (h4 k hk).1,e.drep g (h4 k hk).2⟩⟩
structure Still (w w':World):Prop where
  os:w'.os=w.os
  tape:w'.tape=w.tape
  output:w'.output=w.output
theorem Still.refl (w:World):Still w w:=⟨rfl,rfl,rfl⟩
theorem Still.trans {a b c:World} (h:Still a b) (k:Still b c):Still a c:=⟨k.os.trans h.os,k.tape.trans h.tape,k.output.trans h.output⟩
theorem Ext.same {w:World} {M:Mem} {s:Store} {w':World} (hs:Still w w') (hh:w'.heap=w.heap):Ext w M s w' M s where
  os:=hs.os
  tape:=hs.tape
  output:=hs.output
  size:=by rw[hh];exact Nat.le_refl _
  keep b _ _:=by rw[hh]
  low l b o j _ _:=cell?_of_heap (by rw[hh])
  blk l b o c E f _ h:=⟨c,f,by rw[hh];exact h,rfl⟩
  imm _ _ h:=h
  immNew _ _ h:=.inl h
  own l b o h:=.inr ⟨l,o,h,Nat.le_refl _⟩
  N:=rfl
  len:=Nat.le_refl _
  ob l _:=obStep.refl M l _
theorem Good.same {w:World} {M:Mem} {s:Store} {w':World} (g:Good w M s) (hs:Still w w') (hh:w'.heap=w.heap):Good w' M s where
  imm b j h:=by rw[cell?_of_heap (w:=w) (by rw[hh])];exact g.imm b j h
  off:=g.off
  sep:=g.sep
  nle:=by rw[hh];exact g.nle
  nof:=g.nof
  obj l:=(g.obj l).keep g (Ext.same hs hh) rfl (fun _ _ _=>by rw[hh])
def Mem.push (M:Mem) (N l k:Nat):Mem where
  I:=fun b j=>M.I b j∨(b=N∧j<k)
  B:=fun x=>if x=l then some (N,k) else M.B x
  N:=M.N
theorem heap_push_old {w w':World} {o:Obj} (hh:w'.heap=w.heap.push o) {b:Nat} (hb:b<w.heap.size):w'.heap[b]?=w.heap[b]?:=by
  rw[hh,Array.getElem?_push,if_neg (by omega)]
theorem heap_push_new {w w':World} {o:Obj} (hh:w'.heap=w.heap.push o):w'.heap[w.heap.size]?=some o:=by
  rw[hh,Array.getElem?_push,if_pos rfl]
theorem Ext.push {w:World} {M:Mem} {s:Store} {w':World} {l k:Nat} {o:Obj} {x:Ob} (g:Good w M s) (hs:Still w w') (hh:w'.heap=w.heap.push o) (hl:l<s.length)
    (hob:obStep M (M.push w.heap.size l k) l (s.getD l .dead) x):Ext w M s w' (M.push w.heap.size l k) (s.set l x) where
  os:=hs.os
  tape:=hs.tape
  output:=hs.output
  size:=by rw[hh];simp
  keep b hb _:=heap_push_old hh hb
  low l b o j h _:=cell?_of_heap (heap_push_old hh (g.lt h))
  blk l b o c E f h hc:=⟨c,f,by rw[heap_push_old hh (g.lt h)];exact hc,rfl⟩
  imm _ _ h:=.inl h
  immNew b j h:=by
    rcases h with h | ⟨rfl,_⟩
    · exact .inl h
    · exact .inr (.inl (Nat.le_refl _))
  own l' b o h:=by
    simp only[Mem.push] at h
    split at h
    · simp at h;exact .inl (by omega)
    · exact .inr ⟨l',o,h,Nat.le_refl _⟩
  N:=rfl
  len:=by simp
  ob l' hl':=by
    by_cases h:l'=l
    · subst h
      rw[show (s.set l' x).getD l' .dead=x by simp[hl']]
      exact hob
    · rw[show (s.set l x).getD l' .dead=s.getD l' .dead by simp[List.getElem?_set,Ne.symm h]]
      have:(M.push w.heap.size l k).B l'=M.B l':=by simp[Mem.push,h]
      cases s.getD l' .dead <;> simp[obStep,this]
theorem Good.push {w:World} {M:Mem} {s:Store} {w':World} {l k:Nat} {o:Obj} {x:Ob} (g:Good w M s) (hs:Still w w') (hh:w'.heap=w.heap.push o) (hl:l<s.length)
    (hob:obStep M (M.push w.heap.size l k) l (s.getD l .dead) x) (hk:∀j,j<k→(w'.cell? ⟨w.heap.size,j,none⟩).isSome=true)
    (hx:obOk w' (M.push w.heap.size l k) (s.set l x) l x):Good w' (M.push w.heap.size l k) (s.set l x) where
  imm b j h:=by
    rcases h with h | ⟨rfl,h⟩
    · have h1:=g.imm b j h
      have hb:b<w.heap.size:=by
        rcases Nat.lt_or_ge b w.heap.size with hb | hb
        · exact hb
        · simp[World.cell?,Array.getElem?_eq_none hb] at h1
      rw[cell?_of_heap (heap_push_old hh hb)]
      exact h1
    · exact hk j h
  off b j l' o' h hB:=by
    simp only[Mem.push] at h hB
    split at hB
    · simp at hB
      obtain⟨rfl,rfl⟩:=hB
      rcases h with h | ⟨_,h⟩
      · have h1:=g.imm _ j h
        simp[World.cell?] at h1
      · exact h
    · rcases h with h | ⟨rfl,h⟩
      · exact g.off b j l' o' h hB
      · exact absurd (g.lt hB) (Nat.lt_irrefl _)
  sep l1 l2 b o1 o2 h1 h2:=by
    simp only[Mem.push] at h1 h2
    split at h1 <;> split at h2
    · omega
    · simp at h1;have:=g.lt h2;omega
    · simp at h2;have:=g.lt h1;omega
    · exact g.sep _ _ _ _ _ h1 h2
  nle:=by
    have:=g.nle
    rw[hh]
    simp only[Array.size_push,Mem.push]
    omega
  nof l' b' o' h:=by
    simp only[Mem.push] at h ⊢
    split at h
    · simp at h
      have:=g.nle
      omega
    · exact g.nof _ _ _ h
  obj l':=by
    by_cases h:l'=l
    · subst h
      rw[show (s.set l' x).getD l' .dead=x by simp[hl]]
      exact hx
    · rw[show (s.set l x).getD l' .dead=s.getD l' .dead by simp[List.getElem?_set,Ne.symm h]]
      exact (g.obj l').keep g (Ext.push g hs hh hl hob) (by simp[Mem.push,h]) (fun b o hb=>heap_push_old hh (g.lt hb))
def Mem.pushI (M:Mem) (N k:Nat):Mem where
  I:=fun b j=>M.I b j∨(b=N∧j<k)
  B:=M.B
  N:=M.N
theorem Ext.pushI {w:World} {M:Mem} {s:Store} {w':World} {k:Nat} {o:Obj} (g:Good w M s) (hs:Still w w') (hh:w'.heap=w.heap.push o):Ext w M s w' (M.pushI w.heap.size k) s where
  os:=hs.os
  tape:=hs.tape
  output:=hs.output
  size:=by rw[hh];simp
  keep b hb _:=heap_push_old hh hb
  low l b o j h _:=cell?_of_heap (heap_push_old hh (g.lt h))
  blk l b o c E f h hc:=⟨c,f,by rw[heap_push_old hh (g.lt h)];exact hc,rfl⟩
  imm _ _ h:=.inl h
  immNew b j h:=by
    rcases h with h | ⟨rfl,_⟩
    · exact .inl h
    · exact .inr (.inl (Nat.le_refl _))
  own l b o h:=.inr ⟨l,o,h,Nat.le_refl _⟩
  N:=rfl
  len:=Nat.le_refl _
  ob l _:=by cases s.getD l .dead <;> simp[obStep,Mem.pushI]
theorem Good.pushI {w:World} {M:Mem} {s:Store} {w':World} {k:Nat} {o:Obj} (g:Good w M s) (hs:Still w w') (hh:w'.heap=w.heap.push o)
    (hk:∀j,j<k→(w'.cell? ⟨w.heap.size,j,none⟩).isSome=true):Good w' (M.pushI w.heap.size k) s where
  imm b j h:=by
    rcases h with h | ⟨rfl,h⟩
    · have h1:=g.imm b j h
      have hb:b<w.heap.size:=by
        rcases Nat.lt_or_ge b w.heap.size with hb | hb
        · exact hb
        · simp[World.cell?,Array.getElem?_eq_none hb] at h1
      rw[cell?_of_heap (heap_push_old hh hb)]
      exact h1
    · exact hk j h
  off b j l' o' h hB:=by
    simp only[Mem.pushI] at h hB
    rcases h with h | ⟨rfl,h⟩
    · exact g.off b j l' o' h hB
    · exact absurd (g.lt hB) (Nat.lt_irrefl _)
  sep:=g.sep
  nle:=by
    have:=g.nle
    rw[hh]
    simp only[Array.size_push,Mem.pushI]
    omega
  nof:=g.nof
  obj l':=(g.obj l').keep g (Ext.pushI g hs hh) rfl (fun b o hb=>heap_push_old hh (g.lt hb))
def Mem.move (M:Mem) (l b o o':Nat):Mem where
  I:=fun x j=>M.I x j∨(x=b∧o≤j∧j<o')
  B:=fun x=>if x=l then some (b,o') else M.B x
  N:=M.N
structure Inplace (w w':World) (b o:Nat) (c c':Array Value) (E:TypeId) (f:Nat × Nat):Prop where
  still:Still w w'
  size:w'.heap.size=w.heap.size
  old:w.heap[b]?=some (.cells c E f)
  new:w'.heap[b]?=some (.cells c' E f)
  other:∀b',b'≠b→w'.heap[b']?=w.heap[b']?
  csize:c'.size=c.size
  low:∀j,j<o→c'[j]?=c[j]?
theorem Ext.inplace {w:World} {M:Mem} {s:Store} {w':World} {l b o o':Nat} {c c':Array Value} {E:TypeId} {f:Nat × Nat} {x:Ob} (g:Good w M s) (h:Inplace w w' b o c c' E f)
    (hB:M.B l=some (b,o)) (ho:o≤o') (hl:l<s.length) (hob:obStep M (M.move l b o o') l (s.getD l .dead) x):Ext w M s w' (M.move l b o o') (s.set l x) where
  os:=h.still.os
  tape:=h.still.tape
  output:=h.still.output
  size:=by rw[h.size];exact Nat.le_refl _
  keep b' _ hn:=h.other b' (fun e=>hn l o (e ▸ hB))
  low l' b' o2 j h1 hj:=by
    by_cases hb:b'=b
    · subst hb
      have:=g.sep l l' b' o o2 hB h1
      subst this
      rw[hB] at h1
      simp at h1
      subst h1
      simp only[World.cell?,h.new,h.old]
      simpa using h.low j hj
    · exact cell?_of_heap (h.other b' hb)
  blk l' b' o2 c2 E2 f2 h1 h2:=by
    by_cases hb:b'=b
    · subst hb
      rw[h.old] at h2
      simp at h2
      obtain⟨rfl,rfl,rfl⟩:=h2
      exact⟨c',f,h.new,h.csize⟩
    · exact⟨c2,f2,by rw[h.other b' hb];exact h2,rfl⟩
  imm _ _ h:=.inl h
  immNew b' j h1:=by
    rcases h1 with h1 | ⟨rfl,h1,_⟩
    · exact .inl h1
    · exact .inr (.inr ⟨l,o,hB,h1⟩)
  own l' b' o2 h1:=by
    simp only[Mem.move] at h1
    split at h1
    · simp at h1
      obtain⟨rfl,rfl⟩:=h1
      exact .inr ⟨l,o,hB,ho⟩
    · exact .inr ⟨l',o2,h1,Nat.le_refl _⟩
  N:=rfl
  len:=by simp
  ob l' hl':=by
    by_cases h':l'=l
    · subst h'
      rw[show (s.set l' x).getD l' .dead=x by simp[hl']]
      exact hob
    · rw[show (s.set l x).getD l' .dead=s.getD l' .dead by simp[List.getElem?_set,Ne.symm h']]
      have:(M.move l b o o').B l'=M.B l':=by simp[Mem.move,h']
      cases s.getD l' .dead <;> simp[obStep,this]
theorem Good.inplace {w:World} {M:Mem} {s:Store} {w':World} {l b o o':Nat} {c c':Array Value} {E:TypeId} {f:Nat × Nat} {x:Ob} (g:Good w M s) (h:Inplace w w' b o c c' E f)
    (hB:M.B l=some (b,o)) (ho:o≤o') (ho':o'≤c.size) (hl:l<s.length) (hob:obStep M (M.move l b o o') l (s.getD l .dead) x)
    (hx:obOk w' (M.move l b o o') (s.set l x) l x):Good w' (M.move l b o o') (s.set l x) where
  imm b' j h1:=by
    by_cases hb:b'=b
    · subst hb
      rcases h1 with h1 | ⟨_,h1,h2⟩
      · have h3:=g.imm b' j h1
        have h4:=g.off b' j l o h1 hB
        simp only[World.cell?,h.new,h.old] at h3 ⊢
        have h5:=h.low j h4
        simp[h5]
        simpa using h3
      · simp only[World.cell?,h.new]
        have:j<c'.size:=by rw[h.csize];omega
        simp[this]
    · rcases h1 with h1 | ⟨h1,_⟩
      · rw[cell?_of_heap (h.other b' hb)];exact g.imm b' j h1
      · exact absurd h1 hb
  off b' j l' o2 h1 h2:=by
    simp only[Mem.move] at h1 h2
    split at h2
    · simp at h2
      obtain⟨rfl,rfl⟩:=h2
      rcases h1 with h1 | ⟨_,_,h1⟩
      · exact Nat.lt_of_lt_of_le (g.off b j l o h1 hB) ho
      · exact h1
    · rcases h1 with h1 | ⟨rfl,h3,h4⟩
      · exact g.off b' j l' o2 h1 h2
      · exact absurd (g.sep l' l _ _ _ h2 hB) (by assumption)
  nle:=by
    rw[h.size]
    exact g.nle
  nof l' b' o2 h1:=by
    simp only[Mem.move] at h1 ⊢
    split at h1
    · simp at h1
      obtain⟨rfl,_⟩:=h1
      exact g.nof _ _ _ hB
    · exact g.nof _ _ _ h1
  sep l1 l2 b' o1 o2 h1 h2:=by
    simp only[Mem.move] at h1 h2
    split at h1 <;> split at h2
    · omega
    · simp at h1;obtain⟨rfl,_⟩:=h1;exact absurd (g.sep _ _ _ _ _ hB h2) (by omega)
    · simp at h2;obtain⟨rfl,_⟩:=h2;exact absurd (g.sep _ _ _ _ _ hB h1) (by omega)
    · exact g.sep _ _ _ _ _ h1 h2
  obj l':=by
    by_cases h':l'=l
    · subst h'
      rw[show (s.set l' x).getD l' .dead=x by simp[hl]]
      exact hx
    · rw[show (s.set l x).getD l' .dead=s.getD l' .dead by simp[List.getElem?_set,Ne.symm h']]
      refine (g.obj l').keep g (Ext.inplace g h hB ho hl hob) (by simp[Mem.move,h']) (fun b' o2 hb=>h.other b' ?_)
      rintro rfl
      exact h' (g.sep l' l _ _ _ hb hB)
theorem Ext.mapSet {w:World} {M:Mem} {s:Store} {w':World} {l b:Nat} {es es':Array MapEntry} {cl cl':Nat} {ms ms':List (D × D)} (g:Good w M s) (hs:Still w w')
    (hl:s[l]?=some (.map ms)) (hB:M.B l=some (b,0)) (hc:w.heap[b]?=some (.map es cl)) (hh:w'.heap=w.heap.setIfInBounds b (.map es' cl')):Ext w M s w' M (s.set l (.map ms')) where
  os:=hs.os
  tape:=hs.tape
  output:=hs.output
  size:=by rw[hh];simp
  keep b' _ hn:=by
    rw[hh,Array.getElem?_setIfInBounds_ne]
    rintro rfl
    exact hn l 0 hB
  low l' b' o2 j h1 hj:=by
    by_cases hb:b'=b
    · subst hb
      have:=g.sep l l' _ _ _ hB h1
      subst this
      rw[hB] at h1
      simp at h1
      omega
    · exact cell?_of_heap (by rw[hh,Array.getElem?_setIfInBounds_ne (Ne.symm hb)])
  blk l' b' o2 c2 E2 f2 h1 h2:=by
    by_cases hb:b'=b
    · subst hb
      rw[hc] at h2
      simp at h2
    · exact⟨c2,f2,by rw[hh,Array.getElem?_setIfInBounds_ne (Ne.symm hb)];exact h2,rfl⟩
  imm _ _ h:=h
  immNew _ _ h:=.inl h
  own l b o h:=.inr ⟨l,o,h,Nat.le_refl _⟩
  N:=rfl
  len:=by simp
  ob l' hl':=by
    by_cases h':l'=l
    · subst h'
      rw[show (s.set l' (.map ms')).getD l' .dead=.map ms' by simp[hl'],(getD_getElem? hl).1]
      simp[obStep]
    · rw[show (s.set l (.map ms')).getD l' .dead=s.getD l' .dead by simp[List.getElem?_set,Ne.symm h']]
      exact obStep.refl M l' _
theorem Good.mapSet {w:World} {M:Mem} {s:Store} {w':World} {l b:Nat} {es es':Array MapEntry} {cl cl':Nat} {ms ms':List (D × D)} (g:Good w M s) (hs:Still w w')
    (hl:s[l]?=some (.map ms)) (hB:M.B l=some (b,0)) (hc:w.heap[b]?=some (.map es cl)) (hh:w'.heap=w.heap.setIfInBounds b (.map es' cl')) (hm:mapRep w' M.I ms' es'):Good w' M (s.set l (.map ms')) where
  imm b' j h1:=by
    have hb:b'≠b:=by
      rintro rfl
      have:=g.imm b' j h1
      simp[World.cell?,hc] at this
    rw[cell?_of_heap (w:=w) (by rw[hh,Array.getElem?_setIfInBounds_ne (Ne.symm hb)])]
    exact g.imm b' j h1
  off:=g.off
  nle:=by
    rw[hh]
    simp only[Array.size_setIfInBounds]
    exact g.nle
  nof:=g.nof
  sep:=g.sep
  obj l':=by
    have hlt:=(getD_getElem? hl).2
    by_cases h':l'=l
    · subst h'
      rw[show (s.set l' (.map ms')).getD l' .dead=.map ms' by simp[hlt]]
      refine⟨b,es',cl',hB,?_,hm⟩
      rw[hh]
      simp[g.lt hB]
    · rw[show (s.set l (.map ms')).getD l' .dead=s.getD l' .dead by simp[List.getElem?_set,Ne.symm h']]
      refine (g.obj l').keep g (Ext.mapSet g hs hl hB hc hh) rfl (fun b' o2 hb=>?_)
      rw[hh,Array.getElem?_setIfInBounds_ne]
      rintro rfl
      exact h' (g.sep l' l _ _ _ hb hB)
theorem Good.pushMap {w:World} {M:Mem} {s:Store} {w':World} {l:Nat} (g:Good w M s) (hs:Still w w') (hh:w'.heap=w.heap.push (.map #[] 0)) (hl:s[l]?=some .res) :
    Good w' (M.push w.heap.size l 0) (s.set l (.map []))∧Ext w M s w' (M.push w.heap.size l 0) (s.set l (.map [])):=by
  obtain⟨h1,h2⟩:=getD_getElem? hl
  have hob:obStep M (M.push w.heap.size l 0) l (s.getD l .dead) (.map []):=by rw[h1];trivial
  exact⟨Good.push g hs hh h2 hob (fun j hj=>absurd hj (by omega)) ⟨w.heap.size,#[],0,by simp[Mem.push],heap_push_new hh,rfl,fun k hk=>absurd hk (by simp)⟩,Ext.push g hs hh h2 hob⟩
inductive V where
  | v (i:Nat)
  | l (i:Nat)
  | c (x:D)
  | f (g:FuncId)
  deriving Inhabited
inductive X where
  | mv (x:V)
  | grow (esz:Nat)
  | pick (c a b:V)
  | bin (op:BinOp) (x y:V)
  | beq (neg:Bool) (x y:V)
  | seq (neg:Bool) (ks:List Nat) (x y:V)
  | un (op:UnOp) (x:V)
  | conv (k:IntKind) (x:V)
  | s2b (x:V)
  | b2s (x:V)
  | i2s (x:V)
  | len (k:Nat) (x:V)
  | mm (isMax:Bool) (x y:V)
  | append (esz eb:Nat) (s x:V)
  | sbuild (esz:Nat) (ps:List V)
  | sbuildo (esz:Nat) (ps:List V)
  | build (zero:List D) (ps:List (Nat × Nat × V))
  | box (esz:Nat) (x:V)
  | alloc (esz:Nat) (zero:D)
  | balloc (t tb:TypeId)
  | bappend (t:TypeId) (b x:V)
  | isnil (k:Nat) (neg:Bool) (x:V)
  | mkcap (esz eb:Nat) (zero:D) (n:V)
  | boom
  | mkslice (esz eb:Nat) (zero:D) (n:V)
  | mkd (esz eb:Nat) (zero:D) (n:V)
  | mkmap
  | load (agg:Bool) (size:Nat) (p:V)
  | store (size:Nat) (p x:V)
  | faddr (off:Nat) (p:V)
  | iaddr (esz:Nat) (x i:V)
  | index (x i:V)
  | field (agg:Bool) (off size:Nat) (x:V)
  | slice (str:Bool) (esz:Nat) (x:V) (lo hi mx:Option V)
  | lookup (ok:Bool) (kk:Nat) (zero:D) (m k:V)
  | mapup (kk:Nat) (m k x:V)
  | extract (x:V) (i:Nat)
  | mkfn (f:Fn) (first captured:List V)
  | mkif (t:TypeId) (x:V)
  | tassert (t:TypeId) (x:V)
  | nilck (x:V)
  | call (f:FuncId) (args:List V)
  | rcall (k:Nat) (f:FuncId) (args:List V)
  | callv (f:V) (args:List V)
  | callm (t:TypeId) (f:FuncId) (x:V) (args:List V)
  deriving Inhabited
structure Eff where
  pre:Prop
  fp:List (Nat × Ob)
  res:A
def Eff.fail:Eff:=⟨False,[],.any⟩
def Eff.val (x:D):Eff:=⟨True,[],.d x⟩
def Eff.valIf (p:Prop) (x:D):Eff:=⟨p,[],.d x⟩
def Store.setAll (s:Store):List (Nat × Ob)→Store
  | []=>s
  | (l,x)::r=>Store.setAll (s.set l x) r
mutual
def A.isD:A→Bool
  | .d _=>true
  | .gr _ _ _=>true
  | .agg cs=>A.allD cs
  | .tup cs=>A.allD cs
  | .fn _ a b=>A.allD a && A.allD b
  | .iface _ x=>A.isD x
  | _=>false
def A.allD:List A→Bool
  | []=>true
  | x::r=>A.isD x && A.allD r
end
mutual
def A.toD:A→D
  | .d x=>x
  | .gr _ e xs=>.sl e xs
  | .agg cs=>.agg (A.toDs cs)
  | .tup cs=>.tup (A.toDs cs)
  | .fn f a b=>.fn f (A.toDs a) (A.toDs b)
  | .iface t x=>.iface t (A.toD x)
  | _=>.nilp
def A.toDs:List A→List D
  | []=>[]
  | x::r=>A.toD x::A.toDs r
end
theorem A.toDs_eq (cs:List A):A.toDs cs=cs.map A.toD:=by
  induction cs with
  | nil=>rfl
  | cons x r ih=>simp[A.toDs,ih]
theorem A.allD_eq (cs:List A):A.allD cs=cs.all A.isD:=by
  induction cs with
  | nil=>rfl
  | cons x r ih=>simp[A.allD,ih]
def bor (s:Store):A→Prop × D
  | .own l ver off n=>match s.getD l .dead with
    | .cells ver' esz xs=>(ver=ver'∧((xs.drop off).take n).all A.isD=true,.sl esz (((xs.drop off).take n).map A.toD))
    | _=>(False,.nilp)
  | x=>(x.isD=true,x.toD)
def borFp (s:Store):A→List (Nat × Ob)
  | .own l _ _ _=>[(l,s.getD l .dead)]
  | _=>[]
def src (s:Store) (esz:Nat):A→Prop × List D
  | .d (.sl e ys)=>(e=esz,ys)
  | .d .nilsl=>(True,[])
  | .gr _ e ys=>(e=esz,ys)
  | .own l ver off n=>match s.getD l .dead with
    | .cells ver' e xs=>(ver=ver'∧e=esz∧((xs.drop off).take n).all A.isD=true,((xs.drop off).take n).map A.toD)
    | _=>(False,[])
  | .d (.str t)=>(esz=1,t.map fun c=>.int .u8 c.toNat)
  | _=>(False,[])
def iBin (op:BinOp) (k:IntKind) (a:Int) (k':IntKind) (b:Int):Eff :=
  match op with
  | .shl=>.valIf (0≤b) (.int k (k.wrap (a * 2 ^ (min b.toNat k.bits))))
  | .shr=>.valIf (0≤b) (.int k (a.fdiv (2 ^ (min b.toNat k.bits))))
  | .add=>.valIf (k=k') (.int k (k.wrap (a+b)))
  | .sub=>.valIf (k=k') (.int k (k.wrap (a-b)))
  | .mul=>.valIf (k=k') (.int k (k.wrap (a * b)))
  | .quo=>.valIf (k=k'∧b≠0) (.int k (k.wrap (a.tdiv b)))
  | .rem=>.valIf (k=k'∧b≠0) (.int k (a.tmod b))
  | .and=>.valIf (k=k') (.int k (k.wrap (BitVec.ofInt k.bits a &&& BitVec.ofInt k.bits b).toNat))
  | .or=>.valIf (k=k') (.int k (k.wrap (BitVec.ofInt k.bits a ||| BitVec.ofInt k.bits b).toNat))
  | .xor=>.valIf (k=k') (.int k (k.wrap (BitVec.ofInt k.bits a ^^^ BitVec.ofInt k.bits b).toNat))
  | .andNot=>.valIf (k=k') (.int k (k.wrap (BitVec.ofInt k.bits a &&& ~~~ BitVec.ofInt k.bits b).toNat))
  | .eql=>.valIf (k=k') (.bool (decide (a=b)))
  | .neq=>.valIf (k=k') (.bool (!decide (a=b)))
  | .lss=>.valIf (k=k') (.bool (decide (a<b)))
  | .leq=>.valIf (k=k') (.bool (decide (a≤b)))
  | .gtr=>.valIf (k=k') (.bool (decide (b<a)))
  | .geq=>.valIf (k=k') (.bool (decide (b≤a)))
def sBin (op:BinOp) (a b:List UInt8):Eff :=
  match op with
  | .add=>.valIf (a.length+b.length≤9223372036854775807) (.str (a++b))
  | .eql=>.val (.bool (decide (a=b)))
  | .neq=>.val (.bool (!decide (a=b)))
  | .lss=>.val (.bool (Op.bytesLess a b))
  | .leq=>.val (.bool (Op.bytesLess a b || decide (a=b)))
  | .gtr=>.val (.bool (!(Op.bytesLess a b || decide (a=b))))
  | .geq=>.val (.bool (!Op.bytesLess a b))
  | _=>.fail
def eBin (op:BinOp):A→A→Eff
  | .d (.int k a),.d (.int k' b)=>iBin op k a k' b
  | .d (.str a),.d (.str b)=>sBin op a b
  | _,_=>.fail
def eBeq (neg:Bool):A→A→Eff
  | .d (.bool a),.d (.bool b)=>.val (.bool (if neg then a != b else a == b))
  | _,_=>.fail
def cellEq:Nat→D→D→Prop × Bool
  | 0,.int k a,.int k' b=>(k=k',decide (a=b))
  | 1,.str a,.str b=>(True,decide (a=b))
  | 2,.bool a,.bool b=>(True,a == b)
  | _,_,_=>(False,false)
def cellsEq:List Nat→List D→List D→Prop × Bool
  | [],[],[]=>(True,true)
  | k::ks,x::xs,y::ys=>((cellEq k x y).1∧(cellsEq ks xs ys).1,(cellEq k x y).2 && (cellsEq ks xs ys).2)
  | _,_,_=>(False,false)
def eSeq (neg:Bool) (ks:List Nat) (x y:A):Eff :=
  match x.toD,y.toD with
  | .agg cs,.agg ds=>.valIf (x.isD=true∧y.isD=true∧(cellsEq ks cs ds).1) (.bool (if neg then !(cellsEq ks cs ds).2 else (cellsEq ks cs ds).2))
  | _,_=>.fail
def eUn (op:UnOp):A→Eff
  | .d (.bool b)=>match op with | .not=>.val (.bool (!b)) | _=>.fail
  | .d (.int k n)=>match op with
    | .neg=>.val (.int k (k.wrap (0-n)))
    | .xor=>.val (.int k (k.wrap (BitVec.ofInt k.bits (if k.signed then -1 else k.max) ^^^ BitVec.ofInt k.bits n).toNat))
    | _=>.fail
  | _=>.fail
def eConv (k:IntKind):A→Eff
  | .d (.int _ n)=>.val (.int k (k.wrap n))
  | _=>.fail
def eS2b:A→Eff
  | .d (.str bs)=>.val (.sl 1 (bs.map fun b=>.int .u8 b.toNat))
  | _=>.fail
def u8s (xs:List D):List UInt8:=xs.map fun | .int _ n=>UInt8.ofNat n.toNat | _=>0
def allU8 (xs:List D):Prop:=∀x,x∈xs→∃n,x=.int .u8 n
def A.notStr:A→Bool
  | .d (.str _)=>false
  | _=>true
def eB2s (s:Store) (x:A):Eff:=⟨x.notStr=true∧(src s 1 x).1∧allU8 (src s 1 x).2,borFp s x,.d (.str (u8s (src s 1 x).2))⟩
def eI2s:A→Eff
  | .d (.int _ n)=>.valIf (0≤n∧n<128) (.str [UInt8.ofNat n.toNat])
  | _=>.fail
def eLen (s:Store) (k:Nat):A→Eff
  | .d (.str bs)=>.valIf (k=0) (.int .i64 bs.length)
  | .d (.sl _ xs)=>.valIf (k=1) (.int .i64 xs.length)
  | .d .nilsl=>.valIf (k=1) (.int .i64 0)
  | .gr _ _ xs=>.valIf (k=1) (.int .i64 xs.length)
  | .own l ver _ n=>match s.getD l .dead with
    | .cells ver' e xs=>⟨k=1∧ver=ver',[(l,.cells ver' e xs)],.d (.int .i64 n)⟩
    | _=>.fail
  | .mp l=>match s.getD l .dead with
    | .map es=>⟨k=2,[(l,.map es)],.d (.int .i64 es.length)⟩
    | _=>.fail
  | _=>.fail
def eMm (isMax:Bool):A→A→Eff
  | .d (.int k a),.d (.int k' b)=>.valIf (k=k') (.int k (if isMax then max a b else min a b))
  | _,_=>.fail
def room (n eb:Nat):Prop:=n * eb≤140737488355328
def A.noOwn:A→Bool
  | .own _ _ _ _=>false
  | _=>true
def eAppend (s:Store) (nw esz eb:Nat) (b x:A):Eff :=
  match b with
  | .gr l e xs=>match s.getD l .dead with
    | .tip n=>⟨e=esz∧n=xs.length∧(src s esz x).1∧room (xs.length+(src s esz x).2.length) eb,(l,.tip (n+(src s esz x).2.length))::borFp s x,.gr l esz (xs++(src s esz x).2)⟩
    | _=>.fail
  | .d .nilsl=>⟨s[nw]?=some .res∧(src s esz x).1∧room (src s esz x).2.length eb,(nw,.tip (src s esz x).2.length)::borFp s x,.gr nw esz (src s esz x).2⟩
  | .own l ver off n=>match s.getD l .dead with
    | .cells ver' e xs=>match x with
      | .own l2 v2 o2 n2=>match s.getD l2 .dead with
        | .cells v2' e2 zs=>⟨ver=ver'∧e=esz∧off=0∧n=xs.length∧l2≠l∧v2=v2'∧e2=esz∧0<n2∧room (n+n2) eb,
            [(l,.cells (ver+1) e (xs++(zs.drop o2).take n2)),(l2,.cells v2' e2 zs)],.own l (ver+1) 0 (n+n2)⟩
        | _=>.fail
      | x=>⟨ver=ver'∧e=esz∧off=0∧n=xs.length∧x.noOwn=true∧(src s esz x).1∧room (n+(src s esz x).2.length) eb,
        [(l,.cells (ver+1) e (xs++(src s esz x).2.map .d))],.own l (ver+1) 0 (n+(src s esz x).2.length)⟩
    | _=>.fail
  | _=>.fail
def eSbuild (esz:Nat) (ps:List A):Eff :=
  .valIf (ps.all (fun p=>p.isD && p.toD.fits esz)=true) (.sl esz (ps.map A.toD))
def eSbuildo (s:Store) (nw esz:Nat) (ps:List A):Eff :=
  ⟨s[nw]?=some .res∧ps.all (fun p=>p.fits esz)=true,[(nw,.cells 0 esz ps)],.own nw 0 0 ps.length⟩
def splice (cs:List A) (off:Nat) (xs:List A):List A:=cs.take off++xs++cs.drop (off+xs.length)
def eBuild (cs:List A):List (Nat × Nat × A)→Eff
  | []=>⟨cs.all A.one=true,[],.agg cs⟩
  | (off,size,x)::r =>
    let e:=eBuild (splice cs off x.cells) r
    ⟨x.fits size=true∧off+size≤cs.length∧e.pre,[],e.res⟩
def eBox (s:Store) (nw esz:Nat) (x:A):Eff :=
  ⟨s[nw]?=some .res∧x.fits esz=true,[(nw,.cells 0 esz [x])],.ref nw 0 0 0⟩
def eBalloc (s:Store) (nw:Nat) (t tb:TypeId):Eff:=⟨s[nw]?=some .res∧s[nw+1]?=some .res,[(nw+1,.tip 0),(nw,.cells 0 2 [.agg [.tref nw 0 t,.bgr (nw+1) tb []]])],.ref nw 0 0 0⟩
def bsrc:A→Prop × List UInt8
  | .d (.str t)=>(True,t)
  | .d (.sl e [.int .u8 n])=>(e=1∧0≤n∧n<256,[UInt8.ofNat n.toNat])
  | _=>(False,[])
def eBappend (s:Store) (t:TypeId) (b x:A):Eff:=match b with
  | .bgr l t' bs=>match s.getD l .dead with
    | .tip n=>⟨t=t'∧n=bs.length∧(bsrc x).1∧room (bs.length+(bsrc x).2.length) 1,[(l,.tip (n+(bsrc x).2.length))],.bgr l t (bs++(bsrc x).2)⟩
    | _=>.fail
  | _=>.fail
def eMkslice (s:Store) (nw esz eb:Nat) (zero:D):A→Eff
  | .d (.int .i64 n)=>⟨s[nw]?=some .res∧zero.fits esz=true∧0≤n∧room n.toNat eb∧n≤9223372036854775807,[(nw,.cells 0 esz (List.replicate n.toNat (.d zero)))],.own nw 0 0 n.toNat⟩
  | _=>.fail
def eMkcap (s:Store) (nw esz eb:Nat) (zero:D):A→Eff
  | .d (.int .i64 n)=>⟨s[nw]?=some .res∧zero.fits esz=true∧0≤n∧room n.toNat eb∧n≤9223372036854775807,[(nw,.tip 0)],.gr nw esz []⟩
  | _=>.fail
def eIsnil (s:Store) (k:Nat) (neg:Bool):A→Eff
  | .d .nilsl=>.valIf (k=1) (.bool (!neg))
  | .d .nilp=>.valIf (k=2) (.bool (!neg))
  | .d .nilfn=>.valIf (k=3) (.bool (!neg))
  | .d (.sl _ xs)=>.valIf (k=1∧xs≠[]) (.bool neg)
  | .gr _ _ xs=>.valIf (k=1∧xs≠[]) (.bool neg)
  | .d (.fn _ _ _)=>.valIf (k=3) (.bool neg)
  | .fn _ _ _=>.valIf (k=3) (.bool neg)
  | .iptr _=>.valIf (k=2) (.bool neg)
  | .ref l ver _ _=>match s.getD l .dead with
    | .cells ver' e xs=>⟨k=2∧ver=ver',[(l,.cells ver' e xs)],.d (.bool neg)⟩
    | _=>.fail
  | .own l ver _ n=>match s.getD l .dead with
    | .cells ver' e xs=>⟨k=1∧ver=ver'∧0<n,[(l,.cells ver' e xs)],.d (.bool neg)⟩
    | _=>.fail
  | _=>.fail
def eMkd (esz eb:Nat) (zero:D):A→Eff
  | .d (.int .i64 n)=>.valIf (zero.fits esz=true∧0≤n∧room n.toNat eb∧n≤9223372036854775807) (.sl esz (List.replicate n.toNat zero))
  | _=>.fail
def eMkmap (s:Store) (nw:Nat):Eff:=⟨s[nw]?=some .res,[(nw,.map [])],.mp nw⟩
def eLoad (s:Store) (agg:Bool) (size:Nat):A→Eff
  | .ref l ver i j=>match s.getD l .dead with
    | .cells ver' esz xs=>⟨ver=ver'∧i<xs.length∧j+size≤esz∧(agg=true∨size=1),[(l,.cells ver' esz xs)],
        bif agg then .agg (((xs.getD i .any).cells.drop j).take size) else (xs.getD i .any).cells.getD j .any⟩
    | _=>.fail
  | .iptr cs=>.valIf (size≤cs.length∧(agg=true∨size=1)∧cs.all D.one=true) (bif agg then .agg (cs.take size) else cs.getD 0 default)
  | _=>.fail
def eStore (s:Store) (size:Nat) (p x:A):Eff :=
  match p with
  | .ref l ver i j=>match s.getD l .dead with
    | .cells ver' esz xs=>⟨ver=ver'∧i<xs.length∧j+size≤esz∧x.fits size=true,
        [(l,.cells ver' esz (xs.set i (if size=esz then x else .agg (splice (xs.getD i .any).cells j x.cells))))],.any⟩
    | _=>.fail
  | _=>.fail
def eFaddr (s:Store) (off:Nat):A→Eff
  | .ref l ver i j=>match s.getD l .dead with
    | .cells ver' esz xs=>⟨ver=ver',[(l,.cells ver' esz xs)],.ref l ver i (j+off)⟩
    | _=>.fail
  | .iptr cs=>⟨off≤cs.length,[],.iptr (cs.drop off)⟩
  | _=>.fail
def eIaddr (s:Store) (esz:Nat):A→A→Eff
  | .d (.sl e xs),.d (.int _ n)=>⟨e=esz∧0≤n∧n<xs.length,[],.iptr (xs.getD n.toNat default).cells⟩
  | .gr _ e xs,.d (.int _ n)=>⟨e=esz∧0≤n∧n<xs.length,[],.iptr (xs.getD n.toNat default).cells⟩
  | .own l ver off m,.d (.int _ n)=>match s.getD l .dead with
    | .cells ver' e xs=>⟨ver=ver'∧e=esz∧0≤n∧n<m,[(l,.cells ver' e xs)],.ref l ver (off+n.toNat) 0⟩
    | _=>.fail
  | _,_=>.fail
def eIndex:A→A→Eff
  | .d (.str bs),.d (.int _ n)=>.valIf (0≤n∧n<bs.length) (.int .u8 (bs.getD n.toNat 0).toNat)
  | _,_=>.fail
def eField (agg:Bool) (off size:Nat) (x:A):Eff :=
  match x with
  | .agg cs=>⟨off+size≤cs.length∧(agg=true∨size=1),[],bif agg then .agg ((cs.drop off).take size) else cs.getD off .any⟩
  | .d (.agg cs)=>.valIf (off+size≤cs.length∧(agg=true∨size=1)) (bif agg then .agg ((cs.drop off).take size) else cs.getD off default)
  | _=>.fail
def bnd (dflt:Int):Option A→Prop × Int
  | none=>(True,dflt)
  | some (.d (.int _ n))=>(True,n)
  | _=>(False,0)
def eSlice (s:Store) (nw:Nat) (str:Bool) (esz:Nat) (x:A) (lo hi mx:Option A):Eff :=
  match x with
  | .d (.str bs) =>
    let l:=bnd 0 lo;let h:=bnd bs.length hi
    .valIf (str=true∧mx=none∧l.1∧h.1∧0≤l.2∧l.2≤h.2∧h.2≤bs.length) (.str ((bs.drop l.2.toNat).take (h.2.toNat-l.2.toNat)))
  | .d .nilsl =>
    let l:=bnd 0 lo;let h:=bnd 0 hi
    .valIf (str=false∧mx=none∧l.1∧h.1∧l.2=0∧h.2=0) .nilsl
  | .d (.sl e xs)=>match mx with
    | none =>
      let l:=bnd 0 lo;let h:=bnd xs.length hi
      .valIf (str=false∧e=esz∧l.1∧h.1∧0≤l.2∧l.2≤h.2∧h.2≤xs.length) (.sl e ((xs.drop l.2.toNat).take (h.2.toNat-l.2.toNat)))
    | some m =>
      let h:=bnd 0 hi;let k:=bnd 0 (some m)
      ⟨str=false∧e=esz∧lo=none∧hi.isSome=true∧h.1∧k.1∧h.2=k.2∧0≤h.2∧h.2≤xs.length∧s[nw]?=some .res,[(nw,.tip h.2.toNat)],.gr nw e (xs.take h.2.toNat)⟩
  | .gr _ e xs=>match mx with
    | none =>
      let l:=bnd 0 lo;let h:=bnd xs.length hi
      .valIf (str=false∧e=esz∧l.1∧h.1∧0≤l.2∧l.2≤h.2∧h.2≤xs.length) (.sl e ((xs.drop l.2.toNat).take (h.2.toNat-l.2.toNat)))
    | some m =>
      let h:=bnd 0 hi;let k:=bnd 0 (some m)
      ⟨str=false∧e=esz∧lo=none∧hi.isSome=true∧h.1∧k.1∧h.2=k.2∧0≤h.2∧h.2≤xs.length∧s[nw]?=some .res,[(nw,.tip h.2.toNat)],.gr nw e (xs.take h.2.toNat)⟩
  | .own l0 ver off n=>match s.getD l0 .dead with
    | .cells ver' e xs =>
      let l:=bnd 0 lo;let h:=bnd n hi
      ⟨str=false∧mx=none∧ver=ver'∧e=esz∧l.1∧h.1∧0≤l.2∧l.2≤h.2∧h.2≤n,[(l0,.cells ver' e xs)],.own l0 ver (off+l.2.toNat) (h.2.toNat-l.2.toNat)⟩
    | _=>.fail
  | _=>.fail
def keyOk (kk:Nat):D→Bool
  | .int _ _=>kk == 0
  | .str _=>kk == 1
  | _=>false
def keyEq:D→D→Bool
  | .int _ a,.int _ b=>decide (a=b)
  | .str a,.str b=>decide (a=b)
  | _,_=>false
def mlook (k:D):List (D × D)→Option D
  | []=>none
  | (a,x)::r=>if keyEq k a then some x else mlook k r
def mset (k x:D):List (D × D)→List (D × D)
  | []=>[(k,x)]
  | (a,y)::r=>if keyEq k a then (k,x)::r else (a,y)::mset k x r
def keyKind:D→D→Prop
  | .int k _,.int k' _=>k=k'
  | _,_=>True
def keysOk (kk:Nat) (ki:D) (es:List (D × D)):Prop:=keyOk kk ki=true∧∀e,e∈es→keyOk kk e.1=true∧keyKind ki e.1
def eLookup (s:Store) (ok:Bool) (kk:Nat) (zero:D) (m k:A):Eff :=
  match m,k with
  | .mp l,.d kd=>match s.getD l .dead with
    | .map es=>⟨keysOk kk kd es,[(l,.map es)],.d (bif ok then .tup [(mlook kd es).getD zero,.bool (mlook kd es).isSome] else (mlook kd es).getD zero)⟩
    | _=>.fail
  | _,_=>.fail
def eMapup (s:Store) (kk:Nat) (m k x:A):Eff :=
  match m,k with
  | .mp l,.d kd=>match s.getD l .dead with
    | .map es=>⟨keysOk kk kd es∧x.isD=true,[(l,.map (mset kd x.toD es))],.any⟩
    | _=>.fail
  | _,_=>.fail
def eExtract (i:Nat):A→Eff
  | .tup vs=>⟨i<vs.length,[],vs.getD i .any⟩
  | .d (.tup vs)=>⟨i<vs.length,[],.d (vs.getD i default)⟩
  | _=>.fail
def eTassert (t:TypeId):A→Eff
  | .iface t' x=>⟨t=t',[],x⟩
  | .d (.iface t' x)=>⟨t=t',[],.d x⟩
  | _=>.fail
def eNilck (s:Store):A→Eff
  | .ref l ver i j=>match s.getD l .dead with
    | .cells ver' esz xs=>⟨ver=ver',[(l,.cells ver' esz xs)],.ref l ver i j⟩
    | _=>.fail
  | .iptr cs=>⟨True,[],.iptr cs⟩
  | .fn (.func f) a b=>⟨True,[],.fn (.func f) a b⟩
  | _=>.fail
mutual
def A.ren (q:Nat→Nat):A→A
  | .ref l v i j=>.ref (q l) v i j
  | .own l v o n=>.own (q l) v o n
  | .gr l e xs=>.gr (q l) e xs
  | .mp l=>.mp (q l)
  | .tref l v t=>.tref (q l) v t
  | .bgr l t bs=>.bgr (q l) t bs
  | .agg cs=>.agg (A.rens q cs)
  | .tup cs=>.tup (A.rens q cs)
  | .fn f a b=>.fn f (A.rens q a) (A.rens q b)
  | .iface t x=>.iface t (A.ren q x)
  | x=>x
def A.rens (q:Nat→Nat):List A→List A
  | []=>[]
  | x::r=>A.ren q x::A.rens q r
end
def Ob.ren (q:Nat→Nat):Ob→Ob
  | .cells v e xs=>.cells v e (xs.map (A.ren q))
  | x=>x
mutual
def A.under (n:Nat):A→Bool
  | .own l _ _ _ | .ref l _ _ _ | .gr l _ _ | .mp l | .tref l _ _ | .bgr l _ _=>decide (l<n)
  | .agg cs=>A.unders n cs
  | .tup cs=>A.unders n cs
  | .fn _ a b=>A.unders n a && A.unders n b
  | .iface _ x=>A.under n x
  | _=>true
def A.unders (n:Nat):List A→Bool
  | []=>true
  | x::r=>A.under n x && A.unders n r
end
def Ob.under (n:Nat):Ob→Bool
  | .cells _ _ xs=>xs.all (A.under n)
  | _=>true
structure RSpec where
  ren:List A→Store→Nat→List Nat
  spec:List A→Store→Prop × Store × A
structure Gam where
  fs:List (FuncId × (List D→Prop × D))
  rs:List (FuncId × RSpec)
def Gam.find (G:Gam) (f:FuncId):Option (List D→Prop × D):=(List.find? (fun p=>p.1 == f) G.fs).map (·.2)
def Gam.findR (G:Gam) (f:FuncId):Option RSpec:=(List.find? (fun p=>p.1 == f) G.rs).map (·.2)
def allOf:List (Prop × D)→Prop
  | []=>True
  | x::r=>x.1∧allOf r
mutual
def D.flat:D→Bool
  | .sl _ _=>false
  | .agg cs=>D.flats cs
  | .tup cs=>D.flats cs
  | .iface _ x=>D.flat x
  | .fn _ a b=>D.flats a && D.flats b
  | _=>true
def D.flats:List D→Bool
  | []=>true
  | x::r=>D.flat x && D.flats r
end
def eCall (G:Gam) (s:Store) (f:FuncId) (args:List A):Eff :=
  match G.find f with
  | some sp=>⟨allOf (args.map (bor s))∧(sp (args.map fun a=>(bor s a).2)).1∧(args.all A.noOwn || (sp (args.map fun a=>(bor s a).2)).2.flat)=true,args.flatMap (borFp s),.d (sp (args.map fun a=>(bor s a).2)).2⟩
  | none=>.fail
def ePick (a b:A):A→Eff
  | .d (.bool t)=>⟨True,[],bif t then a else b⟩
  | _=>.fail
def idxIn (R:List Nat) (l:Nat):Nat:=(R.idxOf? l).getD R.length
def eRCall (G:Gam) (s:Store) (nw:Nat) (f:FuncId) (args:List A):Eff :=
  match G.findR f with
  | some rs =>
    let R:=rs.ren args s nw
    let a0:=args.map (A.ren (idxIn R))
    let s0:Store:=R.map fun l=>(s.getD l .dead).ren (idxIn R)
    let q:=rs.spec a0 s0
    ⟨R.Nodup∧(∀l,l∈R→l<s.length)∧a0.all (A.under R.length)=true∧s0.all (Ob.under R.length)=true∧q.1∧q.2.1.length=R.length∧q.2.1.all (Ob.under R.length)=true∧q.2.2.under R.length=true,
      R.zip (q.2.1.map (Ob.ren fun k=>R.getD k 0)),q.2.2.ren fun k=>R.getD k 0⟩
  | none=>.fail
def Eff.look (s:Store) (e:Eff):Eff:=⟨e.pre∧∀p,p∈e.fp→p.2=s.getD p.1 .dead,e.fp.map fun p=>(p.1,s.getD p.1 .dead),e.res⟩
def eRc (k:Nat) (s:Store) (e:Eff):Eff:=if k<1000000 then e else e.look s
def eCallv (G:Gam) (s:Store) (nw:Nat) (args:List A):A→Eff
  | .fn (.func g) fi cap=>eRCall G s nw g (fi++(args++cap))
  | .d (.fn (.func g) fi cap)=>eRCall G s nw g (fi.map .d++(args++cap.map .d))
  | _=>.fail
def eCallm (G:Gam) (s:Store) (nw:Nat) (t:TypeId) (f:FuncId) (args:List A):A→Eff
  | .iface t' x=>if t'=t then eRCall G s nw f (x::args) else .fail
  | _=>.fail
def V.get (T L:List A):V→A
  | .v i=>T.getD i .any
  | .l i=>L.getD i .any
  | .c x=>.d x
  | .f g=>.fn (.func g) [] []
def X.eff (G:Gam) (s:Store) (nw:Nat) (r:V→A):X→Eff
  | .mv x=>⟨True,[],r x⟩
  | .grow e=>⟨s[nw]?=some .res,[(nw,.tip 0)],.gr nw e []⟩
  | .pick c a b=>ePick (r a) (r b) (r c)
  | .bin op x y=>eBin op (r x) (r y)
  | .beq n x y=>eBeq n (r x) (r y)
  | .seq n k x y=>eSeq n k (r x) (r y)
  | .un op x=>eUn op (r x)
  | .conv k x=>eConv k (r x)
  | .s2b x=>eS2b (r x)
  | .b2s x=>eB2s s (r x)
  | .i2s x=>eI2s (r x)
  | .len k x=>eLen s k (r x)
  | .mm b x y=>eMm b (r x) (r y)
  | .append e eb b x=>eAppend s nw e eb (r b) (r x)
  | .sbuild e ps=>eSbuild e (ps.map r)
  | .sbuildo e ps=>eSbuildo s nw e (ps.map r)
  | .build z ps=>eBuild (z.map .d) (ps.map fun p=>(p.1,p.2.1,r p.2.2))
  | .box e x=>eBox s nw e (r x)
  | .alloc e z=>eBox s nw e (.d z)
  | .balloc t tb=>eBalloc s nw t tb
  | .bappend t b x=>eBappend s t (r b) (r x)
  | .isnil k n x=>eIsnil s k n (r x)
  | .mkcap e eb z n=>eMkcap s nw e eb z (r n)
  | .boom=>.fail
  | .mkslice e eb z n=>eMkslice s nw e eb z (r n)
  | .mkd e eb z n=>eMkd e eb z (r n)
  | .mkmap=>eMkmap s nw
  | .load a n p=>eLoad s a n (r p)
  | .store n p x=>eStore s n (r p) (r x)
  | .faddr o p=>eFaddr s o (r p)
  | .iaddr e x i=>eIaddr s e (r x) (r i)
  | .index x i=>eIndex (r x) (r i)
  | .field a o n x=>eField a o n (r x)
  | .slice st e x lo hi mx=>eSlice s nw st e (r x) (lo.map r) (hi.map r) (mx.map r)
  | .lookup ok kk z m k=>eLookup s ok kk z (r m) (r k)
  | .mapup kk m k x=>eMapup s kk (r m) (r k) (r x)
  | .extract x i=>eExtract i (r x)
  | .mkfn f a b=>⟨True,[],.fn f (a.map r) (b.map r)⟩
  | .mkif t x=>⟨True,[],.iface t (r x)⟩
  | .tassert t x=>eTassert t (r x)
  | .nilck x=>eNilck s (r x)
  | .call f args=>eCall G s f (args.map r)
  | .rcall k f args=>eRc k s (eRCall G s nw f (args.map r))
  | .callv f args=>eCallv G s nw (args.map r) (r f)
  | .callm t f x args=>eCallm G s nw t f (args.map r) (r x)
def D.ofV1:Value→Option D
  | .bool b=>some (.bool b)
  | .int k n=>some (.int k n)
  | .string s=>some (.str s.data.toList)
  | .pointer none=>some .nilp
  | .slice none 0 0=>some .nilsl
  | .nilIface=>some .nilif
  | .nilFunc=>some .nilfn
  | .map none=>some .nilmp
  | _=>none
def ofVs:List Value→Option (List D)
  | []=>some []
  | v::r=>match D.ofV1 v,ofVs r with
    | some x,some xs=>some (x::xs)
    | _,_=>none
def D.ofV:Value→Option D
  | .agg vs=>(ofVs vs.toList).map .agg
  | .tuple vs=>(ofVs vs.toList).map .tup
  | v=>D.ofV1 v
def trAll (tr:Operand→Option V):List Operand→Option (List V)
  | []=>some []
  | x::r=>match tr x,trAll tr r with
    | some y,some ys=>some (y::ys)
    | _,_=>none
def trO (tr:Operand→Option V):Option Operand→Option (Option V)
  | none=>some none
  | some x=>(tr x).map some
def tinfo (P:Program) (t:TypeId):Option (Nat × Nat × D) :=
  match P.info? t with
  | some i=>match i.zero with
    | some z=>match D.ofV z with
      | some d=>some (i.size,i.bytes,d)
      | none=>none
    | none=>none
  | none=>none
def tsize (P:Program) (t:TypeId):Option Nat:=(P.info? t).map (·.size)
def tagg (P:Program) (t:TypeId):Option Bool :=
  match P.underlying t with
  | some (.struct _) | some (.array _ _)=>some true
  | some _=>some false
  | none=>none
def tslice (P:Program) (t:TypeId):Option TypeId :=
  match P.underlying t with
  | some (.slice e)=>some e
  | _=>none
def tsrc (P:Program) (t:TypeId):Option Unit :=
  match P.underlying t with
  | some (.slice _)=>some ()
  | some .string=>some ()
  | _=>none
def tfields (P:Program) (t:TypeId):Option (Array Field) :=
  match P.underlying t with
  | some (.struct fs)=>some fs
  | _=>none
def scalar (P:Program) (t:TypeId):Option Nat :=
  match P.underlying t with
  | some (.int _)=>some 0
  | some .string=>some 1
  | some .bool=>some 2
  | _=>none
def flat1 (P:Program):Nat→List Field→Option (List Nat)
  | _,[]=>some []
  | i, f :: r => if f.name ≠ "_" ∧ f.offset = i then
      match scalar P f.type,flat1 P (i+1) r with
      | some k,some ks=>some (k::ks)
      | _,_=>none
    else none
def nestStruct (P:Program) (t:TypeId):Option (List Nat):=match P.underlying t with
  | some (.struct gs)=>if P.stoodInHeld t=false then (match flat1 P 0 gs.toList with
      | some ks=>if tsize P t=some ks.length then some ks else none
      | none=>none) else none
  | _=>none
def flatStruct (P:Program):Nat→List Field→Option (List Nat)
  | _,[]=>some []
  | i, f :: r => if f.name ≠ "_" ∧ f.offset = i then
      match scalar P f.type with
      | some k=>(flatStruct P (i+1) r).map (k::·)
      | none=>match nestStruct P f.type with
        | some ks=>(flatStruct P (i+ks.length) r).map (ks++·)
        | none=>none
    else none
def dense:Nat→List (Nat × Operand)→Bool
  | _,[]=>true
  | k,(i,_)::r=>i == k && dense (k+1) r
def buildParts (P:Program) (tr:Operand→Option V) (fs:Array Field):List (Nat × Operand)→Option (List (Nat × Nat × V))
  | []=>some []
  | (i,x)::r=>match fs[i]?,tr x,buildParts P tr fs r with
    | some f,some y,some ys=>match tsize P f.type with
      | some n=>some ((f.offset,n,y)::ys)
      | none=>none
    | _,_,_=>none
def methB (P:Program) (t:TypeId) (name:String):Option FuncId :=
  match P.info? t,P.underlying t with
  | some i,some (.pointer _)=>match i.methods.find? (·.name == name) with
    | some m=>match m.func,m.path.toList with
      | some (f,true),[]=>some f
      | _,_=>none
    | none=>none
  | _,_=>none
def cX (P:Program) (tr:Operand→Option V) (rf:FuncId→Option Nat) (gro:Bool) (o:Oper):Option X :=
  match o.op with
  | .move x=>match gro,x with
    | true,.const (.slice none 0 0)=>match tslice P o.type with
      | some e=>(tsize P e).map .grow
      | none=>none
    | _,_=>(tr x).map .mv
  | .assign x=>match gro,x with
    | true,.const (.slice none 0 0)=>match tslice P o.type with
      | some e=>(tsize P e).map .grow
      | none=>none
    | _,_=>(tr x).map .mv
  | .pick c a b=>match tr c,tr a,tr b with
    | some c,some a,some b=>some (.pick c a b)
    | _,_,_=>none
  | .binOp op t x yo _=>match tr x,tr yo with
    | some x,some y=>match P.underlying t with
      | some .bool=>match op with
        | .eql=>some (.beq false x y)
        | .neq=>some (.beq true x y)
        | _=>none
      | some (.struct fs)=>if P.stoodInHeld t=false∧P.eqGuardType P.depth t=false then
          match flatStruct P 0 fs.toList,op with
          | some ks,.eql=>some (.seq false ks x y)
          | some ks,.neq=>some (.seq true ks x y)
          | _,_=>none
        else none
      | some (.int _)=>some (.bin op x y)
      | some .string=>some (.bin op x y)
      | some (.slice _)=>match op,yo with
        | .eql,.const (.slice none 0 0)=>some (.isnil 1 false x)
        | .neq,.const (.slice none 0 0)=>some (.isnil 1 true x)
        | _,_=>none
      | some (.pointer _)=>match op,yo with
        | .eql,.const (.pointer none)=>some (.isnil 2 false x)
        | .neq,.const (.pointer none)=>some (.isnil 2 true x)
        | _,_=>none
      | some (.func _ _ _)=>match op,yo with
        | .eql,.const .nilFunc=>some (.isnil 3 false x)
        | .neq,.const .nilFunc=>some (.isnil 3 true x)
        | _,_=>none
      | _=>none
    | _,_=>none
  | .unOp op _ x=>(tr x).map (.un op)
  | .convert a b x=>match tr x with
    | some x=>match P.underlying a,P.underlying b with
      | some (.int _),some (.int k)=>some (.conv k x)
      | some (.int _),some .string=>some (.i2s x)
      | some (.slice e),some .string=>match P.underlying e with
        | some (.int .u8)=>some (.b2s x)
        | _=>none
      | _,_=>none
    | none=>none
  | .call c=>match c.callee with
    | .builtin .len=>match c.args.toList,c.argTypes.toList with
      | [x],[t]=>match tr x,P.underlying t with
        | some x,some .string=>some (.len 0 x)
        | some x,some (.slice _)=>some (.len 1 x)
        | some x,some (.map _ _)=>some (.len 2 x)
        | _,_=>none
      | _,_=>none
    | .builtin .min=>match c.args.toList with
      | [x,y]=>match tr x,tr y with
        | some x,some y=>some (.mm false x y)
        | _,_=>none
      | _=>none
    | .builtin .max=>match c.args.toList with
      | [x,y]=>match tr x,tr y with
        | some x,some y=>some (.mm true x y)
        | _,_=>none
      | _=>none
    | .builtin .append=>match c.args.toList,c.argTypes.toList with
      | [b,x],[t,u]=>match tr b,tr x,tslice P t,tsrc P u with
        | some b,some x,some e,some _=>match tinfo P e with
          | some (esz,eb+1,z)=>if z.cells.length=esz then (bif rf 7000001 == some e then (if esz=1∧eb=0 then some (.bappend e b x) else none) else some (.append esz (eb+1) b x)) else none
          | _=>none
        | _,_,_,_=>none
      | _,_=>none
    | .builtin .panic=>some .boom
    | .builtin _=>none
    | .invoke g name=>match rf 5000000 with
      | some t=>match methB P t name,tr g,trAll tr c.args.toList with
        | some f,some x,some args=>some (.callm t f x args)
        | _,_,_=>none
      | none=>none
    | .value (.func f)=>(trAll tr c.args.toList).map (match rf f with | some k=>.rcall k f | none=>.call f)
    | .value g=>match tr g,trAll tr c.args.toList with
      | some g,some args=>some (.callv g args)
      | _,_=>none
  | .buildSlice t n ps=>match tslice P t with
    | some e=>match tsize P e,trAll tr (ps.toList.map (·.2)) with
      | some esz,some ys=>if dense 0 ps.toList && ps.size == n && decide (n * esz≤16777216) && (P.info? e).any (·.zero.isSome) then some (match ys with | []=>bif (rf 4000000).isSome then .sbuildo esz [] else .grow esz | _=>bif gro then .sbuildo esz ys else .sbuild esz ys) else none
      | _,_=>none
    | none=>none
  | .build t ps=>match tfields P t,tinfo P t with
    | some fs,some (_,_,.agg z)=>if (fs.toList.all fun f=>(tsize P f.type).isSome) then (buildParts P tr fs ps.toList).map (.build z) else none
    | _,_=>none
  | .box t x=>match tsize P t,tr x with
    | some n,some x=>some (.box n x)
    | _,_=>none
  | .alloc t=>match tinfo P t with
    | some (n,_,z)=>bif rf 7000000 == some t then (match n,z with
      | 2,.agg [.nilp,.nilsl]=>(rf 7000001).map (.balloc t)
      | _,_=>none) else some (.alloc n z)
    | none=>none
  | .makeSlice t n c=>match tslice P t,tr n,tr c with
    | some e,some n',some c'=>match tinfo P e with
      | some (esz,eb,z)=>match n,c with
        | .tmp i,.tmp j=>if i=j then some (if gro=true then .mkd esz eb z n' else .mkslice esz eb z n') else none
        | .const (.int .i64 i),.const (.int .i64 j)=>if i=j then some (if gro=true then .mkd esz eb z n' else .mkslice esz eb z n') else none
        | .const (.int .i64 0),.tmp _=>some (.mkcap esz eb z c')
        | _,_=>none
      | none=>none
    | _,_,_=>none
  | .makeMap t none=>match P.underlying t with
    | some (.map _ _)=>some .mkmap
    | _=>none
  | .load t p=>match tagg P t,tsize P t,tr p with
    | some a,some n,some p=>some (.load a n p)
    | _,_,_=>none
  | .store t p x=>match tsize P t,tr p,tr x with
    | some n,some p,some x=>some (.store n p x)
    | _,_,_=>none
  | .fieldAddr t p i=>match tfields P t,tr p with
    | some fs,some p=>match fs[i]? with
      | some f=>match tsize P f.type with
        | some (_+1)=>some (.faddr f.offset p)
        | _=>none
      | none=>none
    | _,_=>none
  | .indexAddr t x i=>match tslice P t,tr x,tr i with
    | some e,some x,some i=>match tsize P e with
      | some n=>some (.iaddr n x i)
      | none=>none
    | _,_,_=>none
  | .index t x i=>match P.underlying t,tr x,tr i with
    | some .string,some x,some i=>some (.index x i)
    | _,_,_=>none
  | .field t x i=>match tfields P t,tr x with
    | some fs,some x=>match fs[i]? with
      | some f=>match tagg P f.type,tsize P f.type with
        | some a,some n=>some (.field a f.offset n x)
        | _,_=>none
      | none=>none
    | _,_=>none
  | .slice t x lo hi mx=>match tr x,trO tr lo,trO tr hi,trO tr mx with
    | some x,some lo,some hi,some mx=>match P.underlying t with
      | some .string=>some (.slice true 0 x lo hi mx)
      | some (.slice e)=>match tsize P e with
        | some n=>some (.slice false n x lo hi mx)
        | none=>none
      | _=>none
    | _,_,_,_=>none
  | .lookup t m k ok=>match P.underlying t,tr m,tr k with
    | some (.map kt et),some m,some k=>match P.underlying kt,tinfo P et with
      | some (.int _),some (_,_,z)=>some (.lookup ok 0 z m k)
      | some .string,some (_,_,z)=>some (.lookup ok 1 z m k)
      | _,_=>none
    | _,_,_=>none
  | .mapUpdate t m k x=>match P.underlying t,tr m,tr k,tr x with
    | some (.map kt _),some m,some k,some x=>match P.underlying kt with
      | some (.int _)=>some (.mapup 0 m k x)
      | some .string=>some (.mapup 1 m k x)
      | _=>none
    | _,_,_,_=>none
  | .extract x i=>match tr x with
    | some x=>some (.extract x i)
    | none=>none
  | .makeFunc f a b=>match trAll tr a.toList,trAll tr b.toList with
    | some a,some b=>some (.mkfn f a b)
    | _,_=>none
  | .makeInterface t x=>match tr x,P.underlying t with
    | some _,some (.interface _)=>none
    | some x,some _=>some (.mkif t x)
    | _,_=>none
  | .typeAssert x _ t ok=>match tr x,P.underlying t with
    | some _,some (.interface _)=>none
    | some x,some _=>if ok then none else some (.tassert t x)
    | _,_=>none
  | .nilCheck x=>(tr x).map .nilck
  | .panic _=>some .boom
  | _=>none
def Runs (P:Program) (m:Sem Next) (w:World) (R:Value→World→Prop):Prop :=
  match m.run P w with
  | .ok (.value v) w'=>R v w'
  | .ok .skip w'=>R undef w'
  | .ok (.enter f args) w'=>Calls P f args w' (fun e w''=>∃v,e=.returned v∧R v w'')
  | _=>False
theorem wp_of_runs {P:Program} {o:Oper} {a:Act} {w:World} {R:Value→World→Prop} {next:Act→World→Prop} {Q:Exit→Act→World→Prop}
    (h:Runs P (execOp a.eval o) w R) (hn:∀v w',R v w'→next (a.put o.dst v) w'):o.wp P a w next Q:=by
  unfold Runs at h
  unfold Oper.wp
  split at h
  · rename_i v w' hr;rw[hr];exact hn _ _ h
  · rename_i w' hr;rw[hr];exact hn _ _ h
  · rename_i f args w' hr
    rw[hr]
    refine Calls.mono h ?_
    rintro e w'' ⟨v,rfl,hv⟩
    exact hn _ _ hv
  · exact h.elim
theorem Runs.value {P:Program} {m:Sem Next} {w w':World} {v:Value} {R:Value→World→Prop} (h:m.run P w=.ok (.value v) w') (hr:R v w'):Runs P m w R:=by
  unfold Runs;rw[h];exact hr
theorem Runs.skip {P:Program} {m:Sem Next} {w w':World} {R:Value→World→Prop} (h:m.run P w=.ok .skip w') (hr:R undef w'):Runs P m w R:=by
  unfold Runs;rw[h];exact hr
def After (w:World) (M:Mem) (s:Store) (e:Eff) (v:Value) (w':World):Prop :=
  ∃M',Good w' M' (s.setAll e.fp)∧Ext w M s w' M' (s.setAll e.fp)∧ARep w' M' (s.setAll e.fp) e.res v
theorem eRc_pre {k:Nat} {s:Store} {e:Eff} (h:(eRc k s e).pre):e.pre:=by
  unfold eRc at h
  split at h
  · exact h
  · exact h.1
theorem eRc_after {k:Nat} {w:World} {M:Mem} {s:Store} {e:Eff} (h:(eRc k s e).pre):After w M s (eRc k s e)=After w M s e:=by
  unfold eRc at h ⊢
  split at h
  · rename_i hk
    rw[if_pos hk]
  · rename_i hk
    rw[if_neg hk]
    have hf:(e.look s).fp=e.fp:=by
      show e.fp.map _=e.fp
      conv=>rhs;rw[← List.map_id e.fp]
      exact List.map_congr_left fun p hp=>by rw[← h.2 p hp];rfl
    have hr:(e.look s).res=e.res:=rfl
    unfold After
    rw[hf,hr]
theorem After.here {w:World} {M:Mem} {s:Store} {e:Eff} {v:Value} (g:Good w M s) (hf:e.fp=[]) (h:ARep w M s e.res v):After w M s e v w:=by
  refine⟨M,?_,?_,?_⟩ <;> rw[hf]
  · exact g
  · exact Ext.refl w M s
  · exact h
theorem set_same {s:Store} {l:Nat} {x:Ob} (h:s.getD l .dead=x) (hx:x≠.dead):s.set l x=s:=by
  by_cases hl:l<s.length
  · apply List.ext_getElem?
    intro i
    rw[List.getElem?_set]
    split
    · rename_i h1;subst h1;rw[← h];simp[hl]
    · rfl
  · simp[Nat.le_of_not_lt hl] at h
    exact absurd h.symm hx
theorem After.look {w:World} {M:Mem} {s:Store} {e:Eff} {v:Value} {l:Nat} {x:Ob} (g:Good w M s) (hl:s.getD l .dead=x) (hx:x≠.dead) (hf:e.fp=[(l,x)])
    (h:ARep w M s e.res v):After w M s e v w:=by
  refine⟨M,?_,?_,?_⟩ <;> rw[hf,Store.setAll,Store.setAll,set_same hl hx]
  · exact g
  · exact Ext.refl w M s
  · exact h
theorem getD_ne {s:Store} {l:Nat} {x:Ob} (h:s.getD l .dead=x) (hx:x≠.dead):s[l]?=some x∧l<s.length:=by
  by_cases hl:l<s.length
  · refine⟨?_,hl⟩
    rw[← h];simp[hl]
  · simp[Nat.le_of_not_lt hl] at h
    exact absurd h.symm hx
theorem ofV1_rep {w:World} {I:Nat→Nat→Prop} {v:Value} {x:D} (h:D.ofV1 v=some x):DRep w I x v:=by
  unfold D.ofV1 at h
  split at h <;> simp at h <;> subst h <;> constructor
theorem ofVs_rep {w:World} {I:Nat→Nat→Prop}:∀{vs:List Value} {xs:List D},ofVs vs=some xs→vs.length=xs.length∧(∀k,k<xs.length→DRep w I (xs.getD k default) (vs.getD k undef))∧xs.all D.one=true:=by
  intro vs
  induction vs with
  | nil=>intro xs h;simp[ofVs] at h;subst h;simp
  | cons v r ih =>
    intro xs h
    unfold ofVs at h
    split at h
    · rename_i x ys h1 h2
      simp at h
      subst h
      obtain⟨i1,i2,i3⟩:=ih h2
      refine⟨by simp[i1],?_,?_⟩
      · intro k hk
        cases k with
        | zero=>simpa using ofV1_rep h1
        | succ k=>simpa using i2 k (by simpa using hk)
      · simp only[List.all_cons,i3,Bool.and_true]
        unfold D.ofV1 at h1
        split at h1 <;> first | (simp at h1;subst h1;rfl) | (simp at h1;done)
    · simp at h
theorem ofV_rep {w:World} {I:Nat→Nat→Prop} {v:Value} {x:D} (h:D.ofV v=some x):DRep w I x v:=by
  unfold D.ofV at h
  split at h
  · rename_i vs
    simp only[Option.map_eq_some_iff] at h
    obtain⟨xs,h1,rfl⟩:=h
    obtain⟨i1,i2,i3⟩:=ofVs_rep (w:=w) (I:=I) h1
    exact .agg xs vs (by simpa using i1) i3 (fun k hk=>by simpa using i2 k hk)
  · rename_i vs
    simp only[Option.map_eq_some_iff] at h
    obtain⟨xs,h1,rfl⟩:=h
    obtain⟨i1,i2,i3⟩:=ofVs_rep (w:=w) (I:=I) h1
    exact .tup xs vs (by simpa using i1) (fun k hk=>by simpa using i2 k hk)
  · exact ofV1_rep h
theorem beq_dec {α:Type} [BEq α] [LawfulBEq α] [DecidableEq α] (a b:α):(a == b)=decide (a=b):=by
  rw[Bool.eq_iff_iff];simp
section ops
variable {P:Program} {w:World} {M:Mem} {s:Store}
theorem inv_int {k:IntKind} {n:Int} {v:Value} (h:ARep w M s (.d (.int k n)) v):v=.int k n:=by
  cases h with | d x v h=>cases h;rfl
theorem inv_bool {b:Bool} {v:Value} (h:ARep w M s (.d (.bool b)) v):v=.bool b:=by
  cases h with | d x v h=>cases h;rfl
theorem inv_str {b:List UInt8} {v:Value} (h:ARep w M s (.d (.str b)) v):v=.string ⟨b.toArray⟩:=by
  cases h with | d x v h=>cases h;rfl
theorem inv_d {x:D} {v:Value} (h:ARep w M s (.d x) v):DRep w M.I x v:=by
  cases h with | d x v h=>exact h
theorem iBin_sound (op:BinOp) (t:TypeId) (k k':IntKind) (a b:Int) (h:(iBin op k a k' b).pre) :
    ∃v,(binOp op t (.int k a) (.int k' b)).run P w=.ok v w∧ARep w M s (iBin op k a k' b).res v∧(iBin op k a k' b).fp=[]:=by
  have mk:∀(k:IntKind) (n:Int),ARep w M s (.d (.int k n)) (.int k n):=fun k n=>.d _ _ (.int k n)
  have mb:∀(b:Bool),ARep w M s (.d (.bool b)) (.bool b):=fun b=>.d _ _ (.bool b)
  cases op <;> simp only[iBin,Eff.valIf] at h ⊢ <;> simp only[binOp]
  case add=>subst h;exact⟨_,by simp[Op.intArith],mk _ _,trivial⟩
  case sub=>subst h;exact⟨_,by simp[Op.intArith],mk _ _,trivial⟩
  case mul=>subst h;exact⟨_,by simp[Op.intArith],mk _ _,trivial⟩
  case quo=>obtain⟨rfl,h⟩:=h;exact⟨_,by simp[Op.intDiv,h],mk _ _,trivial⟩
  case rem=>obtain⟨rfl,h⟩:=h;exact⟨_,by simp[Op.intDiv,h],mk _ _,trivial⟩
  case and=>subst h;exact⟨_,by simp[Op.intBits],mk _ _,trivial⟩
  case or=>subst h;exact⟨_,by simp[Op.intBits],mk _ _,trivial⟩
  case xor=>subst h;exact⟨_,by simp[Op.intBits],mk _ _,trivial⟩
  case andNot=>subst h;exact⟨_,by simp[Op.intBits],mk _ _,trivial⟩
  case shl=>exact⟨_,by simp[Op.shift,Int.not_lt.2 h],mk _ _,trivial⟩
  case shr=>exact⟨_,by simp[Op.shift,Int.not_lt.2 h],mk _ _,trivial⟩
  case eql=>subst h;exact⟨.bool (decide (a=b)),by simp[Op.intCmp,beq_dec],mb _,trivial⟩
  case neq=>subst h;exact⟨.bool (!decide (a=b)),by simp[Op.intCmp,bne,beq_dec],mb _,trivial⟩
  case lss=>subst h;exact⟨_,by simp[Op.intCmp],mb _,trivial⟩
  case leq=>subst h;exact⟨_,by simp[Op.intCmp],mb _,trivial⟩
  case gtr=>subst h;exact⟨_,by simp[Op.intCmp],mb _,trivial⟩
  case geq=>subst h;exact⟨_,by simp[Op.intCmp],mb _,trivial⟩
theorem sBin_sound (op:BinOp) (t:TypeId) (a b:List UInt8) (h:(sBin op a b).pre) :
    ∃v,(binOp op t (.string ⟨a.toArray⟩) (.string ⟨b.toArray⟩)).run P w=.ok v w∧ARep w M s (sBin op a b).res v∧(sBin op a b).fp=[]:=by
  have mb:∀(b:Bool),ARep w M s (.d (.bool b)) (.bool b):=fun b=>.d _ _ (.bool b)
  cases op <;> simp only[sBin,Eff.valIf,Eff.val,Eff.fail] at h ⊢
  case add =>
    refine⟨.string ⟨(a++b).toArray⟩,?_,.d _ _ (.str _),trivial⟩
    have h1:(a.length:Int)+(b.length:Int)≤9223372036854775807:=by omega
    have h2:(⟨a.toArray⟩++⟨b.toArray⟩:ByteArray)=⟨(a++b).toArray⟩:=by
      apply ByteArray.ext
      simp
    simp[binOp,Op.stringOp,ByteArray.size,h1,h2]
  case eql=>exact⟨.bool (decide (a=b)),by simp[binOp,Op.stringOp,beq_dec],mb _,trivial⟩
  case neq=>exact⟨.bool (!decide (a=b)),by simp[binOp,Op.stringOp,beq_dec],mb _,trivial⟩
  case lss=>exact⟨_,by simp[binOp,Op.stringOp],mb _,trivial⟩
  case leq=>exact⟨.bool (Op.bytesLess a b || decide (a=b)),by simp[binOp,Op.stringOp,beq_dec],mb _,trivial⟩
  case gtr=>exact⟨.bool (!(Op.bytesLess a b || decide (a=b))),by simp[binOp,Op.stringOp,beq_dec],mb _,trivial⟩
  case geq=>exact⟨_,by simp[binOp,Op.stringOp],mb _,trivial⟩
theorem eqGuard_int (op:BinOp) (t:TypeId) (x y:Operand) (k:IntKind) (n:Int) (b:Value):(eqGuard op t x y (.int k n) b).run P w=.ok () w:=by
  cases op <;> rfl
theorem eqGuard_str (op:BinOp) (t:TypeId) (x y:Operand) (n:ByteArray) (b:Value):(eqGuard op t x y (.string n) b).run P w=.ok () w:=by
  cases op <;> rfl
theorem eqGuard_bool (op:BinOp) (t:TypeId) (x y:Operand) (n:Bool) (b:Value):(eqGuard op t x y (.bool n) b).run P w=.ok () w:=by
  cases op <;> rfl
theorem eBin_sound (op:BinOp) (t:TypeId) (ox oy:Operand) {x y:A} {vx vy:Value} (hx:ARep w M s x vx) (hy:ARep w M s y vy) (h:(eBin op x y).pre) :
    ∃v,(do eqGuard op t ox oy vx vy;binOp op t vx vy:Sem Value).run P w=.ok v w∧ARep w M s (eBin op x y).res v∧(eBin op x y).fp=[]:=by
  unfold eBin at h ⊢
  split at h
  · rw[inv_int hx,inv_int hy]
    obtain⟨v,h1,h2,h3⟩:=iBin_sound (P:=P) (w:=w) (M:=M) (s:=s) op t _ _ _ _ h
    exact⟨v,by simp only[Sem.run_bind,eqGuard_int,Result.andThen_ok,h1],h2,h3⟩
  · rw[inv_str hx,inv_str hy]
    obtain⟨v,h1,h2,h3⟩:=sBin_sound (P:=P) (w:=w) (M:=M) (s:=s) op t _ _ h
    exact⟨v,by simp only[Sem.run_bind,eqGuard_str,Result.andThen_ok,h1],h2,h3⟩
  · exact h.elim
theorem eBeq_sound (neg:Bool) (t:TypeId) (ht:P.underlying t=some .bool) (ox oy:Operand) {x y:A} {vx vy:Value} (hx:ARep w M s x vx) (hy:ARep w M s y vy) (h:(eBeq neg x y).pre) :
    ∃v,(do eqGuard (if neg then .neq else .eql) t ox oy vx vy;binOp (if neg then .neq else .eql) t vx vy:Sem Value).run P w=.ok v w∧ARep w M s (eBeq neg x y).res v∧(eBeq neg x y).fp=[]:=by
  unfold eBeq at h ⊢
  split at h
  · rw[inv_bool hx,inv_bool hy]
    refine⟨_,?_,.d _ _ (.bool _),rfl⟩
    rename_i a b
    have he:(Op.equal t (.bool a) (.bool b)).run P w=.ok (a == b) w:=run_equalIn_bool' w 9999 t a b ht
    simp only[Sem.run_bind,eqGuard_bool,Result.andThen_ok]
    cases neg <;> simp[binOp,he,bne]
  · exact h.elim
theorem eUn_sound (op:UnOp) {x:A} {vx:Value} (hx:ARep w M s x vx) (h:(eUn op x).pre) :
    ∃v,(Op.unary op vx).run P w=.ok v w∧ARep w M s (eUn op x).res v∧(eUn op x).fp=[]:=by
  unfold eUn at h ⊢
  split at h
  · rw[inv_bool hx]
    split at h
    · exact⟨_,by simp[Op.unary],.d _ _ (.bool _),rfl⟩
    · exact h.elim
  · rw[inv_int hx]
    split at h
    · exact⟨_,by simp[Op.unary,Op.intArith],.d _ _ (.int _ _),rfl⟩
    · exact⟨_,by simp[Op.unary,Op.intBits],.d _ _ (.int _ _),rfl⟩
    · exact h.elim
  · exact h.elim
theorem eConv_sound (k:IntKind) {a b:TypeId} {j:IntKind} (ha:P.underlying a=some (.int j)) (hb:P.underlying b=some (.int k)) {x:A} {vx:Value} (hx:ARep w M s x vx) (h:(eConv k x).pre) :
    ∃v,(convert a b vx).run P w=.ok v w∧ARep w M s (eConv k x).res v∧(eConv k x).fp=[]:=by
  unfold eConv at h ⊢
  split at h
  · rw[inv_int hx]
    exact⟨_,by simp[convert,run_underlying ha,run_underlying hb,Conv.intToInt],.d _ _ (.int _ _),rfl⟩
  · exact h.elim
theorem eI2s_sound {a b:TypeId} {j:IntKind} (ha:P.underlying a=some (.int j)) (hb:P.underlying b=some .string) {x:A} {vx:Value} (hx:ARep w M s x vx) (h:(eI2s x).pre) :
    ∃v,(convert a b vx).run P w=.ok v w∧ARep w M s (eI2s x).res v∧(eI2s x).fp=[]:=by
  unfold eI2s at h ⊢
  split at h
  · rw[inv_int hx]
    rename_i k n
    simp only[Eff.valIf] at h
    refine⟨.string ⟨[UInt8.ofNat n.toNat].toArray⟩,?_,.d _ _ (.str _),rfl⟩
    have:Utf8.encode n=⟨[UInt8.ofNat n.toNat].toArray⟩:=by
      obtain⟨m,rfl⟩:=Int.eq_ofNat_of_zero_le h.1
      have hm:m<128:=by omega
      have hv:Utf8.valid (m:Int)=true:=by simp[Utf8.valid];omega
      simp[Utf8.encode,hv,hm]
    simp[convert,run_underlying ha,run_underlying hb,Conv.intToString,this]
  · exact h.elim
theorem eMm_sound (isMax:Bool) (ats:Array TypeId) (t:TypeId) {x y:A} {vx vy:Value} (hx:ARep w M s x vx) (hy:ARep w M s y vy) (h:(eMm isMax x y).pre) :
    ∃v,(if isMax then Builtin.max_ ats t #[vx,vy] else Builtin.min_ ats t #[vx,vy]:Sem Value).run P w=.ok v w∧ARep w M s (eMm isMax x y).res v∧(eMm isMax x y).fp=[]:=by
  unfold eMm at h ⊢
  split at h
  · rw[inv_int hx,inv_int hy]
    rename_i k a k' b
    simp only[Eff.valIf] at h
    subst h
    refine⟨_,?_,.d _ _ (.int _ _),rfl⟩
    cases isMax
    · simp[Builtin.min_,Builtin.min2,Int.min_def]
      split <;> split <;> omega
    · simp[Builtin.max_,Builtin.max2,Int.max_def]
      split <;> split <;> omega
  · exact h.elim
theorem eIndex_sound {t:TypeId} (ht:P.underlying t=some .string) {x i:A} {vx vi:Value} (hx:ARep w M s x vx) (hi:ARep w M s i vi) (h:(eIndex x i).pre) :
    ∃v,(Instr.index t vx vi).run P w=.ok v w∧ARep w M s (eIndex x i).res v∧(eIndex x i).fp=[]:=by
  unfold eIndex at h ⊢
  split at h
  · rw[inv_str hx,inv_int hi]
    rename_i bs k n
    simp only[Eff.valIf] at h
    obtain⟨h0,h1⟩:=h
    refine⟨_,?_,.d _ _ (.int _ _),rfl⟩
    obtain⟨m,rfl⟩:=Int.eq_ofNat_of_zero_le h0
    have hm:m<bs.length:=by omega
    have:(⟨bs.toArray⟩:ByteArray)[m]?=some bs[m]:=by
      rw[getElem?_pos (⟨bs.toArray⟩:ByteArray) m (by simpa [ByteArray.size] using hm)]
      rfl
    simp[Instr.index,asIntOf,run_underlying ht,this,hm]
  · exact h.elim
theorem run_part {t:TypeId} {d:TypeDesc} (ht:P.underlying t=some d) (h1:∀fs,d≠.struct fs) (h2:∀n e,d≠.array n e) (cs:Array Value) (i:Nat) (hi:i<cs.size) :
    (part t cs i).run P w=.ok (cs.getD i undef) w:=by
  have:(isAgg t).run P w=.ok false w:=by
    unfold isAgg
    simp only[Sem.run_bind,run_underlying ht,Result.andThen_ok]
    cases d <;> simp_all
  simp[part,this,hi]
theorem cellEq_sound {ft:TypeId} {k:Nat} (hs:scalar P ft=some k) (d:Nat) {x y:D} {vx vy:Value} (hx:DRep w M.I x vx) (hy:DRep w M.I y vy) (h:(cellEq k x y).1) :
    (Op.equalIn (d+1) ft vx vy).run P w=.ok (cellEq k x y).2 w:=by
  unfold scalar at hs
  unfold cellEq at h ⊢
  split at h
  · cases hx;cases hy
    subst h
    split at hs <;> simp at hs
    rename_i k' hu
    rw[run_equalIn_int w d ft _ k' _ _ hu]
    simp[beq_dec]
  · cases hx;cases hy
    split at hs <;> simp at hs
    rename_i hu
    rw[run_equalIn_string w d ft _ _ hu]
    simp[beq_dec]
  · cases hx;cases hy
    split at hs <;> simp at hs
    rename_i hu
    rw[run_equalIn_bool' w d ft _ _ hu]
  · exact h.elim
theorem scalar_part {ft:TypeId} {k:Nat} (hs:scalar P ft=some k) (cs:Array Value) (i:Nat) (hi:i<cs.size):(part ft cs i).run P w=.ok (cs.getD i undef) w:=by
  unfold scalar at hs
  split at hs <;> simp at hs
  all_goals
    rename_i hu
    exact run_part hu (by simp) (by simp) cs i hi
theorem cellsEq_sound1 (d:Nat):∀(fs:List Field) (i:Nat) (ks:List Nat) (cs ds:List D) (xs ys:Array Value),flat1 P i fs=some ks→(cellsEq ks cs ds).1 →
    (i+cs.length≤xs.size)→(i+ds.length≤ys.size) →
    (∀k,k<cs.length→DRep w M.I (cs.getD k default) (xs.getD (i+k) undef))→(∀k,k<ds.length→DRep w M.I (ds.getD k default) (ys.getD (i+k) undef)) →
    (Op.eqFields (d+1) xs ys fs).run P w=.ok (cellsEq ks cs ds).2 w:=by
  intro fs
  induction fs with
  | nil =>
    intro i ks cs ds xs ys hf hp hx hy h1 h2
    simp[flat1] at hf
    subst hf
    unfold cellsEq at hp
    split at hp
    · simp[Op.eqFields,cellsEq]
    · simp_all
    · exact hp.elim
  | cons f r ih =>
    intro i ks cs ds xs ys hf hp hx hy h1 h2
    unfold flat1 at hf
    split at hf
    · rename_i hn
      obtain⟨hn,ho⟩:=hn
      split at hf
      · rename_i k ks' hk hks
        simp at hf
        subst hf
        unfold cellsEq at hp
        split at hp
        · simp_all
        · rename_i k' ks2 x xs' y ys' e1
          simp at e1
          obtain⟨rfl,rfl⟩:=e1
          obtain⟨hp1,hp2⟩:=hp
          have a1:=scalar_part (w:=w) hk xs f.offset (by rw[ho];simp at hx;omega)
          have a2:=scalar_part (w:=w) hk ys f.offset (by rw[ho];simp at hy;omega)
          have a3:(Op.equalIn (d+1) f.type (xs.getD i undef) (ys.getD i undef)).run P w=.ok (cellEq k x y).2 w :=
            cellEq_sound (P:=P) (w:=w) (M:=M) hk d (by have:=h1 0 (by simp);rwa [Nat.add_zero] at this) (by have:=h2 0 (by simp);rwa [Nat.add_zero] at this) hp1
          have a4:=ih (i+1) ks' xs' ys' xs ys hks hp2 (by simp at hx;omega) (by simp at hy;omega)
            (fun k hk=>by have:=h1 (k+1) (by simpa using hk);simpa [Nat.add_assoc,Nat.add_comm 1 k] using this)
            (fun k hk=>by have:=h2 (k+1) (by simpa using hk);simpa [Nat.add_assoc,Nat.add_comm 1 k] using this)
          rw[ho] at a1 a2
          simp only[Op.eqFields,hn,ne_eq,not_false_eq_true,if_true,Sem.run_bind,ho,a1,a2,Result.andThen_ok,a3,cellsEq]
          cases (cellEq k x y).2
          · rfl
          · simpa using a4
        · exact hp.elim
      · simp at hf
    · simp at hf
theorem cellsEq_app:∀(a b:List Nat) (xs ys:List D),(cellsEq (a++b) xs ys).1→∃x1 x2 y1 y2,xs=x1++x2∧ys=y1++y2∧x1.length=a.length∧y1.length=a.length∧(cellsEq a x1 y1).1∧(cellsEq b x2 y2).1∧(cellsEq (a++b) xs ys).2=((cellsEq a x1 y1).2 && (cellsEq b x2 y2).2)
  | [],b,xs,ys,h=>⟨[],xs,[],ys,rfl,rfl,rfl,rfl,trivial,h,by simp[cellsEq]⟩
  | k::a,b,[],ys,h=>by simp[cellsEq] at h
  | k::a,b,x::xs,[],h=>by simp[cellsEq] at h
  | k::a,b,x::xs,y::ys,h=>by
    simp only[List.cons_append,cellsEq] at h
    obtain⟨x1,x2,y1,y2,rfl,rfl,h1,h2,h3,h4,h5⟩:=cellsEq_app a b xs ys h.2
    refine⟨x::x1,x2,y::y1,y2,rfl,rfl,by simp[h1],by simp[h2],⟨h.1,h3⟩,h4,?_⟩
    simp only[List.cons_append,cellsEq,h5,Bool.and_assoc]
theorem nest_part {t:TypeId} {ks:List Nat} (h:nestStruct P t=some ks) (cs:Array Value) (i:Nat):(part t cs i).run P w=.ok (.agg (cs.extract i (i+ks.length))) w:=by
  unfold nestStruct at h
  split at h
  · rename_i gs hu
    split at h
    · split at h
      · rename_i ks' hf
        split at h
        · rename_i hs
          simp at h
          subst h
          have ha:(isAgg t).run P w=.ok true w:=by
            unfold isAgg
            simp[run_underlying hu]
          have hz:(sizeOf t).run P w=.ok ks'.length w:=by
            unfold tsize at hs
            rw[Option.map_eq_some_iff] at hs
            obtain⟨ti,h1,h2⟩:=hs
            simp[sizeOf,typeInfo,h1,h2]
          simp[part,ha,hz]
        · cases h
      · cases h
    · cases h
  · cases h
theorem extract_getD5 (cs:Array Value) (i n k:Nat) (h:k<n) (hi:i+n≤cs.size):(cs.extract i (i+n)).getD k undef=cs.getD (i+k) undef:=by
  have h1:k<(cs.extract i (i+n)).size:=by simp;omega
  have h2:i+k<cs.size:=by omega
  simp only[Array.getD,h1,h2,dite_true]
  simp
theorem nest_eq (d:Nat) {t:TypeId} {ks:List Nat} (h:nestStruct P t=some ks) {cs ds:List D} {xs ys:Array Value} (hp:(cellsEq ks cs ds).1) (hx:cs.length≤xs.size) (hy:ds.length≤ys.size)
    (h1:∀k,k<cs.length→DRep w M.I (cs.getD k default) (xs.getD k undef)) (h2:∀k,k<ds.length→DRep w M.I (ds.getD k default) (ys.getD k undef)) :
    (Op.equalIn (d+2) t (.agg xs) (.agg ys)).run P w=.ok (cellsEq ks cs ds).2 w:=by
  unfold nestStruct at h
  split at h
  · rename_i gs hu
    split at h
    · rename_i hst
      split at h
      · rename_i ks' hf
        split at h
        · simp at h
          subst h
          have hF:P.fieldsOf t=gs:=by simp[Program.fieldsOf,hu]
          have:=run_equalIn_struct (P:=P) w (d+1) t xs ys (by rw[hF];exact hu) hst
          rw[this,hF]
          exact cellsEq_sound1 (P:=P) (w:=w) (M:=M) d gs.toList 0 ks' cs ds xs ys hf hp (by omega) (by omega) (by simpa using h1) (by simpa using h2)
        · cases h
      · cases h
    · cases h
  · cases h
theorem cellsEq_sound (d:Nat):∀(fs:List Field) (i:Nat) (ks:List Nat) (cs ds:List D) (xs ys:Array Value),flatStruct P i fs=some ks→(cellsEq ks cs ds).1 →
    (i+cs.length≤xs.size)→(i+ds.length≤ys.size) →
    (∀k,k<cs.length→DRep w M.I (cs.getD k default) (xs.getD (i+k) undef))→(∀k,k<ds.length→DRep w M.I (ds.getD k default) (ys.getD (i+k) undef)) →
    (Op.eqFields (d+2) xs ys fs).run P w=.ok (cellsEq ks cs ds).2 w:=by
  intro fs
  induction fs with
  | nil =>
    intro i ks cs ds xs ys hf hp hx hy h1 h2
    simp[flatStruct] at hf
    subst hf
    unfold cellsEq at hp
    split at hp
    · simp[Op.eqFields,cellsEq]
    · simp_all
    · exact hp.elim
  | cons f r ih =>
    intro i ks cs ds xs ys hf hp hx hy h1 h2
    unfold flatStruct at hf
    split at hf
    · rename_i hn
      obtain⟨hn,ho⟩:=hn
      split at hf
      · rename_i k hk
        rw[Option.map_eq_some_iff] at hf
        obtain⟨ks',hks,rfl⟩:=hf
        unfold cellsEq at hp
        split at hp
        · simp_all
        · rename_i k' ks2 x xs' y ys' e1
          simp at e1
          obtain⟨rfl,rfl⟩:=e1
          obtain⟨hp1,hp2⟩:=hp
          have a1:=scalar_part (w:=w) hk xs f.offset (by rw[ho];simp at hx;omega)
          have a2:=scalar_part (w:=w) hk ys f.offset (by rw[ho];simp at hy;omega)
          have a3:(Op.equalIn (d+2) f.type (xs.getD i undef) (ys.getD i undef)).run P w=.ok (cellEq k x y).2 w :=
            cellEq_sound (P:=P) (w:=w) (M:=M) hk (d+1) (by have:=h1 0 (by simp);rwa [Nat.add_zero] at this) (by have:=h2 0 (by simp);rwa [Nat.add_zero] at this) hp1
          have a4:=ih (i+1) ks' xs' ys' xs ys hks hp2 (by simp at hx;omega) (by simp at hy;omega)
            (fun k hk=>by have:=h1 (k+1) (by simpa using hk);simpa [Nat.add_assoc,Nat.add_comm 1 k] using this)
            (fun k hk=>by have:=h2 (k+1) (by simpa using hk);simpa [Nat.add_assoc,Nat.add_comm 1 k] using this)
          rw[ho] at a1 a2
          simp only[Op.eqFields,hn,ne_eq,not_false_eq_true,if_true,Sem.run_bind,ho,a1,a2,Result.andThen_ok,a3,cellsEq]
          cases (cellEq k x y).2
          · rfl
          · simpa using a4
        · exact hp.elim
      · split at hf
        · rename_i ks1 hk
          rw[Option.map_eq_some_iff] at hf
          obtain⟨ks',hks,rfl⟩:=hf
          obtain⟨x1,x2,y1,y2,rfl,rfl,l1,l2,hp1,hp2,he⟩:=cellsEq_app ks1 ks' cs ds hp
          simp only[List.length_append] at hx hy h1 h2
          have a1:=nest_part (w:=w) hk xs f.offset
          have a2:=nest_part (w:=w) hk ys f.offset
          rw[ho] at a1 a2
          have a3:(Op.equalIn (d+2) f.type (.agg (xs.extract i (i+ks1.length))) (.agg (ys.extract i (i+ks1.length)))).run P w=.ok (cellsEq ks1 x1 y1).2 w:=by
            refine nest_eq (M:=M) d hk hp1 (by simp;omega) (by simp;omega) (fun k hk=>?_) (fun k hk=>?_)
            · rw[extract_getD5 _ _ _ _ (by omega) (by omega)]
              have:=h1 k (by omega)
              simpa [List.getD,List.getElem?_append_left hk] using this
            · rw[extract_getD5 _ _ _ _ (by omega) (by omega)]
              have:=h2 k (by omega)
              simpa [List.getD,List.getElem?_append_left hk] using this
          have a4:=ih (i+ks1.length) ks' x2 y2 xs ys hks hp2 (by omega) (by omega)
            (fun k hk=>by have:=h1 (x1.length+k) (by omega);rw[← l1];rw[show (x1++x2).getD (x1.length+k) default=x2.getD k default by rw[List.getD,List.getD,List.getElem?_append_right (by omega)];congr 2;omega,← Nat.add_assoc] at this;exact this)
            (fun k hk=>by have:=h2 (y1.length+k) (by omega);rw[← l2];rw[show (y1++y2).getD (y1.length+k) default=y2.getD k default by rw[List.getD,List.getD,List.getElem?_append_right (by omega)];congr 2;omega,← Nat.add_assoc] at this;exact this)
          simp only[Op.eqFields,hn,ne_eq,not_false_eq_true,if_true,Sem.run_bind,ho,a1,a2,Result.andThen_ok,a3,he]
          cases (cellsEq ks1 x1 y1).2
          · rfl
          · simpa using a4
        · cases hf
    · simp at hf
theorem inv_agg {cs:List D} {v:Value} (h:DRep w M.I (.agg cs) v):∃vs,v=.agg vs∧vs.size=cs.length∧∀k,k<cs.length→DRep w M.I (cs.getD k default) (vs.getD k undef):=by
  cases h with | agg cs vs hl ho hr=>exact⟨vs,rfl,hl,hr⟩
theorem ARep.toD {x:A} {v:Value} (h:ARep w M s x v) (hd:x.isD=true):DRep w M.I x.toD v:=by
  induction h with
  | d x v h=>exact h
  | gr l esz xs v h=>exact h.1
  | agg cs vs hl ho hr ih =>
    simp only[A.isD,A.allD_eq,List.all_eq_true] at hd
    simp only[A.toD,A.toDs_eq]
    refine .agg _ _ (by simpa using hl) ?_ ?_
    · simp only[List.all_map,List.all_eq_true] at ho ⊢
      intro c hc
      have h1:=ho c hc
      have h2:=hd c hc
      cases c <;> simp[A.isD,A.one,A.toD,D.one] at * <;> assumption
    · intro k hk
      simp only[List.length_map] at hk
      have:=ih k hk (hd _ (by simp[hk]))
      simpa [hk] using this
  | tup cs vs hl hr ih =>
    simp only[A.isD,A.allD_eq,List.all_eq_true] at hd
    simp only[A.toD,A.toDs_eq]
    refine .tup _ _ (by simpa using hl) ?_
    intro k hk
    simp only[List.length_map] at hk
    have:=ih k hk (hd _ (by simp[hk]))
    simpa [hk] using this
  | fn f fi ca vf vc h1 h2 h3 h4 ih1 ih2 =>
    simp only[A.isD,A.allD_eq,Bool.and_eq_true,List.all_eq_true] at hd
    simp only[A.toD,A.toDs_eq]
    refine .fn _ _ _ _ _ (by simpa using h1) (by simpa using h2) ?_ ?_
    · intro k hk
      simp only[List.length_map] at hk
      have:=ih1 k hk (hd.1 _ (by simp[hk]))
      simpa [hk] using this
    · intro k hk
      simp only[List.length_map] at hk
      have:=ih2 k hk (hd.2 _ (by simp[hk]))
      simpa [hk] using this
  | iface t x v h ih =>
    exact .iface _ _ _ (ih hd)
  | _=>simp[A.isD] at hd
theorem eSeq_sound (neg:Bool) {t:TypeId} {fs:Array Field} {ks:List Nat} (ht:P.underlying t=some (.struct fs)) (h1:P.stoodInHeld t=false) (h2:P.eqGuardType P.depth t=false)
    (hf:flatStruct P 0 fs.toList=some ks) (ox oy:Operand) {x y:A} {vx vy:Value} (hx:ARep w M s x vx) (hy:ARep w M s y vy) (h:(eSeq neg ks x y).pre) :
    ∃v,(do eqGuard (if neg then .neq else .eql) t ox oy vx vy;binOp (if neg then .neq else .eql) t vx vy:Sem Value).run P w=.ok v w∧ARep w M s (eSeq neg ks x y).res v∧(eSeq neg ks x y).fp=[]:=by
  unfold eSeq at h ⊢
  split at h
  · rename_i cs ds e1 e2
    obtain⟨d1,d2,hp⟩:=h
    have r1:=hx.toD d1
    have r2:=hy.toD d2
    rw[e1] at r1
    rw[e2] at r2
    obtain⟨xs,rfl,l1,r1⟩:=inv_agg r1
    obtain⟨ys,rfl,l2,r2⟩:=inv_agg r2
    have hF:P.fieldsOf t=fs:=by simp[Program.fieldsOf,ht]
    have a1:=cellsEq_sound (P:=P) (w:=w) (M:=M) 9997 fs.toList 0 ks cs ds xs ys hf hp (by omega) (by omega) (by simpa using r1) (by simpa using r2)
    have a2:(Op.equal t (.agg xs) (.agg ys)).run P w=.ok (cellsEq ks cs ds).2 w:=by
      have:=run_equalIn_struct (P:=P) w 9999 t xs ys (by rw[hF];exact ht) h1
      rw[hF,a1] at this
      exact this
    have a3:∀op:BinOp,(eqGuard op t ox oy (.agg xs) (.agg ys)).run P w=.ok () w:=by
      intro op
      unfold eqGuard
      cases op <;> simp[h2]
    refine⟨.bool (if neg then !(cellsEq ks cs ds).2 else (cellsEq ks cs ds).2),?_,.d _ _ (.bool _),rfl⟩
    simp only[Sem.run_bind,a3,Result.andThen_ok]
    cases neg <;> simp[binOp,a2]
  · exact h.elim
end ops
end Go.AE
namespace Go.AE
section
variable {P:Program} {w:World} {M:Mem} {s:Store}
theorem getD_lt {α:Type} (l:List α) (d:α) {i:Nat} (h:i<l.length):l.getD i d=l[i]:=by simp[List.getD,h]
theorem getD_mem {α:Type} (l:List α) (d:α) {i:Nat} (h:i<l.length):l.getD i d∈l:=by rw[getD_lt l d h];exact List.getElem_mem _
theorem getD_take {α:Type} (l:List α) (d:α) {n k:Nat} (h:k<n):(l.take n).getD k d=l.getD k d:=by simp[List.getD,List.getElem?_take,h]
theorem getD_drop {α:Type} (l:List α) (d:α) (n k:Nat):(l.drop n).getD k d=l.getD (n+k) d:=by simp[List.getD,List.getElem?_drop]
theorem getD_range {n k:Nat} (u:Nat→Value) (h:k<n):((List.range n).map u).toArray.getD k undef=u k:=by simp[h]
theorem tinfo_spec {t:TypeId} {n eb:Nat} {z:D} (h:tinfo P t=some (n,eb,z)):∃i zv,P.info? t=some i∧i.size=n∧i.bytes=eb∧i.zero=some zv∧D.ofV zv=some z:=by
  unfold tinfo at h
  split at h
  · rename_i i hi
    split at h
    · rename_i zv hz
      split at h
      · rename_i d hd
        simp at h
        obtain⟨h1,h2,rfl⟩:=h
        exact⟨i,zv,hi,h1,h2,hz,hd⟩
      · simp at h
    · simp at h
  · simp at h
theorem tsize_spec {t:TypeId} {n:Nat} (h:tsize P t=some n):∃i,P.info? t=some i∧i.size=n:=by
  unfold tsize at h
  simpa only[Option.map_eq_some_iff] using h
theorem run_tsize {t:TypeId} {n:Nat} (h:tsize P t=some n) (w:World):(sizeOf t).run P w=.ok n w:=by
  obtain⟨i,h1,h2⟩:=tsize_spec h
  simp[sizeOf,typeInfo,h1,h2]
theorem tsize_of_tinfo {t:TypeId} {n eb:Nat} {z:D} (h:tinfo P t=some (n,eb,z)):tsize P t=some n:=by
  obtain⟨i,zv,h1,h2,_⟩:=tinfo_spec h
  simp[tsize,h1,h2]
theorem run_tzero {t:TypeId} {n eb:Nat} {z:D} (h:tinfo P t=some (n,eb,z)) (w:World):∃zv,(zeroValue t).run P w=.ok zv w∧∀w' I,DRep w' I z zv:=by
  obtain⟨i,zv,h1,h2,h3,h4,h5⟩:=tinfo_spec h
  exact⟨zv,by simp[zeroValue,typeInfo,h1,h4],fun w' I=>ofV_rep h5⟩
theorem tagg_spec {t:TypeId} {a:Bool} (h:tagg P t=some a) (w:World):(isAgg t).run P w=.ok a w:=by
  unfold tagg at h
  unfold isAgg
  split at h
  · rename_i hu;simp at h;subst h;simp[run_underlying hu]
  · rename_i hu;simp at h;subst h;simp[run_underlying hu]
  · rename_i d h1 h2 hu
    simp at h
    subst h
    simp only[Sem.run_bind,run_underlying hu,Result.andThen_ok]
    cases d <;> simp_all
  · simp at h
theorem tslice_spec {t e:TypeId} (h:tslice P t=some e):P.underlying t=some (.slice e):=by
  unfold tslice at h
  split at h
  · rename_i hu;simp at h;subst h;exact hu
  · simp at h
theorem tsrc_spec {t:TypeId} {x:Unit} (h:tsrc P t=some x):(∃e,P.underlying t=some (.slice e))∨P.underlying t=some .string:=by
  unfold tsrc at h
  split at h
  · rename_i e hu;exact .inl ⟨e,hu⟩
  · rename_i hu;exact .inr hu
  · simp at h
theorem tfields_spec {t:TypeId} {fs:Array Field} (h:tfields P t=some fs):P.underlying t=some (.struct fs):=by
  unfold tfields at h
  split at h
  · rename_i hu;simp at h;subst h;exact hu
  · simp at h
theorem cells_one {v:Value} (h:v.oneCell'=true):v.cells=#[v]:=by
  cases v <;> first | rfl | simp[Value.oneCell'] at h
theorem A.cells_one {x:A} (h:x.one=true):x.cells=[x]:=by
  cases x with
  | d x=>cases x <;> first | rfl | simp[A.one,D.one] at h
  | _=>first | rfl | simp[A.one] at h
theorem ARep.cells {x:A} {v:Value} {n:Nat} (h:ARep w M s x v) (hf:x.fits n=true) :
    v.cells.size=n∧x.cells.length=n∧(∀j,j<n→ARep w M s (x.cells.getD j .any) (v.cells.getD j undef)∧(x.cells.getD j .any).one=true):=by
  simp only[A.fits,Bool.and_eq_true,beq_iff_eq] at hf
  obtain⟨hl,ho⟩:=hf
  by_cases h1:x.one=true
  · have h2:=h.oneCell h1
    rw[A.cells_one h1] at hl ho ⊢
    rw[AE.cells_one h2]
    simp at hl
    subst hl
    refine⟨rfl,rfl,fun j hj=>?_⟩
    obtain rfl:j=0:=by omega
    exact⟨by simpa using h,by simpa using h1⟩
  · have key:∀j,j<n→(x.cells.getD j .any).one=true:=by
      intro j hj
      rw[List.all_eq_true] at ho
      exact ho _ (getD_mem _ _ (by omega))
    cases h with
    | agg cs vs hl' ho' hr =>
      simp only[A.cells] at hl
      refine⟨by simp[Value.cells,hl',hl],hl,fun j hj=>⟨hr j (by omega),key j hj⟩⟩
    | d x v h =>
      cases h with
      | agg cs vs hl' ho' hr =>
        simp only[A.cells,List.length_map] at hl
        refine⟨by simp[Value.cells,hl',hl],by simp[A.cells,hl],fun j hj=>⟨?_,key j hj⟩⟩
        have:=hr j (by omega)
        have hj':j<cs.length:=by omega
        simp only[A.cells,Value.cells]
        rw[getD_lt _ _ (by simpa using hj')]
        rw[getD_lt _ _ hj'] at this
        simpa using ARep.d _ _ this
      | tup=>simp[A.cells,A.one,D.one] at ho
      | _=>simp[A.one,D.one] at h1
    | any=>simp[A.cells,A.one] at ho
    | tup=>simp[A.cells,A.one] at ho
    | _=>simp[A.one] at h1
theorem D.fits_A {x:D} {n:Nat} (h:x.fits n=true):(A.d x).fits n=true:=by
  simp only[D.fits,A.fits,Bool.and_eq_true,beq_iff_eq] at *
  cases x <;> simp_all [D.cells,A.cells,A.one]
theorem Good.cells (g:Good w M s) {l ver esz:Nat} {xs:List A} (h:s.getD l .dead=.cells ver esz xs) (hne:0<xs.length) :
    ∃b o c E f,M.B l=some (b,o)∧w.heap[b]?=some (.cells c E f)∧unfrozen f o c.size∧o+xs.length * esz≤c.size ∧
      (∀x,x∈xs→x.fits esz=true) ∧
      ∀i j,i<xs.length→j<esz→ARep w M s ((xs.getD i .any).cells.getD j .any) (c.getD (o+i * esz+j) undef):=by
  have:=g.obj l
  rw[h] at this
  rcases this with ⟨rfl,_⟩ | this
  · simp at hne
  exact this
theorem inv_ref {l ver esz i j:Nat} {xs:List A} {v:Value} (h:ARep w M s (.ref l ver i j) v) (hs:s.getD l .dead=.cells ver esz xs) :
    ∃b o,M.B l=some (b,o)∧v=.pointer (some ⟨b,o+i * esz+j,none⟩):=by
  obtain⟨h1,_⟩:=getD_ne hs (by simp)
  cases h with
  | ref l ver i j v ho h =>
    unfold refOk at h
    rw[h1] at h
    exact h.2 rfl
theorem inv_own {l ver esz off n:Nat} {xs:List A} {v:Value} (h:ARep w M s (.own l ver off n) v) (hs:s.getD l .dead=.cells ver esz xs) :
    (M.B l=none∧off+n≤xs.length∧n=0∧v=.slice none 0 0)∨∃b o a cap c E f,M.B l=some (b,o)∧v=.slice a n cap∧off+n≤xs.length∧n≤cap ∧
      (cap≠0→a=some ⟨b,o+off * esz,none⟩)∧w.heap[b]?=some (.cells c E f)∧o+(off+cap) * esz≤c.size:=by
  obtain⟨h1,_⟩:=getD_ne hs (by simp)
  cases h with
  | own l ver off n v ho h =>
    unfold ownOk at h
    rw[h1] at h
    exact h.2 rfl
theorem inv_mp {l:Nat} {ms:List (D × D)} {v:Value} (h:ARep w M s (.mp l) v) (hs:s.getD l .dead=.map ms):∃b,M.B l=some (b,0)∧v=.map (some b):=by
  obtain⟨h1,_⟩:=getD_ne hs (by simp)
  cases h with
  | mp l v ho h =>
    unfold mpOk at h
    rw[h1] at h
    exact h
theorem Good.map (g:Good w M s) {l:Nat} {ms:List (D × D)} (h:s.getD l .dead=.map ms):∃b es cl,M.B l=some (b,0)∧w.heap[b]?=some (.map es cl)∧mapRep w M.I ms es:=by
  have:=g.obj l
  rw[h] at this
  exact this
theorem inv_sl {esz:Nat} {xs:List D} {v:Value} (h:DRep w M.I (.sl esz xs) v):∃a cap,v=.slice a xs.length cap:=by
  cases h with
  | sl0 esz a cap=>exact⟨a,cap,rfl⟩
  | sl esz xs b off n cap u hn hcap hsz hI hc hr=>subst hn;exact⟨_,_,rfl⟩
theorem eLen_sound (g:Good w M s) {k:Nat} {t:TypeId} (aty:TypeId) (ht:(k=0∧P.underlying t=some .string)∨(k=1∧∃e,P.underlying t=some (.slice e))∨(k=2∧∃a b,P.underlying t=some (.map a b)))
    {x:A} {v:Value} (hx:ARep w M s x v) (h:(eLen s k x).pre) :
    ∃r,(Builtin.len_ #[t] aty #[v]).run P w=.ok r w∧After w M s (eLen s k x) r w:=by
  have mk:∀(n:Int),ARep w M s (.d (.int .i64 n)) (.int .i64 n):=fun n=>.d _ _ (.int _ n)
  unfold eLen at h ⊢
  split at h
  · simp only[Eff.valIf] at h
    subst h
    simp at ht
    rw[inv_str hx]
    refine⟨_,?_,After.here g rfl (mk _)⟩
    rename_i bs
    have hl:(Builtin.len_ #[t] aty #[.string ⟨bs.toArray⟩]).run P w=.ok (goInt bs.length) w:=by
      unfold Builtin.len_
      simp only[List.getElem?_toArray,List.getElem?_cons_zero,Sem.run_bind,run_underlying ht,Result.andThen_ok,Sem.run_pure]
      rfl
    exact hl
  · simp only[Eff.valIf] at h
    subst h
    simp at ht
    obtain⟨e,ht⟩:=ht
    obtain⟨a,cap,rfl⟩:=inv_sl (inv_d hx)
    exact⟨_,by simp[Builtin.len_,run_underlying ht,goInt],After.here g rfl (mk _)⟩
  · simp only[Eff.valIf] at h
    subst h
    simp at ht
    obtain⟨e,ht⟩:=ht
    have:=inv_d hx
    cases this
    exact⟨_,by simp[Builtin.len_,run_underlying ht,goInt],After.here g rfl (mk _)⟩
  · simp only[Eff.valIf] at h
    subst h
    simp at ht
    obtain⟨e,ht⟩:=ht
    cases hx with
    | gr l esz xs v hx =>
      obtain⟨a,cap,rfl⟩:=inv_sl hx.1
      exact⟨_,by simp[Builtin.len_,run_underlying ht,goInt],After.here g rfl (mk _)⟩
  · rename_i l ver off n
    split at h
    · rename_i ver' esz xs hs
      obtain⟨rfl,rfl⟩:=h
      simp at ht
      obtain⟨e,ht⟩:=ht
      rcases inv_own hx hs with ⟨_,_,rfl,rfl⟩ | ⟨b,o,a,cap,c,E,f,h1,rfl,_⟩
      · exact⟨_,by simp[Builtin.len_,run_underlying ht,goInt],After.look g hs (by simp) rfl (mk _)⟩
      exact⟨_,by simp[Builtin.len_,run_underlying ht,goInt],After.look g hs (by simp) rfl (mk _)⟩
    · exact h.elim
  · rename_i l
    split at h
    · rename_i es hs
      simp only at h
      subst h
      simp at ht
      obtain⟨a,b,ht⟩:=ht
      obtain⟨b,h1,rfl⟩:=inv_mp hx hs
      obtain⟨b',es',cl,h2,h3,h4,h5⟩:=g.map hs
      rw[h1] at h2
      simp at h2
      subst h2
      have hobj:(getObj b).run P w=.ok (.map es' cl) w:=by simp[getObj,Sem.run,h3]
      exact⟨_,by simp[Builtin.len_,run_underlying ht,goInt,hobj,h4],After.look g hs (by simp) rfl (mk _)⟩
    · exact h.elim
  · exact h.elim
theorem run_sureAddr (a:Addr):(Instr.sureAddr (.pointer (some a))).run P w=.ok a w:=rfl
theorem run_loadCells_at (b off n:Nat) (u:Nat→Value) (h:∀j,j<n→w.cell? ⟨b,off+j,none⟩=some (u j)) :
    (loadCells ⟨b,off,none⟩ n).run P w=.ok ((List.range n).map u).toArray w :=
  run_loadCells w _ n u (fun j hj=>by rw[Addr.add_lit];exact h j hj)
theorem cell?_heap {b j:Nat} {c:Array Value} {E:TypeId} {f:Nat × Nat} (h:w.heap[b]?=some (.cells c E f)) (hj:j<c.size):w.cell? ⟨b,j,none⟩=some (c.getD j undef):=by
  simp[World.cell?,h,hj]
theorem run_loadAt {t:TypeId} {agg:Bool} {n b off:Nat} {u:Nat→Value} (ha:tagg P t=some agg) (hn:tsize P t=some n) (h1:agg=true∨n=1)
    (h:∀j,j<n→w.cell? ⟨b,off+j,none⟩=some (u j)) :
    (Instr.loadAt t (.pointer (some ⟨b,off,none⟩))).run P w=.ok (bif agg then .agg ((List.range n).map u).toArray else u 0) w:=by
  simp only[Instr.loadAt,Sem.run_bind,run_sureAddr,Result.andThen_ok,loadVar,tagg_spec ha]
  cases agg
  · simp at h1
    subst h1
    have:=h 0 (by omega)
    simp at this
    simp[this]
  · simp[run_tsize hn,run_loadCells_at b off n u h]
theorem eLoad_sound (g:Good w M s) {t:TypeId} {agg:Bool} {n:Nat} (ha:tagg P t=some agg) (hn:tsize P t=some n) {p:A} {v:Value} (hp:ARep w M s p v) (h:(eLoad s agg n p).pre) :
    ∃r,(Instr.loadAt t v).run P w=.ok r w∧After w M s (eLoad s agg n p) r w:=by
  unfold eLoad at h ⊢
  split at h
  · rename_i l ver i j
    split at h
    · rename_i ver' esz xs hs
      obtain⟨rfl,h1,h2,h3⟩:=h
      obtain⟨b,o,hB,rfl⟩:=inv_ref hp hs
      obtain⟨b',o',c,E,f,hB',hc,hu,hsz,hfit,hr⟩:=g.cells hs (by omega)
      rw[hB] at hB'
      simp at hB'
      obtain⟨rfl,rfl⟩:=hB'
      have hxi:(xs.getD i .any).fits esz=true:=hfit _ (getD_mem _ _ h1)
      have hm:(i+1) * esz≤xs.length * esz:=Nat.mul_le_mul_right _ (by omega)
      rw[Nat.add_mul] at hm
      refine⟨_,run_loadAt (u:=fun k=>c.getD (o+i * esz+(j+k)) undef) ha hn h3 (fun k hk=>?_),After.look g hs (by simp) rfl ?_⟩
      · rw[cell?_heap hc (by omega),Nat.add_assoc]
      · simp only[A.fits,Bool.and_eq_true,beq_iff_eq] at hxi
        obtain⟨hx1,hx2⟩:=hxi
        cases agg
        · simp only[cond_false]
          simp at h3
          have:=hr i j h1 (by omega)
          rwa [Nat.add_zero]
        · simp only[cond_true]
          refine .agg _ _ (by simp only[List.size_toArray,List.length_map,List.length_range,List.length_take,List.length_drop];omega) ?_ ?_
          · rw[List.all_eq_true] at hx2 ⊢
            intro y hy
            exact hx2 y (List.mem_of_mem_drop (List.mem_of_mem_take hy))
          · intro k hk
            simp only[List.length_take,List.length_drop] at hk
            rw[getD_take _ _ (by omega),getD_drop,getD_range _ (by omega)]
            exact hr i (j+k) h1 (by omega)
    · exact h.elim
  · rename_i cs
    obtain⟨h1,h2,h3⟩:=h
    cases hp with
    | iptr cs v hp =>
      obtain⟨b,off,rfl,hc⟩:=hp
      have:∃u:Nat→Value,∀k,k<cs.length→w.cell? ⟨b,off+k,none⟩=some (u k)∧DRep w M.I (cs.getD k default) (u k):=by
        refine⟨fun k=>(w.cell? ⟨b,off+k,none⟩).getD undef,fun k hk=>?_⟩
        obtain⟨_,u,h4,h5⟩:=hc k hk
        simp only[h4,Option.getD_some]
        exact⟨trivial,h5⟩
      obtain⟨u,hu⟩:=this
      refine⟨_,run_loadAt ha hn h2 (fun k hk=>(hu k (by omega)).1),After.here g rfl (.d _ _ ?_)⟩
      cases agg
      · simp at h2
        subst h2
        exact (hu 0 (by omega)).2
      · simp only[cond_true]
        refine .agg _ _ (by simp;omega) ?_ ?_
        · rw[List.all_eq_true] at h3 ⊢
          intro y hy
          exact h3 y (List.mem_of_mem_take hy)
        · intro k hk
          simp only[List.length_take] at hk
          rw[getD_take _ _ (by omega),getD_range _ (by omega)]
          exact (hu k (by omega)).2
  · exact h.elim
theorem eLoad_core (g:Good w M s) {t:TypeId} {agg:Bool} {n:Nat} (ha:tagg P t=some agg) (hn:tsize P t=some n) {p:A} {v:Value} (hp:ARep w M s p v) (h:(eLoad s agg n p).pre) :
    ∃r a,v=.pointer (some a)∧(Instr.loadAt t v).run P w=.ok r w∧ARep w M s (eLoad s agg n p).res r:=by
  unfold eLoad at h ⊢
  split at h
  · rename_i l ver i j
    split at h
    · rename_i ver' esz xs hs
      obtain⟨rfl,h1,h2,h3⟩:=h
      obtain⟨b,o,hB,rfl⟩:=inv_ref hp hs
      obtain⟨b',o',c,E,f,hB',hc,hu,hsz,hfit,hr⟩:=g.cells hs (by omega)
      rw[hB] at hB'
      simp at hB'
      obtain⟨rfl,rfl⟩:=hB'
      have hxi:(xs.getD i .any).fits esz=true:=hfit _ (getD_mem _ _ h1)
      have hm:(i+1) * esz≤xs.length * esz:=Nat.mul_le_mul_right _ (by omega)
      rw[Nat.add_mul] at hm
      refine⟨_,_,rfl,run_loadAt (u:=fun k=>c.getD (o+i * esz+(j+k)) undef) ha hn h3 (fun k hk=>?_),?_⟩
      · rw[cell?_heap hc (by omega),Nat.add_assoc]
      · simp only[A.fits,Bool.and_eq_true,beq_iff_eq] at hxi
        obtain⟨hx1,hx2⟩:=hxi
        cases agg
        · simp only[cond_false]
          simp at h3
          have:=hr i j h1 (by omega)
          rwa [Nat.add_zero]
        · simp only[cond_true]
          refine .agg _ _ (by simp only[List.size_toArray,List.length_map,List.length_range,List.length_take,List.length_drop];omega) ?_ ?_
          · rw[List.all_eq_true] at hx2 ⊢
            intro y hy
            exact hx2 y (List.mem_of_mem_drop (List.mem_of_mem_take hy))
          · intro k hk
            simp only[List.length_take,List.length_drop] at hk
            rw[getD_take _ _ (by omega),getD_drop,getD_range _ (by omega)]
            exact hr i (j+k) h1 (by omega)
    · exact h.elim
  · rename_i cs
    obtain⟨h1,h2,h3⟩:=h
    cases hp with
    | iptr cs v hp =>
      obtain⟨b,off,rfl,hc⟩:=hp
      have:∃u:Nat→Value,∀k,k<cs.length→w.cell? ⟨b,off+k,none⟩=some (u k)∧DRep w M.I (cs.getD k default) (u k):=by
        refine⟨fun k=>(w.cell? ⟨b,off+k,none⟩).getD undef,fun k hk=>?_⟩
        obtain⟨_,u,h4,h5⟩:=hc k hk
        simp only[h4,Option.getD_some]
        exact⟨trivial,h5⟩
      obtain⟨u,hu⟩:=this
      refine⟨_,_,rfl,run_loadAt ha hn h2 (fun k hk=>(hu k (by omega)).1),.d _ _ ?_⟩
      cases agg
      · simp at h2
        subst h2
        exact (hu 0 (by omega)).2
      · simp only[cond_true]
        refine .agg _ _ (by simp;omega) ?_ ?_
        · rw[List.all_eq_true] at h3 ⊢
          intro y hy
          exact h3 y (List.mem_of_mem_take hy)
        · intro k hk
          simp only[List.length_take] at hk
          rw[getD_take _ _ (by omega),getD_range _ (by omega)]
          exact (hu k (by omega)).2
  · exact h.elim
end
end Go.AE
namespace Go.AE
section
variable {P:Program} {w:World} {M:Mem} {s:Store}
theorem setCell_heap {b o:Nat} {v:Value} {c:Array Value} {E:TypeId} {f:Nat × Nat} (h:w.heap[b]?=some (.cells c E f)) :
    (w.setCell ⟨b,o,none⟩ v).heap[b]?=some (.cells (c.setIfInBounds o v) E f):=by
  simp[World.setCell,Array.getElem?_modify,h]
theorem setCell_other {b b' o:Nat} {v:Value} (h:b'≠b):(w.setCell ⟨b,o,none⟩ v).heap[b']?=w.heap[b']?:=by
  simp only[World.setCell,Array.getElem?_modify]
  rw[if_neg (Ne.symm h)]
theorem setCells_heap {b:Nat} {E:TypeId} {f:Nat × Nat}:∀(vs:List Value) (o:Nat) (w:World) (c:Array Value),w.heap[b]?=some (.cells c E f)→o+vs.length≤c.size →
    ∃c',(w.setCells b o vs).heap[b]?=some (.cells c' E f)∧c'.size=c.size∧(∀j,c'[j]?=if o≤j∧j<o+vs.length then vs[j-o]? else c[j]?) ∧
      (∀b',b'≠b→(w.setCells b o vs).heap[b']?=w.heap[b']?)∧(w.setCells b o vs).heap.size=w.heap.size∧Still w (w.setCells b o vs):=by
  intro vs
  induction vs with
  | nil =>
    intro o w c h hl
    refine⟨c,h,rfl,fun j=>?_,fun _ _=>rfl,rfl,Still.refl w⟩
    rw[if_neg (by simp only[List.length_nil];omega)]
  | cons v r ih =>
    intro o w c h hl
    simp only[List.length_cons] at hl
    obtain⟨c',h1,h2,h3,h4,h5,h6⟩:=ih (o+1) (w.setCell ⟨b,o,none⟩ v) (c.setIfInBounds o v) (setCell_heap h) (by simp;omega)
    refine⟨c',h1,by simpa using h2,fun j=>?_,fun b' hb=>?_,?_,?_⟩
    · rw[h3 j]
      by_cases hj:o+1≤j∧j<o+1+r.length
      · rw[if_pos hj,if_pos (by simp;omega),show j-o=(j-(o+1))+1 by omega]
        simp
      · rw[if_neg hj]
        by_cases hj2:j=o
        · subst hj2
          rw[if_pos (by simp)]
          simp[Array.getElem?_setIfInBounds]
          omega
        · rw[if_neg (by simp;omega),Array.getElem?_setIfInBounds_ne (by omega)]
    · rw[World.setCells,h4 b' hb,setCell_other hb]
    · rw[World.setCells,h5];simp
    · show Still w ((w.setCell ⟨b,o,none⟩ v).setCells b (o+1) r)
      exact Still.trans (b:=w.setCell ⟨b,o,none⟩ v) ⟨rfl,rfl,rfl⟩ h6
theorem run_storeAt {t:TypeId} {n b off:Nat} {v:Value} {c:Array Value} {E:TypeId} {f:Nat × Nat} (hn:tsize P t=some n) (hv:v.cells.size=n) (h1:∀j,j<n→(v.cells.getD j undef).oneCell'=true)
    (hc:w.heap[b]?=some (.cells c E f)) (hl:off+n≤c.size) (hu:∀j,off≤j→j<off+n→¬(f.1≤j∧j<f.2)) :
    (Instr.storeAt t (.pointer (some ⟨b,off,none⟩)) v).run P w=.ok () (w.setCells b off v.cells.toList):=by
  have e1:∀x∈v.cells.toList,x.oneCell'=true:=by
    intro x hx
    obtain⟨j,hj,rfl⟩:=List.getElem_of_mem hx
    have:=h1 j (by simpa [hv] using hj)
    simpa [show j<v.cells.size by simpa using hj] using this
  have e2:=run_storeCells_cells (P:=P) b off v.cells.toList 0 w (fun j hj=>by
      rw[Nat.add_zero,cell?_heap hc (by simp[hv] at hj;omega)];rfl)
    (fun j hj=>by
      have:=hu (off+0+j) (by omega) (by simp[hv] at hj;omega)
      simp[World.frozen?,hc]
      simp at this
      exact this) e1
  rw[Nat.add_zero] at e2
  simp[Instr.storeAt,run_sureAddr,storeVar,run_tsize hn,hv,e2]
theorem splice_length {cs xs:List A} {j n:Nat} (h:xs.length=n) (hl:j+n≤cs.length):(splice cs j xs).length=cs.length:=by
  simp[splice];omega
theorem splice_getD {cs xs:List A} {j n k:Nat} (h:xs.length=n) (hl:j+n≤cs.length) :
    (splice cs j xs).getD k .any=if j≤k∧k<j+n then xs.getD (k-j) .any else cs.getD k .any:=by
  subst h
  unfold splice
  simp only[List.getD_eq_getElem?_getD]
  congr 1
  rw[List.append_assoc]
  by_cases h1:k<j
  · rw[List.getElem?_append_left (by simp;omega),if_neg (by omega),List.getElem?_take,if_pos h1]
  · rw[List.getElem?_append_right (by simp;omega)]
    have:(cs.take j).length=j:=by simp;omega
    rw[this]
    by_cases h2:k<j+xs.length
    · rw[List.getElem?_append_left (by omega),if_pos (by omega)]
    · rw[List.getElem?_append_right (by omega),if_neg (by omega),List.getElem?_drop,show j+xs.length+(k-j-xs.length)=k by omega]
theorem setAll_one (s:Store) (l:Nat) (x:Ob):s.setAll [(l,x)]=s.set l x:=rfl
theorem eStore_sound (g:Good w M s) {t:TypeId} {n:Nat} (hn:tsize P t=some n) {p x:A} {vp vx:Value} (hp:ARep w M s p vp) (hx:ARep w M s x vx) (h:(eStore s n p x).pre) :
    ∃w',(Instr.storeAt t vp vx).run P w=.ok () w'∧After w M s (eStore s n p x) undef w':=by
  unfold eStore at h ⊢
  split at h
  · rename_i l ver i j
    split at h
    · rename_i ver' esz xs hs
      obtain⟨rfl,h1,h2,h3⟩:=h
      obtain⟨b,o,hB,rfl⟩:=inv_ref hp hs
      obtain⟨b',o',c,E,f,hB',hc,hu,hsz,hfit,hr⟩:=g.cells hs (by omega)
      rw[hB] at hB'
      simp at hB'
      obtain⟨rfl,rfl⟩:=hB'
      have hxi:(xs.getD i .any).fits esz=true:=hfit _ (getD_mem _ _ h1)
      have hm:(i+1) * esz≤xs.length * esz:=Nat.mul_le_mul_right _ (by omega)
      rw[Nat.add_mul,Nat.one_mul] at hm
      obtain⟨k1,k2,k3⟩:=hx.cells h3
      have hst:=run_storeAt (P:=P) (off:=o+i * esz+j) hn k1 (fun j hj=>(k3 j hj).1.oneCell (k3 j hj).2) hc (by omega) (fun k h4 h5=>hu k (by omega) (by omega))
      obtain⟨c',e1,e2,e3,e4,e5,e6⟩:=setCells_heap (E:=E) (f:=f) vx.cells.toList (o+i * esz+j) w c hc (by simp[k1];omega)
      have hlen:vx.cells.toList.length=n:=by simpa using k1
      rw[hlen] at e3
      have hl:=(getD_ne hs (by simp)).2
      have hI:Inplace w (w.setCells b (o+i * esz+j) vx.cells.toList) b o c c' E f:=⟨e6,e5,hc,e1,e4,e2,fun k hk=>by rw[e3,if_neg (by omega)]⟩
      refine⟨_,hst,?_⟩
      simp only[A.fits,Bool.and_eq_true,beq_iff_eq] at hxi
      obtain⟨hx1,hx2⟩:=hxi
      generalize hY:(if n=esz then x else A.agg (splice (xs.getD i .any).cells j x.cells))=y
      have hy:y.fits esz=true∧∀k,k<esz→y.cells.getD k .any=if j≤k∧k<j+n then x.cells.getD (k-j) .any else (xs.getD i .any).cells.getD k .any:=by
        subst hY
        split
        · rename_i hne
          subst hne
          obtain rfl:j=0:=by omega
          refine⟨h3,fun k hk=>?_⟩
          rw[if_pos (by omega),Nat.sub_zero]
        · refine⟨?_,fun k hk=>?_⟩
          · show ((splice (xs.getD i .any).cells j x.cells).length == esz && (splice (xs.getD i .any).cells j x.cells).all A.one)=true
            simp only[Bool.and_eq_true,beq_iff_eq]
            refine⟨by rw[splice_length k2 (by omega)];exact hx1,?_⟩
            rw[List.all_eq_true] at hx2 ⊢
            intro z hz
            simp only[A.fits,Bool.and_eq_true,beq_iff_eq,List.all_eq_true] at h3
            simp only[splice,List.mem_append] at hz
            rcases hz with (hz | hz) | hz
            · exact hx2 z (List.mem_of_mem_take hz)
            · exact h3.2 z hz
            · exact hx2 z (List.mem_of_mem_drop hz)
          · exact splice_getD k2 (by omega)
      have hob:obStep M (M.move l b o o) l (s.getD l .dead) (.cells ver esz (xs.set i y)):=by
        rw[hs]
        simp[obStep,Mem.move,hB]
      have hext:=Ext.inplace g hI hB (Nat.le_refl o) hl hob
      have hcell:∀k,c'.getD k undef=if o+i * esz+j≤k∧k<o+i * esz+j+n then vx.cells.getD (k-(o+i * esz+j)) undef else c.getD k undef:=by
        intro k
        have:=e3 k
        simp only[Array.getD_eq_getD_getElem?,this]
        split <;> simp
      refine⟨M.move l b o o,?_,hext,.any _⟩
      refine Good.inplace g hI hB (Nat.le_refl o) (by omega) hl hob ?_
      refine .inr ⟨b,o,c',E,f,by simp[Mem.move],e1,by rw[e2];exact hu,by simpa [e2] using hsz,?_,?_⟩
      · intro z hz
        rcases List.mem_or_eq_of_mem_set hz with hz | rfl
        · exact hfit z hz
        · exact hy.1
      · intro i' j' hi hj
        simp only[List.length_set] at hi
        have hm':(i'+1) * esz≤xs.length * esz:=Nat.mul_le_mul_right _ (by omega)
        rw[Nat.add_mul,Nat.one_mul] at hm'
        rw[hcell]
        by_cases hii:i'=i
        · subst hii
          rw[show (xs.set i' y).getD i' .any=y by simp[hi],hy.2 j' hj]
          by_cases hjj:j≤j'∧j'<j+n
          · rw[if_pos hjj,if_pos (by omega),show o+i' * esz+j'-(o+i' * esz+j)=j'-j by omega]
            exact hext.arep g (k3 (j'-j) (by omega)).1
          · rw[if_neg hjj,if_neg (by omega)]
            exact hext.arep g (hr i' j' hi hj)
        · rw[show (xs.set i y).getD i' .any=xs.getD i' .any by simp[List.getD,List.getElem?_set,Ne.symm hii]]
          rw[if_neg]
          · exact hext.arep g (hr i' j' hi hj)
          · rcases Nat.lt_or_ge i' i with h6 | h6
            · have h7:(i'+1) * esz≤i * esz:=Nat.mul_le_mul_right _ h6
              rw[Nat.add_mul,Nat.one_mul] at h7
              omega
            · have h7:(i+1) * esz≤i' * esz:=Nat.mul_le_mul_right _ (by omega)
              rw[Nat.add_mul,Nat.one_mul] at h7
              omega
    · exact h.elim
  · exact h.elim
theorem new_cells (g:Good w M s) {l esz:Nat} (hl:s[l]?=some .res) {w':World} {c:Array Value} {E:TypeId} {xs:List A} (hs:Still w w') (hh:w'.heap=w.heap.push (.cells c E)) (hsz:xs.length * esz≤c.size)
    (hfit:∀x,x∈xs→x.fits esz=true) (hr:∀i j,i<xs.length→j<esz→ARep w M s ((xs.getD i .any).cells.getD j .any) (c.getD (i * esz+j) undef)) :
    Good w' (M.push w.heap.size l 0) (s.set l (.cells 0 esz xs))∧Ext w M s w' (M.push w.heap.size l 0) (s.set l (.cells 0 esz xs)):=by
  obtain⟨h1,h2⟩:=getD_getElem? hl
  have hob:obStep M (M.push w.heap.size l 0) l (s.getD l .dead) (.cells 0 esz xs):=by rw[h1];trivial
  have he:=Ext.push g hs hh h2 hob
  refine⟨Good.push g hs hh h2 hob (fun j hj=>absurd hj (by omega)) ?_,he⟩
  refine .inr ⟨w.heap.size,0,c,E,(0,0),by simp[Mem.push],heap_push_new hh,fun j _ _=>by omega,by simpa using hsz,hfit,fun i j hi hj=>?_⟩
  rw[Nat.zero_add]
  exact he.arep g (hr i j hi hj)
theorem eBox_sound (g:Good w M s) {t:TypeId} {n nw:Nat} (hn:tsize P t=some n) {x:A} {v:Value} (hx:ARep w M s x v) (h:(eBox s nw n x).pre) :
    ∃r w',(Instr.box t v).run P w=.ok r w'∧After w M s (eBox s nw n x) r w':=by
  obtain⟨h1,h2⟩:=h
  obtain⟨k1,k2,k3⟩:=hx.cells h2
  have hnew:=new_cells (xs:=[x]) (w':=w.alloc (.cells v.cells t)) (E:=t) (c:=v.cells) (esz:=n) g h1 ⟨rfl,rfl,rfl⟩ rfl (by simp[k1]) (by simpa using h2) (fun i j hi hj=>by
    obtain rfl:i=0:=by simpa using hi
    simp only[Nat.zero_mul,Nat.zero_add]
    exact (k3 j hj).1)
  refine⟨.pointer (some ⟨w.heap.size,0,none⟩),w.alloc (.cells v.cells t),by simp[Instr.box,newVar,newRow],_,hnew.1,hnew.2,.ref _ _ _ _ _ rfl ?_⟩
  have hl:=(getD_getElem? h1).2
  simp only[refOk,eBox,setAll_one,List.getElem?_set_self hl]
  exact⟨Nat.le_refl _,fun _=>⟨w.heap.size,0,by simp[Mem.push],by simp⟩⟩
theorem eAlloc_sound (g:Good w M s) {t:TypeId} {n eb nw:Nat} {z:D} (hn:tinfo P t=some (n,eb,z)) (h:(eBox s nw n (.d z)).pre) :
    ∃r w',(Instr.alloc t true (.tuple #[])).run P w=.ok r w'∧After w M s (eBox s nw n (.d z)) r w':=by
  obtain⟨zv,hz,hd⟩:=run_tzero hn w
  obtain⟨r,w',h1,h2⟩:=eBox_sound g (tsize_of_tinfo hn) (.d _ _ (hd w M.I)) h
  refine⟨r,w',?_,h2⟩
  simp[Instr.box] at h1
  simp[Instr.alloc,hz]
  exact h1
theorem eMkslice_sound (g:Good w M s) {t e:TypeId} (ht:P.underlying t=some (.slice e)) {esz eb nw:Nat} {z:D} (hn:tinfo P e=some (esz,eb,z)) {x:A} {v:Value} (hx:ARep w M s x v)
    (h:(eMkslice s nw esz eb z x).pre):∃r w',(Instr.makeSlice t v v).run P w=.ok r w'∧After w M s (eMkslice s nw esz eb z x) r w':=by
  unfold eMkslice at h ⊢
  split at h
  · rename_i n
    obtain⟨h1,h2,h3,h4,h5⟩:=h
    rw[inv_int hx]
    obtain⟨i,zv,hi,hsz,hby,hz,hzd⟩:=tinfo_spec hn
    subst hsz hby
    obtain⟨m,rfl⟩:=Int.eq_ofNat_of_zero_le h3
    simp only[Int.toNat_natCast] at *
    have hroom:(i.bytes:Int) * (m:Int)≤281474976710656:=by
      unfold room at h4
      have:((m * i.bytes:Nat):Int)≤140737488355328:=by omega
      rw[Int.natCast_mul,Int.mul_comm] at this
      omega
    have hr:=run_make (P:=P) w t e i zv ht hi hz .i64 .i64 (m:Int) (m:Int) (by omega) (by omega) hroom (by omega)
    simp only[Int.toNat_natCast] at hr
    have hzr:∀w' I,DRep w' I z zv:=fun w' I=>ofV_rep hzd
    obtain⟨k1,k2,k3⟩:=(ARep.d z zv (hzr w M.I):ARep w M s (.d z) zv).cells (D.fits_A h2)
    have hnew:=new_cells (xs:=List.replicate m (A.d z)) (w':=w.alloc (.cells (madeCells zv.cells (m * i.size)) e)) (c:=madeCells zv.cells (m * i.size)) (E:=e) (esz:=i.size) g h1 ⟨rfl,rfl,rfl⟩ rfl
      (by simp[size_madeCells]) (fun x hx=>by rw[List.mem_replicate] at hx;rw[hx.2];exact D.fits_A h2) (fun i' j hi' hj=>by
        simp only[List.length_replicate] at hi'
        rw[show (List.replicate m (A.d z)).getD i' .any=A.d z by simp[List.getD,hi']]
        have hlt:i' * i.size+j<m * i.size:=by
          have:(i'+1) * i.size≤m * i.size:=Nat.mul_le_mul_right _ hi'
          rw[Nat.add_mul,Nat.one_mul] at this
          omega
        have e1:(madeCells zv.cells (m * i.size)).getD (i' * i.size+j) undef=zv.cells.getD j undef:=by
          have h6:(i' * i.size+j) % i.size=j:=by rw[Nat.mul_comm,Nat.mul_add_mod,Nat.mod_eq_of_lt hj]
          simp only[madeCells,Array.getD_eq_getD_getElem?,Array.getElem?_map]
          rw[show (Array.range (m * i.size))[i' * i.size+j]?=some (i' * i.size+j) by simp[hlt]]
          simp only[Option.map_some,Option.getD_some,k1,h6]
          have h8:j<zv.cells.size:=by omega
          simp[h8]
        rw[e1]
        exact (k3 j hj).1)
    refine⟨_,_,hr,_,hnew.1,hnew.2,.own _ _ _ _ _ rfl ?_⟩
    have hl:=(getD_getElem? h1).2
    simp only[ownOk,setAll_one,List.getElem?_set_self hl]
    refine⟨Nat.le_refl _,fun _=>.inr ⟨w.heap.size,0,some ⟨w.heap.size,0,none⟩,m,madeCells zv.cells (m * i.size),e,(0,0),by simp[Mem.push],rfl,by simp,Nat.le_refl _,fun _=>by simp,heap_push_new rfl,by simp[size_madeCells]⟩⟩
  · exact h.elim
theorem dcells_getD0 {y:D} {esz j:Nat} (hf:y.fits esz=true) (hj:j<esz):(A.d y).cells.getD j .any=.d (y.cells.getD j default):=by
  simp only[D.fits,Bool.and_eq_true,beq_iff_eq] at hf
  cases y with
  | agg cs =>
    simp only[A.cells,D.cells] at hf ⊢
    have:j<cs.length:=by omega
    simp[List.getD,this]
  | _ =>
    simp only[D.cells,List.length_cons,List.length_nil] at hf
    obtain rfl:j=0:=by omega
    rfl
theorem eMkd_sound (g:Good w M s) {t e:TypeId} (ht:P.underlying t=some (.slice e)) {esz eb:Nat} {z:D} (hn:tinfo P e=some (esz,eb,z)) {x:A} {v:Value} (hx:ARep w M s x v)
    (h:(eMkd esz eb z x).pre):∃r w',(Instr.makeSlice t v v).run P w=.ok r w'∧After w M s (eMkd esz eb z x) r w':=by
  unfold eMkd at h ⊢
  split at h
  · rename_i n
    obtain⟨h2,h3,h4,h5⟩:=h
    rw[inv_int hx]
    obtain⟨i,zv,hi,hsz,hby,hz,hzd⟩:=tinfo_spec hn
    subst hsz hby
    obtain⟨m,rfl⟩:=Int.eq_ofNat_of_zero_le h3
    simp only[Int.toNat_natCast] at *
    have hroom:(i.bytes:Int) * (m:Int)≤281474976710656:=by
      unfold room at h4
      have:((m * i.bytes:Nat):Int)≤140737488355328:=by omega
      rw[Int.natCast_mul,Int.mul_comm] at this
      omega
    have hr:=run_make (P:=P) w t e i zv ht hi hz .i64 .i64 (m:Int) (m:Int) (by omega) (by omega) hroom (by omega)
    simp only[Int.toNat_natCast] at hr
    have hzr:∀w' I,DRep w' I z zv:=fun w' I=>ofV_rep hzd
    obtain⟨k1,k2,k3⟩:=(ARep.d z zv (hzr w M.I):ARep w M s (.d z) zv).cells (D.fits_A h2)
    have hcell:∀i' j,i'<m→j<i.size→(madeCells zv.cells (m * i.size)).getD (i' * i.size+j) undef=zv.cells.getD j undef:=by
      intro i' j hi' hj
      have hlt:i' * i.size+j<m * i.size:=by
        have:(i'+1) * i.size≤m * i.size:=Nat.mul_le_mul_right _ hi'
        rw[Nat.add_mul,Nat.one_mul] at this
        omega
      have h6:(i' * i.size+j) % i.size=j:=by rw[Nat.mul_comm,Nat.mul_add_mod,Nat.mod_eq_of_lt hj]
      simp only[madeCells,Array.getD_eq_getD_getElem?,Array.getElem?_map]
      rw[show (Array.range (m * i.size))[i' * i.size+j]?=some (i' * i.size+j) by simp[hlt]]
      simp only[Option.map_some,Option.getD_some,k1,h6]
      have h8:j<zv.cells.size:=by omega
      simp[h8]
    have hlt:∀i' j,i'<m→j<i.size→i' * i.size+j<m * i.size:=by
      intro i' j hi' hj
      have:(i'+1) * i.size≤m * i.size:=Nat.mul_le_mul_right _ hi'
      rw[Nat.add_mul,Nat.one_mul] at this
      omega
    have hh:(w.alloc (.cells (madeCells zv.cells (m * i.size)) e)).heap[w.heap.size]?=some (.cells (madeCells zv.cells (m * i.size)) e):=heap_push_new rfl
    have hcl:∀j,j<m * i.size→(w.alloc (.cells (madeCells zv.cells (m * i.size)) e)).cell? ⟨w.heap.size,j,none⟩=some ((madeCells zv.cells (m * i.size)).getD j undef):=fun j hj=>cell?_heap hh (by rw[size_madeCells];exact hj)
    refine⟨_,_,hr,M.pushI w.heap.size (m * i.size),Good.pushI g ⟨rfl,rfl,rfl⟩ rfl (fun j hj=>by rw[hcl j hj];rfl),Ext.pushI g ⟨rfl,rfl,rfl⟩ rfl,.d _ _ ?_⟩
    refine .sl _ _ w.heap.size 0 m m (fun i' j=>(madeCells zv.cells (m * i.size)).getD (i' * i.size+j) undef) (by simp) (Nat.le_refl _) (fun x hx=>by rw[List.mem_replicate] at hx;rw[hx.2];exact h2) (fun i' j hi' hj=>.inr ⟨rfl,by have:=hlt i' j hi' hj;omega⟩) (fun i' j hi' hj=>by rw[Nat.zero_add];exact hcl _ (hlt i' j hi' hj)) (fun i' j hi' hj=>?_)
    rw[hcell i' j hi' hj,show (List.replicate m z).getD i' default=z by simp[List.getD,hi']]
    obtain⟨_,_,k4⟩:=(ARep.d z zv (hzr _ _):ARep (w.alloc (.cells (madeCells zv.cells (m * i.size)) e)) (M.pushI w.heap.size (m * i.size)) s (.d z) zv).cells (D.fits_A h2)
    have:=(k4 j hj).1
    rw[dcells_getD0 h2 hj] at this
    exact inv_d this
  · exact h.elim
theorem eMkmap_sound (g:Good w M s) {t:TypeId} {nw:Nat} (h:(eMkmap s nw).pre):∃r w',(Instr.makeMap t none).run P w=.ok r w'∧After w M s (eMkmap s nw) r w':=by
  have hl:=(getD_getElem? h).2
  have hnew:=Good.pushMap (w':=w.alloc (.map #[] 0)) g ⟨rfl,rfl,rfl⟩ rfl h
  refine⟨.map (some w.heap.size),w.alloc (.map #[] 0),by simp[Instr.makeMap],_,hnew.1,hnew.2,.mp _ _ rfl ?_⟩
  simp only[mpOk,eMkmap,setAll_one,List.getElem?_set_self hl]
  exact⟨w.heap.size,by simp[Mem.push],rfl⟩
theorem eFaddr_sound (g:Good w M s) {t:TypeId} {fs:Array Field} {i n:Nat} {f:Field} (ht:P.underlying t=some (.struct fs)) (hf:fs[i]?=some f) (hn:tsize P f.type=some (n+1)) {p:A} {v:Value} (hp:ARep w M s p v)
    (h:(eFaddr s f.offset p).pre):∃r,(Instr.fieldAt t v i).run P w=.ok r w∧After w M s (eFaddr s f.offset p) r w:=by
  have run:∀b o,(Instr.fieldAt t (.pointer (some ⟨b,o,none⟩)) i).run P w=.ok (.pointer (some ⟨b,o+f.offset,none⟩)) w:=by
    intro b o
    simp[Instr.fieldAt,run_underlying ht,hf,run_sureAddr,fieldPlace,run_tsize hn,Addr.add_lit]
  unfold eFaddr at h ⊢
  split at h
  · rename_i l ver i' j
    split at h
    · rename_i ver' esz xs hs
      simp only at h
      subst h
      obtain⟨b,o,hB,rfl⟩:=inv_ref hp hs
      refine⟨_,run _ _,After.look g hs (by simp) rfl (.ref _ _ _ _ _ rfl ?_)⟩
      simp only[refOk,(getD_ne hs (by simp)).1]
      exact⟨Nat.le_refl _,fun _=>⟨b,o,hB,by simp[Nat.add_assoc]⟩⟩
    · exact h.elim
  · rename_i cs
    cases hp with
    | iptr cs v hp =>
      obtain⟨b,off,rfl,hc⟩:=hp
      refine⟨_,run b off,After.here g rfl (.iptr _ _ ⟨b,off+f.offset,rfl,fun j hj=>?_⟩)⟩
      simp only[List.length_drop] at hj
      have:=hc (f.offset+j) (by omega)
      rw[← Nat.add_assoc] at this
      rw[getD_drop]
      exact this
  · exact h.elim
end
end Go.AE
namespace Go.AE
section
variable {P:Program} {w:World} {M:Mem} {s:Store}
theorem inv_slcells {esz:Nat} {xs:List D} {v:Value} (h:DRep w M.I (.sl esz xs) v) {i:Nat} (hi:i<xs.length) :
    ∃(b off cap:Nat) (u:Nat→Nat→Value),v=.slice (some ⟨b,off,none⟩) xs.length cap∧xs.length≤cap∧(∀x,x∈xs→x.fits esz=true) ∧
      (∀i j,i<xs.length→j<esz→M.I b (off+i * esz+j))∧(∀i j,i<xs.length→j<esz→w.cell? ⟨b,off+i * esz+j,none⟩=some (u i j)) ∧
      (∀i j,i<xs.length→j<esz→DRep w M.I ((xs.getD i default).cells.getD j default) (u i j)):=by
  cases h with
  | sl0=>simp at hi
  | sl esz xs b off n cap u hn hcap hsz hI hc hr=>subst hn;exact⟨b,off,cap,u,rfl,hcap,hsz,hI,hc,hr⟩
theorem run_indexAt {t e:TypeId} {esz:Nat} (ht:P.underlying t=some (.slice e)) (hn:tsize P e=some esz) (b off len cap i:Nat) (k:IntKind) (hi:i<len) :
    (Instr.indexAt t (.slice (some ⟨b,off,none⟩) len cap) (.int k (i:Int))).run P w=.ok (.pointer (some ⟨b,off+i * esz,none⟩)) w:=by
  have h1:(0:Int)≤(i:Int)∧(i:Int)<(len:Int):=by omega
  simp[Instr.indexAt,asIntOf,run_underlying ht,run_tsize hn,Addr.add_lit,hi]
theorem sl_iaddr {t e:TypeId} {esz:Nat} (ht:P.underlying t=some (.slice e)) (hn:tsize P e=some esz) {xs:List D} {v:Value} (hx:DRep w M.I (.sl esz xs) v) {k:IntKind} {n:Int} (h0:0≤n) (h1:n<xs.length) :
    ∃r,(Instr.indexAt t v (.int k n)).run P w=.ok r w∧ARep w M s (.iptr (xs.getD n.toNat default).cells) r:=by
  obtain⟨i,rfl⟩:=Int.eq_ofNat_of_zero_le h0
  have hi:i<xs.length:=by omega
  obtain⟨b,off,cap,u,rfl,hcap,hsz,hI,hc,hr⟩:=inv_slcells hx hi
  refine⟨_,run_indexAt ht hn _ _ _ _ _ k hi,.iptr _ _ ⟨b,off+i * esz,rfl,fun j hj=>?_⟩⟩
  simp only[Int.toNat_natCast] at hj ⊢
  have hf:=hsz _ (getD_mem xs default hi)
  simp only[D.fits,Bool.and_eq_true,beq_iff_eq] at hf
  rw[hf.1] at hj
  exact⟨hI i j hi hj,u i j,hc i j hi hj,hr i j hi hj⟩
theorem eIaddr_sound (g:Good w M s) {t e:TypeId} {esz:Nat} (ht:P.underlying t=some (.slice e)) (hn:tsize P e=some esz) {x i:A} {vx vi:Value} (hx:ARep w M s x vx) (hi:ARep w M s i vi)
    (h:(eIaddr s esz x i).pre):∃r,(Instr.indexAt t vx vi).run P w=.ok r w∧After w M s (eIaddr s esz x i) r w:=by
  unfold eIaddr at h ⊢
  split at h
  · obtain⟨rfl,h0,h1⟩:=h
    rw[inv_int hi]
    obtain⟨r,h2,h3⟩:=sl_iaddr (s:=s) ht hn (inv_d hx) h0 h1
    exact⟨r,h2,After.here g rfl h3⟩
  · obtain⟨rfl,h0,h1⟩:=h
    rw[inv_int hi]
    cases hx with
    | gr l e xs v hx =>
      obtain⟨r,h2,h3⟩:=sl_iaddr (s:=s) ht hn hx.1 h0 h1
      exact⟨r,h2,After.here g rfl h3⟩
  · split at h
    · rename_i l ver off m _ n ver' e' xs hs
      obtain⟨rfl,rfl,h0,h1⟩:=h
      rw[inv_int hi]
      obtain⟨i,rfl⟩:=Int.eq_ofNat_of_zero_le h0
      rcases inv_own hx hs with ⟨_,_,rfl,_⟩ | ⟨b,o,a,cap,c,E,f,hB,rfl,h2,h3,h4,h5,h6⟩
      · omega
      rw[h4 (by omega)]
      refine⟨_,run_indexAt ht hn _ _ _ _ _ _ (by omega),After.look g hs (by simp) rfl (.ref _ _ _ _ _ rfl ?_)⟩
      simp only[refOk,(getD_ne hs (by simp)).1,Int.toNat_natCast]
      exact⟨Nat.le_refl _,fun _=>⟨b,o,hB,by simp[Nat.add_mul,Nat.add_assoc]⟩⟩
    · exact h.elim
  · exact h.elim
theorem run_field {t:TypeId} {fs:Array Field} {i n:Nat} {f:Field} {agg:Bool} (ht:P.underlying t=some (.struct fs)) (hf:fs[i]?=some f) (ha:tagg P f.type=some agg) (hn:tsize P f.type=some n)
    (vs:Array Value) (hl:f.offset+n≤vs.size) (h1:agg=true∨n=1) :
    (Instr.field t (.agg vs) i).run P w=.ok (bif agg then .agg (vs.extract f.offset (f.offset+n)) else vs.getD f.offset undef) w:=by
  simp only[Instr.field,Sem.run_bind,run_underlying ht,Result.andThen_ok,hf,asAgg,Sem.run_pure,part,tagg_spec ha]
  cases agg
  · simp at h1
    subst h1
    have:f.offset<vs.size:=by omega
    simp[this]
  · simp[run_tsize hn]
theorem extract_getD (vs:Array Value) (a n k:Nat) (h:a+n≤vs.size) (hk:k<n):(vs.extract a (a+n)).getD k undef=vs.getD (a+k) undef:=by
  have h2:a+k<vs.size:=by omega
  simp only[Array.getD_eq_getD_getElem?,Array.getElem?_extract]
  rw[if_pos (by omega)]
theorem eField_sound (g:Good w M s) {t:TypeId} {fs:Array Field} {i n:Nat} {f:Field} {agg:Bool} (ht:P.underlying t=some (.struct fs)) (hf:fs[i]?=some f) (ha:tagg P f.type=some agg) (hn:tsize P f.type=some n)
    {x:A} {v:Value} (hx:ARep w M s x v) (h:(eField agg f.offset n x).pre):∃r,(Instr.field t v i).run P w=.ok r w∧After w M s (eField agg f.offset n x) r w:=by
  unfold eField at h ⊢
  split at h
  · obtain⟨h1,h2⟩:=h
    cases hx with
    | agg cs vs hl ho hr =>
      refine⟨_,run_field ht hf ha hn vs (by omega) h2,After.here g rfl ?_⟩
      cases agg
      · simp at h2
        subst h2
        exact hr _ (by omega)
      · simp only[cond_true]
        refine .agg _ _ (by simp;omega) ?_ (fun k hk=>?_)
        · rw[List.all_eq_true] at ho ⊢
          intro y hy
          exact ho y (List.mem_of_mem_drop (List.mem_of_mem_take hy))
        · simp only[List.length_take,List.length_drop] at hk
          rw[getD_take _ _ (by omega),getD_drop,extract_getD _ _ _ _ (by omega) (by omega)]
          exact hr _ (by omega)
  · obtain⟨h1,h2⟩:=h
    have hx:=inv_d hx
    cases hx with
    | agg cs vs hl ho hr =>
      refine⟨_,run_field ht hf ha hn vs (by omega) h2,After.here g rfl (.d _ _ ?_)⟩
      cases agg
      · simp at h2
        subst h2
        exact hr _ (by omega)
      · simp only[cond_true]
        refine .agg _ _ (by simp;omega) ?_ (fun k hk=>?_)
        · rw[List.all_eq_true] at ho ⊢
          intro y hy
          exact ho y (List.mem_of_mem_drop (List.mem_of_mem_take hy))
        · simp only[List.length_take,List.length_drop] at hk
          rw[getD_take _ _ (by omega),getD_drop,extract_getD _ _ _ _ (by omega) (by omega)]
          exact hr _ (by omega)
  · exact h.elim
theorem eExtract_sound (g:Good w M s) {i:Nat} {x:A} {v:Value} (hx:ARep w M s x v) (h:(eExtract i x).pre):∃r,(Instr.extract v i).run P w=.ok r w∧After w M s (eExtract i x) r w:=by
  unfold eExtract at h ⊢
  split at h
  · simp only at h
    cases hx with
    | tup cs vs hl hr =>
      refine⟨vs.getD i undef,?_,After.here g rfl (hr i h)⟩
      have:i<vs.size:=by omega
      simp[Instr.extract,this]
  · simp only at h
    have hx:=inv_d hx
    cases hx with
    | tup cs vs hl hr =>
      refine⟨vs.getD i undef,?_,After.here g rfl (.d _ _ (hr i h))⟩
      have:i<vs.size:=by omega
      simp[Instr.extract,this]
  · exact h.elim
theorem eTassert_sound (g:Good w M s) {xt t:TypeId} {d:TypeDesc} (ht:P.underlying t=some d) (hd:∀ms,d≠.interface ms) {x:A} {v:Value} (hx:ARep w M s x v) (h:(eTassert t x).pre) :
    ∃r,(Instr.typeAssert v xt t false).run P w=.ok r w∧After w M s (eTassert t x) r w:=by
  have run:∀v,(Instr.typeAssert (.iface t v) xt t false).run P w=.ok v w:=by
    intro v
    simp only[Instr.typeAssert,Sem.run_bind,run_underlying ht,Result.andThen_ok]
    cases d <;> simp_all
  unfold eTassert at h ⊢
  split at h
  · simp only at h
    subst h
    cases hx with
    | iface t x v hx=>exact⟨v,run v,After.here g rfl hx⟩
  · simp only at h
    subst h
    have hd:=inv_d hx
    cases hd with
    | iface t x v hd=>exact⟨v,run v,After.here g rfl (.d _ _ hd)⟩
  · exact h.elim
theorem eMkif_sound {t:TypeId} {d:TypeDesc} (ht:P.underlying t=some d) (hd:∀ms,d≠.interface ms) (v:Value):(Instr.makeInterface t v).run P w=.ok (.iface t v) w:=by
  simp only[Instr.makeInterface,Sem.run_bind,run_underlying ht,Result.andThen_ok]
  cases d <;> simp_all
theorem eNilck_sound (g:Good w M s) {x:A} {v:Value} (hx:ARep w M s x v) (h:(eNilck s x).pre) (ρ:Operand→Value) (ox:Operand) (hρ:ρ ox=v) (o:Oper) (ho:o.op=.nilCheck ox) :
    (execOp ρ o).run P w=.ok (.value v) w∧After w M s (eNilck s x) v w:=by
  have run:∀a,v=.pointer (some a)→(execOp ρ o).run P w=.ok (.value v) w:=by
    intro a ha
    subst ha
    simp[execOp,ho,hρ]
  unfold eNilck at h ⊢
  split at h
  · split at h
    · rename_i l ver i j ver' esz xs hs
      simp only at h
      subst h
      obtain⟨b,o,hB,rfl⟩:=inv_ref hx hs
      exact⟨run _ rfl,After.look g hs (by simp) rfl hx⟩
    · exact h.elim
  · cases hx with
    | iptr cs v hp =>
      obtain⟨b,off,rfl,hc⟩:=hp
      exact⟨run _ rfl,After.here g rfl (.iptr _ _ ⟨b,off,rfl,hc⟩)⟩
  · cases hx with
    | fn f fi ca vf vc h1 h2 h3 h4 =>
      exact⟨by simp[execOp,ho,hρ],After.here g rfl (.fn _ _ _ _ _ h1 h2 h3 h4)⟩
  · exact h.elim
theorem bnd_sound {d:Int} {x:Option A} {v:Option Value} (hx:(x=none∧v=none)∨∃a b,x=some a∧v=some b∧ARep w M s a b) (h:(bnd d x).1) :
    (v=none∧x=none∧(bnd d x).2=d)∨∃k,v=some (.int k (bnd d x).2):=by
  rcases hx with ⟨rfl,rfl⟩ | ⟨a,b,rfl,rfl,h1⟩
  · exact .inl ⟨rfl,rfl,rfl⟩
  · right
    unfold bnd at h ⊢
    split at h
    · simp_all
    · rename_i e
      simp at e
      subst e
      exact⟨_,by rw[inv_int h1]⟩
    · exact h.elim
theorem run_sliceBound {k:IntKind} {n:Int} {y:Nat} {c:BoundsCode} (h0:0≤n) (h1:n≤y):(Instr.sliceBound (.int k n) y c).run P w=.ok n.toNat w:=by
  simp[Instr.sliceBound,asIntOf,h0,h1]
theorem run_bounds2 (isS:Bool) (len cap:Nat) (lo hi:Option Value) (l h:Int) (hl:(lo=none∧l=0)∨∃k,lo=some (.int k l)) (hh:(hi=none∧h=len)∨∃k,hi=some (.int k h))
    (h0:0≤l) (h1:l≤h) (h2:h≤len) (h3:len≤cap):(Instr.sliceBounds isS len cap lo hi none).run P w=.ok (l.toNat,h.toNat,cap) w:=by
  unfold Instr.sliceBounds
  have e1:∀(k:IntKind) (c:BoundsCode),(Instr.sliceBound (.int k h) cap c).run P w=.ok h.toNat w:=fun k c=>run_sliceBound (by omega) (by omega)
  have e2:∀(k:IntKind) (c:BoundsCode),(Instr.sliceBound (.int k l) h.toNat c).run P w=.ok l.toNat w:=fun k c=>run_sliceBound h0 (by omega)
  rcases hl with ⟨rfl,rfl⟩ | ⟨k,rfl⟩ <;> rcases hh with ⟨rfl,rfl⟩ | ⟨k',rfl⟩
  · simp
  · simp[e1]
  · simp only[Int.toNat_natCast] at e2
    simp[e2]
  · simp[e1,e2]
theorem run_bounds3 (len cap:Nat) (hi mx:Value) (h:Int) {k k':IntKind} (hh:hi=.int k h) (hm:mx=.int k' h) (h0:0≤h) (h2:h≤cap) :
    (Instr.sliceBounds true len cap none (some hi) (some mx)).run P w=.ok (0,h.toNat,h.toNat) w:=by
  subst hh hm
  unfold Instr.sliceBounds
  have e1:∀(c:BoundsCode),(Instr.sliceBound (.int k' h) cap c).run P w=.ok h.toNat w:=fun c=>run_sliceBound (by omega) (by omega)
  have e2:∀(c:BoundsCode),(Instr.sliceBound (.int k h) h.toNat c).run P w=.ok h.toNat w:=fun c=>run_sliceBound h0 (by omega)
  simp[e1,e2]
theorem sl_part {esz:Nat} {xs:List D} {a:Option Addr} {cap:Nat} (h:DRep w M.I (.sl esz xs) (.slice a xs.length cap)) (l r cap':Nat) (h1:l≤r) (h2:r≤xs.length) (hc:r-l≤cap') (a':Option Addr)
    (ha:l<r→a'=a.map (·.add (l * esz))):DRep w M.I (.sl esz ((xs.drop l).take (r-l))) (.slice a' (r-l) cap'):=by
  by_cases hlr:l<r
  · have hpos:0<xs.length:=by omega
    obtain⟨b,off,cap2,u,e,hcap,hsz,hI,hcl,hr⟩:=inv_slcells h hpos
    simp at e
    obtain⟨rfl,rfl⟩:=e
    rw[ha hlr]
    simp only[Option.map_some,Addr.add_lit]
    refine .sl esz _ b (off+l * esz) (r-l) cap' (fun i j=>u (l+i) j) (by simp;omega) hc (fun x hx=>hsz x (List.mem_of_mem_drop (List.mem_of_mem_take hx))) ?_ ?_ ?_
    · intro i j hi hj
      have:=hI (l+i) j (by omega) hj
      rwa [Nat.add_mul,← Nat.add_assoc] at this
    · intro i j hi hj
      have:=hcl (l+i) j (by omega) hj
      rwa [Nat.add_mul,← Nat.add_assoc] at this
    · intro i j hi hj
      rw[getD_take _ _ hi,getD_drop]
      exact hr (l+i) j (by omega) hj
  · have:r-l=0:=by omega
    rw[this]
    simp only[List.take_zero]
    exact .sl0 _ _ _
theorem run_sliceAt_str {t:TypeId} (ht:P.underlying t=some .string) (b:ByteArray) (lo hi:Option Value) {l h m:Nat} (hb:(Instr.sliceBounds false b.size b.size lo hi none).run P w=.ok (l,h,m) w) :
    (Instr.sliceAt t (.string b) lo hi none).run P w=.ok (.string (b.extract l h)) w:=by
  simp[Instr.sliceAt,run_underlying ht,Instr.slice,hb]
theorem run_sliceAt_sl {t e:TypeId} {esz:Nat} (ht:P.underlying t=some (.slice e)) (hn:tsize P e=some esz) (a:Option Addr) (len cap:Nat) (lo hi mx:Option Value) {l h m:Nat} (hb:(Instr.sliceBounds true len cap lo hi mx).run P w=.ok (l,h,m) w) :
    (Instr.sliceAt t (.slice a len cap) lo hi mx).run P w=.ok (.slice (if m=l then a else a.map (·.add (l * esz))) (h-l) (m-l)) w:=by
  simp[Instr.sliceAt,run_underlying ht,Instr.slice,hb,run_tsize hn]
end
end Go.AE
namespace Go.AE
section
variable {P:Program} {w:World} {M:Mem} {s:Store}
theorem tipNone (g:Good w M s) {l n:Nat} (hl:s[l]?=some .res):Good w M (s.set l (.tip n))∧Ext w M s w M (s.set l (.tip n)):=by
  obtain⟨h1,h2⟩:=getD_getElem? hl
  have hB:M.B l=none:=by
    have:=g.obj l
    rw[h1] at this
    exact this
  have he:Ext w M s w M (s.set l (.tip n)):=by
    refine { Ext.refl w M s with len:=by simp,ob:=fun l' hl'=>?_ }
    by_cases h:l'=l
    · subst h
      rw[h1]
      trivial
    · rw[show (s.set l (.tip n)).getD l' .dead=s.getD l' .dead by simp[List.getD,List.getElem?_set,Ne.symm h]]
      exact obStep.refl M l' _
  refine⟨⟨g.imm,g.off,g.sep,fun l'=>?_,g.nle,g.nof⟩,he⟩
  by_cases h:l'=l
  · subst h
    rw[show (s.set l' (.tip n)).getD l' .dead=.tip n by simp[h2]]
    intro b o hb
    rw[hB] at hb
    simp at hb
  · rw[show (s.set l (.tip n)).getD l' .dead=s.getD l' .dead by simp[List.getD,List.getElem?_set,Ne.symm h]]
    exact (g.obj l').keep g he rfl (fun _ _ _=>rfl)
theorem eGrow_sound (g:Good w M s) {nw e:Nat} {a:Option Addr} (h:s[nw]?=some .res):After w M s ⟨s[nw]?=some .res,[(nw,.tip 0)],.gr nw e []⟩ (.slice a 0 0) w:=by
  have hl:=(getD_getElem? h).2
  obtain⟨h1,h2⟩:=tipNone (n:=0) g h
  refine⟨M,h1,h2,.gr _ _ _ _ ⟨.sl0 _ _ _,?_⟩⟩
  have hB:M.B nw=none:=by
    have:=g.obj nw
    rw[(getD_getElem? h).1] at this
    exact this
  simp only[setAll_one,List.getElem?_set_self hl]
  exact⟨by simp,fun _=>⟨a,0,rfl,.inl ⟨hB,rfl⟩⟩⟩
theorem reob (g:Good w M s) {l ver esz:Nat} {xs ys:List A} {b o:Nat} {c:Array Value} {E:TypeId} {f:Nat × Nat} (hs:s.getD l .dead=.cells ver esz xs) (hlen:ys.length=xs.length) (hB:M.B l=some (b,o)) (hc:w.heap[b]?=some (.cells c E f))
    (hu:unfrozen f o c.size) (hsz:o+xs.length * esz≤c.size) (hfit:∀y,y∈ys→y.fits esz=true)
    (hr:∀i j,i<ys.length→j<esz→ARep w M (s.set l (.cells ver esz ys)) ((ys.getD i .any).cells.getD j .any) (c.getD (o+i * esz+j) undef)) :
    Good w M (s.set l (.cells ver esz ys))∧Ext w M s w M (s.set l (.cells ver esz ys)):=by
  have h2:=(getD_ne hs (by simp)).2
  have he:Ext w M s w M (s.set l (.cells ver esz ys)):=by
    refine { Ext.refl w M s with len:=by simp,ob:=fun l' hl'=>?_ }
    by_cases h:l'=l
    · subst h
      rw[hs,show (s.set l' (.cells ver esz ys)).getD l' .dead=.cells ver esz ys by simp[h2]]
      simp[obStep,hlen]
    · rw[show (s.set l (.cells ver esz ys)).getD l' .dead=s.getD l' .dead by simp[List.getD,List.getElem?_set,Ne.symm h]]
      exact obStep.refl M l' _
  refine⟨⟨g.imm,g.off,g.sep,fun l'=>?_,g.nle,g.nof⟩,he⟩
  by_cases h:l'=l
  · subst h
    rw[show (s.set l' (.cells ver esz ys)).getD l' .dead=.cells ver esz ys by simp[h2]]
    exact .inr ⟨b,o,c,E,f,hB,hc,hu,by rw[hlen];exact hsz,hfit,hr⟩
  · rw[show (s.set l (.cells ver esz ys)).getD l' .dead=s.getD l' .dead by simp[List.getD,List.getElem?_set,Ne.symm h]]
    exact (g.obj l').keep g he rfl (fun _ _ _=>rfl)
theorem eBalloc_sound (g:Good w M s) {t tb:TypeId} {eb nw:Nat} (hn:tinfo P t=some (2,eb,.agg [.nilp,.nilsl])) (h:(eBalloc s nw t tb).pre) :
    ∃r w',(Instr.alloc t true (.tuple #[])).run P w=.ok r w'∧After w M s (eBalloc s nw t tb) r w':=by
  obtain⟨h1,h2⟩:=h
  obtain⟨zv,hz,hd⟩:=run_tzero hn w
  have hzv:zv=.agg #[.pointer none,.slice none 0 0]:=by
    have:=hd w M.I
    cases this with
    | agg cs vs hl ho hr =>
      have a0:=hr 0 (by simp)
      have a1:=hr 1 (by simp)
      simp only[List.length_cons,List.length_nil] at hl
      generalize hv0:vs.getD 0 undef=v0 at a0
      generalize hv1:vs.getD 1 undef=v1 at a1
      have b0:v0=.pointer none:=by cases (show DRep w M.I .nilp v0 from a0);rfl
      have b1:v1=.slice none 0 0:=by cases (show DRep w M.I .nilsl v1 from a1);rfl
      congr 1
      apply Array.ext
      · simpa using hl
      · intro i i1 i2
        have hi:i=0∨i=1:=by simp at i2;omega
        rcases hi with rfl | rfl
        · simp[Array.getD,i1,b0] at hv0;simpa using hv0
        · simp[Array.getD,i1,b1] at hv1;simpa using hv1
  subst hzv
  obtain⟨g1,e1⟩:=tipNone (n:=0) g h2
  have hl1:nw+1<s.length:=(getD_getElem? h2).2
  have hl0:nw<s.length:=(getD_getElem? h1).2
  have h1':(s.set (nw+1) (.tip 0))[nw]?=some .res:=by rw[List.getElem?_set_ne (by omega)];exact h1
  have hB:M.B (nw+1)=none:=by
    have:=g.obj (nw+1)
    rw[(getD_getElem? h2).1] at this
    exact this
  obtain⟨c0,hc0⟩:∃c0,c0=(#[.pointer none,.slice none 0 0]:Array Value):=⟨_,rfl⟩
  have hnew:=new_cells (xs:=[.agg [.d .nilp,.gr (nw+1) 1 []]]) (w':=w.alloc (.cells c0 t)) (E:=t) (c:=c0) (esz:=2) g1 h1' ⟨rfl,rfl,rfl⟩ rfl (by simp[hc0]) (by intro x hx;simp at hx;subst hx;rfl) (fun i j hi hj=>by
    obtain rfl:i=0:=by simpa using hi
    have:j=0∨j=1:=by omega
    rcases this with rfl | rfl
    · subst hc0;exact .d _ _ .nilp
    · subst hc0
      refine .gr _ _ _ _ ⟨.sl0 _ _ _,?_⟩
      rw[List.getElem?_set_self hl1]
      exact⟨Nat.le_refl _,fun _=>⟨none,0,rfl,.inl ⟨hB,rfl⟩⟩⟩)
  obtain⟨g2,e2⟩:=hnew
  generalize hW:w.alloc (.cells c0 t)=w2 at g2 e2
  have hh:w2.heap[w.heap.size]?=some (.cells c0 t):=by rw[← hW];exact heap_push_new rfl
  have hs2:((s.set (nw+1) (.tip 0)).set nw (.cells 0 2 [.agg [.d .nilp,.gr (nw+1) 1 []]])).getD nw .dead=.cells 0 2 [.agg [.d .nilp,.gr (nw+1) 1 []]]:=by simp[hl0]
  have hMB:(M.push w.heap.size nw 0).B nw=some (w.heap.size,0):=by simp[Mem.push]
  obtain⟨g3,e3⟩:=reob (ys:=[.agg [.tref nw 0 t,.bgr (nw+1) tb []]]) g2 hs2 rfl hMB hh (fun j _ _=>by omega) (by simp[hc0]) (by intro x hx;simp at hx;subst hx;rfl) (fun i j hi hj=>by
    obtain rfl:i=0:=by simpa using hi
    have:j=0∨j=1:=by omega
    rcases this with rfl | rfl
    · subst hc0
      refine .tref _ _ _ _ rfl ?_
      unfold trefOk
      rw[List.getElem?_set_self (by simpa using hl0)]
      exact⟨Nat.le_refl _,fun _=>⟨w.heap.size,hMB,⟨_,_,hh,rfl⟩,.inl rfl⟩⟩
    · subst hc0
      refine .bgr _ _ _ _ ⟨.sl0 _ _ _,?_⟩ (.inl rfl)
      rw[List.getElem?_set_ne (by omega),List.getElem?_set_ne (by omega),List.getElem?_set_self hl1]
      exact⟨Nat.le_refl _,fun _=>⟨none,0,rfl,.inl ⟨by simpa [Mem.push] using hB,rfl⟩⟩⟩)
  rw[List.set_set] at g3 e3
  refine⟨.pointer (some ⟨w.heap.size,0,none⟩),w2,?_,_,g3,Ext.trans g e1 g1 (Ext.trans g1 e2 g2 e3),?_⟩
  · simp[Instr.alloc,hz,newVar,newRow,← hW,hc0]
    rfl
  · refine .ref _ _ _ _ _ rfl ?_
    unfold refOk
    simp only[eBalloc,Store.setAll]
    rw[List.getElem?_set_self (by simpa using hl0)]
    exact⟨Nat.le_refl _,fun _=>⟨w.heap.size,0,hMB,by simp⟩⟩
theorem eMkcap_sound (g:Good w M s) {t e:TypeId} (ht:P.underlying t=some (.slice e)) {esz eb nw:Nat} {z:D} (hn:tinfo P e=some (esz,eb,z)) {x:A} {v:Value} (hx:ARep w M s x v)
    (h:(eMkcap s nw esz eb z x).pre):∃r w',(Instr.makeSlice t (.int .i64 0) v).run P w=.ok r w'∧After w M s (eMkcap s nw esz eb z x) r w':=by
  unfold eMkcap at h ⊢
  split at h
  · rename_i n
    obtain⟨h1,h2,h3,h4,h5⟩:=h
    rw[inv_int hx]
    obtain⟨i,zv,hi,hsz,hby,hz,hzd⟩:=tinfo_spec hn
    subst hsz hby
    obtain⟨m,rfl⟩:=Int.eq_ofNat_of_zero_le h3
    simp only[Int.toNat_natCast] at *
    have hroom:(i.bytes:Int) * (m:Int)≤281474976710656:=by
      unfold room at h4
      have:((m * i.bytes:Nat):Int)≤140737488355328:=by omega
      rw[Int.natCast_mul,Int.mul_comm] at this
      omega
    have hr:=run_make (P:=P) w t e i zv ht hi hz .i64 .i64 0 (m:Int) (by omega) (by omega) hroom (by omega)
    simp only[Int.toNat_natCast,Int.toNat_zero] at hr
    obtain⟨c0,hc0⟩:∃c0,c0=madeCells zv.cells (m * i.size):=⟨_,rfl⟩
    rw[← hc0] at hr
    have hcs:c0.size=m * i.size:=by rw[hc0];simp[size_madeCells]
    obtain⟨k1,k2⟩:=getD_getElem? h1
    have hob:obStep M (M.push w.heap.size nw 0) nw (s.getD nw .dead) (.tip 0):=by rw[k1];trivial
    have hst:Still w (w.alloc (.cells c0 e)):=⟨rfl,rfl,rfl⟩
    have hh:(w.alloc (.cells c0 e)).heap=w.heap.push (.cells c0 e):=rfl
    have he:=Ext.push g hst hh k2 hob
    have hb:(w.alloc (.cells c0 e)).heap[w.heap.size]?=some (.cells c0 e (0,0)):=heap_push_new hh
    refine⟨_,_,hr,M.push w.heap.size nw 0,?_,he,?_⟩
    · refine Good.push g hst hh k2 hob (fun j hj=>absurd hj (by omega)) ?_
      intro b o hbo
      simp only[Mem.push,if_true,Option.some.injEq,Prod.mk.injEq] at hbo
      obtain⟨rfl,rfl⟩:=hbo
      exact⟨c0,e,(0,0),hb,fun j _ _=>by omega,by omega⟩
    · refine .gr _ _ _ _ ⟨.sl0 _ _ _,?_⟩
      simp only[setAll_one]
      rw[List.getElem?_set_self k2]
      refine⟨Nat.le_refl _,fun _=>⟨_,m,rfl,.inr ⟨w.heap.size,0,c0,e,(0,0),by simp[Mem.push],by omega,by simp,hb,by rw[hcs];simp,by simp⟩⟩⟩
  · exact h.elim
theorem equal_nil_slice {t e:TypeId} (ht:P.underlying t=some (.slice e)) (a:Option Addr) (n c:Nat):(Op.equal t (.slice a n c) (.slice none 0 0)).run P w=.ok a.isNone w:=by
  have h:∀d:Nat,(Op.equalIn (d+1) t (.slice a n c) (.slice none 0 0)).run P w=.ok a.isNone w:=fun d=>by
    cases a <;> simp[Op.equalIn,run_underlying ht]
  exact h 9999
theorem equal_nil_ptr {t e:TypeId} (ht:P.underlying t=some (.pointer e)) (a:Option Addr):(Op.equal t (.pointer a) (.pointer none)).run P w=.ok a.isNone w:=by
  have h:∀d:Nat,(Op.equalIn (d+1) t (.pointer a) (.pointer none)).run P w=.ok a.isNone w:=fun d=>by
    cases a <;> simp[Op.equalIn,run_underlying ht]
  exact h 9999
theorem equal_nil_fn {t:TypeId} {x y z} (ht:P.underlying t=some (.func x y z)) (f:Fn) (a b:Array Value):(Op.equal t (.func f a b) .nilFunc).run P w=.ok false w:=by
  have h:∀d:Nat,(Op.equalIn (d+1) t (.func f a b) .nilFunc).run P w=.ok false w:=fun d=>by
    simp[Op.equalIn,run_underlying ht]
  exact h 9999
theorem equal_nil_nilfn {t:TypeId} {x y z} (ht:P.underlying t=some (.func x y z)):(Op.equal t .nilFunc .nilFunc).run P w=.ok true w:=by
  have h:∀d:Nat,(Op.equalIn (d+1) t .nilFunc .nilFunc).run P w=.ok true w:=fun d=>by
    simp[Op.equalIn,run_underlying ht]
  exact h 9999
theorem eIsnil_sound (g:Good w M s) {k:Nat} {neg:Bool} {t:TypeId} {x:A} {v vy:Value} (hk:(k=1∧vy=.slice none 0 0∧∃e,P.underlying t=some (.slice e))∨(k=2∧vy=.pointer none∧∃e,P.underlying t=some (.pointer e))∨(k=3∧vy=.nilFunc∧∃a b c,P.underlying t=some (.func a b c)))
    (ox oy:Operand) (hx:ARep w M s x v) (h:(eIsnil s k neg x).pre) :
    ∃r,(do eqGuard (bif neg then .neq else .eql) t ox oy v vy;binOp (bif neg then .neq else .eql) t v vy:Sem Value).run P w=.ok r w∧After w M s (eIsnil s k neg x) r w:=by
  have key:∀b:Bool,(Op.equal t v vy).run P w=.ok b w→(do eqGuard (bif neg then .neq else .eql) t ox oy v vy;binOp (bif neg then .neq else .eql) t v vy:Sem Value).run P w=.ok (.bool (bif neg then !b else b)) w:=by
    intro b hb
    have hyv:vy=.slice none 0 0∨vy=.pointer none∨vy=.nilFunc:=by
      rcases hk with ⟨_,rfl,_⟩ | ⟨_,rfl,_⟩ | ⟨_,rfl,_⟩
      · exact .inl rfl
      · exact .inr (.inl rfl)
      · exact .inr (.inr rfl)
    rcases hyv with rfl | rfl | rfl <;> cases neg <;> cases v <;> simp[binOp,hb,eqGuard]
  have here:∀e:Eff,e.fp=[]→∀b,e.res=.d (.bool b)→After w M s e (.bool b) w:=fun e h1 b h2=>After.here g h1 (by rw[h2];exact .d _ _ (.bool b))
  unfold eIsnil at h ⊢
  split at h
  case h_1 =>
    obtain⟨_,rfl,e,ht⟩ | ⟨h1,_⟩ | ⟨h1,_⟩:=hk
    · cases inv_d hx
      have:=key true (by first | exact equal_nil_slice ht _ _ _ | exact equal_nil_ptr ht _ | exact equal_nil_fn ht _ _ _ | exact equal_nil_nilfn ht)
      exact⟨_,this,here _ rfl _ (by cases neg <;> rfl)⟩
    all_goals
      have h2:k=1:=h
      omega
  case h_2 =>
    obtain⟨h1,_⟩ | ⟨_,rfl,e,ht⟩ | ⟨h1,_⟩:=hk
    · have h2:k=2:=h
      omega
    · cases inv_d hx
      have:=key true (by first | exact equal_nil_slice ht _ _ _ | exact equal_nil_ptr ht _ | exact equal_nil_fn ht _ _ _ | exact equal_nil_nilfn ht)
      exact⟨_,this,here _ rfl _ (by cases neg <;> rfl)⟩
    · have h2:k=2:=h
      omega
  case h_3 =>
    obtain⟨h1,_⟩ | ⟨h1,_⟩ | ⟨_,rfl,a,b,c,ht⟩:=hk
    · have h2:k=3:=h
      omega
    · have h2:k=3:=h
      omega
    · cases inv_d hx
      have:=key true (by first | exact equal_nil_slice ht _ _ _ | exact equal_nil_ptr ht _ | exact equal_nil_fn ht _ _ _ | exact equal_nil_nilfn ht)
      exact⟨_,this,here _ rfl _ (by cases neg <;> rfl)⟩
  case h_4 =>
    obtain⟨h3,h4⟩:k=1∧_≠[]:=h
    obtain⟨_,rfl,e,ht⟩ | ⟨h1,_⟩ | ⟨h1,_⟩:=hk
    · cases inv_d hx with
      | sl0=>exact absurd rfl h4
      | sl =>
        have:=key false (by first | exact equal_nil_slice ht _ _ _ | exact equal_nil_ptr ht _ | exact equal_nil_fn ht _ _ _ | exact equal_nil_nilfn ht)
        exact⟨_,this,here _ rfl _ (by cases neg <;> rfl)⟩
    all_goals omega
  case h_5 =>
    obtain⟨h3,h4⟩:k=1∧_≠[]:=h
    obtain⟨_,rfl,e,ht⟩ | ⟨h1,_⟩ | ⟨h1,_⟩:=hk
    · cases hx with
      | gr l esz xs v hg =>
        cases hg.1 with
        | sl0=>exact absurd rfl h4
        | sl =>
          have:=key false (by first | exact equal_nil_slice ht _ _ _ | exact equal_nil_ptr ht _ | exact equal_nil_fn ht _ _ _ | exact equal_nil_nilfn ht)
          exact⟨_,this,here _ rfl _ (by cases neg <;> rfl)⟩
    all_goals omega
  case h_6 =>
    have h3:k=3:=h
    obtain⟨h1,_⟩ | ⟨h1,_⟩ | ⟨_,rfl,a,b,c,ht⟩:=hk
    · omega
    · omega
    · cases inv_d hx
      have:=key false (by first | exact equal_nil_slice ht _ _ _ | exact equal_nil_ptr ht _ | exact equal_nil_fn ht _ _ _ | exact equal_nil_nilfn ht)
      exact⟨_,this,here _ rfl _ (by cases neg <;> rfl)⟩
  case h_7 =>
    have h3:k=3:=h
    obtain⟨h1,_⟩ | ⟨h1,_⟩ | ⟨_,rfl,a,b,c,ht⟩:=hk
    · omega
    · omega
    · cases hx
      have:=key false (by first | exact equal_nil_slice ht _ _ _ | exact equal_nil_ptr ht _ | exact equal_nil_fn ht _ _ _ | exact equal_nil_nilfn ht)
      exact⟨_,this,here _ rfl _ (by cases neg <;> rfl)⟩
  case h_8 =>
    have h3:k=2:=h
    obtain⟨h1,_⟩ | ⟨_,rfl,e,ht⟩ | ⟨h1,_⟩:=hk
    · omega
    · cases hx with
      | iptr cs v hp =>
        obtain⟨b,off,rfl,_⟩:=hp
        have:=key false (by first | exact equal_nil_slice ht _ _ _ | exact equal_nil_ptr ht _ | exact equal_nil_fn ht _ _ _ | exact equal_nil_nilfn ht)
        exact⟨_,this,here _ rfl _ (by cases neg <;> rfl)⟩
    · omega
  case h_9 =>
    split at h
    · rename_i l ver i j _ ver' e' xs hs
      obtain⟨h3,h4⟩:=h
      obtain⟨h1,_⟩ | ⟨_,rfl,e,ht⟩ | ⟨h1,_⟩:=hk
      · omega
      · subst h4
        obtain⟨b,o,_,rfl⟩:=inv_ref hx hs
        have:=key false (by first | exact equal_nil_slice ht _ _ _ | exact equal_nil_ptr ht _ | exact equal_nil_fn ht _ _ _ | exact equal_nil_nilfn ht)
        refine⟨_,this,?_⟩
        have hset:s.set l (.cells ver e' xs)=s:=set_same hs (by simp)
        refine⟨M,?_,?_,?_⟩ <;> simp only[setAll_one,hset]
        · exact g
        · exact Ext.refl w M s
        · cases neg <;> exact .d _ _ (.bool _)
      · omega
    · exact h.elim
  case h_10 =>
    split at h
    · rename_i l ver off n _ ver' e' xs hs
      obtain⟨h3,h4,h5⟩:=h
      obtain⟨_,rfl,e,ht⟩ | ⟨h1,_⟩ | ⟨h1,_⟩:=hk
      · subst h4
        obtain⟨a,m,cap,rfl,ha⟩:∃a m cap,v=.slice (some a) m cap∧True:=by
          rcases inv_own hx hs with ⟨_,_,h6,_⟩ | ⟨b,o,a,cap,c,E,f,_,rfl,_,h8,h9,_⟩
          · omega
          · have:=h9 (by omega)
            subst this
            exact⟨_,_,_,rfl,trivial⟩
        have:=key false (by first | exact equal_nil_slice ht _ _ _ | exact equal_nil_ptr ht _ | exact equal_nil_fn ht _ _ _ | exact equal_nil_nilfn ht)
        refine⟨_,this,?_⟩
        have hset:s.set l (.cells ver e' xs)=s:=set_same hs (by simp)
        refine⟨M,?_,?_,?_⟩ <;> simp only[setAll_one,hset]
        · exact g
        · exact Ext.refl w M s
        · cases neg <;> exact .d _ _ (.bool _)
      · omega
      · omega
    · exact h.elim
  case h_11=>exact h.elim
theorem optRep_none {x:Option A} {v:Option Value} (h:(x=none∧v=none)∨∃a b,x=some a∧v=some b∧ARep w M s a b) (hx:x=none):v=none:=by
  rcases h with ⟨_,h⟩ | ⟨a,b,h,_⟩
  · exact h
  · rw[h] at hx;simp at hx
abbrev OptRep (w:World) (M:Mem) (s:Store) (x:Option A) (v:Option Value):Prop:=(x=none∧v=none)∨∃a b,x=some a∧v=some b∧ARep w M s a b
theorem sl_cap {esz:Nat} {xs:List D} {v:Value} (h:DRep w M.I (.sl esz xs) v):∃a cap,v=.slice a xs.length cap∧xs.length≤cap:=by
  cases h with
  | sl0 esz a cap=>exact⟨a,cap,rfl,by simp⟩
  | sl esz xs b off n cap u hn hcap hsz hI hc hr=>subst hn;exact⟨_,_,rfl,hcap⟩
theorem bnd_lo {d:Int} {x:Option A} {v:Option Value} (hx:OptRep w M s x v) (h:(bnd d x).1):(v=none∧(bnd d x).2=d)∨∃k,v=some (.int k (bnd d x).2):=by
  rcases bnd_sound hx h with ⟨h1,_,h2⟩ | h1
  · exact .inl ⟨h1,h2⟩
  · exact .inr h1
theorem sl_slice2 {t e:TypeId} {esz:Nat} (ht:P.underlying t=some (.slice e)) (hn:tsize P e=some esz) {xs:List D} {v:Value} (hx:DRep w M.I (.sl esz xs) v) {lo hi:Option A} {vlo vhi:Option Value}
    (hlo:OptRep w M s lo vlo) (hhi:OptRep w M s hi vhi) (h1:(bnd 0 lo).1) (h2:(bnd xs.length hi).1) (h3:0≤(bnd 0 lo).2) (h4:(bnd 0 lo).2≤(bnd xs.length hi).2) (h5:(bnd xs.length hi).2≤xs.length) :
    ∃r,(Instr.sliceAt t v vlo vhi none).run P w=.ok r w∧DRep w M.I (.sl esz ((xs.drop (bnd 0 lo).2.toNat).take ((bnd xs.length hi).2.toNat-(bnd 0 lo).2.toNat))) r:=by
  obtain⟨a,cap,rfl,hcap⟩:=sl_cap hx
  have hb:=run_bounds2 (P:=P) (w:=w) true xs.length cap vlo vhi _ _ (bnd_lo hlo h1) (bnd_lo hhi h2) h3 h4 h5 hcap
  generalize (bnd 0 lo).2=l at *
  generalize (bnd (↑xs.length) hi).2=h at *
  refine⟨_,run_sliceAt_sl ht hn a _ _ _ _ _ hb,sl_part hx l.toNat h.toNat _ (by omega) (by omega) (by omega) _ (fun hlt=>?_)⟩
  rw[if_neg (by omega)]
theorem sl_slice3 (g:Good w M s) {t e:TypeId} {esz nw:Nat} (ht:P.underlying t=some (.slice e)) (hn:tsize P e=some esz) {xs:List D} {v:Value} (hx:DRep w M.I (.sl esz xs) v) {hi:Option A} {m:A} {vhi:Option Value} {vm:Value}
    (hhi:OptRep w M s hi vhi) (hm:ARep w M s m vm) (h1:(bnd 0 hi).1) (h2:(bnd 0 (some m)).1) (h3:(bnd 0 hi).2=(bnd 0 (some m)).2) (h4:0≤(bnd 0 hi).2) (h5:(bnd 0 hi).2≤xs.length) (hnz:hi≠none)
    (hnw:s[nw]?=some .res) :
    ∃r,(Instr.sliceAt t v none vhi (some vm)).run P w=.ok r w∧Good w M (s.set nw (.tip (bnd 0 hi).2.toNat))∧Ext w M s w M (s.set nw (.tip (bnd 0 hi).2.toNat)) ∧
      ARep w M (s.set nw (.tip (bnd 0 hi).2.toNat)) (.gr nw esz (xs.take (bnd 0 hi).2.toNat)) r:=by
  obtain⟨a,cap,rfl,hcap⟩:=sl_cap hx
  obtain⟨k,hk⟩:∃k,vhi=some (.int k (bnd 0 hi).2):=by
    rcases bnd_sound hhi h1 with ⟨_,h,_⟩ | h
    · exact absurd h hnz
    · exact h
  obtain⟨k',hk'⟩:∃k,vm=.int k (bnd 0 hi).2:=by
    rw[h3]
    rcases bnd_sound (M:=M) (s:=s) (w:=w) (d:=0) (x:=some m) (v:=some vm) (.inr ⟨m,vm,rfl,rfl,hm⟩) h2 with ⟨h,_⟩ | ⟨k,h⟩
    · simp at h
    · exact⟨k,by simpa using h⟩
  have hb:=run_bounds3 (P:=P) (w:=w) xs.length cap (.int k (bnd 0 hi).2) vm (bnd 0 hi).2 rfl hk' h4 (by omega)
  subst hk
  generalize (bnd 0 hi).2=h at *
  obtain⟨t1,t2⟩:=tipNone (n:=h.toNat) g hnw
  have hl:=(getD_getElem? hnw).2
  have hB:M.B nw=none:=by
    have:=g.obj nw
    rw[(getD_getElem? hnw).1] at this
    exact this
  refine⟨_,run_sliceAt_sl ht hn a _ _ _ _ _ hb,t1,t2,.gr _ _ _ _ ⟨?_,?_⟩⟩
  · have:=sl_part hx 0 h.toNat (h.toNat-0) (by omega) (by omega) (by omega) (if h.toNat=0 then a else a.map (·.add (0 * esz))) (fun hlt=>by rw[if_neg (by omega)])
    simpa using this
  · simp only[List.getElem?_set_self hl]
    have hlen:(xs.take h.toNat).length=h.toNat:=by simp;omega
    exact⟨by omega,fun _=>⟨_,_,rfl,.inl ⟨hB,by omega⟩⟩⟩
theorem eSlice_sound (g:Good w M s) {t:TypeId} {str:Bool} {esz nw:Nat} (ht:(str=true∧P.underlying t=some .string)∨(str=false∧∃e,P.underlying t=some (.slice e)∧tsize P e=some esz)) {x:A} {v:Value}
    (hx:ARep w M s x v) {lo hi mx:Option A} {vlo vhi vmx:Option Value} (hlo:OptRep w M s lo vlo) (hhi:OptRep w M s hi vhi) (hmx:OptRep w M s mx vmx) (h:(eSlice s nw str esz x lo hi mx).pre) :
    ∃r,(Instr.sliceAt t v vlo vhi vmx).run P w=.ok r w∧After w M s (eSlice s nw str esz x lo hi mx) r w:=by
  unfold eSlice at h ⊢
  split at h
  · rename_i bs
    obtain⟨rfl,h0,h1,h2,h3,h4,h5⟩:=h
    simp at ht
    have hv:=optRep_none hmx h0
    subst hv
    rw[inv_str hx]
    have hb:=run_bounds2 (P:=P) (w:=w) false bs.length bs.length vlo vhi _ _ (bnd_lo hlo h1) (bnd_lo hhi h2) h3 h4 h5 (Nat.le_refl _)
    refine⟨_,run_sliceAt_str ht _ _ _ hb,After.here g rfl ?_⟩
    have e:∀a b,(⟨bs.toArray⟩:ByteArray).extract a b=⟨((bs.drop a).take (b-a)).toArray⟩:=by
      intro a b
      apply ByteArray.ext
      apply Array.ext'
      simp
    rw[e]
    exact .d _ _ (.str _)
  · obtain⟨rfl,h0,h1,h2,h3,h4⟩:=h
    simp at ht
    obtain⟨e,ht,hn⟩:=ht
    have hv:=optRep_none hmx h0
    subst hv
    have hd:=inv_d hx
    cases hd
    have b1:=bnd_lo hlo h1
    have b2:=bnd_lo hhi h2
    rw[h3] at b1
    rw[h4] at b2
    have hb:=run_bounds2 (P:=P) (w:=w) true 0 0 vlo vhi 0 0 b1 b2 (by omega) (by omega) (by omega) (Nat.le_refl _)
    exact⟨_,run_sliceAt_sl ht hn _ _ _ _ _ _ hb,After.here g rfl (.d _ _ .nilsl)⟩
  · split at h
    · obtain⟨rfl,rfl,h1,h2,h3,h4,h5⟩:=h
      simp at ht
      obtain⟨e,ht,hn⟩:=ht
      have hv:=optRep_none hmx rfl
      subst hv
      obtain⟨r,r1,r2⟩:=sl_slice2 ht hn (inv_d hx) hlo hhi h1 h2 h3 h4 h5
      exact⟨r,r1,After.here g rfl (.d _ _ r2)⟩
    · rename_i e xs mx m
      obtain⟨rfl,rfl,rfl,hz,h1,h2,h3,h4,h5,h6⟩:=h
      simp at ht
      obtain⟨e,ht,hn⟩:=ht
      have hv:=optRep_none hlo rfl
      subst hv
      rcases hmx with ⟨h,_⟩ | ⟨m',vm,h,rfl,hm⟩
      · simp at h
      · simp at h
        subst h
        obtain⟨r,r1,r2,r3,r4⟩:=sl_slice3 g ht hn (inv_d hx) hhi hm h1 h2 h3 h4 h5 (by rintro rfl;simp at hz) h6
        exact⟨r,r1,M,r2,r3,r4⟩
  · split at h
    · obtain⟨rfl,rfl,h1,h2,h3,h4,h5⟩:=h
      simp at ht
      obtain⟨e,ht,hn⟩:=ht
      have hv:=optRep_none hmx rfl
      subst hv
      cases hx with
      | gr l esz xs v hx =>
        obtain⟨r,r1,r2⟩:=sl_slice2 ht hn hx.1 hlo hhi h1 h2 h3 h4 h5
        exact⟨r,r1,After.here g rfl (.d _ _ r2)⟩
    · rename_i e xs mx m
      obtain⟨rfl,rfl,rfl,hz,h1,h2,h3,h4,h5,h6⟩:=h
      simp at ht
      obtain⟨e,ht,hn⟩:=ht
      have hv:=optRep_none hlo rfl
      subst hv
      rcases hmx with ⟨h,_⟩ | ⟨m',vm,h,rfl,hm⟩
      · simp at h
      · simp at h
        subst h
        cases hx with
        | gr l esz xs v hx =>
          obtain⟨r,r1,r2,r3,r4⟩:=sl_slice3 g ht hn hx.1 hhi hm h1 h2 h3 h4 h5 (by rintro rfl;simp at hz) h6
          exact⟨r,r1,M,r2,r3,r4⟩
  · rename_i l0 ver off n
    split at h
    · rename_i ver' e' xs hs
      obtain⟨rfl,h0,rfl,rfl,h1,h2,h3,h4,h5⟩:=h
      simp at ht
      obtain⟨e,ht,hn⟩:=ht
      have hv:=optRep_none hmx h0
      subst hv
      rcases inv_own hx hs with ⟨hB,hn0,rfl,rfl⟩ | ⟨b,o,a,cap,c,E,f,hB,rfl,k1,k2,k3,k4,k5⟩
      · have hb:=run_bounds2 (P:=P) (w:=w) true 0 0 vlo vhi _ _ (bnd_lo hlo h1) (bnd_lo hhi h2) h3 h4 h5 (Nat.le_refl _)
        refine⟨_,run_sliceAt_sl ht hn none _ _ _ _ _ hb,After.look g hs (by simp) rfl ?_⟩
        have e1:(bnd 0 lo).2=0:=by omega
        have e2:(bnd ((0:Nat):Int) hi).2=0:=by omega
        rw[e1,e2]
        refine .own _ _ _ _ _ rfl ?_
        simp only[ownOk,(getD_ne hs (by simp)).1]
        have e3:(bnd 0 hi).2=0:=by simpa using e2
        exact⟨Nat.le_refl _,fun _=>.inl ⟨hB,by simpa [e1,e3] using hn0,by simp[e1,e3],by simp[e1,e3]⟩⟩
      have hb:=run_bounds2 (P:=P) (w:=w) true n cap vlo vhi _ _ (bnd_lo hlo h1) (bnd_lo hhi h2) h3 h4 h5 k2
      refine⟨_,run_sliceAt_sl ht hn a _ _ _ _ _ hb,After.look g hs (by simp) rfl (.own _ _ _ _ _ rfl ?_)⟩
      generalize (bnd 0 lo).2=l at *
      generalize (bnd (↑n) hi).2=h at *
      simp only[ownOk,(getD_ne hs (by simp)).1]
      refine⟨Nat.le_refl _,fun _=>.inr ⟨b,o,_,_,c,E,f,hB,rfl,by omega,by omega,fun hc=>?_,k4,?_⟩⟩
      · rw[if_neg (by omega),k3 (by omega)]
        simp only[Option.map_some,Addr.add_lit,Nat.add_mul,Nat.add_assoc]
      · have:off+l.toNat+(cap-l.toNat)=off+cap:=by omega
        rw[this]
        exact k5
    · exact h.elim
  · exact h.elim
end
end Go.AE
namespace Go.AE
section
variable {P:Program} {w:World} {M:Mem} {s:Store}
theorem run_checkKey {t:TypeId} {kk:Nat} (ht:(kk=0∧∃k,P.underlying t=some (.int k))∨(kk=1∧P.underlying t=some .string)) {kd:D} {v:Value} (hk:DRep w M.I kd v) (ho:keyOk kk kd=true) (emp:Bool) :
    (Instr.checkKey emp 10000 t v).run P w=.ok () w:=by
  suffices h:∀n,(Instr.checkKey emp (n+1) t v).run P w=.ok () w from h 9999
  intro n
  cases kd <;> simp[keyOk] at ho <;> cases hk <;> subst ho
  · obtain⟨k,ht⟩:∃k,P.underlying t=some (.int k):=by simpa using ht
    simp[Instr.checkKey,run_underlying ht]
  · have ht:P.underlying t=some .string:=by simpa using ht
    simp[Instr.checkKey,run_underlying ht]
def kindOf (kk:Nat) (d:TypeDesc):Prop:=(kk=0∧∃k,d=.int k)∨(kk=1∧d=.string)
theorem sameNow_spec {kk:Nat} {d:TypeDesc} (hd:kindOf kk d) {a b:D} {va vb:Value} (ha:DRep w M.I a va) (hb:DRep w M.I b vb) (h1:keyOk kk a=true) (h2:keyOk kk b=true)
    (h3:keyKind a b):Instr.sameNow d va vb=some (keyEq a b):=by
  rcases hd with ⟨rfl,k,rfl⟩ | ⟨rfl,rfl⟩
  · cases a <;> simp[keyOk] at h1
    cases b <;> simp[keyOk] at h2
    cases ha;cases hb
    simp only[keyKind] at h3
    subst h3
    simp[Instr.sameNow,keyEq,beq_dec]
  · cases a <;> simp[keyOk] at h1
    cases b <;> simp[keyOk] at h2
    cases ha;cases hb
    have:∀x y:List UInt8,((⟨x.toArray⟩:ByteArray) == ⟨y.toArray⟩)=decide (x=y):=by
      intro x y
      rw[beq_toListBytes]
      simp[beq_dec]
    simp[Instr.sameNow,keyEq,this]
theorem findNow_spec {kk:Nat} {d:TypeDesc} (hd:kindOf kk d) {kd x:D} {kv:Value} (hk:DRep w M.I kd kv):∀(ms:List (D × D)) (es:List MapEntry) (i:Nat),keysOk kk kd ms→es.length=ms.length →
    (∀k,k<ms.length→DRep w M.I (ms.getD k default).1 (es.getD k default).key∧DRep w M.I (ms.getD k default).2 (es.getD k default).val) →
    (mlook kd ms=none∧Instr.findNow d kv es i=some none∧mset kd x ms=ms++[(kd,x)]) ∨
    ∃j y v,j<ms.length∧mlook kd ms=some y∧Instr.findNow d kv es i=some (some (i+j,v))∧DRep w M.I y v∧mset kd x ms=ms.set j (kd,x)∧keyEq kd (ms.getD j default).1=true:=by
  intro ms
  induction ms with
  | nil =>
    intro es i hko hl hr
    left
    simp at hl
    subst hl
    simp[mlook,Instr.findNow,mset]
  | cons m ms ih =>
    intro es i hko hl hr
    obtain⟨a,y⟩:=m
    cases es with
    | nil=>simp at hl
    | cons e es =>
      simp only[List.length_cons,Nat.add_right_cancel_iff] at hl
      have h0:=hr 0 (by simp)
      simp only[List.getD_cons_zero] at h0
      have hk2:=hko.2 (a,y) (by simp)
      have hs:=sameNow_spec hd hk h0.1 hko.1 hk2.1 hk2.2
      by_cases he:keyEq kd a=true
      · right
        refine⟨0,y,e.val,by simp,by simp[mlook,he],by simp[Instr.findNow,hs,he],h0.2,by simp[mset,he],by simpa using he⟩
      · have he':keyEq kd a=false:=by simpa using he
        have:=ih es (i+1) ⟨hko.1,fun e he=>hko.2 e (by simp[he])⟩ hl (fun k hk=>by have:=hr (k+1) (by simpa using hk);simpa using this)
        rcases this with ⟨h1,h2,h3⟩ | ⟨j,y',v,h1,h2,h3,h4,h5,h6⟩
        · left
          exact⟨by simp[mlook,he',h1],by simp[Instr.findNow,hs,he',h2],by simp[mset,he',h3]⟩
        · right
          refine⟨j+1,y',v,by simpa using h1,by simp[mlook,he',h2],by simp[Instr.findNow,hs,he',h3];omega,h4,by simp[mset,he',h5],by simpa using h6⟩
theorem eLookup_sound (g:Good w M s) {t kt et:TypeId} (ht:P.underlying t=some (.map kt et)) {kk n eb:Nat} {z:D} (hkt:(kk=0∧∃k,P.underlying kt=some (.int k))∨(kk=1∧P.underlying kt=some .string)) (hz:tinfo P et=some (n,eb,z))
    {m k:A} {vm vk:Value} (hm:ARep w M s m vm) (hk:ARep w M s k vk) {ok:Bool} (h:(eLookup s ok kk z m k).pre) :
    ∃r,(Instr.lookup t vm vk ok).run P w=.ok r w∧After w M s (eLookup s ok kk z m k) r w:=by
  unfold eLookup at h ⊢
  split at h
  · rename_i l kd
    split at h
    · rename_i es hs
      simp only at h
      obtain⟨b,hB,rfl⟩:=inv_mp hm hs
      obtain⟨b',es',cl,hB',hh,hsz,hr⟩:=g.map hs
      rw[hB] at hB'
      simp at hB'
      subst hB'
      obtain⟨d,hd,hkd⟩:∃d,P.underlying kt=some d∧kindOf kk d:=by
        rcases hkt with ⟨h1,k,h2⟩ | ⟨h1,h2⟩
        · exact⟨_,h2,.inl ⟨h1,k,rfl⟩⟩
        · exact⟨_,h2,.inr ⟨h1,rfl⟩⟩
      have hobj:(getObj b).run P w=.ok (.map es' cl) w:=by simp[getObj,Sem.run,hh]
      have hck:=run_checkKey (P:=P) (w:=w) hkt (inv_d hk) h.1 es'.isEmpty
      obtain⟨zv,hzv,hzd⟩:=run_tzero hz w
      have hf:=findNow_spec (x:=.nilp) hkd (inv_d hk) es es'.toList 0 h (by simpa using hsz) (fun k hk=>by simpa using hr k hk)
      rcases hf with ⟨h1,h2,_⟩ | ⟨j,y,v,h1,h2,h3,h4,_⟩
      · refine⟨if ok then .tuple #[zv,.bool false] else zv,?_,After.look g hs (by simp) rfl (.d _ _ ?_)⟩
        · simp[Instr.lookup,run_underlying ht,hobj,hck,Instr.findKey,run_underlying hd,h2,hzv]
        · rw[h1]
          cases ok
          · exact hzd _ _
          · refine .tup _ _ rfl (fun k hk=>?_)
            simp at hk
            match k,hk with
            | 0,_=>exact hzd _ _
            | 1,_=>exact .bool _
      · refine⟨if ok then .tuple #[v,.bool true] else v,?_,After.look g hs (by simp) rfl (.d _ _ ?_)⟩
        · simp[Instr.lookup,run_underlying ht,hobj,hck,Instr.findKey,run_underlying hd,h3]
        · rw[h2]
          cases ok
          · exact h4
          · refine .tup _ _ rfl (fun k hk=>?_)
            simp at hk
            match k,hk with
            | 0,_=>exact h4
            | 1,_=>exact .bool _
    · exact h.elim
  · exact h.elim
theorem sameBits_key {kk:Nat} {a b:D} {va vb:Value} (ha:DRep w M.I a va) (hb:DRep w M.I b vb) (h1:keyOk kk a=true) (h2:keyOk kk b=true) (h3:keyKind a b) (he:keyEq a b=true) :
    ∀n,Instr.sameBits n vb va=true:=by
  intro n
  cases a <;> simp[keyOk] at h1
  · cases b <;> simp[keyOk,keyEq] at h2 he
    cases ha;cases hb
    simp only[keyKind] at h3
    subst h3 he
    cases n <;> simp[Instr.sameBits]
  · cases b <;> simp[keyOk,keyEq] at h2 he
    cases ha;cases hb
    subst he
    have:∀x:List UInt8,((⟨x.toArray⟩:ByteArray) == ⟨x.toArray⟩)=true:=by
      intro x
      rw[beq_toListBytes]
      simp
    cases n <;> simp[Instr.sameBits,this]
theorem eMapup_sound (g:Good w M s) {t kt et:TypeId} (ht:P.underlying t=some (.map kt et)) {kk:Nat} (hkt:(kk=0∧∃k,P.underlying kt=some (.int k))∨(kk=1∧P.underlying kt=some .string))
    {m k x:A} {vm vk vx:Value} (hm:ARep w M s m vm) (hk:ARep w M s k vk) (hx:ARep w M s x vx) (h:(eMapup s kk m k x).pre) :
    ∃w',(Instr.mapUpdate t vm vk vx).run P w=.ok () w'∧After w M s (eMapup s kk m k x) undef w':=by
  unfold eMapup at h ⊢
  split at h
  · rename_i l kd
    split at h
    · rename_i es hs
      obtain⟨h,hxd⟩:=h
      obtain⟨b,hB,rfl⟩:=inv_mp hm hs
      obtain⟨b',es',cl,hB',hh,hsz,hr⟩:=g.map hs
      rw[hB] at hB'
      simp at hB'
      subst hB'
      obtain⟨d,hd,hkd⟩:∃d,P.underlying kt=some d∧kindOf kk d:=by
        rcases hkt with ⟨h1,k,h2⟩ | ⟨h1,h2⟩
        · exact⟨_,h2,.inl ⟨h1,k,rfl⟩⟩
        · exact⟨_,h2,.inr ⟨h1,rfl⟩⟩
      have hobj:(getObj b).run P w=.ok (.map es' cl) w:=by simp[getObj,Sem.run,hh]
      have hck:=run_checkKey (P:=P) (w:=w) hkt (inv_d hk) h.1 false
      have hset:∀o,(setObj b o).run P w=.ok () { w with heap:=w.heap.setIfInBounds b o }:=fun o=>by simp[setObj,Sem.run,hh]
      have hlt:=(getD_ne hs (by simp)).1
      have hxD:=hx.toD hxd
      have hf:=findNow_spec (x:=x.toD) hkd (inv_d hk) es es'.toList 0 h (by simpa using hsz) (fun k hk=>by simpa using hr k hk)
      rcases hf with ⟨h1,h2,h3⟩ | ⟨j,y,v,h1,h2,h3,h4,h5,h6⟩
      · refine⟨{ w with heap:=w.heap.setIfInBounds b (.map (es'.push ⟨vk,vx,cl⟩) (cl+1)) },?_,M,?_,?_,.any _⟩
        rotate_left
        · refine Good.mapSet g ⟨rfl,rfl,rfl⟩ hlt hB hh rfl ?_ (es':=es'.push ⟨vk,vx,cl⟩) (cl':=cl+1)
          have he:=Ext.mapSet (w':={ w with heap:=w.heap.setIfInBounds b (.map (es'.push ⟨vk,vx,cl⟩) (cl+1)) }) (ms':=mset kd x.toD es) g ⟨rfl,rfl,rfl⟩ hlt hB hh rfl
          rw[h3]
          refine⟨by simp[hsz],fun k hk'=>?_⟩
          simp only[List.length_append,List.length_cons,List.length_nil] at hk'
          by_cases hkl:k<es.length
          · have:=hr k hkl
            have e1:(es++[(kd,x.toD)]).getD k default=es.getD k default:=by simp[List.getD,List.getElem?_append,hkl]
            have e2:(es'.push ⟨vk,vx,cl⟩).getD k default=es'.getD k default:=by
              simp only[Array.getD_eq_getD_getElem?,Array.getElem?_push]
              rw[if_neg (by omega)]
            rw[e1,e2]
            exact⟨he.drep g this.1,he.drep g this.2⟩
          · obtain rfl:k=es.length:=by omega
            have e1:(es++[(kd,x.toD)]).getD es.length default=(kd,x.toD):=by simp[List.getD]
            have e2:(es'.push ⟨vk,vx,cl⟩).getD es.length default=⟨vk,vx,cl⟩:=by
              simp only[Array.getD_eq_getD_getElem?,Array.getElem?_push]
              rw[if_pos (by omega)]
              rfl
            rw[e1,e2]
            exact⟨he.drep g (inv_d hk),he.drep g hxD⟩
        · exact Ext.mapSet g ⟨rfl,rfl,rfl⟩ hlt hB hh rfl
        · simp[Instr.mapUpdate,run_underlying ht,hobj,hck,Instr.findKey,run_underlying hd,h2,hset]
      · have hes:(es'.getD j default).key=((es'[j]?).map (·.key)).getD vk:=by
          have:j<es'.size:=by omega
          simp[this]
        have hj:=hr j h1
        have hko:=h.2 _ (getD_mem es default h1)
        have hsb:=sameBits_key (inv_d hk) hj.1 h.1 hko.1 hko.2 h6 10000
        rw[hes] at hsb
        have hks:(Instr.keyThatStays (((es'[j]?).map (·.key)).getD vk) vk).run P w=.ok vk w:=by
          unfold Instr.keyThatStays
          rw[if_pos hsb]
          rfl
        refine⟨{ w with heap:=w.heap.setIfInBounds b (.map (es'.modify j fun e=>{ e with key:=vk,val:=vx }) cl) },?_,M,?_,?_,.any _⟩
        rotate_left
        · refine Good.mapSet g ⟨rfl,rfl,rfl⟩ hlt hB hh rfl ?_ (es':=es'.modify j fun e=>{ e with key:=vk,val:=vx }) (cl':=cl)
          have he:=Ext.mapSet (w':={ w with heap:=w.heap.setIfInBounds b (.map (es'.modify j fun e=>{ e with key:=vk,val:=vx }) cl) }) (ms':=mset kd x.toD es) g ⟨rfl,rfl,rfl⟩ hlt hB hh rfl
          rw[h5]
          refine⟨by simp[hsz],fun k hk'=>?_⟩
          simp only[List.length_set] at hk'
          have e2:(es'.modify j fun e=>{ e with key:=vk,val:=vx }).getD k default=if j=k then { (es'.getD k default) with key:=vk,val:=vx } else es'.getD k default:=by
            have:k<es'.size:=by omega
            simp only[Array.getD_eq_getD_getElem?,Array.getElem?_modify]
            split <;> simp[this]
          rw[e2]
          by_cases hjk:j=k
          · subst hjk
            rw[if_pos rfl,show (es.set j (kd,x.toD)).getD j default=(kd,x.toD) by simp[List.getD,h1]]
            exact⟨he.drep g (inv_d hk),he.drep g hxD⟩
          · rw[if_neg hjk,show (es.set j (kd,x.toD)).getD k default=es.getD k default by simp[List.getD,List.getElem?_set,hjk]]
            exact⟨he.drep g (hr k hk').1,he.drep g (hr k hk').2⟩
        · exact Ext.mapSet g ⟨rfl,rfl,rfl⟩ hlt hB hh rfl
        · simp only[Nat.zero_add] at h3
          simp[Instr.mapUpdate,run_underlying ht,hobj,hck,Instr.findKey,run_underlying hd,h3,hset]
          rw[hks]
          simp[hset]
    · exact h.elim
  · exact h.elim
end
end Go.AE
