/-
  Each operation of the model does what the abstract operation says: append.
-/
import Derived.Test.YtafcebkjmeinnaaGreatDoorAe1
import Derived.Laws.BytesArg
import Derived.Laws.BytesString

set_option linter.unusedSimpArgs false
set_option linter.unusedVariables false
set_option linter.unnecessarySimpa false
namespace Go.AE
section
variable {P:Program} {w:World} {M:Mem} {s:Store}
structure Src (P:Program) (w:World) (M:Mem) (esz:Nat) (ys:List D) (v:Value) (cs:List Value):Prop where
  len:(∃a cap,v=.slice a ys.length cap)∨∃t:ByteArray,v=.string t∧t.size=ys.length
  csize:cs.length=ys.length * esz
  first:∀w':World,w'.heap=w.heap→(Builtin.firstCells esz ys.length v).run P w'=.ok cs.toArray w'
  fits:∀y,y∈ys→y.fits esz=true
  rep:∀i j,i<ys.length→j<esz→DRep w M.I ((ys.getD i default).cells.getD j default) (cs.getD (i * esz+j) undef)
structure SrcL (P:Program) (w:World) (esz k:Nat) (v:Value) (cs:List Value):Prop where
  len:(∃a cap,v=.slice a k cap)∨∃t:ByteArray,v=.string t∧t.size=k
  first:∀w':World,w'.heap=w.heap→(Builtin.firstCells esz k v).run P w'=.ok cs.toArray w'
theorem Src.toL {esz:Nat} {ys:List D} {v:Value} {cs:List Value} (h:Src P w M esz ys v cs):SrcL P w esz ys.length v cs:=⟨h.len,h.first⟩
theorem Src.one {esz:Nat} {ys:List D} {v:Value} {cs:List Value} (h:Src P w M esz ys v cs) {k:Nat} (hk:k<cs.length):(cs.getD k undef).oneCell'=true:=by
  rw[h.csize] at hk
  have h0:0<esz:=by
    rcases Nat.eq_zero_or_pos esz with h | h
    · subst h;simp at hk
    · exact h
  have h1:k / esz<ys.length:=Nat.div_lt_of_lt_mul (by rw[Nat.mul_comm];exact hk)
  have h2:k % esz<esz:=Nat.mod_lt _ h0
  have h3:=h.rep _ _ h1 h2
  rw[show k / esz * esz+k % esz=k by rw[Nat.mul_comm];exact Nat.div_add_mod k esz] at h3
  refine h3.oneCell ?_
  have h4:=h.fits _ (getD_mem ys default h1)
  simp only[D.fits,Bool.and_eq_true,beq_iff_eq,List.all_eq_true] at h4
  exact h4.2 _ (getD_mem _ _ (by omega))
theorem firstCells_at {esz n b off len cap:Nat} {w':World} {u:Nat→Value} (h:∀k,k<n * esz→w'.cell? ⟨b,off+k,none⟩=some (u k)) :
    (Builtin.firstCells esz n (.slice (some ⟨b,off,none⟩) len cap)).run P w'=.ok ((List.range (n * esz)).map u).toArray w':=by
  refine run_firstCells_some w' esz n _ len cap _ (by simp) (fun j v hj=>?_)
  rw[Addr.add_lit]
  simp only[List.getElem?_map,Option.map_eq_some_iff] at hj
  obtain⟨k,hk,rfl⟩:=hj
  have hjn:j<n * esz:=by
    rcases Nat.lt_or_ge j (n * esz) with hj | hj
    · exact hj
    · simp[hj] at hk
  simp[hjn] at hk
  subst hk
  exact h j hjn
theorem divmod {k esz:Nat} {n:Nat} (hk:k<n * esz):0<esz∧k / esz<n∧k % esz<esz∧k / esz * esz+k % esz=k:=by
  have h0:0<esz:=by
    rcases Nat.eq_zero_or_pos esz with h | h
    · subst h;simp at hk
    · exact h
  exact⟨h0,Nat.div_lt_of_lt_mul (by rw[Nat.mul_comm];exact hk),Nat.mod_lt _ h0,by rw[Nat.mul_comm];exact Nat.div_add_mod k esz⟩
theorem flat_lt {i j esz n:Nat} (hi:i<n) (hj:j<esz):i * esz+j<n * esz:=by
  have:(i+1) * esz≤n * esz:=Nat.mul_le_mul_right _ hi
  rw[Nat.add_mul,Nat.one_mul] at this
  omega
theorem flat_div {i j esz:Nat} (hj:j<esz):(i * esz+j) / esz=i∧(i * esz+j) % esz=j:=by
  have h0:0<esz:=by omega
  rw[Nat.mul_comm]
  exact⟨by rw[Nat.mul_add_div h0,Nat.div_eq_of_lt hj,Nat.add_zero],by rw[Nat.mul_add_mod,Nat.mod_eq_of_lt hj]⟩
theorem list_range_getD {n k:Nat} (u:Nat→Value) (h:k<n):((List.range n).map u).getD k undef=u k:=by simp[List.getD,h]
theorem sl_src {esz:Nat} {ys:List D} {v:Value} (h:DRep w M.I (.sl esz ys) v):∃cs,Src P w M esz ys v cs:=by
  by_cases h0:ys=[]
  · subst h0
    cases h with
    | sl0 esz a cap =>
      refine⟨[],.inl ⟨a,cap,rfl⟩,by simp,fun w' _=>?_,by simp,by simp⟩
      cases a with
      | none=>simp[Builtin.firstCells]
      | some a=>simpa using run_firstCells_some (P:=P) w' esz 0 a 0 cap [] (by simp) (by simp)
    | sl esz xs b off n cap u hn hcap hsz hI hc hr =>
      simp at hn
      subst hn
      refine⟨[],.inl ⟨_,cap,rfl⟩,by simp,fun w' _=>?_,by simp,by simp⟩
      simpa using run_firstCells_some (P:=P) w' esz 0 ⟨b,off,none⟩ 0 cap [] (by simp) (by simp)
  · have hpos:0<ys.length:=by
      cases ys with
      | nil=>exact absurd rfl h0
      | cons a b=>simp
    obtain⟨b,off,cap,u,rfl,hcap,hsz,hI,hc,hr⟩:=inv_slcells h hpos
    refine⟨(List.range (ys.length * esz)).map (fun k=>u (k / esz) (k % esz)),.inl ⟨_,cap,rfl⟩,by simp,fun w' hw=>firstCells_at (fun k hk=>?_),hsz,fun i j hi hj=>?_⟩
    · obtain⟨h1,h2,h3,h4⟩:=divmod hk
      rw[cell?_of_heap (w:=w) (by rw[hw])]
      have:=hc _ _ h2 h3
      rwa [Nat.add_assoc,h4] at this
    · rw[list_range_getD _ (flat_lt hi hj),(flat_div hj).1,(flat_div hj).2]
      exact hr i j hi hj
theorem A.fits_toD {x:A} {n:Nat} (h:x.fits n=true) (hd:x.isD=true):x.toD.fits n=true∧∀j,j<n→(x.cells.getD j .any).isD=true∧x.toD.cells.getD j default=(x.cells.getD j .any).toD:=by
  simp only[A.fits,Bool.and_eq_true,beq_iff_eq] at h
  obtain⟨h1,h2⟩:=h
  cases x with
  | d x =>
    cases x with
    | agg cs =>
      simp only[A.cells,List.length_map] at h1
      simp only[A.cells,List.all_map,List.all_eq_true] at h2
      refine⟨?_,fun j hj=>?_⟩
      · simp only[A.toD,D.fits,D.cells,h1,beq_self_eq_true,Bool.true_and,List.all_eq_true]
        intro c hc
        exact h2 c hc
      · simp only[A.cells,A.toD,D.cells]
        rw[getD_lt _ _ (by simp;omega),getD_lt _ _ (by omega)]
        simp[A.isD,A.toD]
    | tup cs=>simp[A.cells,A.one,D.one] at h2
    | _ =>
      simp[A.cells] at h1
      subst h1
      refine⟨rfl,fun j hj=>?_⟩
      obtain rfl:j=0:=by omega
      exact⟨rfl,rfl⟩
  | gr l e xs =>
    simp[A.cells] at h1
    subst h1
    refine⟨rfl,fun j hj=>?_⟩
    obtain rfl:j=0:=by omega
    exact⟨rfl,rfl⟩
  | agg cs =>
    simp only[A.cells] at h1 h2
    simp only[A.isD,A.allD_eq,List.all_eq_true] at hd
    rw[List.all_eq_true] at h2
    refine⟨?_,fun j hj=>?_⟩
    · simp only[A.toD,D.fits,D.cells,A.toDs_eq,List.length_map,h1,beq_self_eq_true,Bool.true_and,List.all_map,List.all_eq_true]
      intro c hc
      have h3:=h2 c hc
      have h4:=hd c hc
      cases c <;> simp[A.isD,A.one,A.toD,D.one] at * <;> assumption
    · simp only[A.cells,A.toD,D.cells,A.toDs_eq]
      have hj':j<cs.length:=by omega
      refine⟨hd _ (getD_mem _ _ hj'),?_⟩
      simp[List.getD,hj']
  | tup cs=>simp[A.cells,A.one] at h2
  | fn f a b =>
    simp[A.cells] at h1
    subst h1
    refine⟨rfl,fun j hj=>?_⟩
    obtain rfl:j=0:=by omega
    exact⟨hd,rfl⟩
  | iface t x =>
    simp[A.cells] at h1
    subst h1
    refine⟨rfl,fun j hj=>?_⟩
    obtain rfl:j=0:=by omega
    exact⟨hd,rfl⟩
  | _=>simp[A.isD] at hd
theorem own_part (g:Good w M s) {l ver esz off n:Nat} {xs:List A} {v:Value} (hx:ARep w M s (.own l ver off n) v) (hs:s.getD l .dead=.cells ver esz xs) (hd:((xs.drop off).take n).all A.isD=true) (h0:0<n) :
    ∃b o a cap c E f,M.B l=some (b,o)∧v=.slice a n cap∧off+n≤xs.length∧n≤cap∧(cap≠0→a=some ⟨b,o+off * esz,none⟩)∧w.heap[b]?=some (.cells c E f)∧o+(off+cap) * esz≤c.size ∧
      ((xs.drop off).take n).length=n∧(∀y,y∈((xs.drop off).take n).map A.toD→y.fits esz=true) ∧
      ∀i j,i<n→j<esz→DRep w M.I ((((xs.drop off).take n).map A.toD).getD i default |>.cells.getD j default) (c.getD (o+off * esz+i * esz+j) undef):=by
  rcases inv_own hx hs with ⟨_,_,rfl,_⟩ | ⟨b,o,a,cap,c,E,f,hB,rfl,h2,h3,h4,h5,h6⟩
  · simp at h0
  obtain⟨b',o',c',E',f',hB',hc',hu,hsz,hfit,hr⟩:=g.cells hs (by omega)
  rw[hB] at hB'
  simp at hB'
  obtain⟨rfl,rfl⟩:=hB'
  rw[h5] at hc'
  simp at hc'
  obtain⟨rfl,rfl,rfl⟩:=hc'
  rw[List.all_eq_true] at hd
  have hlen:((xs.drop off).take n).length=n:=by simp;omega
  refine⟨b,o,a,cap,c,E,f,hB,rfl,h2,h3,h4,h5,h6,hlen,?_,?_⟩
  · intro y hy
    simp only[List.mem_map] at hy
    obtain⟨x,hx,rfl⟩:=hy
    exact (A.fits_toD (hfit x (List.mem_of_mem_drop (List.mem_of_mem_take hx))) (hd x hx)).1
  · intro i j hi hj
    have e1:(((xs.drop off).take n).map A.toD).getD i default=(xs.getD (off+i) .any).toD:=by
      rw[getD_lt _ _ (by simp;omega)]
      simp only[List.getElem_map,List.getElem_take,List.getElem_drop]
      rw[getD_lt _ _ (by omega)]
    have hm:xs.getD (off+i) .any∈(xs.drop off).take n:=by
      have:xs.getD (off+i) .any=((xs.drop off).take n).getD i .any:=by rw[getD_take _ _ hi,getD_drop]
      rw[this]
      exact getD_mem _ _ (by omega)
    have k:=(A.fits_toD (hfit _ (getD_mem xs .any (by omega:off+i<xs.length))) (hd _ hm)).2 j hj
    rw[e1,k.2]
    have:=(hr (off+i) j (by omega) hj).toD k.1
    rw[Nat.add_mul] at this
    rwa [show o+off * esz+i * esz+j=o+(off * esz+i * esz)+j by omega]
theorem src_sound (g:Good w M s) {esz:Nat} {x:A} {v:Value} (hx:ARep w M s x v) (h:(src s esz x).1):∃cs,Src P w M esz (src s esz x).2 v cs:=by
  unfold src at h ⊢
  split at h
  · simp only at h
    subst h
    exact sl_src (inv_d hx)
  · have hd:=inv_d hx
    cases hd
    exact⟨[],.inl ⟨none,0,rfl⟩,by simp,fun w' _=>by simp[Builtin.firstCells],by simp,by simp⟩
  · simp only at h
    subst h
    cases hx with
    | gr l e xs v hx=>exact sl_src hx.1
  · rename_i l ver off n
    split at h
    · rename_i ver' e xs hs
      obtain⟨rfl,rfl,hd⟩:=h
      by_cases h0:n=0
      · subst h0
        have hv:∃a cap,v=.slice a 0 cap:=by
          rcases inv_own hx hs with ⟨_,_,_,rfl⟩ | ⟨_,_,a,cap,_,_,_,_,rfl,_⟩
          · exact⟨none,0,rfl⟩
          · exact⟨a,cap,rfl⟩
        obtain⟨a,cap,rfl⟩:=hv
        refine⟨[],.inl ⟨a,cap,rfl⟩,by simp,fun w' _=>?_,by simp,by simp⟩
        cases a with
        | none=>simp[Builtin.firstCells]
        | some a=>simpa using run_firstCells_some (P:=P) w' e 0 a 0 cap [] (by simp) (by simp)
      obtain⟨b,o,a,cap,c,E,f,hB,rfl,h2,h3,h4,h5,h6,h7,h8,h9⟩:=own_part g hx hs hd (by omega)
      have hl:(((xs.drop off).take n).map A.toD).length=n:=by simpa using h7
      refine⟨(List.range (n * e)).map (fun k=>c.getD (o+off * e+k) undef),.inl ⟨a,cap,by rw[hl]⟩,by rw[hl];simp,fun w' hw=>?_,h8,fun i j hi hj=>?_⟩
      · rw[hl]
        by_cases hc0:cap=0
        · obtain rfl:n=0:=by omega
          simp only[Nat.zero_mul,List.range_zero,List.map_nil]
          cases a with
          | none=>simp[Builtin.firstCells]
          | some a=>simpa using run_firstCells_some (P:=P) w' e 0 a 0 cap [] (by simp) (by simp)
        · rw[h4 hc0]
          refine firstCells_at (fun k hk=>?_)
          rw[cell?_of_heap (w:=w) (by rw[hw])]
          have:n * e≤cap * e:=Nat.mul_le_mul_right _ h3
          rw[Nat.add_mul] at h6
          exact cell?_heap h5 (by omega)
      · rw[hl] at hi
        rw[list_range_getD _ (flat_lt hi hj),← Nat.add_assoc]
        exact h9 i j hi hj
    · exact h.elim
  · rename_i t
    simp only at h
    subst h
    have hd:=inv_d hx
    cases hd
    refine⟨t.map fun c=>.int .u8 c.toNat,.inr ⟨_,rfl,by simp[ByteArray.size]⟩,by simp,fun w' _=>?_,?_,?_⟩
    · have e:(ByteArray.extract ⟨t.toArray⟩ 0 t.length).data=t.toArray:=by simp[ByteArray.extract,ByteArray.copySlice]
      simp[Builtin.firstCells,e]
    · intro y hy
      simp only[List.mem_map] at hy
      obtain⟨c,_,rfl⟩:=hy
      rfl
    · intro i j hi hj
      simp at hi
      obtain rfl:j=0:=by omega
      have e1:(t.map fun c=>D.int .u8 c.toNat).getD i default=.int .u8 (t[i].toNat):=by simp[List.getD,hi]
      have e2:(t.map fun c=>Value.int .u8 c.toNat).getD (i * 1+0) undef=.int .u8 (t[i].toNat):=by simp[List.getD,hi]
      rw[e1,e2]
      exact .int _ _
  · exact h.elim
end
end Go.AE
namespace Go.AE
section
variable {P:Program} {w:World} {M:Mem} {s:Store}
theorem run_append_in {t u e ty:TypeId} {esz:Nat} (ht:P.underlying t=some (.slice e)) (hu:(∃e',P.underlying u=some (.slice e'))∨P.underlying u=some .string) (hn:tsize P e=some esz) {a:Option Addr} {n cap k:Nat} {vx:Value} {cs:List Value}
    (hx:SrcL P w esz k vx cs) (hle:n+k≤cap) {w':World} (hst:∀b,a=some b→(storeCells (b.add (n * esz)) cs).run P w=.ok () w') (h0:a=none→w'=w) :
    (Builtin.append_ #[t,u] ty #[.slice a n cap,vx]).run P w=.ok (.slice a (n+k) cap) w':=by
  have hf:=hx.first w rfl
  have hlen:(Builtin.lenOf vx).run P w=.ok k w:=by
    rcases hx.len with ⟨b,cx,rfl⟩ | ⟨t,rfl,h⟩
    · rfl
    · rw[← h];rfl
  cases a with
  | none =>
    have:=h0 rfl
    subst this
    rcases hu with ⟨e',hu⟩ | hu <;>
      simp[Builtin.append_,run_underlying ht,run_underlying hu,run_tsize hn,hlen,hle,hf]
  | some a =>
    have:=hst a rfl
    rcases hu with ⟨e',hu⟩ | hu <;>
      simp[Builtin.append_,run_underlying ht,run_underlying hu,run_tsize hn,hlen,hle,hf,this]
theorem run_append_out {t u e ty:TypeId} {esz eb:Nat} {z:D} (ht:P.underlying t=some (.slice e)) (hu:(∃e',P.underlying u=some (.slice e'))∨P.underlying u=some .string) (hn:tinfo P e=some (esz,eb,z)) (heb:eb≠0) {a:Option Addr} {n cap k:Nat} {vx:Value} {olds cs:List Value}
    (hx:SrcL P w esz k vx cs) (hlt:cap<n+k) (hroom:room (n+k) eb) (ho:∀w':World,w'.heap=w.heap→(Builtin.firstCells esz n (.slice a n cap)).run P w'=.ok olds.toArray w') :
    ∃(nc:Nat) (rest:Array Value),n+k≤nc∧rest.size=(nc-(n+k)) * (z.cells.length) ∧
    (Builtin.append_ #[t,u] ty #[.slice a n cap,vx]).run P w=.ok (.slice (some ⟨w.heap.size,0,none⟩) (n+k) nc) (w.drew.alloc (.cells (olds.toArray++cs.toArray++rest) e)):=by
  have hlen:(Builtin.lenOf vx).run P w=.ok k w:=by
    rcases hx.len with ⟨b,cx,rfl⟩ | ⟨t,rfl,h⟩
    · rfl
    · rw[← h];rfl
  obtain⟨i,zv,hi,hsz,hby,hz,hzd⟩:=tinfo_spec hn
  subst hsz hby
  have h1:¬(n+k≤cap):=by omega
  have h2:¬(281474976710656<Builtin.nextslicecap (n+k) cap * i.bytes):=by
    have:=growslice_fits (bytes:=i.bytes) hlt hroom
    omega
  have h3:=hx.first w.drew rfl
  have h4:=ho w.drew rfl
  refine⟨grownCap w (n+k) cap e,Builtin.zeroCells zv.cells (grownCap w (n+k) cap e-(n+k)),by simp[grownCap,Question.cut],?_,?_⟩
  · rw[size_zeroCells]
    congr 1
    have hr:DRep w (fun _ _=>False) z zv:=ofV_rep hzd
    cases hr <;> simp_all [Value.cells,D.cells]
  · rcases hu with ⟨e',hu⟩ | hu
    · simp[Builtin.append_,run_underlying ht,run_underlying hu,sizeOf,typeInfo,zeroValue,hi,hz,hlen,h1,h2,heb,Question.forced,h3,h4,newRow,grownCap]
      congr 2
      apply Array.ext'
      simp
    · simp[Builtin.append_,run_underlying ht,run_underlying hu,sizeOf,typeInfo,zeroValue,hi,hz,hlen,h1,h2,heb,Question.forced,h3,h4,newRow,grownCap]
      congr 2
      apply Array.ext'
      simp
theorem gr_new (g:Good w M s) {l esz nc:Nat} {zs:List D} {cz:List Value} {rest:Array Value} {E:TypeId} (hl:s[l]?=some .res∨∃n,s[l]?=some (.tip n)∧n<zs.length) (h1:cz.length=zs.length * esz)
    (h2:∀y,y∈zs→y.fits esz=true) (h3:∀i j,i<zs.length→j<esz→DRep w M.I ((zs.getD i default).cells.getD j default) (cz.getD (i * esz+j) undef)) (h4:zs.length≤nc) (h5:rest.size=(nc-zs.length) * esz) :
    ∃M',Good (w.drew.alloc (.cells (cz.toArray++rest) E)) M' (s.set l (.tip zs.length))∧Ext w M s (w.drew.alloc (.cells (cz.toArray++rest) E)) M' (s.set l (.tip zs.length)) ∧
      ARep (w.drew.alloc (.cells (cz.toArray++rest) E)) M' (s.set l (.tip zs.length)) (.gr l esz zs) (.slice (some ⟨w.heap.size,0,none⟩) zs.length nc)∧∃o,M'.B l=some (w.heap.size,o):=by
  have hlt:l<s.length:=by
    rcases hl with h | ⟨n,h,_⟩ <;> exact (getD_getElem? h).2
  have hob:obStep M (M.push w.heap.size l (zs.length * esz)) l (s.getD l .dead) (.tip zs.length):=by
    rcases hl with h | ⟨n,h,hn⟩
    · rw[(getD_getElem? h).1];trivial
    · rw[(getD_getElem? h).1];exact⟨by omega,by omega⟩
  generalize hw:w.drew.alloc (.cells (cz.toArray++rest) E)=w'
  have hh:w'.heap=w.heap.push (.cells (cz.toArray++rest) E):=by rw[← hw];rfl
  have hs:Still w w':=by rw[← hw];exact⟨rfl,rfl,rfl⟩
  have hsz:(cz.toArray++rest).size=nc * esz:=by
    simp only[Array.size_append,List.size_toArray,h1,h5]
    rw[← Nat.add_mul]
    congr 1
    omega
  have hle:zs.length * esz≤nc * esz:=Nat.mul_le_mul_right _ h4
  have hcell:∀k,k<zs.length * esz→w'.cell? ⟨w.heap.size,k,none⟩=some (cz.getD k undef):=by
    intro k hk
    rw[cell?_heap (heap_push_new hh) (by omega)]
    congr 1
    simp only[Array.getD_eq_getD_getElem?,Array.getElem?_append,List.size_toArray]
    rw[if_pos (by omega)]
    simp[List.getD]
  have he:=Ext.push g hs hh hlt hob
  have hg:Good w' (M.push w.heap.size l (zs.length * esz)) (s.set l (.tip zs.length)):=by
    refine Good.push g hs hh hlt hob (fun j hj=>by rw[hcell j hj];rfl) ?_
    intro b o hb
    simp[Mem.push] at hb
    obtain⟨rfl,rfl⟩:=hb
    exact⟨_,E,(0,0),heap_push_new hh,fun j _ _=>by omega,by omega⟩
  refine⟨_,hg,he,.gr _ _ _ _ ⟨?_,?_⟩,zs.length * esz,by simp[Mem.push]⟩
  · by_cases h0:zs=[]
    · subst h0
      exact .sl0 _ _ _
    · refine .sl esz zs w.heap.size 0 zs.length nc (fun i j=>cz.getD (i * esz+j) undef) rfl h4 h2 (fun i j hi hj=>.inr ⟨rfl,?_⟩) (fun i j hi hj=>?_) (fun i j hi hj=>he.drep g (h3 i j hi hj))
      · rw[Nat.zero_add];exact flat_lt hi hj
      · rw[Nat.zero_add];exact hcell _ (flat_lt hi hj)
  · simp only[List.getElem?_set_self hlt]
    refine⟨Nat.le_refl _,fun _=>⟨_,_,rfl,.inr ⟨w.heap.size,zs.length * esz,_,E,(0,0),by simp[Mem.push],Nat.le_refl _,by simp,heap_push_new hh,?_,h4⟩⟩⟩
    rw[hsz,← Nat.add_mul]
    exact Nat.mul_le_mul_right _ (by omega)
theorem app_getD {xs ys:List D} {cx cy:List Value} {esz:Nat} {I:Nat→Nat→Prop} (h1:cx.length=xs.length * esz) (hx:∀i j,i<xs.length→j<esz→DRep w I ((xs.getD i default).cells.getD j default) (cx.getD (i * esz+j) undef))
    (hy:∀i j,i<ys.length→j<esz→DRep w I ((ys.getD i default).cells.getD j default) (cy.getD (i * esz+j) undef)) :
    ∀i j,i<(xs++ys).length→j<esz→DRep w I (((xs++ys).getD i default).cells.getD j default) ((cx++cy).getD (i * esz+j) undef):=by
  intro i j hi hj
  simp only[List.length_append] at hi
  by_cases hix:i<xs.length
  · have h2:=flat_lt hix hj
    have e1:(xs++ys).getD i default=xs.getD i default:=by simp[List.getD,List.getElem?_append,hix]
    have e2:(cx++cy).getD (i * esz+j) undef=cx.getD (i * esz+j) undef:=by
      simp only[List.getD,List.getElem?_append]
      rw[if_pos (by omega)]
    rw[e1,e2]
    exact hx i j hix hj
  · have h3:xs.length * esz≤i * esz:=Nat.mul_le_mul_right _ (by omega)
    have e1:(xs++ys).getD i default=ys.getD (i-xs.length) default:=by simp[List.getD,List.getElem?_append,hix]
    have e2:(cx++cy).getD (i * esz+j) undef=cy.getD ((i-xs.length) * esz+j) undef:=by
      simp only[List.getD,List.getElem?_append]
      rw[if_neg (by omega)]
      congr 2
      rw[Nat.sub_mul]
      omega
    rw[e1,e2]
    exact hy _ j (by omega) hj
theorem setAll_bor {s:Store} {l:Nat} {y:Ob} {x:A} (hx:∀l',(∃ver off n,x=.own l' ver off n)→l'≠l∧s.getD l' .dead≠.dead):Store.setAll s ((l,y)::borFp s x)=s.set l y:=by
  unfold borFp
  split
  · rename_i l' ver off n
    obtain⟨h1,h2⟩:=hx l' ⟨ver,off,n,rfl⟩
    simp only[Store.setAll]
    refine set_same ?_ h2
    simp[List.getD,List.getElem?_set,Ne.symm h1]
  · rfl
theorem src_own {esz l' ver off n:Nat} (h:(src s esz (.own l' ver off n)).1):∃v e xs,s.getD l' .dead=.cells v e xs:=by
  simp only[src] at h
  split at h
  · rename_i hs;exact⟨_,_,_,hs⟩
  · exact h.elim
theorem gr_room (g:Good w M s) {l esz b o cap:Nat} {xs ys:List D} {cs:List Value} {c:Array Value} {E:TypeId} {f:Nat × Nat} (hl:s[l]?=some (.tip xs.length)) (hB:M.B l=some (b,o)) (ho:xs.length * esz≤o)
    (hx:DRep w M.I (.sl esz xs) (.slice (some ⟨b,o-xs.length * esz,none⟩) xs.length cap)) (hc:w.heap[b]?=some (.cells c E f)) (hroom:o+(cap-xs.length) * esz≤c.size) (hcap:xs.length+ys.length≤cap)
    (h1:cs.length=ys.length * esz) (h2:∀y,y∈ys→y.fits esz=true) (h3:∀i j,i<ys.length→j<esz→DRep w M.I ((ys.getD i default).cells.getD j default) (cs.getD (i * esz+j) undef)) :
    ∃M',Good (w.setCells b o cs) M' (s.set l (.tip (xs.length+ys.length)))∧Ext w M s (w.setCells b o cs) M' (s.set l (.tip (xs.length+ys.length))) ∧
      ARep (w.setCells b o cs) M' (s.set l (.tip (xs.length+ys.length))) (.gr l esz (xs++ys)) (.slice (some ⟨b,o-xs.length * esz,none⟩) (xs.length+ys.length) cap)∧∃o',M'.B l=some (b,o'):=by
  obtain⟨hl1,hlt⟩:=getD_getElem? hl
  have hle:(xs.length+ys.length) * esz≤cap * esz:=Nat.mul_le_mul_right _ hcap
  have hmul:(cap-xs.length) * esz=cap * esz-xs.length * esz:=Nat.sub_mul _ _ _
  rw[Nat.add_mul] at hle
  have hy:o+cs.length≤c.size:=by omega
  obtain⟨c',e1,e2,e3,e4,e5,e6⟩:=setCells_heap (E:=E) (f:=f) cs o w c hc hy
  have hI:Inplace w (w.setCells b o cs) b o c c' E f:=⟨e6,e5,hc,e1,e4,e2,fun k hk=>by rw[e3,if_neg (by omega)]⟩
  by_cases h0:ys=[]
  · subst h0
    simp at h1
    subst h1
    refine⟨M,?_,?_,?_,o,hB⟩
    · rw[List.length_nil,Nat.add_zero,set_same hl1 (by simp)];exact g
    · rw[List.length_nil,Nat.add_zero,set_same hl1 (by simp)];exact Ext.refl w M s
    · rw[List.length_nil,Nat.add_zero,set_same hl1 (by simp),List.append_nil]
      refine .gr _ _ _ _ ⟨hx,?_⟩
      rw[hl]
      exact⟨Nat.le_refl _,fun _=>⟨_,_,rfl,.inr ⟨b,o,c,E,f,hB,ho,rfl,hc,hroom,by omega⟩⟩⟩
  have hypos:0<ys.length:=List.length_pos_iff.2 h0
  have hob:obStep M (M.move l b o (o+ys.length * esz)) l (s.getD l .dead) (.tip (xs.length+ys.length)):=by
    rw[hl1]
    exact⟨by omega,by omega⟩
  have he:=Ext.inplace g hI hB (Nat.le_add_right o (ys.length * esz)) hlt hob
  have hg:Good (w.setCells b o cs) (M.move l b o (o+ys.length * esz)) (s.set l (.tip (xs.length+ys.length))):=by
    refine Good.inplace g hI hB (Nat.le_add_right _ _) (by omega) hlt hob ?_
    intro b' o' hb
    simp[Mem.move] at hb
    obtain⟨rfl,rfl⟩:=hb
    have hu:unfrozen f o c.size:=by
      have:=g.obj l
      rw[hl1] at this
      obtain⟨c2,E2,f2,h6,h7,_⟩:=this b o hB
      rw[hc] at h6
      simp at h6
      obtain⟨rfl,rfl,rfl⟩:=h6
      exact h7
    exact⟨c',E,f,e1,fun j hj hj2=>hu j (by omega) (by omega),by omega⟩
  have hcell:∀k,k<ys.length * esz→(w.setCells b o cs).cell? ⟨b,o+k,none⟩=some (cs.getD k undef):=by
    intro k hk
    rw[cell?_heap e1 (by omega)]
    congr 1
    rw[Array.getD_eq_getD_getElem?,e3,if_pos (by omega),show o+k-o=k by omega]
    simp[List.getD]
  refine⟨_,hg,he,.gr _ _ _ _ ⟨?_,?_⟩,o+ys.length * esz,by simp[Mem.move]⟩
  · have hxs:xs≠[]→∃u:Nat→Nat→Value,(∀x,x∈xs→x.fits esz=true)∧(∀i j,i<xs.length→j<esz→M.I b (o-xs.length * esz+i * esz+j)) ∧
        (∀i j,i<xs.length→j<esz→w.cell? ⟨b,o-xs.length * esz+i * esz+j,none⟩=some (u i j))∧(∀i j,i<xs.length→j<esz→DRep w M.I ((xs.getD i default).cells.getD j default) (u i j)):=by
      intro hne
      obtain⟨b',off,cap',u,k1,k2,k3,k4,k5,k6⟩:=inv_slcells hx (List.length_pos_iff.2 hne)
      simp at k1
      obtain⟨⟨rfl,rfl⟩,rfl⟩:=k1
      exact⟨u,k3,k4,k5,k6⟩
    have hu:∃u:Nat→Nat→Value,(∀x,x∈xs→x.fits esz=true)∧(∀i j,i<xs.length→j<esz→M.I b (o-xs.length * esz+i * esz+j)) ∧
        (∀i j,i<xs.length→j<esz→w.cell? ⟨b,o-xs.length * esz+i * esz+j,none⟩=some (u i j))∧(∀i j,i<xs.length→j<esz→DRep w M.I ((xs.getD i default).cells.getD j default) (u i j)):=by
      by_cases hne:xs=[]
      · subst hne
        exact⟨fun _ _=>undef,by simp,by simp,by simp,by simp⟩
      · exact hxs hne
    obtain⟨u,k3,k4,k5,k6⟩:=hu
    refine .sl esz (xs++ys) b (o-xs.length * esz) _ cap (fun i j=>if i<xs.length then u i j else cs.getD ((i-xs.length) * esz+j) undef) (by simp) hcap ?_ ?_ ?_ ?_
    · intro x hx
      rcases List.mem_append.1 hx with hx | hx
      · exact k3 x hx
      · exact h2 x hx
    · intro i j hi hj
      by_cases hix:i<xs.length
      · exact .inl (k4 i j hix hj)
      · have h6:=flat_lt (by omega:i-xs.length<ys.length) hj
        have h7:xs.length * esz≤i * esz:=Nat.mul_le_mul_right _ (by omega)
        rw[Nat.sub_mul] at h6
        exact .inr ⟨rfl,by omega,by omega⟩
    · intro i j hi hj
      by_cases hix:i<xs.length
      · simp only[hix,if_true]
        rw[he.cell g (k4 i j hix hj)]
        exact k5 i j hix hj
      · simp only[hix,if_false]
        have h6:=flat_lt (by omega:i-xs.length<ys.length) hj
        have h7:xs.length * esz≤i * esz:=Nat.mul_le_mul_right _ (by omega)
        have h8:=hcell _ h6
        rw[Nat.sub_mul] at h8 ⊢
        rwa [show o-xs.length * esz+i * esz+j=o+(i * esz-xs.length * esz+j) by omega]
    · intro i j hi hj
      by_cases hix:i<xs.length
      · simp only[hix,if_true]
        rw[show (xs++ys).getD i default=xs.getD i default by simp[List.getD,List.getElem?_append,hix]]
        exact he.drep g (k6 i j hix hj)
      · simp only[hix,if_false]
        rw[show (xs++ys).getD i default=ys.getD (i-xs.length) default by simp[List.getD,List.getElem?_append,hix]]
        exact he.drep g (h3 _ j (by omega) hj)
  · simp only[List.getElem?_set_self hlt,List.length_append]
    refine⟨Nat.le_refl _,fun _=>⟨_,_,rfl,.inr ⟨b,o+ys.length * esz,c',E,f,by simp[Mem.move],by rw[Nat.add_mul];omega,?_,e1,?_,hcap⟩⟩⟩
    · rw[Nat.add_mul]
      congr 2
      omega
    · rw[e2,Nat.add_assoc,← Nat.add_mul,show ys.length+(cap-(xs.length+ys.length))=cap-xs.length by omega]
      exact hroom
structure Grow (w:World) (M:Mem) (s:Store) (esz:Nat) (xs:List A) (ys:List A) (co cs:List Value):Prop where
  csize:co.length=xs.length * esz
  ysize:cs.length=ys.length * esz
  fits:∀x,x∈xs→x.fits esz=true
  yfits:∀y,y∈ys→y.fits esz=true
  rep:∀i j,i<xs.length→j<esz→ARep w M s ((xs.getD i .any).cells.getD j .any) (co.getD (i * esz+j) undef)
  yrep:∀i j,i<ys.length→j<esz→ARep w M s ((ys.getD i .any).cells.getD j .any) (cs.getD (i * esz+j) undef)
theorem dcells_getD {y:D} {esz j:Nat} (hf:y.fits esz=true) (hj:j<esz):(A.d y).cells.getD j .any=.d (y.cells.getD j default):=by
  simp only[D.fits,Bool.and_eq_true,beq_iff_eq] at hf
  cases y with
  | agg cs =>
    simp only[A.cells,D.cells] at hf ⊢
    have:j<cs.length:=by omega
    simp[List.getD,this]
  | _ =>
    simp only[D.cells,List.length_cons,List.length_nil] at hf
    obtain rfl:j=0:=by omega
    rfl
theorem Grow.all {esz:Nat} {xs:List A} {ys:List A} {co cs:List Value} (h:Grow w M s esz xs ys co cs) :
    (∀x,x∈xs++ys→x.fits esz=true)∧∀i j,i<(xs++ys).length→j<esz→ARep w M s (((xs++ys).getD i .any).cells.getD j .any) ((co++cs).getD (i * esz+j) undef):=by
  refine⟨fun x hx=>?_,fun i j hi hj=>?_⟩
  · rcases List.mem_append.1 hx with hx | hx
    · exact h.fits x hx
    · exact h.yfits x hx
  · simp only[List.length_append] at hi
    by_cases hix:i<xs.length
    · have h2:=flat_lt hix hj
      have h1:=h.csize
      have e1:(xs++ys).getD i .any=xs.getD i .any:=by simp[List.getD,List.getElem?_append,hix]
      have e2:(co++cs).getD (i * esz+j) undef=co.getD (i * esz+j) undef:=by
        simp only[List.getD,List.getElem?_append]
        rw[if_pos (by omega)]
      rw[e1,e2]
      exact h.rep i j hix hj
    · have h3:xs.length * esz≤i * esz:=Nat.mul_le_mul_right _ (by omega)
      have h1:=h.csize
      have hiy:i-xs.length<ys.length:=by omega
      have e1:(xs++ys).getD i .any=ys.getD (i-xs.length) .any:=by
        rw[getD_lt _ _ (by simp;omega),List.getElem_append_right (by omega),getD_lt _ _ hiy]
      have e2:(co++cs).getD (i * esz+j) undef=cs.getD ((i-xs.length) * esz+j) undef:=by
        simp only[List.getD,List.getElem?_append]
        rw[if_neg (by omega)]
        congr 2
        rw[Nat.sub_mul]
        omega
      rw[e1,e2]
      exact h.yrep _ j hiy hj
theorem own_new (g:Good w M s) {l ver esz nc:Nat} {xs:List A} {ys:List A} {co cs:List Value} {rest:Array Value} {E:TypeId} (hl:s.getD l .dead=.cells ver esz xs) (hg:Grow w M s esz xs ys co cs)
    (h4:xs.length+ys.length≤nc) (h5:rest.size=(nc-(xs.length+ys.length)) * esz) :
    ∃M',Good (w.drew.alloc (.cells (co.toArray++cs.toArray++rest) E)) M' (s.set l (.cells (ver+1) esz (xs++ys)))∧Ext w M s (w.drew.alloc (.cells (co.toArray++cs.toArray++rest) E)) M' (s.set l (.cells (ver+1) esz (xs++ys))) ∧
      ARep (w.drew.alloc (.cells (co.toArray++cs.toArray++rest) E)) M' (s.set l (.cells (ver+1) esz (xs++ys))) (.own l (ver+1) 0 (xs.length+ys.length)) (.slice (some ⟨w.heap.size,0,none⟩) (xs.length+ys.length) nc):=by
  have hlt:=(getD_ne hl (by simp)).2
  obtain⟨hf,hr⟩:=hg.all
  have hob:obStep M (M.push w.heap.size l 0) l (s.getD l .dead) (.cells (ver+1) esz (xs++ys)):=by
    rw[hl]
    exact⟨by omega,fun h=>absurd h (by omega)⟩
  generalize hw:w.drew.alloc (.cells (co.toArray++cs.toArray++rest) E)=w'
  have hh:w'.heap=w.heap.push (.cells (co.toArray++cs.toArray++rest) E):=by rw[← hw];rfl
  have hs:Still w w':=by rw[← hw];exact⟨rfl,rfl,rfl⟩
  have hsz:(co.toArray++cs.toArray++rest).size=nc * esz:=by
    simp only[Array.size_append,List.size_toArray,hg.csize,hg.ysize,h5]
    rw[← Nat.add_mul,← Nat.add_mul]
    congr 1
    omega
  have hle:(xs.length+ys.length) * esz≤nc * esz:=Nat.mul_le_mul_right _ h4
  have he:=Ext.push g hs hh hlt hob
  have hlen:(co++cs).length=(xs.length+ys.length) * esz:=by rw[List.length_append,hg.csize,hg.ysize,Nat.add_mul]
  refine⟨_,Good.push g hs hh hlt hob (fun j hj=>absurd hj (by omega)) ?_,he,.own _ _ _ _ _ rfl ?_⟩
  · refine .inr ⟨w.heap.size,0,_,E,(0,0),by simp[Mem.push],heap_push_new hh,fun j _ _=>by omega,?_,hf,fun i j hi hj=>?_⟩
    · rw[hsz];simpa using hle
    · rw[Nat.zero_add]
      have hi2:i<xs.length+ys.length:=by simpa using hi
      have hk:=flat_lt hi2 hj
      have e:(co.toArray++cs.toArray++rest).getD (i * esz+j) undef=(co++cs).getD (i * esz+j) undef:=by
        simp only[Array.getD_eq_getD_getElem?,Array.getElem?_append,List.getD,Array.size_append,List.size_toArray]
        rw[if_pos (by rw[← List.length_append];omega)]
        simp[List.getElem?_append]
      rw[e]
      exact he.arep g (hr i j hi hj)
  · simp only[ownOk,List.getElem?_set_self hlt]
    refine⟨Nat.le_refl _,fun _=>.inr ⟨w.heap.size,0,_,_,_,E,(0,0),by simp[Mem.push],rfl,by simp,h4,fun _=>by simp,heap_push_new hh,by rw[hsz];simp⟩⟩
theorem own_room (g:Good w M s) {l ver esz b o cap:Nat} {xs:List A} {ys:List A} {co cs:List Value} {c:Array Value} {E:TypeId} {f:Nat × Nat} (hl:s.getD l .dead=.cells ver esz xs) (hg:Grow w M s esz xs ys co cs) (hB:M.B l=some (b,o))
    (hc:w.heap[b]?=some (.cells c E f)) (hroom:o+cap * esz≤c.size) (hcap:xs.length+ys.length≤cap) (hco:∀k,k<xs.length * esz→c.getD (o+k) undef=co.getD k undef) :
    ∃M',Good (w.setCells b (o+xs.length * esz) cs) M' (s.set l (.cells (ver+1) esz (xs++ys)))∧Ext w M s (w.setCells b (o+xs.length * esz) cs) M' (s.set l (.cells (ver+1) esz (xs++ys))) ∧
      ARep (w.setCells b (o+xs.length * esz) cs) M' (s.set l (.cells (ver+1) esz (xs++ys))) (.own l (ver+1) 0 (xs.length+ys.length)) (.slice (some ⟨b,o,none⟩) (xs.length+ys.length) cap):=by
  have hlt:=(getD_ne hl (by simp)).2
  obtain⟨hf,hr⟩:=hg.all
  have hle:(xs.length+ys.length) * esz≤cap * esz:=Nat.mul_le_mul_right _ hcap
  rw[Nat.add_mul] at hle
  have hyl:=hg.ysize
  obtain⟨c',e1,e2,e3,e4,e5,e6⟩:=setCells_heap (E:=E) (f:=f) cs (o+xs.length * esz) w c hc (by omega)
  have hI:Inplace w (w.setCells b (o+xs.length * esz) cs) b o c c' E f:=⟨e6,e5,hc,e1,e4,e2,fun k hk=>by rw[e3,if_neg (by omega)]⟩
  have hob:obStep M (M.move l b o o) l (s.getD l .dead) (.cells (ver+1) esz (xs++ys)):=by
    rw[hl]
    exact⟨by omega,fun h=>absurd h (by omega)⟩
  have he:=Ext.inplace g hI hB (Nat.le_refl _) hlt hob
  have hu:unfrozen f o c.size:=by
    have:=g.obj l
    rw[hl] at this
    rcases this with ⟨_,h6⟩ | ⟨b2,o2,c2,E2,f2,h6,h7,h8,_⟩
    · rw[hB] at h6;simp at h6
    · rw[hB] at h6
      simp at h6
      obtain⟨rfl,rfl⟩:=h6
      rw[hc] at h7
      simp at h7
      obtain⟨rfl,rfl,rfl⟩:=h7
      exact h8
  refine⟨_,Good.inplace g hI hB (Nat.le_refl _) (by omega) hlt hob ?_,he,.own _ _ _ _ _ rfl ?_⟩
  · refine .inr ⟨b,o,c',E,f,by simp[Mem.move],e1,by rw[e2];exact hu,?_,hf,fun i j hi hj=>?_⟩
    · rw[e2,List.length_append,Nat.add_mul];omega
    · have hi2:i<xs.length+ys.length:=by simpa using hi
      have hk:=flat_lt hi2 hj
      rw[Nat.add_mul] at hk
      have e:c'.getD (o+i * esz+j) undef=(co++cs).getD (i * esz+j) undef:=by
        rw[Array.getD_eq_getD_getElem?,e3]
        by_cases hix:i * esz+j<xs.length * esz
        · rw[if_neg (by omega)]
          have h6:=hco _ hix
          rw[Array.getD_eq_getD_getElem?] at h6
          rw[Nat.add_assoc,h6,List.getD,List.getD,List.getElem?_append_left (by rw[hg.csize];exact hix)]
        · rw[if_pos (by omega),List.getD,List.getElem?_append_right (by rw[hg.csize];omega),hg.csize]
          congr 2
          omega
      rw[e]
      exact he.arep g (hr i j hi hj)
  · simp only[ownOk,List.getElem?_set_self hlt]
    exact⟨Nat.le_refl _,fun _=>.inr ⟨b,o,_,_,c',E,f,by simp[Mem.move],rfl,by simp,hcap,fun _=>by simp,e1,by rw[e2,Nat.zero_add];exact hroom⟩⟩
theorem Src.grow {esz:Nat} {ys:List D} {v:Value} {cs:List Value} (h:Src P w M esz ys v cs):(∀y,y∈ys.map A.d→y.fits esz=true)∧∀i j,i<(ys.map A.d).length→j<esz→ARep w M s (((ys.map A.d).getD i .any).cells.getD j .any) (cs.getD (i * esz+j) undef):=by
  refine⟨fun y hy=>?_,fun i j hi hj=>?_⟩
  · obtain⟨z,hz,rfl⟩:=List.mem_map.1 hy
    exact D.fits_A (h.fits z hz)
  · have hi2:i<ys.length:=by simpa using hi
    have e1:(ys.map A.d).getD i .any=.d (ys.getD i default):=by
      rw[getD_lt _ _ hi,List.getElem_map,getD_lt _ _ hi2]
    rw[e1,dcells_getD (h.fits _ (getD_mem _ _ hi2)) hj]
    exact .d _ _ (h.rep _ j hi2 hj)
theorem bor_ne {esz l:Nat} {x:A} (h:(src s esz x).1) (hl:∀v e xs,s.getD l .dead≠.cells v e xs):∀l',(∃ver off n,x=.own l' ver off n)→l'≠l∧s.getD l' .dead≠.dead:=by
  rintro l' ⟨ver,off,n,rfl⟩
  obtain⟨v,e,xs,hs⟩:=src_own h
  refine⟨?_,by rw[hs];simp⟩
  rintro rfl
  exact hl _ _ _ hs
theorem own_srcA (g:Good w M s) {l ver esz off n:Nat} {xs:List A} {v:Value} (hx:ARep w M s (.own l ver off n) v) (hs:s.getD l .dead=.cells ver esz xs) (h0:0<n) :
    ∃cs,((xs.drop off).take n).length=n∧SrcL P w esz n v cs∧cs.length=n * esz∧(∀y,y∈(xs.drop off).take n→y.fits esz=true) ∧
      ∀i j,i<n→j<esz→ARep w M s ((((xs.drop off).take n).getD i .any).cells.getD j .any) (cs.getD (i * esz+j) undef):=by
  rcases inv_own hx hs with ⟨_,_,rfl,_⟩ | ⟨b,o,a,cap,c,E,f,hB,rfl,h2,h3,h4,h5,h6⟩
  · simp at h0
  obtain⟨b',o',c',E',f',hB',hc',hu,hsz,hfit,hr⟩:=g.cells hs (by omega)
  rw[hB] at hB'
  simp at hB'
  obtain⟨rfl,rfl⟩:=hB'
  rw[h5] at hc'
  simp at hc'
  obtain⟨rfl,rfl,rfl⟩:=hc'
  refine⟨(List.range (n * esz)).map (fun k=>c.getD (o+off * esz+k) undef),by simp;omega,⟨.inl ⟨a,cap,rfl⟩,fun w' hw=>?_⟩,by simp,fun y hy=>hfit y (List.mem_of_mem_drop (List.mem_of_mem_take hy)),fun i j hi hj=>?_⟩
  · by_cases hc0:cap=0
    · omega
    · rw[h4 hc0]
      refine firstCells_at (fun k hk=>?_)
      rw[cell?_of_heap (w:=w) (by rw[hw])]
      have:n * esz≤cap * esz:=Nat.mul_le_mul_right _ h3
      rw[Nat.add_mul] at h6
      exact cell?_heap h5 (by omega)
  · rw[list_range_getD _ (flat_lt hi hj),getD_take _ _ hi,getD_drop]
    have:=hr (off+i) j (by omega) hj
    rw[Nat.add_mul] at this
    rwa [show o+off * esz+(i * esz+j)=o+(off * esz+i * esz)+j by omega]
theorem set_getDs (s:Store) (l:Nat):s.set l (s.getD l .dead)=s:=by
  refine List.ext_getElem (by simp) fun k h1 h2=>?_
  rw[List.getElem_set]
  split
  · rename_i h;subst h;simp[List.getD,h2]
  · rfl
theorem Ext.bump {l ver esz:Nat} {xs:List A} (hl:s.getD l .dead=.cells ver esz xs):Ext w M s w M (s.set l (.cells (ver+1) esz xs)) where
  os:=rfl
  tape:=rfl
  output:=rfl
  size:=Nat.le_refl _
  keep _ _ _:=rfl
  low _ _ _ _ _ _:=rfl
  blk l b o c E f _ h:=⟨c,f,h,rfl⟩
  imm _ _ h:=h
  immNew _ _ h:=.inl h
  own l b o h:=.inr ⟨l,o,h,Nat.le_refl _⟩
  N:=rfl
  len:=by simp
  ob l' _:=by
    by_cases h':l'=l
    · subst h'
      have hlt:=(getD_ne hl (by simp)).2
      rw[show (s.set l' (.cells (ver+1) esz xs)).getD l' .dead=.cells (ver+1) esz xs by simp[hlt],hl]
      exact⟨by omega,fun h=>absurd h (by omega)⟩
    · rw[show (s.set l (.cells (ver+1) esz xs)).getD l' .dead=s.getD l' .dead by simp[List.getElem?_set,Ne.symm h']]
      cases s.getD l' .dead <;> simp[obStep]
theorem Good.bump (g:Good w M s) {l ver esz:Nat} {xs:List A} (hl:s.getD l .dead=.cells ver esz xs):Good w M (s.set l (.cells (ver+1) esz xs)) where
  imm:=g.imm
  off:=g.off
  sep:=g.sep
  nle:=g.nle
  nof:=g.nof
  obj l':=by
    have e:Ext w M s w M (s.set l (.cells (ver+1) esz xs)):=Ext.bump hl
    by_cases h':l'=l
    · subst h'
      have hlt:=(getD_ne hl (by simp)).2
      rw[show (s.set l' (.cells (ver+1) esz xs)).getD l' .dead=.cells (ver+1) esz xs by simp[hlt]]
      have:=g.obj l'
      rw[hl] at this
      rcases this with h | ⟨b,o,c,E,f,h1,h2,h3,h4,h5,h6⟩
      · exact .inl h
      · exact .inr ⟨b,o,c,E,f,h1,h2,h3,h4,h5,fun i j hi hj=>e.arep g (h6 i j hi hj)⟩
    · rw[show (s.set l (.cells (ver+1) esz xs)).getD l' .dead=s.getD l' .dead by simp[List.getElem?_set,Ne.symm h']]
      exact (g.obj l').keep g e rfl (fun _ _ _=>rfl)
theorem own_append0 (g:Good w M s) {t u e ty:TypeId} {esz eb:Nat} {z:D} (ht:P.underlying t=some (.slice e)) (hu:(∃e',P.underlying u=some (.slice e'))∨P.underlying u=some .string) (hn:tinfo P e=some (esz,eb,z))
    {l ver:Nat} {xs:List A} {vb vx:Value} (hb:ARep w M s (.own l ver 0 xs.length) vb) (hs:s.getD l .dead=.cells ver esz xs) (hcl:SrcL P w esz 0 vx []) :
    ∃r w',(Builtin.append_ #[t,u] ty #[vb,vx]).run P w=.ok r w'∧∃M',Good w' M' (s.set l (.cells (ver+1) esz xs))∧Ext w M s w' M' (s.set l (.cells (ver+1) esz xs))∧ARep w' M' (s.set l (.cells (ver+1) esz xs)) (.own l (ver+1) 0 xs.length) r:=by
  have hsz:=tsize_of_tinfo hn
  have hlt:=(getD_ne hs (by simp)).2
  have hst:∀p:Addr,(storeCells p []).run P w=.ok () w:=fun p=>by simp[storeCells]
  rcases inv_own hb hs with ⟨hB,h2,hn0,rfl⟩ | ⟨b,o,a,cap,c,E,f,hB,rfl,h2,h3,h4,h5,h6⟩
  · have hr:=run_append_in (ty:=ty) ht hu hsz hcl (a:=none) (n:=0) (cap:=0) (w':=w) (by simp) (fun b hb=>by simp at hb) (fun _=>rfl)
    refine⟨_,w,hr,M,Good.bump g hs,Ext.bump hs,.own _ _ _ _ _ rfl ?_⟩
    simp only[ownOk,List.getElem?_set_self hlt]
    exact⟨Nat.le_refl _,fun _=>.inl ⟨hB,h2,hn0,by first | trivial | rw[hn0]⟩⟩
  · have hr:=run_append_in (ty:=ty) ht hu hsz hcl (a:=a) (n:=xs.length) (cap:=cap) (w':=w) (by omega) (fun p _=>hst _) (fun _=>rfl)
    refine⟨_,w,hr,M,Good.bump g hs,Ext.bump hs,.own _ _ _ _ _ rfl ?_⟩
    simp only[ownOk,List.getElem?_set_self hlt]
    exact⟨Nat.le_refl _,fun _=>.inr ⟨b,o,a,cap,c,E,f,hB,rfl,h2,h3,h4,h5,h6⟩⟩
theorem own_append (g:Good w M s) {t u e ty:TypeId} {esz eb:Nat} {z:D} (ht:P.underlying t=some (.slice e)) (hu:(∃e',P.underlying u=some (.slice e'))∨P.underlying u=some .string) (hn:tinfo P e=some (esz,eb,z)) (heb:eb≠0) (hzl:z.cells.length=esz)
    {l ver:Nat} {xs ys:List A} {vb vx:Value} {cs:List Value} (hb:ARep w M s (.own l ver 0 xs.length) vb) (hs:s.getD l .dead=.cells ver esz xs) (hcl:SrcL P w esz ys.length vx cs) (hsize:cs.length=ys.length * esz)
    (hyf:∀y,y∈ys→y.fits esz=true) (hyr:∀i j,i<ys.length→j<esz→ARep w M s ((ys.getD i .any).cells.getD j .any) (cs.getD (i * esz+j) undef)) (hypos:0<ys.length) (hroom:room (xs.length+ys.length) eb) :
    ∃r w',(Builtin.append_ #[t,u] ty #[vb,vx]).run P w=.ok r w'∧∃M',Good w' M' (s.set l (.cells (ver+1) esz (xs++ys)))∧Ext w M s w' M' (s.set l (.cells (ver+1) esz (xs++ys)))∧ARep w' M' (s.set l (.cells (ver+1) esz (xs++ys))) (.own l (ver+1) 0 (xs.length+ys.length)) r:=by
  have hsz:=tsize_of_tinfo hn
  have hone:∀k,k<cs.length→(cs.getD k undef).oneCell'=true:=by
    intro k hk
    rw[hsize] at hk
    obtain⟨q0,q1,q2,q3⟩:=divmod hk
    have h3:=hyr _ _ q1 q2
    rw[q3] at h3
    refine h3.oneCell ?_
    have h4:=hyf _ (getD_mem ys .any q1)
    simp only[A.fits,Bool.and_eq_true,beq_iff_eq,List.all_eq_true] at h4
    exact h4.2 _ (getD_mem _ _ (by omega))
  rcases inv_own hb hs with ⟨hB,_,hn0,rfl⟩ | ⟨b,o,a,cap,c,E,f,hB,rfl,h2,h3,h4,h5,h6⟩
  · have hx0:xs=[]:=List.eq_nil_of_length_eq_zero hn0
    subst hx0
    obtain⟨nc,rest,k1,k2,k3⟩:=run_append_out (a:=none) (n:=0) (cap:=0) (olds:=[]) ht hu hn heb hcl (by omega) (by simpa using hroom) (fun w' _=>by simp[Builtin.firstCells]) (ty:=ty)
    rw[hzl] at k2
    obtain⟨M',m1,m2,m3⟩:=own_new (E:=e) g hs (ys:=ys) (co:=[]) (cs:=cs) ⟨by simp,hsize,by simp,hyf,by simp,hyr⟩ k1 k2
    exact⟨_,_,k3,M',m1,m2,m3⟩
  · have hgr:Grow w M s esz xs ys ((List.range (xs.length * esz)).map fun k=>c.getD (o+k) undef) cs:=by
      rcases Nat.eq_zero_or_pos xs.length with hx0 | hx0
      · have hx0:xs=[]:=List.eq_nil_of_length_eq_zero hx0
        subst hx0
        exact⟨by simp,hsize,by simp,hyf,by simp,hyr⟩
      · obtain⟨b',o',c',E',f',hB',hc',hu',hsz',hfit,hr⟩:=g.cells hs hx0
        rw[hB] at hB'
        simp at hB'
        obtain⟨rfl,rfl⟩:=hB'
        rw[h5] at hc'
        simp at hc'
        obtain⟨rfl,rfl,rfl⟩:=hc'
        refine⟨by simp,hsize,hfit,hyf,fun i j hi hj=>?_,hyr⟩
        rw[list_range_getD _ (flat_lt hi hj),← Nat.add_assoc]
        exact hr i j hi hj
    rw[Nat.zero_add] at h6
    by_cases hin:xs.length+ys.length≤cap
    · have ha:=h4 (by omega)
      rw[Nat.zero_mul,Nat.add_zero] at ha
      subst ha
      have hcl2:=hsize
      have hle:(xs.length+ys.length) * esz≤cap * esz:=Nat.mul_le_mul_right _ hin
      rw[Nat.add_mul] at hle
      obtain⟨M',m1,m2,m3⟩:=own_room g hs hgr hB h5 h6 hin (fun k hk=>by rw[list_range_getD _ hk])
      refine⟨_,_,run_append_in ht hu hsz hcl hin (w':=w.setCells b (o+xs.length * esz) cs) (fun b' hb'=>?_) (fun hn=>by simp at hn),M',m1,m2,m3⟩
      simp at hb'
      subst hb'
      have hu2:unfrozen f o c.size:=by
        have:=g.obj l
        rw[hs] at this
        rcases this with ⟨_,q1⟩ | ⟨b2,o2,c2,E2,f2,q1,q2,q3,_⟩
        · rw[hB] at q1;simp at q1
        · rw[hB] at q1
          simp at q1
          obtain⟨rfl,rfl⟩:=q1
          rw[h5] at q2
          simp at q2
          obtain⟨rfl,rfl,rfl⟩:=q2
          exact q3
      rw[Addr.add_lit]
      have:=run_storeCells_cells (P:=P) b (o+xs.length * esz) cs 0 w (fun j hj=>by
          rw[Nat.add_zero,cell?_heap h5 (by omega)];rfl)
        (fun j hj=>by
          have:=hu2 (o+xs.length * esz+0+j) (by omega) (by omega)
          simp[World.frozen?,h5]
          simp at this
          exact this)
        (fun v hv=>by
          obtain⟨k,hk,rfl⟩:=List.getElem_of_mem hv
          have:=hone k hk
          rwa [getD_lt _ _ hk] at this)
      rwa [Nat.add_zero] at this
    · obtain⟨nc,rest,k1,k2,k3⟩:=run_append_out (a:=a) (n:=xs.length) (cap:=cap) (olds:=(List.range (xs.length * esz)).map fun k=>c.getD (o+k) undef) ht hu hn heb hcl (by omega) hroom (fun w' hw=>by
        by_cases hc0:cap=0
        · have hx0:xs.length=0:=by omega
          rw[hx0]
          simp only[Nat.zero_mul,List.range_zero,List.map_nil]
          cases a with
          | none=>simp[Builtin.firstCells]
          | some a=>simpa using run_firstCells_some (P:=P) w' esz 0 a 0 cap [] (by simp) (by simp)
        · rw[h4 hc0,Nat.zero_mul,Nat.add_zero]
          refine firstCells_at (fun k hk=>?_)
          rw[cell?_of_heap (w:=w) (by rw[hw])]
          have:xs.length * esz≤cap * esz:=Nat.mul_le_mul_right _ h3
          exact cell?_heap h5 (by omega)) (ty:=ty)
      rw[hzl] at k2
      obtain⟨M',m1,m2,m3⟩:=own_new (E:=e) g hs hgr k1 k2
      exact⟨_,_,k3,M',m1,m2,m3⟩
theorem eAppend_sound (g:Good w M s) {t u e ty:TypeId} {esz eb nw:Nat} {z:D} (ht:P.underlying t=some (.slice e)) (hu:(∃e',P.underlying u=some (.slice e'))∨P.underlying u=some .string) (hn:tinfo P e=some (esz,eb,z)) (heb:eb≠0) (hzl:z.cells.length=esz)
    {b x:A} {vb vx:Value} (hb:ARep w M s b vb) (hx:ARep w M s x vx) (h:(eAppend s nw esz eb b x).pre) :
    ∃r w',(Builtin.append_ #[t,u] ty #[vb,vx]).run P w=.ok r w'∧After w M s (eAppend s nw esz eb b x) r w':=by
  have hsz:=tsize_of_tinfo hn
  unfold eAppend at h ⊢
  split at h
  · rename_i l e0 xs
    split at h
    · rename_i n hs
      obtain⟨rfl,rfl,hsrc,hroom⟩:=h
      obtain⟨cs,hcs⟩:=src_sound (P:=P) g hx hsrc
      have hset:∀y,Store.setAll s ((l,y)::borFp s x)=s.set l y:=fun y=>setAll_bor (bor_ne hsrc (fun v e xs'=>by rw[hs];simp))
      generalize (src s e0 x).2=ys at *
      obtain⟨hl1,hlt⟩:=getD_ne hs (by simp)
      cases hb with
      | gr l esz xs vb hb =>
        obtain⟨hbd,hb⟩:=hb
        rw[hl1] at hb
        obtain⟨a,cap,rfl,hr⟩:=hb.2 rfl
        obtain⟨_,_,hv,hcap⟩:=sl_cap hbd
        simp at hv
        obtain⟨rfl,rfl⟩:=hv
        by_cases hin:xs.length+ys.length≤cap
        · rcases hr with ⟨hB,hcn⟩ | ⟨b,o,c,E,f,hB,ho,ha,hc,hroom2,_⟩
          · have h0:ys=[]:=by
              apply List.eq_nil_of_length_eq_zero
              omega
            subst h0
            have hc0:cs=[]:=by
              apply List.eq_nil_of_length_eq_zero
              rw[hcs.csize]
              simp
            subst hc0
            refine⟨_,w,run_append_in ht hu hsz hcs.toL hin (fun b hb=>rfl) (fun _=>rfl),M,?_,?_,?_⟩
            · simp only[hset,List.length_nil,Nat.add_zero];rw[set_same hs (by simp)];exact g
            · simp only[hset,List.length_nil,Nat.add_zero];rw[set_same hs (by simp)];exact Ext.refl w M s
            · simp only[hset,List.length_nil,Nat.add_zero,List.append_nil];rw[set_same hs (by simp)]
              refine .gr _ _ _ _ ⟨hbd,?_⟩
              rw[hl1]
              exact⟨Nat.le_refl _,fun _=>⟨_,_,rfl,.inl ⟨hB,hcn⟩⟩⟩
          · subst ha
            obtain⟨M',k1,k2,k3,_⟩:=gr_room g hl1 hB ho hbd hc hroom2 hin hcs.csize hcs.fits hcs.rep
            refine⟨_,w.setCells b o cs,run_append_in ht hu hsz hcs.toL hin (fun b' hb'=>?_) (fun hn=>by simp at hn),M',?_,?_,?_⟩
            · simp at hb'
              subst hb'
              have hmul:(cap-xs.length) * e0=cap * e0-xs.length * e0:=Nat.sub_mul _ _ _
              have hle:(xs.length+ys.length) * e0≤cap * e0:=Nat.mul_le_mul_right _ hin
              rw[Nat.add_mul] at hle
              have hcl:=hcs.csize
              have hu2:unfrozen f o c.size:=by
                have:=g.obj l
                rw[hs] at this
                obtain⟨c2,E2,f2,h6,h7,_⟩:=this b o hB
                rw[hc] at h6
                simp at h6
                obtain⟨rfl,rfl,rfl⟩:=h6
                exact h7
              have hadd:(⟨b,o-xs.length * e0,none⟩:Addr).add (xs.length * e0)=⟨b,o,none⟩:=by
                rw[Addr.add_lit,show o-xs.length * e0+xs.length * e0=o by omega]
              rw[hadd]
              have:=run_storeCells_cells (P:=P) b o cs 0 w (fun j hj=>by
                  rw[Nat.add_zero,cell?_heap hc (by omega)];rfl)
                (fun j hj=>by
                  have:=hu2 (o+0+j) (by omega) (by omega)
                  simp[World.frozen?,hc]
                  simp at this
                  exact this)
                (fun v hv=>by
                  obtain⟨k,hk,rfl⟩:=List.getElem_of_mem hv
                  have:=hcs.one hk
                  rwa [getD_lt _ _ hk] at this)
              rwa [Nat.add_zero] at this
            · simp only[hset];exact k1
            · simp only[hset];exact k2
            · simp only[hset];exact k3
        · obtain⟨co,hco⟩:=sl_src (P:=P) hbd
          obtain⟨nc,rest,h1,h2,h3⟩:=run_append_out ht hu hn heb hcs.toL (by omega:cap<xs.length+ys.length) hroom hco.first (ty:=ty)
          rw[hzl] at h2
          obtain⟨M',k1,k2,k3,_⟩:=gr_new g (zs:=xs++ys) (cz:=co++cs) (rest:=rest) (E:=e) (esz:=e0) (nc:=nc) (.inr ⟨_,hl1,by simp;omega⟩) (by rw[List.length_append,List.length_append,hco.csize,hcs.csize,Nat.add_mul])
            (fun y hy=>by rcases List.mem_append.1 hy with hy | hy;exact hco.fits y hy;exact hcs.fits y hy) (app_getD hco.csize hco.rep hcs.rep) (by simpa using h1) (by simpa using h2)
          have he:(co++cs).toArray++rest=co.toArray++cs.toArray++rest:=by simp
          rw[he] at k1 k2 k3
          rw[List.length_append] at k1 k2 k3
          exact⟨_,_,h3,M',by simp only[hset];exact k1,by simp only[hset];exact k2,by simp only[hset];exact k3⟩
    · exact h.elim
  · obtain⟨hnw,hsrc,hroom⟩:=h
    obtain⟨cs,hcs⟩:=src_sound (P:=P) g hx hsrc
    obtain⟨hl1,hlt⟩:=getD_getElem? hnw
    have hset:∀y,Store.setAll s ((nw,y)::borFp s x)=s.set nw y:=fun y=>setAll_bor (bor_ne hsrc (fun v e xs'=>by rw[hl1];simp))
    generalize (src s esz x).2=ys at *
    have hd:=inv_d hb
    cases hd
    by_cases h0:ys=[]
    · subst h0
      have hc0:cs=[]:=by
        apply List.eq_nil_of_length_eq_zero
        rw[hcs.csize]
        simp
      subst hc0
      have hr:=run_append_in (ty:=ty) ht hu hsz hcs.toL (a:=none) (n:=0) (cap:=0) (by simp) (fun b hb=>by simp at hb) (fun _=>rfl)
      obtain⟨M',k1,k2,k3⟩:=eGrow_sound (e:=esz) (a:=none) g hnw
      refine⟨_,w,hr,M',?_,?_,?_⟩
      · simp only[hset];exact k1
      · simp only[hset];exact k2
      · simp only[hset];exact k3
    · have hypos:0<ys.length:=List.length_pos_iff.2 h0
      obtain⟨nc,rest,h1,h2,h3⟩:=run_append_out (a:=none) (n:=0) (cap:=0) (olds:=[]) ht hu hn heb hcs.toL (by omega) (by simpa using hroom) (fun w' _=>by simp[Builtin.firstCells]) (ty:=ty)
      rw[hzl] at h2
      simp only[Nat.zero_add] at h1 h2 h3
      obtain⟨M',k1,k2,k3,_⟩:=gr_new g (zs:=ys) (cz:=cs) (rest:=rest) (E:=e) (esz:=esz) (nc:=nc) (.inl hnw) hcs.csize hcs.fits hcs.rep h1 h2
      have he:#[]++cs.toArray++rest=cs.toArray++rest:=by simp
      rw[he] at h3
      exact⟨_,_,h3,M',by simp only[hset];exact k1,by simp only[hset];exact k2,by simp only[hset];exact k3⟩
  · rename_i l ver off n
    split at h
    · rename_i ver' e0 xs hs
      split at h
      · rename_i l2 v2 o2 n2
        split at h
        · rename_i v2' e2 zs hz
          obtain⟨rfl,rfl,rfl,rfl,hl2,rfl,rfl,hpos,hroom⟩:=h
          obtain⟨cs,k1,k2,k3,k4,k5⟩:=own_srcA (P:=P) g hx hz hpos
          obtain⟨r,w',hr,M',m1,m2,m3⟩:=own_append (ty:=ty) (ys:=(zs.drop o2).take n2) g ht hu hn heb hzl hb hs (by rw[k1];exact k2) (by rw[k1];exact k3) k4 (fun i j hi hj=>k5 i j (by omega) hj) (by rw[k1];exact hpos) (by rw[k1];exact hroom)
          have hset:Store.setAll s [(l,.cells (ver+1) e2 (xs++(zs.drop o2).take n2)),(l2,.cells v2 e2 zs)]=s.set l (.cells (ver+1) e2 (xs++(zs.drop o2).take n2)):=by
            show (s.set l _).set l2 _=_
            rw[List.set_comm _ _ (Ne.symm hl2),← hz,set_getDs]
          rw[k1] at m3
          exact⟨r,w',hr,M',by simp only[hset];exact m1,by simp only[hset];exact m2,by simp only[hset];exact m3⟩
        · exact h.elim
      · obtain⟨rfl,rfl,rfl,rfl,hno,hsrc,hroom⟩:=h
        obtain⟨cs,hcs⟩:=src_sound (P:=P) g hx hsrc
        by_cases hne:(src s e0 x).2=[]
        · have hcl:=hcs.toL
          rw[hne] at hcl ⊢
          have hc0:cs=[]:=List.eq_nil_of_length_eq_zero (by rw[hcs.csize,hne];simp)
          subst hc0
          obtain⟨r,w',hr,M',m1,m2,m3⟩:=own_append0 (ty:=ty) g ht hu hn hb hs hcl
          refine⟨r,w',hr,M',?_,?_,?_⟩
          · simpa [setAll_one] using m1
          · simpa [setAll_one] using m2
          · simpa [setAll_one] using m3
        have hypos:0<((src s e0 x).2.map A.d).length:=by rw[List.length_map];exact List.length_pos_iff.2 hne
        obtain⟨r,w',hr,M',m1,m2,m3⟩:=own_append (ty:=ty) g ht hu hn heb hzl hb hs (ys:=(src s e0 x).2.map A.d) (by rw[List.length_map];exact hcs.toL) (by rw[List.length_map];exact hcs.csize) (hcs.grow (s:=s)).1 (hcs.grow (s:=s)).2 hypos (by rw[List.length_map];exact hroom)
        rw[List.length_map] at m3
        simp only[setAll_one]
        exact⟨r,w',hr,M',m1,m2,m3⟩
    · exact h.elim
  · exact h.elim
theorem gr_append (g:Good w M s) {t u e ty:TypeId} {esz eb:Nat} {z:D} (ht:P.underlying t=some (.slice e)) (hu:(∃e',P.underlying u=some (.slice e'))∨P.underlying u=some .string) (hn:tinfo P e=some (esz,eb,z)) (heb:eb≠0) (hzl:z.cells.length=esz)
    {l:Nat} {xs ys:List D} {vb vx:Value} {cs:List Value} (hb:grOk w M s l esz xs vb) (hl1:s[l]?=some (.tip xs.length)) (hcs:Src P w M esz ys vx cs) (hroom:room (xs.length+ys.length) eb) :
    ∃r w' M',(Builtin.append_ #[t,u] ty #[vb,vx]).run P w=.ok r w'∧Good w' M' (s.set l (.tip (xs.length+ys.length)))∧Ext w M s w' M' (s.set l (.tip (xs.length+ys.length)))∧grOk w' M' (s.set l (.tip (xs.length+ys.length))) l esz (xs++ys) r∧(typedOk w M s l e xs.length vb→typedOk w' M' (s.set l (.tip (xs.length+ys.length))) l e (xs.length+ys.length) r):=by
  have hsz:=tsize_of_tinfo hn
  obtain⟨hs,hlt⟩:=getD_getElem? hl1
  obtain⟨hbd,hb⟩:=hb
  rw[hl1] at hb
  obtain⟨a,cap,rfl,hr⟩:=hb.2 rfl
  obtain⟨_,_,hv,hcap⟩:=sl_cap hbd
  simp at hv
  obtain⟨rfl,rfl⟩:=hv
  by_cases hin:xs.length+ys.length≤cap
  · rcases hr with ⟨hB,hcn⟩ | ⟨b,o,c,E,f,hB,ho,ha,hc,hroom2,_⟩
    · have h0:ys=[]:=by
        apply List.eq_nil_of_length_eq_zero
        omega
      subst h0
      have hc0:cs=[]:=by
        apply List.eq_nil_of_length_eq_zero
        rw[hcs.csize]
        simp
      subst hc0
      refine⟨_,w,M,run_append_in ht hu hsz hcs.toL hin (fun b hb=>rfl) (fun _=>rfl),?_,?_,?_,?_⟩
      · simp only[List.length_nil,Nat.add_zero];rw[set_same hs (by simp)];exact g
      · simp only[List.length_nil,Nat.add_zero];rw[set_same hs (by simp)];exact Ext.refl w M s
      rotate_left
      · intro hty
        simp only[List.length_nil,Nat.add_zero]
        rw[set_same hs (by simp)]
        simpa using hty
      · simp only[List.length_nil,Nat.add_zero,List.append_nil];rw[set_same hs (by simp)]
        refine⟨hbd,?_⟩
        rw[hl1]
        exact⟨Nat.le_refl _,fun _=>⟨_,_,rfl,.inl ⟨hB,hcn⟩⟩⟩
    · subst ha
      obtain⟨M',k1,k2,k3,k9⟩:=gr_room g hl1 hB ho hbd hc hroom2 hin hcs.csize hcs.fits hcs.rep
      refine⟨_,w.setCells b o cs,M',run_append_in ht hu hsz hcs.toL hin (fun b' hb'=>?_) (fun hn=>by simp at hn),k1,k2,(by cases k3;assumption),?_⟩
      · simp at hb'
        subst hb'
        have hmul:(cap-xs.length) * esz=cap * esz-xs.length * esz:=Nat.sub_mul _ _ _
        have hle:(xs.length+ys.length) * esz≤cap * esz:=Nat.mul_le_mul_right _ hin
        rw[Nat.add_mul] at hle
        have hcl:=hcs.csize
        have hu2:unfrozen f o c.size:=by
          have:=g.obj l
          rw[hs] at this
          obtain⟨c2,E2,f2,h6,h7,_⟩:=this b o hB
          rw[hc] at h6
          simp at h6
          obtain⟨rfl,rfl,rfl⟩:=h6
          exact h7
        have hadd:(⟨b,o-xs.length * esz,none⟩:Addr).add (xs.length * esz)=⟨b,o,none⟩:=by
          rw[Addr.add_lit,show o-xs.length * esz+xs.length * esz=o by omega]
        rw[hadd]
        have:=run_storeCells_cells (P:=P) b o cs 0 w (fun j hj=>by
            rw[Nat.add_zero,cell?_heap hc (by omega)];rfl)
          (fun j hj=>by
            have:=hu2 (o+0+j) (by omega) (by omega)
            simp[World.frozen?,hc]
            simp at this
            exact this)
          (fun v hv=>by
            obtain⟨k,hk,rfl⟩:=List.getElem_of_mem hv
            have:=hcs.one hk
            rwa [getD_lt _ _ hk] at this)
        rwa [Nat.add_zero] at this
      · rintro (hty | ⟨b2,n2,cap2,c2,f2,hty1,hty2,hty3,_⟩)
        · cases hty
        · simp only[Value.slice.injEq,Option.some.injEq,Addr.mk.injEq] at hty1
          obtain⟨⟨rfl,hoo,_⟩,rfl,rfl⟩:=hty1
          rw[hc] at hty3
          simp only[Option.some.injEq,Obj.cells.injEq] at hty3
          obtain⟨rfl,rfl,rfl⟩:=hty3
          have hle:(xs.length+ys.length) * esz≤cap * esz:=Nat.mul_le_mul_right _ hin
          have hmul:(cap-xs.length) * esz=cap * esz-xs.length * esz:=Nat.sub_mul _ _ _
          rw[Nat.add_mul] at hle
          have hcl:=hcs.csize
          obtain⟨c',e1,_⟩:=setCells_heap (E:=E) (f:=f) cs o w c hc (by omega)
          exact .inr ⟨b,_,_,c',f,by rw[hoo],hty2,e1,by unfold tipOk;rw[List.getElem?_set_self hlt];exact⟨Nat.le_refl _,fun _=>k9⟩⟩
  · obtain⟨co,hco⟩:=sl_src (P:=P) hbd
    obtain⟨nc,rest,h1,h2,h3⟩:=run_append_out ht hu hn heb hcs.toL (by omega:cap<xs.length+ys.length) hroom hco.first (ty:=ty)
    rw[hzl] at h2
    obtain⟨M',k1,k2,k3,k9⟩:=gr_new g (zs:=xs++ys) (cz:=co++cs) (rest:=rest) (E:=e) (esz:=esz) (nc:=nc) (.inr ⟨_,hl1,by simp;omega⟩) (by rw[List.length_append,List.length_append,hco.csize,hcs.csize,Nat.add_mul])
      (fun y hy=>by rcases List.mem_append.1 hy with hy | hy;exact hco.fits y hy;exact hcs.fits y hy) (app_getD hco.csize hco.rep hcs.rep) (by simpa using h1) (by simpa using h2)
    have he:(co++cs).toArray++rest=co.toArray++cs.toArray++rest:=by simp
    rw[he] at k1 k2 k3
    rw[List.length_append] at k1 k2 k3
    refine⟨_,_,M',h3,k1,k2,(by cases k3;assumption),fun _=>.inr ⟨_,_,nc,_,(0,0),rfl,by omega,heap_push_new rfl,by unfold tipOk;rw[List.getElem?_set_self hlt];exact⟨Nat.le_refl _,fun _=>k9⟩⟩⟩
theorem eBappend_sound (g:Good w M s) {t u e ty:TypeId} {z:D} (ht:P.underlying t=some (.slice e)) (hu:(∃e',P.underlying u=some (.slice e'))∨P.underlying u=some .string) (hn:tinfo P e=some (1,1,z)) (hzl:z.cells.length=1)
    {b x:A} {vb vx:Value} (hb:ARep w M s b vb) (hx:ARep w M s x vx) (h:(eBappend s e b x).pre) :
    ∃r w',(Builtin.append_ #[t,u] ty #[vb,vx]).run P w=.ok r w'∧After w M s (eBappend s e b x) r w':=by
  have hsrc:(bsrc x).1→(src s 1 x).1∧(src s 1 x).2=bytD (bsrc x).2:=by
    unfold bsrc
    split
    · exact fun _=>⟨rfl,rfl⟩
    · rintro⟨rfl,h1,h2⟩
      refine⟨rfl,?_⟩
      rename_i n
      show [D.int .u8 n]=[D.int .u8 ((UInt8.ofNat n.toNat).toNat:Nat)]
      have:(((UInt8.ofNat n.toNat).toNat:Nat):Int)=n:=by
        rw[UInt8.toNat_ofNat']
        omega
      rw[this]
    · exact fun h=>h.elim
  cases hb with
  | bgr l t' bs vb hg hty =>
    simp only[eBappend] at h ⊢
    split at h
    · rename_i n hs
      obtain⟨rfl,rfl,hxs,hroom⟩:=h
      obtain⟨q1,q2⟩:=hsrc hxs
      obtain⟨cs,hcs⟩:=src_sound (P:=P) g hx q1
      rw[q2] at hcs
      have hl1:=(getD_ne hs (by simp)).1
      have hlen:∀bs:List UInt8,(bytD bs).length=bs.length:=fun bs=>by simp[bytD]
      obtain⟨r,w',M',hr,k1,k2,k3,k4⟩:=gr_append (ty:=ty) g ht hu hn (by omega) hzl hg (by rw[hlen];exact hl1) hcs (by rw[hlen,hlen];exact hroom)
      rw[hlen,hlen] at k1 k2 k3
      have k4:=k4 (by rw[hlen];exact hty)
      rw[hlen,hlen] at k4
      refine⟨r,w',hr,M',k1,k2,.bgr _ _ _ _ ?_ (by rw[List.length_append];exact k4)⟩
      have:bytD (bs++(bsrc x).2)=bytD bs++bytD (bsrc x).2:=by simp[bytD]
      rw[this]
      exact k3
    · exact h.elim
  | _=>exact h.elim
end
end Go.AE
namespace Go.AE
section
variable {P:Program} {w:World} {M:Mem} {s:Store}
theorem foldSet (off:Nat):∀(l:List Value) (j0:Nat) (cs:Array Value),
    ((l.zipIdx j0).foldl (fun (cs:Array Value) (p:Value × Nat)=>cs.setIfInBounds (off+p.2) p.1) cs).size=cs.size ∧
    ∀k,((l.zipIdx j0).foldl (fun (cs:Array Value) (p:Value × Nat)=>cs.setIfInBounds (off+p.2) p.1) cs)[k]? =
      if off+j0≤k∧k<off+j0+l.length∧k<cs.size then l[k-(off+j0)]? else cs[k]?:=by
  intro l
  induction l with
  | nil =>
    intro j0 cs
    refine⟨rfl,fun k=>?_⟩
    rw[if_neg (by simp only[List.length_nil];omega)]
    rfl
  | cons v l ih =>
    intro j0 cs
    simp only[List.zipIdx_cons,List.foldl_cons,List.length_cons]
    obtain⟨h1,h2⟩:=ih (j0+1) (cs.setIfInBounds (off+j0) v)
    refine⟨by rw[h1];simp,fun k=>?_⟩
    rw[h2]
    simp only[Array.size_setIfInBounds]
    by_cases hk:off+(j0+1)≤k∧k<off+(j0+1)+l.length∧k<cs.size
    · rw[if_pos hk,if_pos (by omega),show k-(off+j0)=k-(off+(j0+1))+1 by omega]
      simp
    · rw[if_neg hk,Array.getElem?_setIfInBounds]
      by_cases hk2:off+j0=k
      · subst hk2
        rw[if_pos rfl]
        by_cases hk3:off+j0<cs.size
        · rw[if_pos hk3,if_pos (by omega)]
          simp
        · rw[if_neg hk3,if_neg (by omega)]
          simp[Nat.le_of_not_lt hk3]
      · rw[if_neg hk2,if_neg (by omega)]
theorem fill_cons {place:Nat→Option (Nat × Nat)} {cells:Array Value} {i off size:Nat} {v:Value} {rest:List (Nat × Value)} (hp:place i=some (off,size)) (hv:v.cells.size=size) (hl:off+size≤cells.size) :
    ∃c',Instr.fill place cells ((i,v)::rest)=Instr.fill place c' rest∧c'.size=cells.size∧∀k,c'.getD k undef=if off≤k∧k<off+size then v.cells.getD (k-off) undef else cells.getD k undef:=by
  obtain⟨h1,h2⟩:=foldSet off v.cells.toList 0 cells
  refine⟨(v.cells.toList.zipIdx 0).foldl (fun cs p=>cs.setIfInBounds (off+p.2) p.1) cells,?_,h1,fun k=>?_⟩
  · have e:v.cells.zipIdx.foldl (fun cs (x:Value × Nat)=>match x with | (c,j)=>cs.setIfInBounds (off+j) c) cells=(v.cells.toList.zipIdx 0).foldl (fun cs p=>cs.setIfInBounds (off+p.2) p.1) cells:=by
      rw[← Array.foldl_toList,Array.toList_zipIdx]
    simp only[Instr.fill,hp,hv]
    rw[if_neg (show ¬((decide (size≠size) || decide (off+size > cells.size))=true) by simp;omega)]
    rw[← e]
  · simp only[Array.getD_eq_getD_getElem?,h2,Nat.add_zero]
    simp only[Array.length_toList,hv]
    by_cases hk:off≤k∧k<off+size
    · rw[if_pos (by omega),if_pos hk]
      simp
    · rw[if_neg (by omega),if_neg hk]
theorem fill_dense (size:Nat) (ρ:Operand→Value):∀(l:List (Nat × Operand)) (k0:Nat) (cells:Array Value),dense k0 l=true→(∀p,p∈l→(ρ p.2).cells.size=size)→(k0+l.length) * size≤cells.size →
    ∃c',Instr.fill (fun i=>some (i * size,size)) cells (l.map fun p=>(p.1,ρ p.2))=some c'∧c'.size=cells.size∧(∀k,k<k0 * size→c'.getD k undef=cells.getD k undef) ∧
      ∀i j,i<l.length→j<size→c'.getD ((k0+i) * size+j) undef=(ρ (l.getD i default).2).cells.getD j undef:=by
  intro l
  induction l with
  | nil =>
    intro k0 cells _ _ _
    exact⟨cells,rfl,rfl,fun _ _=>rfl,fun i j hi _=>by simp at hi⟩
  | cons p l ih =>
    intro k0 cells hd hs hl
    obtain⟨i0,x⟩:=p
    simp only[dense,Bool.and_eq_true,beq_iff_eq] at hd
    obtain⟨rfl,hd⟩:=hd
    simp only[List.length_cons] at hl
    have hl2:(i0+1) * size≤(i0+(l.length+1)) * size:=Nat.mul_le_mul_right _ (by omega)
    rw[Nat.add_mul,Nat.one_mul] at hl2
    obtain⟨c1,h1,h2,h3⟩:=fill_cons (place:=fun i=>some (i * size,size)) (cells:=cells) (i:=i0) (v:=ρ x) (rest:=l.map fun p=>(p.1,ρ p.2)) rfl (hs (i0,x) (by simp)) (by omega)
    obtain⟨c2,k1,k2,k3,k4⟩:=ih (i0+1) c1 hd (fun p hp=>hs p (by simp[hp])) (by rw[h2,show i0+1+l.length=i0+(l.length+1) by omega];exact hl)
    refine⟨c2,?_,by omega,fun k hk=>?_,fun i j hi hj=>?_⟩
    · rw[List.map_cons,h1,k1]
    · rw[k3 k (by rw[Nat.add_mul];omega),h3,if_neg (by omega)]
    · cases i with
      | zero =>
        rw[Nat.add_zero,k3 _ (by rw[Nat.add_mul];omega),h3,if_pos (by omega),show i0 * size+j-i0 * size=j by omega]
        rfl
      | succ i =>
        have:=k4 i j (by simpa using hi) hj
        rw[show i0+(i+1)=i0+1+i by omega,this]
        rfl
theorem trAll_spec {tr:Operand→Option V}:∀{os:List Operand} {vs:List V},trAll tr os=some vs→os.length=vs.length∧∀i,i<vs.length→tr (os.getD i default)=some (vs.getD i default):=by
  intro os
  induction os with
  | nil=>intro vs h;simp[trAll] at h;subst h;simp
  | cons x os ih =>
    intro vs h
    unfold trAll at h
    split at h
    · rename_i y ys h1 h2
      simp at h
      subst h
      obtain⟨i1,i2⟩:=ih h2
      refine⟨by simp[i1],fun i hi=>?_⟩
      cases i with
      | zero=>exact h1
      | succ i=>exact i2 i (by simpa using hi)
    · simp at h
theorem eSbuild_sound (g:Good w M s) {t e:TypeId} {esz n:Nat} (ht:P.underlying t=some (.slice e)) (hn:tsize P e=some esz) (hz:(P.info? e).any (·.zero.isSome)=true) {ps:Array (Nat × Operand)} (hd:dense 0 ps.toList=true) (hsz:ps.size=n)
    (hbig:n * esz≤16777216) (ρ:Operand→Value) {xs:List A} (hxl:xs.length=ps.size) (hx:∀i,i<xs.length→ARep w M s (xs.getD i .any) (ρ (ps.toList.getD i default).2)) (h:(eSbuild esz xs).pre) :
    ∃r w',(Instr.buildSlice t n (ps.map fun (i,x)=>(i,ρ x))).run P w=.ok r w'∧After w M s (eSbuild esz xs) r w'∧(xs=[]→∃a,r=.slice a 0 0):=by
  subst hsz
  simp only[eSbuild,Eff.valIf,List.all_eq_true,Bool.and_eq_true] at h
  obtain⟨i,hi,hisz⟩:=tsize_spec hn
  obtain⟨zv,hzv⟩:∃zv,i.zero=some zv:=by
    rw[hi] at hz
    simpa [Option.isSome_iff_exists] using hz
  have hlen:ps.toList.length=ps.size:=by simp
  have part:∀i,i<xs.length→(ρ (ps.toList.getD i default).2).cells.size=esz∧∀j,j<esz→DRep w M.I ((xs.getD i .any).toD.cells.getD j default) ((ρ (ps.toList.getD i default).2).cells.getD j undef):=by
    intro i hi
    obtain⟨h1,h2⟩:=h _ (getD_mem xs .any hi)
    have h3:=(hx i hi).toD h1
    have h4:=(ARep.d _ _ h3:ARep w M s (.d (xs.getD i .any).toD) _).cells (D.fits_A h2)
    refine⟨h4.1,fun j hj=>?_⟩
    have h5:=(A.fits_toD (D.fits_A h2) rfl).2 j hj
    have h6:=(h4.2.2 j hj).1.toD h5.1
    rw[← h5.2] at h6
    exact h6
  have hps:∀p,p∈ps.toList→(ρ p.2).cells.size=esz:=by
    intro p hp
    obtain⟨i,hi,rfl⟩:=List.getElem_of_mem hp
    have:=(part i (by omega)).1
    rwa [getD_lt _ _ hi] at this
  generalize hc0:madeCells zv.cells (ps.size * esz)=c0
  have hc0s:c0.size=ps.size * esz:=by rw[← hc0,size_madeCells]
  obtain⟨c',f1,f2,_,f4⟩:=fill_dense esz ρ ps.toList 0 c0 hd hps (by rw[hc0s];simp)
  have hrun:(Instr.buildSlice t ps.size (ps.map fun (i,x)=>(i,ρ x))).run P w=.ok (.slice (some ⟨w.heap.size,0,none⟩) ps.size ps.size) (w.alloc (.cells c' e)):=by
    have hb:¬(16777216<ps.size * esz):=by omega
    have hl:(ps.map fun (x:Nat × Operand)=>(x.1,ρ x.2)).toList=ps.toList.map fun p=>(p.1,ρ p.2):=by simp
    have f1':Instr.fill (fun i=>some (i * esz,esz)) ((Array.range (ps.size * esz)).map (zv.cells[· % zv.cells.size]!)) (ps.toList.map fun p=>(p.1,ρ p.2))=some c':=by
      rw[← f1,← hc0]
      rfl
    unfold Instr.buildSlice
    simp only[Sem.run_bind,run_underlying ht,Result.andThen_ok,run_tsize hn,hl]
    rw[if_neg (by simpa using hb)]
    by_cases h0:ps.size * esz=0
    · have:(Array.range (ps.size * esz)).map (zv.cells[· % zv.cells.size]!)=(Array.range (ps.size * esz)).map ((#[]:Array Value)[· % (#[]:Array Value).size]!):=by
        rw[h0,Array.range_zero'];simp
      rw[this] at f1'
      simp[h0,newRow] at f1' ⊢
      rw[f1']
      simp
    · simp[h0,zeroValue,typeInfo,hi,hzv,newRow,f1']
  have hw:(w.alloc (.cells c' e)).heap=w.heap.push (.cells c' e):=rfl
  refine⟨_,_,hrun,⟨M.pushI w.heap.size (ps.size * esz),?_,?_,.d _ _ ?_⟩,fun h0=>⟨_,by rw[show ps.size=0 by rw[← hxl,h0];rfl]⟩⟩
  · exact Good.pushI g ⟨rfl,rfl,rfl⟩ hw (fun j hj=>by rw[cell?_heap (heap_push_new hw) (by omega)];rfl)
  · exact Ext.pushI g ⟨rfl,rfl,rfl⟩ hw
  · have he:=Ext.pushI (k:=ps.size * esz) g (w':=w.alloc (.cells c' e)) ⟨rfl,rfl,rfl⟩ hw
    by_cases h0:xs=[]
    · subst h0
      simp at hxl
      simp only[eSbuild,Eff.valIf,List.map_nil]
      have h9:ps.size=0:=by omega
      rw[h9]
      exact .sl0 _ _ _
    · rw[← hxl] at hc0s ⊢
      simp only[Nat.zero_add] at f4
      refine .sl esz (xs.map A.toD) w.heap.size 0 xs.length xs.length (fun i j=>c'.getD (i * esz+j) undef) (by simp) (Nat.le_refl _) ?_ ?_ ?_ ?_
      · intro y hy
        obtain⟨x,hx,rfl⟩:=List.mem_map.1 hy
        exact (h x hx).2
      · intro i j hi hj
        exact .inr ⟨rfl,by have:=flat_lt hi hj;omega⟩
      · intro i j hi hj
        rw[Nat.zero_add]
        exact cell?_heap (heap_push_new hw) (by have:=flat_lt hi hj;omega)
      · intro i j hi hj
        rw[f4 i j (by omega) hj]
        rw[show (xs.map A.toD).getD i default=(xs.getD i .any).toD by rw[getD_lt _ _ (by simpa using hi),getD_lt _ _ hi];simp]
        rw[hxl]
        exact he.drep g ((part i hi).2 j hj)
theorem eSbuildo_sound (g:Good w M s) {t e:TypeId} {esz n nw:Nat} (ht:P.underlying t=some (.slice e)) (hn:tsize P e=some esz) (hz:(P.info? e).any (·.zero.isSome)=true) {ps:Array (Nat × Operand)} (hd:dense 0 ps.toList=true) (hsz:ps.size=n)
    (hbig:n * esz≤16777216) (ρ:Operand→Value) {xs:List A} (hxl:xs.length=ps.size) (hx:∀i,i<xs.length→ARep w M s (xs.getD i .any) (ρ (ps.toList.getD i default).2)) (h:(eSbuildo s nw esz xs).pre) :
    ∃r w',(Instr.buildSlice t n (ps.map fun (i,x)=>(i,ρ x))).run P w=.ok r w'∧After w M s (eSbuildo s nw esz xs) r w':=by
  subst hsz
  obtain⟨hl,hall⟩:=h
  rw[List.all_eq_true] at hall
  obtain⟨i,hi,hisz⟩:=tsize_spec hn
  obtain⟨zv,hzv⟩:∃zv,i.zero=some zv:=by
    rw[hi] at hz
    simpa [Option.isSome_iff_exists] using hz
  have hlen:ps.toList.length=ps.size:=by simp
  have part:∀i,i<xs.length→(ρ (ps.toList.getD i default).2).cells.size=esz∧∀j,j<esz→ARep w M s ((xs.getD i .any).cells.getD j .any) ((ρ (ps.toList.getD i default).2).cells.getD j undef):=by
    intro i hi
    have h1:=hall _ (getD_mem xs .any hi)
    have h4:=(hx i hi).cells h1
    exact⟨h4.1,fun j hj=>(h4.2.2 j hj).1⟩
  have hps:∀p,p∈ps.toList→(ρ p.2).cells.size=esz:=by
    intro p hp
    obtain⟨i,hi,rfl⟩:=List.getElem_of_mem hp
    have:=(part i (by omega)).1
    rwa [getD_lt _ _ hi] at this
  generalize hc0:madeCells zv.cells (ps.size * esz)=c0
  have hc0s:c0.size=ps.size * esz:=by rw[← hc0,size_madeCells]
  obtain⟨c',f1,f2,_,f4⟩:=fill_dense esz ρ ps.toList 0 c0 hd hps (by rw[hc0s];simp)
  have hrun:(Instr.buildSlice t ps.size (ps.map fun (i,x)=>(i,ρ x))).run P w=.ok (.slice (some ⟨w.heap.size,0,none⟩) ps.size ps.size) (w.alloc (.cells c' e)):=by
    have hb:¬(16777216<ps.size * esz):=by omega
    have hl:(ps.map fun (x:Nat × Operand)=>(x.1,ρ x.2)).toList=ps.toList.map fun p=>(p.1,ρ p.2):=by simp
    have f1':Instr.fill (fun i=>some (i * esz,esz)) ((Array.range (ps.size * esz)).map (zv.cells[· % zv.cells.size]!)) (ps.toList.map fun p=>(p.1,ρ p.2))=some c':=by
      rw[← f1,← hc0]
      rfl
    unfold Instr.buildSlice
    simp only[Sem.run_bind,run_underlying ht,Result.andThen_ok,run_tsize hn,hl]
    rw[if_neg (by simpa using hb)]
    by_cases h0:ps.size * esz=0
    · have:(Array.range (ps.size * esz)).map (zv.cells[· % zv.cells.size]!)=(Array.range (ps.size * esz)).map ((#[]:Array Value)[· % (#[]:Array Value).size]!):=by
        rw[h0,Array.range_zero'];simp
      rw[this] at f1'
      simp[h0,newRow] at f1' ⊢
      rw[f1']
      simp
    · simp[h0,zeroValue,typeInfo,hi,hzv,newRow,f1']
  have hw:(w.alloc (.cells c' e)).heap=w.heap.push (.cells c' e):=rfl
  obtain⟨hl1,hlt⟩:=getD_getElem? hl
  have hob:obStep M (M.push w.heap.size nw 0) nw (s.getD nw .dead) (.cells 0 esz xs):=by
    rw[hl1];trivial
  have hst:Still w (w.alloc (.cells c' e)):=⟨rfl,rfl,rfl⟩
  have he:=Ext.push g hst hw hlt hob
  rw[hc0s] at f2
  refine⟨_,_,hrun,M.push w.heap.size nw 0,Good.push g hst hw hlt hob (fun j hj=>absurd hj (by omega)) ?_,he,.own _ _ _ _ _ rfl ?_⟩
  · refine .inr ⟨w.heap.size,0,c',e,(0,0),by simp[Mem.push],heap_push_new hw,fun j _ _=>by omega,by rw[hxl];omega,fun x hx=>hall x hx,fun i j hi hj=>?_⟩
    rw[Nat.zero_add]
    simp only[Nat.zero_add] at f4
    rw[f4 i j (by omega) hj]
    exact he.arep g ((part i hi).2 j hj)
  · simp only[eSbuildo,setAll_one,ownOk,List.getElem?_set_self hlt]
    refine⟨Nat.le_refl _,fun _=>.inr ⟨w.heap.size,0,_,_,c',e,(0,0),by simp[Mem.push],by rw[hxl],by omega,by omega,fun _=>by simp,heap_push_new hw,by simp only[Nat.zero_add];omega⟩⟩
theorem buildParts_run {fs:Array Field} (hf:(fs.toList.all fun f=>(tsize P f.type).isSome)=true):∀w:World,
    (fs.mapM (m:=Sem) fun (f:Field)=>do pure (f.offset,← sizeOf f.type)).run P w=.ok (fs.map fun f=>(f.offset,(tsize P f.type).getD 0)) w:=by
  intro w
  rw[Array.mapM_eq_mapM_toList]
  have key:∀l:List Field,(l.all fun f=>(tsize P f.type).isSome)=true→(List.mapM (m:=Sem) (fun (f:Field)=>do pure (f.offset,← sizeOf f.type)) l).run P w=.ok (l.map fun f=>(f.offset,(tsize P f.type).getD 0)) w:=by
    intro l
    induction l with
    | nil=>intro _;rfl
    | cons f l ih =>
      intro h
      simp only[List.all_cons,Bool.and_eq_true] at h
      obtain⟨n,hn⟩:=Option.isSome_iff_exists.1 h.1
      simp only[List.mapM_cons,Sem.run_bind,run_tsize hn,Result.andThen_ok,Sem.run_pure,ih h.2,List.map_cons,hn,Option.getD_some]
  simp only[Sem.run_map,key fs.toList hf,Result.andThen_ok]
  congr 1
  apply Array.ext'
  simp
theorem eBuild_fill (tr:Operand→Option V) {fs:Array Field} (rA:V→A) (ρ:Operand→Value) (hρ:∀o v,tr o=some v→ARep w M s (rA v) (ρ o)) :
    ∀(ps:List (Nat × Operand)) (qs:List (Nat × Nat × V)) (cs:List A) (c:Array Value),buildParts P tr fs ps=some qs→c.size=cs.length→(∀k,k<cs.length→ARep w M s (cs.getD k .any) (c.getD k undef)) →
      (eBuild cs (qs.map fun p=>(p.1,p.2.1,rA p.2.2))).pre →
      ∃c',Instr.fill (fun i=>(fs.map fun f=>(f.offset,(tsize P f.type).getD 0))[i]?) c (ps.map fun p=>(p.1,ρ p.2))=some c'∧ARep w M s (eBuild cs (qs.map fun p=>(p.1,p.2.1,rA p.2.2))).res (.agg c'):=by
  intro ps
  induction ps with
  | nil =>
    intro qs cs c hb hsz hr hp
    simp[buildParts] at hb
    subst hb
    exact⟨c,rfl,.agg _ _ hsz hp hr⟩
  | cons p ps ih =>
    intro qs cs c hb hsz hr hp
    obtain⟨i,x⟩:=p
    unfold buildParts at hb
    split at hb
    · rename_i f y ys h1 h2 h3
      split at hb
      · rename_i n hn
        simp at hb
        subst hb
        simp only[List.map_cons,eBuild] at hp ⊢
        obtain⟨p1,p2,p3⟩:=hp
        obtain⟨k1,k2,k3⟩:=(hρ x y h2).cells p1
        obtain⟨c1,e1,e2,e3⟩:=fill_cons (place:=fun i=>(fs.map fun f=>(f.offset,(tsize P f.type).getD 0))[i]?) (cells:=c) (i:=i) (off:=f.offset) (size:=n) (v:=ρ x) (rest:=ps.map fun p=>(p.1,ρ p.2))
          (by simp[h1,hn]) k1 (by omega)
        have hsl:(splice cs f.offset (rA y).cells).length=cs.length:=splice_length k2 p2
        obtain⟨c',q1,q2⟩:=ih ys (splice cs f.offset (rA y).cells) c1 h3 (by omega) (fun k hk=>by
          rw[splice_getD k2 p2,e3]
          by_cases hkk:f.offset≤k∧k<f.offset+n
          · rw[if_pos hkk,if_pos hkk]
            exact (k3 _ (by omega)).1
          · rw[if_neg hkk,if_neg hkk]
            exact hr k (by omega)) p3
        exact⟨c',by rw[e1,q1],q2⟩
      · simp at hb
    · simp at hb
theorem eBuild_sound (g:Good w M s) {t:TypeId} {fs:Array Field} {n eb:Nat} {z:List D} (ht:P.underlying t=some (.struct fs)) (hz:tinfo P t=some (n,eb,.agg z)) (hf:(fs.toList.all fun f=>(tsize P f.type).isSome)=true)
    {tr:Operand→Option V} {ps:Array (Nat × Operand)} {qs:List (Nat × Nat × V)} (hq:buildParts P tr fs ps.toList=some qs) (rA:V→A) (ρ:Operand→Value) (hρ:∀o v,tr o=some v→ARep w M s (rA v) (ρ o))
    (h:(eBuild (z.map .d) (qs.map fun p=>(p.1,p.2.1,rA p.2.2))).pre) :
    ∃r,(Instr.build t (ps.map fun (i,x)=>(i,ρ x))).run P w=.ok r w∧ARep w M s (eBuild (z.map .d) (qs.map fun p=>(p.1,p.2.1,rA p.2.2))).res r:=by
  obtain⟨zv,h1,h2⟩:=run_tzero hz w
  have h3:=h2 w M.I
  cases h3 with
  | agg cs vs hl ho hr =>
    obtain⟨c',q1,q2⟩:=eBuild_fill (P:=P) (M:=M) (s:=s) tr rA ρ hρ ps.toList qs (z.map .d) vs hq (by simpa using hl) (fun k hk=>by
      simp only[List.length_map] at hk
      have:=hr k hk
      rw[getD_lt _ _ hk] at this
      rw[getD_lt _ _ (by simpa using hk)]
      simpa using ARep.d _ _ this) h
    refine⟨_,?_,q2⟩
    have hl2:(ps.map fun (x:Nat × Operand)=>(x.1,ρ x.2)).toList=ps.toList.map fun p=>(p.1,ρ p.2):=by simp
    have hm:=buildParts_run (P:=P) hf w
    unfold Instr.build
    simp only[Sem.run_bind,h1,run_underlying ht,Result.andThen_ok,Value.cells,hl2]
    rw[hm]
    simp only[Result.andThen_ok]
    rw[q1]
    rfl
theorem eBuild_fp:∀(l:List (Nat × Nat × A)) (cs:List A),(eBuild cs l).fp=[]:=by
  intro l
  cases l with
  | nil=>intro cs;rfl
  | cons p l=>intro cs;rfl
end
end Go.AE
namespace Go.AE
def FCalls (P:Program) (f:FuncId) (args:List D) (r:D):Prop :=
  ∀(w:World) (I:Nat→Nat→Prop) (vs:Array Value),Wok P w→(∀b j,I b j→(w.cell? ⟨b,j,none⟩).isSome=true)→vs.size=args.length →
    (∀k,k<args.length→DRep w I (args.getD k default) (vs.getD k undef)) →
    Calls P f vs w (fun e w'=>∃v,e=.returned v∧DRep w' (fun b j=>I b j∨w.heap.size≤b) r v∧RowKit.Below w.heap.size w w')
def isCall (P:Program) (f:FuncId):Bool :=
  match P.funcs[f]? with
  | some fn => fn.body.isSome && fn.name != "runtime.NumGoroutine"
  | none=>false
def RCalls (P:Program) (f:FuncId) (args:List A) (s0:Store) (res:A) (s1:Store):Prop :=
  ∀(w:World) (M:Mem) (vs:Array Value),Wok P w→P.low≤M.N→Good w M s0→vs.size=args.length→(∀k,k<args.length→ARep w M s0 (args.getD k .any) (vs.getD k undef)) →
    Calls P f vs w (fun e w'=>∃v M',e=.returned v∧Good w' M' s1∧Ext w M s0 w' M' s1∧ARep w' M' s1 res v)
structure RSpec.Ok (P:Program) (f:FuncId) (r:RSpec):Prop where
  call:isCall P f=true
  loc:∀args s s2 nw,(∀l,l∈r.ren args s nw→s2.getD l .dead=s.getD l .dead)→r.ren args s2 nw=r.ren args s nw
  ok:∀args s0,(r.spec args s0).1→RCalls P f args s0 (r.spec args s0).2.2 (r.spec args s0).2.1
structure GamOk (P:Program) (G:Gam):Prop where
  fs:∀f sp,G.find f=some sp→isCall P f=true∧∀ds,(sp ds).1→FCalls P f ds (sp ds).2
  rs:∀f r,G.findR f=some r→r.Ok P f
section
variable {P:Program} {w:World} {M:Mem} {s:Store}
theorem DRep.exist {I:Nat→Nat→Prop} {x:D} {v:Value} (r:DRep w I x v):DRep w (fun b j=>I b j∧(w.cell? ⟨b,j,none⟩).isSome=true) x v:=by
  induction r with
  | sl esz xs b off n cap u hn hcap hsz hI hc hr ih =>
    exact .sl esz xs b off n cap u hn hcap hsz (fun i j hi hj=>⟨hI i j hi hj,by rw[hc i j hi hj];rfl⟩) hc ih
  | agg cs vs hl ho hr ih=>exact .agg cs vs hl ho ih
  | tup cs vs hl hr ih=>exact .tup cs vs hl ih
  | iface t x v _ ih=>exact .iface t x v ih
  | fn f fi ca vf vc h1 h2 h3 h4 ih1 ih2=>exact .fn f fi ca vf vc h1 h2 ih1 ih2
  | _=>constructor
def Mem.after (M:Mem) (w w':World):Mem where
  I:=fun b j=>M.I b j∨(w.heap.size≤b∧(w'.cell? ⟨b,j,none⟩).isSome=true)
  B:=M.B
  N:=M.N
theorem Ext.below {w':World} (g:Good w M s) (h:RowKit.Below w.heap.size w w'):Ext w M s w' (M.after w w') s where
  os:=h.os
  tape:=h.tape
  output:=h.output
  size:=h.size
  keep b hb _:=h.block b hb
  low l b o j hl _:=cell?_of_heap (h.block b (g.lt hl))
  blk l b o c E f hl hc:=⟨c,f,by rw[h.block b (g.lt hl)];exact hc,rfl⟩
  imm _ _ h:=.inl h
  immNew b j h:=by
    rcases h with h | ⟨h,_⟩
    · exact .inl h
    · exact .inr (.inl h)
  own l b o h:=.inr ⟨l,o,h,Nat.le_refl _⟩
  N:=rfl
  len:=Nat.le_refl _
  ob l _:=by cases s.getD l .dead <;> simp[obStep,Mem.after]
theorem Good.below {w':World} (g:Good w M s) (h:RowKit.Below w.heap.size w w'):Good w' (M.after w w') s where
  imm b j hb:=by
    rcases hb with hb | ⟨_,hb⟩
    · have h1:=g.imm b j hb
      have hlt:b<w.heap.size:=by
        rcases Nat.lt_or_ge b w.heap.size with hb | hb
        · exact hb
        · simp[World.cell?,Array.getElem?_eq_none hb] at h1
      rw[cell?_of_heap (h.block b hlt)]
      exact h1
    · exact hb
  off b j l o hb hB:=by
    rcases hb with hb | ⟨hb,_⟩
    · exact g.off b j l o hb hB
    · exact absurd (g.lt hB) (by omega)
  sep:=g.sep
  nle:=Nat.le_trans g.nle h.size
  nof:=g.nof
  obj l:=(g.obj l).keep g (Ext.below g h) rfl (fun b o hb=>h.block b (g.lt hb))
theorem set_getD (s:Store) (l:Nat):s.set l (s.getD l .dead)=s:=by
  by_cases hl:l<s.length
  · apply List.ext_getElem?
    intro i
    rw[List.getElem?_set]
    split
    · rename_i h1
      subst h1
      simp[hl]
    · rfl
  · exact List.set_eq_of_length_le (by omega)
theorem setAll_same:∀(l:List (Nat × Ob)),(∀p,p∈l→p.2=s.getD p.1 .dead)→s.setAll l=s:=by
  intro l
  induction l with
  | nil=>intro _;rfl
  | cons p l ih =>
    intro h
    obtain⟨a,b⟩:=p
    have h1:=h (a,b) (by simp)
    simp only at h1
    subst h1
    rw[Store.setAll,set_getD]
    exact ih (fun p hp=>h p (by simp[hp]))
theorem borFp_same {x:A}:∀p,p∈borFp s x→p.2=s.getD p.1 .dead:=by
  intro p hp
  unfold borFp at hp
  split at hp
  · simp at hp;subst hp;rfl
  · simp at hp
theorem bor_sound (g:Good w M s) {x:A} {v:Value} (hx:ARep w M s x v) (h:(bor s x).1):DRep w (fun b j=>(w.cell? ⟨b,j,none⟩).isSome=true) (bor s x).2 v:=by
  unfold bor at h ⊢
  split at h
  · rename_i l ver off n
    split at h
    · rename_i ver' esz xs hs
      obtain⟨rfl,hd⟩:=h
      by_cases h0:n=0
      · subst h0
        simp only[List.take_zero,List.map_nil]
        rcases inv_own hx hs with ⟨_,_,_,rfl⟩ | ⟨_,_,a,cap,_,_,_,_,rfl,_⟩ <;> exact .sl0 _ _ _
      · obtain⟨b,o,a,cap,c,E,f,hB,rfl,h2,h3,h4,h5,h6,h7,h8,h9⟩:=own_part g hx hs hd (by omega)
        rw[h4 (by omega)]
        have hm:n * esz≤cap * esz:=Nat.mul_le_mul_right _ h3
        rw[Nat.add_mul] at h6
        have hcell:∀i j,i<n→j<esz→w.cell? ⟨b,o+off * esz+i * esz+j,none⟩=some (c.getD (o+off * esz+i * esz+j) undef):=by
          intro i j hi hj
          have:=flat_lt hi hj
          exact cell?_heap h5 (by omega)
        refine .sl esz _ b (o+off * esz) n cap (fun i j=>c.getD (o+off * esz+i * esz+j) undef) (by simpa using h7.symm) h3 h8 (fun i j hi hj=>by simp only[hcell i j hi hj];rfl) hcell (fun i j hi hj=>?_)
        exact (h9 i j hi hj).mono (fun b j hb=>⟨g.imm b j hb,rfl⟩)
    · exact h.elim
  · exact (hx.toD h).mono (fun b j hb=>⟨g.imm b j hb,rfl⟩)
theorem D.flats_all (cs:List D):D.flats cs=cs.all D.flat:=by
  induction cs with
  | nil=>rfl
  | cons x r ih=>simp[D.flats,ih]
theorem DRep.flat {I J:Nat→Nat→Prop} {w':World} {x:D} {v:Value} (r:DRep w I x v) (h:x.flat=true):DRep w' J x v:=by
  induction r with
  | sl0=>simp[D.flat] at h
  | sl=>simp[D.flat] at h
  | agg cs vs hl ho hr ih =>
    simp only[D.flat,D.flats_all,List.all_eq_true] at h
    exact .agg cs vs hl ho (fun k hk=>ih k hk (h _ (getD_mem cs default hk)))
  | tup cs vs hl hr ih =>
    simp only[D.flat,D.flats_all,List.all_eq_true] at h
    exact .tup cs vs hl (fun k hk=>ih k hk (h _ (getD_mem cs default hk)))
  | iface t x v _ ih=>exact .iface t x v (ih h)
  | fn f fi ca vf vc h1 h2 h3 h4 ih1 ih2 =>
    simp only[D.flat,D.flats_all,Bool.and_eq_true,List.all_eq_true] at h
    exact .fn f fi ca vf vc h1 h2 (fun k hk=>ih1 k hk (h.1 _ (getD_mem fi default hk))) (fun k hk=>ih2 k hk (h.2 _ (getD_mem ca default hk)))
  | _=>constructor
theorem bor_noOwn {x:A} {v:Value} (hx:ARep w M s x v) (h:(bor s x).1) (hn:x.noOwn=true):DRep w M.I (bor s x).2 v:=by
  cases x with
  | own=>simp[A.noOwn] at hn
  | _=>exact hx.toD h
theorem allOf_get {l:List (Prop × D)} (h:allOf l):∀p,p∈l→p.1:=by
  induction l with
  | nil=>intro p hp;simp at hp
  | cons x l ih =>
    intro p hp
    rcases List.mem_cons.1 hp with rfl | hp
    · exact h.1
    · exact ih h.2 p hp
theorem eCall_sound {G:Gam} (hG:GamOk P G) (g:Good w M s) (hW:Wok P w) {f:FuncId} {args:List A} {vs:Array Value} (hl:vs.size=args.length) (ha:∀k,k<args.length→ARep w M s (args.getD k .any) (vs.getD k undef))
    (h:(eCall G s f args).pre):Runs P (callFunc f vs) w (After w M s (eCall G s f args)):=by
  unfold eCall at h ⊢
  split at h
  · rename_i sp hsp
    obtain⟨h1,h2,h3⟩:=h
    obtain⟨hc,hf⟩:=hG.fs f sp hsp
    have hrun:(callFunc f vs).run P w=.ok (.enter f vs) w:=by
      unfold isCall at hc
      split at hc
      · rename_i fn hfn
        simp only[Bool.and_eq_true,bne_iff_ne,ne_eq] at hc
        obtain⟨c1,c2⟩:=hc
        have c3:fn.body.isNone=false:=by cases hb:fn.body <;> simp_all
        unfold callFunc
        simp only[Sem.run_bind,run_program,Result.andThen_ok,hfn]
        simp[c2,c3]
      · simp at hc
    have hfp:s.setAll (args.flatMap (borFp s))=s:=setAll_same _ (fun p hp=>by obtain⟨x,_,hp⟩:=List.mem_flatMap.1 hp;exact borFp_same p hp)
    unfold Runs
    rw[hrun]
    by_cases hno:args.all A.noOwn=true
    · have hcall:=hf _ h2 w M.I vs hW g.imm (by simpa using hl) (fun k hk=>by
        simp only[List.length_map] at hk
        rw[getD_lt _ _ (by simpa using hk)]
        simp only[List.getElem_map]
        have h3:=ha k hk
        rw[getD_lt _ _ hk] at h3
        rw[List.all_eq_true] at hno
        exact bor_noOwn h3 (allOf_get h1 (bor s args[k]) (List.mem_map.2 ⟨args[k],List.getElem_mem _,rfl⟩)) (hno _ (List.getElem_mem _)))
      refine Calls.mono hcall ?_
      rintro e w' ⟨v,rfl,hr,hb⟩
      refine⟨v,rfl,M.after w w',?_,?_,?_⟩
      · simp only[hfp]
        exact Good.below g hb
      · simp only[hfp]
        exact Ext.below g hb
      · refine .d _ _ (hr.exist.mono (fun b j h=>⟨?_,rfl⟩))
        rcases h with ⟨h | h,h4⟩
        · exact .inl h
        · exact .inr ⟨h,h4⟩
    · have hflat:(sp (args.map fun a=>(bor s a).2)).2.flat=true:=by
        simp only[Bool.or_eq_true] at h3
        rcases h3 with h3 | h3
        · exact absurd h3 hno
        · exact h3
      have hcall:=hf _ h2 w (fun b j=>(w.cell? ⟨b,j,none⟩).isSome=true) vs hW (fun b j h=>h) (by simpa using hl) (fun k hk=>by
        simp only[List.length_map] at hk
        rw[getD_lt _ _ (by simpa using hk)]
        simp only[List.getElem_map]
        have h3:=ha k hk
        rw[getD_lt _ _ hk] at h3
        exact bor_sound g h3 (allOf_get h1 (bor s args[k]) (List.mem_map.2 ⟨args[k],List.getElem_mem _,rfl⟩)))
      refine Calls.mono hcall ?_
      rintro e w' ⟨v,rfl,hr,hb⟩
      refine⟨v,rfl,M.after w w',?_,?_,.d _ _ (hr.flat hflat)⟩
      · simp only[hfp]
        exact Good.below g hb
      · simp only[hfp]
        exact Ext.below g hb
  · exact h.elim
theorem A.rens_eq (q:Nat→Nat) (cs:List A):A.rens q cs=cs.map (A.ren q):=by
  induction cs with
  | nil=>rfl
  | cons x r ih=>simp[A.rens,ih]
theorem A.unders_all (n:Nat) (cs:List A):A.unders n cs=cs.all (A.under n):=by
  induction cs with
  | nil=>rfl
  | cons x r ih=>simp[A.unders,ih]
theorem A.ren_one (q:Nat→Nat) (x:A):(x.ren q).one=x.one:=by
  cases x <;> rfl
theorem A.ren_cells (q:Nat→Nat) (x:A):(x.ren q).cells=x.cells.map (A.ren q):=by
  cases x with
  | d x=>cases x <;> simp[A.ren,A.cells]
  | agg cs=>simp[A.ren,A.cells,A.rens_eq]
  | _=>simp[A.ren,A.cells]
theorem map_getD {q:A→A} (hq:q .any=.any) (l:List A) (k:Nat):(l.map q).getD k .any=q (l.getD k .any):=by
  simp only[List.getD,List.getElem?_map]
  cases l[k]? <;> simp[hq]
mutual
def A.inP (p:Nat→Bool):A→Bool
  | .own l _ _ _ | .ref l _ _ _ | .gr l _ _ | .mp l | .tref l _ _ | .bgr l _ _=>p l
  | .agg cs=>A.inPs p cs
  | .tup cs=>A.inPs p cs
  | .fn _ a b=>A.inPs p a && A.inPs p b
  | .iface _ x=>A.inP p x
  | _=>true
def A.inPs (p:Nat→Bool):List A→Bool
  | []=>true
  | x::r=>A.inP p x && A.inPs p r
end
theorem A.inPs_all (p:Nat→Bool) (cs:List A):A.inPs p cs=cs.all (A.inP p):=by
  induction cs with
  | nil=>rfl
  | cons x r ih=>simp[A.inPs,ih]
mutual
theorem A.under_inP (n:Nat):(x:A)→x.inP (fun l=>decide (l<n))=x.under n
  | .own _ _ _ _=>rfl
  | .ref _ _ _ _=>rfl
  | .gr _ _ _=>rfl
  | .mp _=>rfl
  | .tref _ _ _=>rfl
  | .bgr _ _ _=>rfl
  | .any=>rfl
  | .d _=>rfl
  | .iptr _=>rfl
  | .agg cs=>by simp only[A.inP,A.under];exact A.unders_inPs n cs
  | .tup cs=>by simp only[A.inP,A.under];exact A.unders_inPs n cs
  | .fn _ a b=>by simp only[A.inP,A.under,A.unders_inPs n a,A.unders_inPs n b]
  | .iface _ x=>by simp only[A.inP,A.under];exact A.under_inP n x
theorem A.unders_inPs (n:Nat):(xs:List A)→A.inPs (fun l=>decide (l<n)) xs=A.unders n xs
  | []=>rfl
  | x::r=>by simp only[A.inPs,A.unders,A.under_inP n x,A.unders_inPs n r]
end
mutual
theorem A.ren_under (q:Nat→Nat) (n:Nat):(x:A)→(x.ren q).under n=x.inP (fun l=>decide (q l<n))
  | .own _ _ _ _=>rfl
  | .ref _ _ _ _=>rfl
  | .gr _ _ _=>rfl
  | .mp _=>rfl
  | .tref _ _ _=>rfl
  | .bgr _ _ _=>rfl
  | .any=>rfl
  | .d _=>rfl
  | .iptr _=>rfl
  | .agg cs=>by simp only[A.inP,A.under,A.ren];exact A.rens_unders q n cs
  | .tup cs=>by simp only[A.inP,A.under,A.ren];exact A.rens_unders q n cs
  | .fn _ a b=>by simp only[A.inP,A.under,A.ren,A.rens_unders q n a,A.rens_unders q n b]
  | .iface _ x=>by simp only[A.inP,A.under,A.ren];exact A.ren_under q n x
theorem A.rens_unders (q:Nat→Nat) (n:Nat):(xs:List A)→A.unders n (A.rens q xs)=A.inPs (fun l=>decide (q l<n)) xs
  | []=>rfl
  | x::r=>by simp only[A.inPs,A.unders,A.rens,A.ren_under q n x,A.rens_unders q n r]
end
theorem ARep.ren {w:World} {M M':Mem} {s s':Store} {p:Nat→Bool} {q:Nat→Nat} (hI:∀b j,M.I b j→M'.I b j) (hB:∀l,p l=true→M'.B (q l)=M.B l) (hs:∀l,p l=true→s'[q l]?=(s[l]?).map (Ob.ren q)) :
    ∀{x:A} {v:Value},ARep w M s x v→x.inP p=true→ARep w M' s' (x.ren q) v:=by
  intro x v h
  have hD:∀x v,DRep w M.I x v→DRep w M'.I x v:=fun x v h=>h.mono fun b j hb=>⟨hI b j hb,rfl⟩
  induction h with
  | any v=>intro _;exact .any v
  | d x v h=>intro _;exact .d x v (hD _ _ h)
  | ref l ver i j v h1 h =>
    intro hu
    simp only[A.inP] at hu
    refine .ref _ _ _ _ _ h1 ?_
    unfold refOk at h ⊢
    rw[hs l hu,hB l hu]
    cases hx:s[l]? with
    | none=>rw[hx] at h;exact h
    | some o=>rw[hx] at h;cases o <;> exact h
  | own l ver off n' v h1 h =>
    intro hu
    simp only[A.inP] at hu
    refine .own _ _ _ _ _ h1 ?_
    unfold ownOk at h ⊢
    rw[hs l hu,hB l hu]
    cases hx:s[l]? with
    | none=>rw[hx] at h;exact h
    | some o =>
      rw[hx] at h
      cases o with
      | cells ver' esz xs =>
        simp only[Option.map_some,Ob.ren,List.length_map] at h ⊢
        exact h
      | _=>exact h
  | gr l esz xs v h =>
    intro hu
    simp only[A.inP] at hu
    refine .gr _ _ _ _ ⟨hD _ _ h.1,?_⟩
    have h2:=h.2
    rw[hs l hu,hB l hu]
    cases hx:s[l]? with
    | none=>rw[hx] at h2;exact h2
    | some o=>rw[hx] at h2;cases o <;> exact h2
  | bgr l t bs v h h2 =>
    intro hu
    simp only[A.inP] at hu
    refine .bgr _ _ _ _ ⟨hD _ _ h.1,?_⟩ (h2.imp id fun⟨b,n,cap,c,f,q1,q2,q3,q4⟩=>⟨b,n,cap,c,f,q1,q2,q3,by
      unfold tipOk at q4 ⊢
      rw[hs l hu,hB l hu]
      cases hx:s[l]? with
      | none=>rw[hx] at q4;exact q4
      | some o=>rw[hx] at q4;cases o <;> exact q4⟩)
    have h2:=h.2
    rw[hs l hu,hB l hu]
    cases hx:s[l]? with
    | none=>rw[hx] at h2;exact h2
    | some o=>rw[hx] at h2;cases o <;> exact h2
  | iptr cs v h =>
    intro _
    obtain⟨b,off,h1,h2⟩:=h
    refine .iptr _ _ ⟨b,off,h1,fun j hj=>?_⟩
    obtain⟨h3,u,h4,h5⟩:=h2 j hj
    exact⟨hI _ _ h3,u,h4,hD _ _ h5⟩
  | mp l v h1 h =>
    intro hu
    simp only[A.inP] at hu
    refine .mp _ _ h1 ?_
    unfold mpOk at h ⊢
    rw[hs l hu,hB l hu]
    cases hx:s[l]? with
    | none=>rw[hx] at h;exact h
    | some o=>rw[hx] at h;cases o <;> exact h
  | tref l ver t v h1 h =>
    intro hu
    simp only[A.inP] at hu
    refine .tref _ _ _ _ h1 ?_
    unfold trefOk at h ⊢
    rw[hs l hu,hB l hu]
    cases hx:s[l]? with
    | none=>rw[hx] at h;exact h
    | some o=>rw[hx] at h;cases o <;> exact h
  | agg cs vs hl ho hr ih =>
    intro hu
    simp only[A.inP,A.inPs_all,List.all_eq_true] at hu
    simp only[A.ren,A.rens_eq]
    refine .agg _ _ (by simpa using hl) ?_ (fun k hk=>?_)
    · simp only[List.all_map,List.all_eq_true,Function.comp] at ho ⊢
      intro c hc
      rw[A.ren_one]
      exact ho c hc
    · simp only[List.length_map] at hk
      rw[map_getD rfl]
      exact ih k hk (hu _ (getD_mem cs .any hk))
  | tup cs vs hl hr ih =>
    intro hu
    simp only[A.inP,A.inPs_all,List.all_eq_true] at hu
    simp only[A.ren,A.rens_eq]
    refine .tup _ _ (by simpa using hl) (fun k hk=>?_)
    simp only[List.length_map] at hk
    rw[map_getD rfl]
    exact ih k hk (hu _ (getD_mem cs .any hk))
  | fn f fi ca vf vc h1 h2 h3 h4 ih1 ih2 =>
    intro hu
    simp only[A.inP,A.inPs_all,Bool.and_eq_true,List.all_eq_true] at hu
    simp only[A.ren,A.rens_eq]
    refine .fn _ _ _ _ _ (by simpa using h1) (by simpa using h2) (fun k hk=>?_) (fun k hk=>?_)
    · simp only[List.length_map] at hk
      rw[map_getD rfl]
      exact ih1 k hk (hu.1 _ (getD_mem fi .any hk))
    · simp only[List.length_map] at hk
      rw[map_getD rfl]
      exact ih2 k hk (hu.2 _ (getD_mem ca .any hk))
  | iface t x v h ih =>
    intro hu
    exact .iface _ _ _ (ih hu)
theorem Runs.val {m:Sem Value} {R:Value→World→Prop} {r:Value} {w':World} (h:m.run P w=.ok r w') (hr:R r w'):Runs P (do pure (.value (← m))) w R:=by
  refine Runs.value (v:=r) (w':=w') ?_ hr
  simp[h]
theorem Runs.unit {m:Sem Unit} {R:Value→World→Prop} {w':World} (h:m.run P w=.ok () w') (hr:R undef w'):Runs P (do m;pure .skip) w R:=by
  refine Runs.skip (w':=w') ?_ hr
  simp[h]
variable {tr:Operand→Option V} {rA:V→A} {ρ:Operand→Value}
theorem trO_rep (hρ:∀o v,tr o=some v→ARep w M s (rA v) (ρ o)) {x:Option Operand} {y:Option V} (h:trO tr x=some y):OptRep w M s (y.map rA) (x.map ρ):=by
  cases x with
  | none=>simp[trO] at h;subst h;exact .inl ⟨rfl,rfl⟩
  | some x =>
    simp only[trO,Option.map_eq_some_iff] at h
    obtain⟨v,h1,rfl⟩:=h
    exact .inr ⟨rA v,ρ x,rfl,rfl,hρ _ _ h1⟩
theorem trAll_rep (hρ:∀o v,tr o=some v→ARep w M s (rA v) (ρ o)) {os:Array Operand} {vs:List V} (h:trAll tr os.toList=some vs) :
    (os.map ρ).size=(vs.map rA).length∧∀k,k<(vs.map rA).length→ARep w M s ((vs.map rA).getD k .any) ((os.map ρ).getD k undef):=by
  obtain⟨h1,h2⟩:=trAll_spec h
  refine⟨by simpa using h1,fun k hk=>?_⟩
  simp only[List.length_map] at hk
  have h3:=hρ _ _ (h2 k hk)
  have hk2:k<os.size:=by simpa using (by omega:k<os.toList.length)
  rw[getD_lt _ _ hk,getD_lt _ _ (by omega)] at h3
  rw[getD_lt _ _ (by simpa using hk)]
  simp only[List.getElem_map]
  simpa [hk2] using h3
theorem pick_sound (g:Good w M s) {c a b:A} {vc va vb:Value} (hc:ARep w M s c vc) (ha:ARep w M s a va) (hb:ARep w M s b vb) (h:(ePick a b c).pre) :
    ∃r,(do pure (.value (if ← asBool vc then va else vb)):Sem Next).run P w=.ok (.value r) w∧After w M s (ePick a b c) r w:=by
  unfold ePick at h ⊢
  split at h
  · rename_i t
    rw[inv_bool hc]
    refine⟨if t then va else vb,by simp[asBool],After.here g rfl ?_⟩
    cases t
    · exact hb
    · exact ha
  · exact h.elim
theorem callv_fn {G:Gam} {nw:Nat} (hG:GamOk P G) (g:Good w M s) {fn:Fn} {fi ca:List A} {vf:Value} {args:List A} {vs:Array Value} (hf:ARep w M s (.fn fn fi ca) vf) (hl:vs.size=args.length) (ha:∀k,k<args.length→ARep w M s (args.getD k .any) (vs.getD k undef))
    (hcall:∀(k:FuncId) (args:List A) (vs:Array Value),vs.size=args.length→(∀k,k<args.length→ARep w M s (args.getD k .any) (vs.getD k undef))→(eRCall G s nw k args).pre→Runs P (callFunc k vs) w (After w M s (eRCall G s nw k args)))
    (h:(eCallv G s nw args (.fn fn fi ca)).pre) :
    Runs P (do let d ← Deferred.ofValue vf vs;invoke d.target d.args) w (After w M s (eCallv G s nw args (.fn fn fi ca))):=by
  cases fn with
  | func k =>
    cases hf with
    | fn f fi ca vf vc h1 h2 h3 h4 =>
      have key:=hcall k (fi++(args++ca)) (vf++vs++vc) (by simp[hl,h1,h2]) (fun j hj=>by
        simp only[List.length_append] at hj
        by_cases hjf:j<fi.length
        · have e1:(fi++(args++ca)).getD j .any=fi.getD j .any:=by simp[List.getD,List.getElem?_append,hjf]
          have e2:(vf++vs++vc).getD j undef=vf.getD j undef:=by
            simp only[Array.getD_eq_getD_getElem?,Array.getElem?_append]
            rw[if_pos (by simp;omega),if_pos (by omega)]
          rw[e1,e2]
          exact h3 j hjf
        · by_cases hjl:j-fi.length<args.length
          · have e1:(fi++(args++ca)).getD j .any=args.getD (j-fi.length) .any:=by simp[List.getD,List.getElem?_append,hjl,hjf]
            have e2:(vf++vs++vc).getD j undef=vs.getD (j-fi.length) undef:=by
              simp only[Array.getD_eq_getD_getElem?,Array.getElem?_append]
              rw[if_pos (by simp;omega),if_neg (by omega),h1]
            rw[e1,e2]
            exact ha _ hjl
          · have e1:(fi++(args++ca)).getD j .any=ca.getD (j-fi.length-args.length) .any:=by simp[List.getD,List.getElem?_append,hjl,hjf]
            have e2:(vf++vs++vc).getD j undef=vc.getD (j-fi.length-args.length) undef:=by
              simp only[Array.getD_eq_getD_getElem?,Array.getElem?_append]
              rw[if_neg (by simp;omega)]
              simp only[Array.size_append,h1,hl,Nat.sub_add_eq]
            rw[e1,e2]
            exact h4 _ (by omega)) h
      unfold Runs at key ⊢
      have hd:(Deferred.ofValue (.func (.func k) vf vc) vs).run P w=.ok ⟨.fn (.func k) vc,vf++vs⟩ w:=by
        simp[Deferred.ofValue]
      simp only[Sem.run_bind,hd,Result.andThen_ok,invoke]
      exact key
  | _=>exact h.elim
theorem fn_of_d {f:Fn} {fi ca:List D} {v:Value} (h:ARep w M s (.d (.fn f fi ca)) v):ARep w M s (.fn f (fi.map .d) (ca.map .d)) v:=by
  cases h with
  | d _ _ h =>
    cases h with
    | fn _ _ _ vf vc h1 h2 h3 h4 =>
      refine .fn _ _ _ _ _ (by simpa using h1) (by simpa using h2) (fun k hk=>?_) (fun k hk=>?_)
      · have hk':k<fi.length:=by simpa using hk
        have:=h3 k hk'
        rw[show (fi.map A.d).getD k .any=.d (fi.getD k default) by simp[List.getD,hk']]
        exact .d _ _ this
      · have hk':k<ca.length:=by simpa using hk
        have:=h4 k hk'
        rw[show (ca.map A.d).getD k .any=.d (ca.getD k default) by simp[List.getD,hk']]
        exact .d _ _ this
theorem callv_sound {G:Gam} {nw:Nat} (hG:GamOk P G) (g:Good w M s) {f:A} {vf:Value} {args:List A} {vs:Array Value} (hf:ARep w M s f vf) (hl:vs.size=args.length) (ha:∀k,k<args.length→ARep w M s (args.getD k .any) (vs.getD k undef))
    (hcall:∀(k:FuncId) (args:List A) (vs:Array Value),vs.size=args.length→(∀k,k<args.length→ARep w M s (args.getD k .any) (vs.getD k undef))→(eRCall G s nw k args).pre→Runs P (callFunc k vs) w (After w M s (eRCall G s nw k args)))
    (h:(eCallv G s nw args f).pre) :
    Runs P (do let d ← Deferred.ofValue vf vs;invoke d.target d.args) w (After w M s (eCallv G s nw args f)):=by
  cases f with
  | fn f fi ca=>exact callv_fn hG g hf hl ha hcall h
  | d x =>
    cases x with
    | fn f fi ca =>
      cases f with
      | func k=>exact callv_fn hG g (fn_of_d hf) hl ha hcall h
      | _=>exact h.elim
    | _=>exact h.elim
  | _=>exact h.elim
theorem method_run {w:World} {t:TypeId} {name:String} {f:FuncId} {v:Value} (h:methB P t name=some f) (k:Nat):(method (k+1) t v name).run P w=.ok (f,v) w:=by
  unfold methB at h
  split at h
  · rename_i i e hi hu
    split at h
    · rename_i m hm
      split at h
      · rename_i f' hf hp
        simp at h
        subst h
        unfold method
        simp[typeInfo,go_sem,hi,hm,hf,hp,follow,receiverAt,underlying,hu,Place.get]
      · simp at h
    · simp at h
  · simp at h
theorem callm_sound {G:Gam} {nw:Nat} {t:TypeId} {name:String} {f:FuncId} (hm:methB P t name=some f) {x:A} {vx:Value} {args:List A} {vs:Array Value} (hx:ARep w M s x vx) (hl:vs.size=args.length) (ha:∀k,k<args.length→ARep w M s (args.getD k .any) (vs.getD k undef))
    (hcall:∀(k:FuncId) (args:List A) (vs:Array Value),vs.size=args.length→(∀k,k<args.length→ARep w M s (args.getD k .any) (vs.getD k undef))→(eRCall G s nw k args).pre→Runs P (callFunc k vs) w (After w M s (eRCall G s nw k args)))
    (h:(eCallm G s nw t f args x).pre) :
    Runs P (callMethod vx name vs) w (After w M s (eCallm G s nw t f args x)):=by
  cases x with
  | iface t' y =>
    simp only[eCallm] at h ⊢
    by_cases ht:t'=t
    · subst ht
      rw[if_pos rfl] at h ⊢
      cases hx with
      | iface _ _ v hv =>
        have key:=hcall f (y::args) (#[v]++vs) (by simp[hl];omega) (fun j hj=>by
          cases j with
          | zero =>
            have e2:(#[v]++vs).getD 0 undef=v:=by
              simp only[Array.getD_eq_getD_getElem?,Array.getElem?_append]
              rw[if_pos (by simp)]
              simp
            rw[e2]
            exact hv
          | succ j =>
            have e2:(#[v]++vs).getD (j+1) undef=vs.getD j undef:=by
              simp only[Array.getD_eq_getD_getElem?,Array.getElem?_append]
              rw[if_neg (by simp)]
              simp
            rw[e2]
            simp only[List.length_cons] at hj
            simpa using ha j (by omega)) h
        unfold Runs at key ⊢
        have hd0:0<Made.depth:=by decide
        have hd:∃k,P.types.size+Made.depth=k+1:=⟨P.types.size+Made.depth-1,by omega⟩
        obtain⟨k,hk⟩:=hd
        have hrun:(callMethod (.iface t' v) name vs).run P w=(callFunc f (#[v]++vs)).run P w:=by
          unfold callMethod
          simp[go_sem,hk,method_run hm]
        rw[hrun]
        exact key
    · rw[if_neg ht] at h
      exact h.elim
  | _=>exact h.elim
theorem After.same {w:World} {M:Mem} {s:Store} {e:Eff} {v:Value} (g:Good w M s) (hf:∀p,p∈e.fp→p.2=s.getD p.1 .dead) (h:ARep w M s e.res v):After w M s e v w:=by
  have e1:s.setAll e.fp=s:=setAll_same _ hf
  refine⟨M,?_,?_,?_⟩ <;> rw[e1]
  · exact g
  · exact Ext.refl w M s
  · exact h
theorem foldl_push8:∀(ns:List Int) (s:ByteArray),(ns.foldl (fun r n=>r.push (UInt8.ofNat n.toNat)) s)=⟨(s.data.toList++ns.map fun n=>UInt8.ofNat n.toNat).toArray⟩
  | [],s=>by simp
  | n::ns,s=>by
    rw[List.foldl_cons,foldl_push8 ns]
    simp[ByteArray.push]
theorem eB2s_sound (g:Good w M s) {a b e:TypeId} (ha:P.underlying a=some (.slice e)) (he:P.underlying e=some (.int .u8)) (hb:P.underlying b=some .string) {x:A} {vx:Value} (hx:ARep w M s x vx) (h:(eB2s s x).pre) :
    ∃v,(convert a b vx).run P w=.ok v w∧After w M s (eB2s s x) v w:=by
  obtain⟨hns,hsrc,hall⟩:=h
  obtain⟨cs,hcs⟩:=src_sound (P:=P) g hx hsrc
  have hfp:∀p,p∈(eB2s s x).fp→p.2=s.getD p.1 .dead:=borFp_same
  have hres:(eB2s s x).res=.d (.str (u8s (src s 1 x).2)):=rfl
  generalize hys:(src s 1 x).2=ys at *
  have hcv:cs=(ys.map fun | .int _ n=>n | _=>0).map (Value.int .u8):=by
    apply List.ext_getElem
    · rw[hcs.csize];simp
    · intro i h1 h2
      have h3:i<ys.length:=by simpa using h2
      have h4:=hcs.rep i 0 h3 (by omega)
      have e1:ys.getD i default=ys[i]:=by simp[List.getD,h3]
      have e2:cs.getD (i * 1+0) undef=cs[i]:=by simp[List.getD,h1]
      rw[e1,e2] at h4
      obtain⟨n,hn⟩:=hall ys[i] (List.getElem_mem h3)
      rw[hn] at h4
      have h5:DRep w M.I (.int .u8 n) cs[i]:=h4
      simp only[List.getElem_map,hn]
      generalize cs[i]=v at h5 ⊢
      cases h5
      rfl
  rcases hcs.len with ⟨ad,cap,rfl⟩ | ⟨t,rfl,_⟩
  · have hf:=hcs.first w rfl
    cases ad with
    | none =>
      have h0:cs=[]:=by
        simp[Builtin.firstCells] at hf
        first | exact hf | exact hf.symm | simpa using hf
      have h1:ys=[]:=by
        have:=hcs.csize
        rw[h0] at this
        simpa using this.symm
      refine⟨_,run_convert_bytes_nil w a e ha he _ _ b hb,After.same g hfp ?_⟩
      rw[hres,h1]
      exact .d _ _ (.str _)
    | some ad =>
      have hl:(loadCells ad ys.length).run P w=.ok ((ys.map fun | .int _ n=>n | _=>0).map (Value.int .u8)).toArray w:=by
        rw[← hcv]
        simpa [Builtin.firstCells] using hf
      have e1:(ys.map fun | .int _ n=>n | _=>0).map (fun n=>UInt8.ofNat n.toNat)=u8s ys:=by
        rw[List.map_map]
        refine List.map_congr_left fun y hy=>?_
        obtain⟨n,rfl⟩:=hall y hy
        rfl
      refine⟨.string ⟨(u8s ys).toArray⟩,?_,After.same g hfp ?_⟩
      · rw[run_convert_bytes_string w a b e _ _ _ ha he hb,run_bytesToString w ad _ cap _ hl,foldl_push8,e1]
        rfl
      · rw[hres]
        exact .d _ _ (.str _)
  · exfalso
    cases x with
    | d y =>
      have hd:=inv_d hx
      cases hd
      simp[A.notStr] at hns
    | gr l e0 xs =>
      cases hx with
      | gr l e xs v hx=>cases hx.1
    | own l ver off n =>
      simp only[src] at hsrc
      split at hsrc
      · rename_i hs
        obtain⟨rfl,_⟩:=hsrc
        rcases inv_own hx hs with ⟨_,_,_,h⟩ | ⟨_,_,_,_,_,_,_,_,h,_⟩ <;> cases h
      · exact hsrc.elim
    | _=>exact hsrc.elim
end
end Go.AE
namespace Go.AE
section
variable {P:Program} {w:World} {M:Mem} {s:Store}
theorem A.cells_inP {p:Nat→Bool} {x:A} {j:Nat} (h:x.inP p=true):(x.cells.getD j .any).inP p=true:=by
  have key:∀(l:List A),l.all (A.inP p)=true→(l.getD j .any).inP p=true:=by
    intro l hl
    rcases Nat.lt_or_ge j l.length with hj | hj
    · rw[List.all_eq_true] at hl
      exact hl _ (getD_mem l .any hj)
    · simp[List.getD,hj,A.inP]
  cases x with
  | d x =>
    cases x with
    | agg cs=>exact key (cs.map A.d) (by simp[A.inP])
    | _=>exact key [A.d _] (by simp[A.inP])
  | agg cs=>exact key cs (by simpa [A.inP,A.inPs_all] using h)
  | _=>exact key [_] (by simpa using h)
theorem A.ren_fits (q:Nat→Nat) (x:A) (n:Nat):(x.ren q).fits n=x.fits n:=by
  simp only[A.fits,A.ren_cells,List.length_map,List.all_map]
  congr 1
  apply List.all_congr rfl
  intro x
  exact A.ren_one q x
theorem obOk.ren {w:World} {M M':Mem} {s s':Store} {p:Nat→Bool} {q:Nat→Nat} (hI:∀b j,M.I b j→M'.I b j) (hB:∀l,p l=true→M'.B (q l)=M.B l) (hs:∀l,p l=true→s'[q l]?=(s[l]?).map (Ob.ren q))
    {k l:Nat} {x:Ob} (h:obOk w M s k x) (hk:M'.B l=M.B k) (hx:∀v e xs,x=.cells v e xs→∀y,y∈xs→y.inP p=true):obOk w M' s' l (x.ren q):=by
  cases x with
  | dead=>simp only[Ob.ren,obOk] at h ⊢;rw[hk];exact h
  | res=>simp only[Ob.ren,obOk] at h ⊢;rw[hk];exact h
  | tip n =>
    simp only[Ob.ren]
    intro b o hb
    rw[hk] at hb
    exact h b o hb
  | map ms =>
    obtain⟨b,es,cl,h1,h2,h3,h4⟩:=h
    exact⟨b,es,cl,by rw[hk];exact h1,h2,h3,fun k hk=>⟨(h4 k hk).1.mono fun b j hb=>⟨hI b j hb,rfl⟩,(h4 k hk).2.mono fun b j hb=>⟨hI b j hb,rfl⟩⟩⟩
  | cells v e xs =>
    rcases h with ⟨rfl,h1⟩ | ⟨b,o,c,E,f,h1,h2,h3,h4,h5,h6⟩
    · exact .inl ⟨rfl,by rw[hk];exact h1⟩
    refine .inr ⟨b,o,c,E,f,by rw[hk];exact h1,h2,h3,by simpa using h4,?_,fun i j hi hj=>?_⟩
    · intro y hy
      obtain⟨z,hz,rfl⟩:=List.mem_map.1 hy
      rw[A.ren_fits]
      exact h5 z hz
    · simp only[List.length_map] at hi
      rw[map_getD rfl,A.ren_cells,map_getD rfl]
      exact ARep.ren hI hB hs (h6 i j hi hj) (A.cells_inP (hx v e xs rfl _ (getD_mem xs .any hi)))
theorem obStep_ren {M0 M1 M M':Mem} {k l:Nat} {q r:Nat→Nat} {x y:Ob} (h:obStep M0 M1 k (x.ren q) y) (h0:M0.B k=M.B l) (h1:M1.B k=M'.B l):obStep M M' l x (y.ren r):=by
  cases x <;> cases y <;> simp only[Ob.ren,obStep,List.length_map] at h ⊢ <;> try trivial
  all_goals (simp only[← h0,← h1];exact h)
theorem idxIn_lt {R:List Nat} {l:Nat} (h:l∈R):idxIn R l<R.length∧R.getD (idxIn R l) 0=l:=by
  unfold idxIn
  cases hx:R.idxOf? l with
  | none =>
    simp[List.idxOf?,List.findIdx?_eq_none_iff] at hx
    exact absurd rfl (hx l h)
  | some k =>
    rw[List.idxOf?,List.findIdx?_eq_some_iff_getElem] at hx
    obtain⟨h1,h2,_⟩:=hx
    refine⟨h1,?_⟩
    simp only[Option.getD_some]
    rw[getD_lt _ _ h1]
    simpa using h2
theorem idxIn_mem {R:List Nat} {l:Nat} (h:idxIn R l<R.length):l∈R:=by
  unfold idxIn at h
  cases hx:R.idxOf? l with
  | none=>rw[hx] at h;simp at h
  | some k =>
    rw[List.idxOf?,List.findIdx?_eq_some_iff_getElem] at hx
    obtain⟨h1,h2,_⟩:=hx
    have:R[k]=l:=by simpa using h2
    rw[← this]
    exact List.getElem_mem _
theorem idxIn_back {R:List Nat} (hn:R.Nodup) {k:Nat} (h:k<R.length):idxIn R (R.getD k 0)=k:=by
  have hm:R.getD k 0∈R:=getD_mem R 0 h
  obtain⟨h1,h2⟩:=idxIn_lt hm
  rw[getD_lt R 0 h1] at h2
  have h3:R.getD k 0=R[k]:=getD_lt R 0 h
  exact (List.getElem_inj hn).1 (h2.trans h3)
theorem setAll_length:∀(l:List (Nat × Ob)) (s:Store),(s.setAll l).length=s.length:=by
  intro l
  induction l with
  | nil=>intro s;rfl
  | cons p l ih=>intro s;obtain⟨a,b⟩:=p;simp[Store.setAll,ih]
theorem setAll_zip:∀(R:List Nat) (ys:List Ob) (s:Store),R.Nodup→(∀l,l∈R→l<s.length)→ys.length=R.length →
    (∀k,k<R.length→(s.setAll (R.zip ys)).getD (R.getD k 0) .dead=ys.getD k .dead)∧(∀l,l ∉ R→(s.setAll (R.zip ys)).getD l .dead=s.getD l .dead):=by
  intro R
  induction R with
  | nil=>intro ys s _ _ _;exact⟨fun k hk=>by simp at hk,fun l _=>rfl⟩
  | cons a R ih =>
    intro ys s hn hlt hl
    cases ys with
    | nil=>simp at hl
    | cons y ys =>
      rw[List.nodup_cons] at hn
      have hz:∀p,p∈R.zip ys→p.1∈R:=fun p hp=>by
        obtain⟨p1,p2⟩:=p
        exact (List.of_mem_zip hp).1
      obtain⟨i1,i2⟩:=ih ys (s.set a y) hn.2 (fun l hl=>by simp;exact hlt l (by simp[hl])) (by simpa using hl)
      simp only[List.zip_cons_cons,Store.setAll]
      refine⟨fun k hk=>?_,fun l hl=>?_⟩
      · cases k with
        | zero =>
          simp only[List.getD_cons_zero]
          rw[i2 a hn.1]
          have:=hlt a (by simp)
          simp[List.getD,this]
        | succ k =>
          simp only[List.getD_cons_succ]
          exact i1 k (by simpa using hk)
      · simp only[List.mem_cons,not_or] at hl
        rw[i2 l hl.2]
        simp[List.getD,List.getElem?_set,Ne.symm hl.1]
theorem run_callFunc {f:FuncId} (hc:isCall P f=true) (vs:Array Value):(callFunc f vs).run P w=.ok (.enter f vs) w:=by
  unfold isCall at hc
  split at hc
  · rename_i fn hfn
    simp only[Bool.and_eq_true,bne_iff_ne,ne_eq] at hc
    obtain⟨c1,c2⟩:=hc
    have c3:fn.body.isNone=false:=by cases hb:fn.body <;> simp_all
    unfold callFunc
    simp only[Sem.run_bind,run_program,Result.andThen_ok,hfn]
    simp[c2,c3]
  · simp at hc
theorem eRCall_sound {G:Gam} {nw:Nat} (hG:GamOk P G) (g:Good w M s) (hW:Wok P w) (hN:P.low≤M.N) (f:FuncId) (args:List A) (vs:Array Value) (hl:vs.size=args.length) (ha:∀k,k<args.length→ARep w M s (args.getD k .any) (vs.getD k undef))
    (h:(eRCall G s nw f args).pre):Runs P (callFunc f vs) w (After w M s (eRCall G s nw f args)):=by
  unfold eRCall at h ⊢
  split at h
  · rename_i rs hrs
    simp only at h ⊢
    obtain⟨hnd,hlt,ha0,hs0,hp,hlen,hu1,hur⟩:=h
    have hok:=hG.rs f rs hrs
    generalize hR:rs.ren args s nw=R at *
    generalize hq:idxIn R=q at *
    generalize hback:(fun k=>R.getD k 0)=back at *
    have bk:∀k,back k=R.getD k 0:=fun k=>by rw[← hback]
    have q1:∀l,l∈R→q l<R.length∧back (q l)=l:=fun l hl=>by rw[← hq,bk];exact idxIn_lt hl
    have q2:∀l,q l<R.length→l∈R:=fun l hl=>by rw[← hq] at hl;exact idxIn_mem hl
    have q3:∀k,k<R.length→q (back k)=k:=fun k hk=>by rw[← hq,bk];exact idxIn_back hnd hk
    have q4:∀k,k<R.length→back k∈R:=fun k hk=>by rw[bk];exact getD_mem R 0 hk
    generalize hs0d:(R.map fun l=>(s.getD l .dead).ren q:Store)=s0 at *
    have s0get:∀k,k<R.length→s0[k]?=some ((s.getD (back k) .dead).ren q):=by
      intro k hk
      rw[← hs0d,bk]
      simp[List.getD,hk]
    have s0getD:∀k,k<R.length→s0.getD k .dead=(s.getD (back k) .dead).ren q:=fun k hk=>by simp[List.getD,s0get k hk]
    have s0out:∀k,¬k<R.length→s0.getD k .dead=.dead:=by
      intro k hk
      have:s0.length=R.length:=by rw[← hs0d];simp
      simp[List.getD,List.getElem?_eq_none (by omega:s0.length≤k)]
    have sget:∀l,l∈R→s[l]?=some (s.getD l .dead):=fun l hl=>getElem?_of_lt (hlt l hl)
    let M0:Mem:=⟨M.I,fun k=>if k<R.length then M.B (back k) else none,M.N⟩
    have m0:∀k,k<R.length→M0.B k=M.B (back k):=fun k hk=>by simp[M0,hk]
    have m0':∀k b o,M0.B k=some (b,o)→k<R.length∧M.B (back k)=some (b,o):=by
      intro k b o hk
      simp only[M0] at hk
      split at hk
      · exact⟨by assumption,hk⟩
      · simp at hk
    have hBc:∀l,decide (q l<R.length)=true→M0.B (q l)=M.B l:=by
      intro l hl
      simp only[decide_eq_true_eq] at hl
      rw[m0 _ hl,(q1 l (q2 l hl)).2]
    have hsc:∀l,decide (q l<R.length)=true→s0[q l]?=(s[l]?).map (Ob.ren q):=by
      intro l hl
      simp only[decide_eq_true_eq] at hl
      rw[s0get _ hl,(q1 l (q2 l hl)).2,sget l (q2 l hl)]
      rfl
    have g0:Good w M0 s0:=by
      refine⟨g.imm,fun b j k o h1 h2=>g.off b j _ o h1 (m0' k b o h2).2,fun k k' b o o' h1 h2=>?_,fun k=>?_,g.nle,fun k b o h1=>g.nof _ b o (m0' k b o h1).2⟩
      · obtain⟨a1,a2⟩:=m0' k b o h1
        obtain⟨b1,b2⟩:=m0' k' b o' h2
        have:=g.sep _ _ _ _ _ a2 b2
        rw[← q3 k a1,this,q3 k' b1]
      · by_cases hk:k<R.length
        · rw[s0getD k hk]
          refine obOk.ren (M:=M) (M':=M0) (fun b j h=>h) hBc hsc (g.obj (back k)) (m0 k hk) (fun v e xs hx y hy=>?_)
          rw[List.all_eq_true] at hs0
          have h1:=hs0 _ (List.mem_of_getElem? (s0get k hk))
          rw[hx] at h1
          simp only[Ob.ren,Ob.under,List.all_map,List.all_eq_true,Function.comp] at h1
          have h2:=h1 y hy
          rwa [A.ren_under] at h2
        · rw[s0out k hk]
          simp[obOk,M0,hk]
    have hargs:∀k,k<(args.map (A.ren q)).length→ARep w M0 s0 ((args.map (A.ren q)).getD k .any) (vs.getD k undef):=by
      intro k hk
      simp only[List.length_map] at hk
      rw[map_getD rfl]
      refine ARep.ren (M:=M) (M':=M0) (fun b j h=>h) hBc hsc (ha k hk) ?_
      rw[List.all_eq_true] at ha0
      have h1:=ha0 _ (List.mem_map.2 ⟨_,getD_mem args .any hk,rfl⟩)
      rwa [A.ren_under] at h1
    have hcall:=hok.ok _ _ hp w M0 vs hW hN g0 (by simpa using hl) hargs
    generalize (rs.spec (args.map (A.ren q)) s0).2.1=s1 at *
    generalize (rs.spec (args.map (A.ren q)) s0).2.2=res at *
    unfold Runs
    rw[run_callFunc hok.call]
    refine Calls.mono hcall ?_
    rintro e w' ⟨v,M1,rfl,g1,e1,r1⟩
    let M':Mem:=⟨M1.I,fun l=>if q l<R.length then M1.B (q l) else M.B l,M.N⟩
    obtain⟨z1,z2⟩:=setAll_zip R (s1.map (Ob.ren back)) s hnd hlt (by simpa using hlen)
    generalize hs':s.setAll (R.zip (s1.map (Ob.ren back)))=s' at *
    have s'len:s'.length=s.length:=by rw[← hs',setAll_length]
    have s1get:∀k,k<R.length→s1[k]?=some (s1.getD k .dead):=fun k hk=>getElem?_of_lt (by omega)
    have s'in:∀k,k<R.length→s'.getD (back k) .dead=(s1.getD k .dead).ren back:=by
      intro k hk
      rw[bk,z1 k hk]
      simp only[List.getD,List.getElem?_map]
      cases s1[k]? <;> rfl
    have s'in':∀l,q l<R.length→s'.getD l .dead=(s1.getD (q l) .dead).ren back:=by
      intro l hl
      have:=s'in (q l) hl
      rwa [(q1 l (q2 l hl)).2] at this
    have s'out:∀l,¬q l<R.length→s'.getD l .dead=s.getD l .dead:=fun l hl=>z2 l (fun hm=>hl (q1 l hm).1)
    have m'in:∀l,q l<R.length→M'.B l=M1.B (q l):=fun l hl=>by simp[M',hl]
    have m'out:∀l,¬q l<R.length→M'.B l=M.B l:=fun l hl=>by simp[M',hl]
    have apart:∀l b o k o',¬q l<R.length→M.B l=some (b,o)→M0.B k≠some (b,o'):=by
      intro l b o k o' hl hb hk
      obtain⟨a1,a2⟩:=m0' k b o' hk
      have:=g.sep _ _ _ _ _ hb a2
      subst this
      exact hl (q1 _ (q4 k a1)).1
    have ext:Ext w M s w' M' s':={
      os:=e1.os,tape:=e1.tape,output:=e1.output,size:=e1.size
      keep:=fun b hb hn=>e1.keep b hb (fun k o hk=>hn _ _ (m0' k b o hk).2)
      low:=fun l b o j hb hj=>by
        by_cases hl:q l<R.length
        · exact e1.low (q l) b o j (by rw[m0 _ hl,(q1 l (q2 l hl)).2];exact hb) hj
        · exact cell?_of_heap (e1.keep b (g.lt hb) (fun k o'=>apart l b o k o' hl hb))
      blk:=fun l b o c E f hb hc=>by
        by_cases hl:q l<R.length
        · exact e1.blk (q l) b o c E f (by rw[m0 _ hl,(q1 l (q2 l hl)).2];exact hb) hc
        · exact⟨c,f,by rw[e1.keep b (g.lt hb) (fun k o'=>apart l b o k o' hl hb)];exact hc,rfl⟩
      imm:=e1.imm
      immNew:=fun b j hb=>by
        rcases e1.immNew b j hb with h1 | h1 | ⟨k,o,h1,h2⟩
        · exact .inl h1
        · exact .inr (.inl h1)
        · exact .inr (.inr ⟨_,o,(m0' k b o h1).2,h2⟩)
      own:=fun l b o hb=>by
        by_cases hl:q l<R.length
        · rw[m'in l hl] at hb
          rcases e1.own _ b o hb with h1 | ⟨k,o',h1,h2⟩
          · exact .inl h1
          · exact .inr ⟨_,o',(m0' k b o' h1).2,h2⟩
        · rw[m'out l hl] at hb
          exact .inr ⟨l,o,hb,Nat.le_refl _⟩
      N:=rfl
      len:=by rw[s'len];exact Nat.le_refl _
      ob:=fun l hll=>by
        by_cases hl:q l<R.length
        · have h1:=e1.ob (q l) (by rw[← hs0d];simpa using hl)
          rw[s0getD _ hl,(q1 l (q2 l hl)).2] at h1
          rw[s'in' l hl]
          exact obStep_ren h1 (by rw[m0 _ hl,(q1 l (q2 l hl)).2]) (m'in l hl).symm
        · rw[s'out l hl]
          have:=m'out l hl
          cases s.getD l .dead <;> simp[obStep,this] }
    have hB1:∀k,decide (k<R.length)=true→M'.B (back k)=M1.B k:=by
      intro k hk
      simp only[decide_eq_true_eq] at hk
      rw[m'in _ (by rw[q3 k hk];exact hk),q3 k hk]
    have hs1:∀k,decide (k<R.length)=true→s'[back k]?=(s1[k]?).map (Ob.ren back):=by
      intro k hk
      simp only[decide_eq_true_eq] at hk
      rw[s1get k hk,getElem?_of_lt (by rw[s'len];exact hlt _ (q4 k hk)),s'in k hk]
      rfl
    have good:Good w' M' s':=by
      refine⟨g1.imm,fun b j l o h1 h2=>?_,fun l l' b o o' h1 h2=>?_,fun l=>?_,Nat.le_trans g.nle e1.size,fun l b o h1=>?_⟩
      · by_cases hl:q l<R.length
        · rw[m'in l hl] at h2
          exact g1.off b j _ o h1 h2
        · rw[m'out l hl] at h2
          rcases e1.immNew b j h1 with h3 | h3 | ⟨k,o',h3,_⟩
          · exact g.off b j l o h3 h2
          · exact absurd (g.lt h2) (by omega)
          · exact absurd h3 (apart l b o k o' hl h2)
      · by_cases hl:q l<R.length
        · rw[m'in l hl] at h1
          by_cases hl':q l'<R.length
          · rw[m'in l' hl'] at h2
            have:=g1.sep _ _ _ _ _ h1 h2
            rw[← (q1 l (q2 l hl)).2,this,(q1 l' (q2 l' hl')).2]
          · rw[m'out l' hl'] at h2
            exfalso
            rcases e1.own _ b o h1 with h3 | ⟨k,o2,h3,_⟩
            · exact absurd (g.lt h2) (by omega)
            · exact apart l' b o' k o2 hl' h2 h3
        · rw[m'out l hl] at h1
          by_cases hl':q l'<R.length
          · rw[m'in l' hl'] at h2
            exfalso
            rcases e1.own _ b o' h2 with h3 | ⟨k,o2,h3,_⟩
            · exact absurd (g.lt h1) (by omega)
            · exact apart l b o k o2 hl h1 h3
          · rw[m'out l' hl'] at h2
            exact g.sep _ _ _ _ _ h1 h2
      · by_cases hl:q l<R.length
        · rw[s'in' l hl]
          refine obOk.ren (M:=M1) (M':=M') (fun b j h=>h) hB1 hs1 (g1.obj (q l)) (m'in l hl) (fun v e xs hx y hy=>?_)
          rw[List.all_eq_true] at hu1
          have h1:=hu1 _ (List.mem_of_getElem? (s1get _ hl))
          rw[hx] at h1
          simp only[Ob.under,List.all_eq_true] at h1
          have h2:=h1 y hy
          rwa [← A.under_inP] at h2
        · rw[s'out l hl]
          exact (g.obj l).keep g ext (m'out l hl) (fun b o hb=>e1.keep b (g.lt hb) (fun k o'=>apart l b o k o' hl hb))
      · by_cases hl:q l<R.length
        · rw[m'in l hl] at h1
          have:=g1.nof _ b o h1
          rw[e1.N] at this
          exact this
        · rw[m'out l hl] at h1
          exact g.nof _ b o h1
    refine⟨v,rfl,M',by rw[hs'];exact good,by rw[hs'];exact ext,by rw[hs'];exact ARep.ren (M:=M1) (M':=M') (fun b j h=>h) hB1 hs1 r1 (by rw[A.under_inP];exact hur)⟩
  · exact h.elim
end
end Go.AE
namespace Go.AE
section
variable {P:Program} {w:World} {M:Mem} {s:Store} {tr:Operand→Option V} {rA:V→A} {ρ:Operand→Value} {G:Gam} {nw:Nat}
theorem argTypes1 {c:Call} {t:TypeId} (h:c.argTypes.toList=[t]):c.argTypes=#[t]:=by
  apply Array.ext';simpa using h
theorem args1 {c:Call} {x:Operand} (h:c.args.toList=[x]):c.args.map ρ=#[ρ x]:=by
  have:c.args=#[x]:=by apply Array.ext';simpa using h
  rw[this];simp
theorem args2 {c:Call} {x y:Operand} (h:c.args.toList=[x,y]):c.args.map ρ=#[ρ x,ρ y]:=by
  have:c.args=#[x,y]:=by apply Array.ext';simpa using h
  rw[this];simp
theorem argTypes2 {c:Call} {t u:TypeId} (h:c.argTypes.toList=[t,u]):c.argTypes=#[t,u]:=by
  apply Array.ext';simpa using h
theorem move_sound (hρ:∀o v,tr o=some v→ARep w M s (rA v) (ρ o)) (g:Good w M s) {gro:Bool} {x:Operand} {ty:TypeId} {X':X} (hc:(match gro,x with
    | true,.const (.slice none 0 0)=>match tslice P ty with
      | some e=>(tsize P e).map X.grow
      | none=>none
    | _,_=>(tr x).map X.mv)=some X') (h:(X'.eff G s nw rA).pre):After w M s (X'.eff G s nw rA) (ρ x) w∨(∃e,X'=.grow e∧x=.const (.slice none 0 0)):=by
  split at hc
  · split at hc
    · simp only[Option.map_eq_some_iff] at hc
      obtain⟨e,_,rfl⟩:=hc
      exact .inr ⟨e,rfl,rfl⟩
    · simp at hc
  · simp only[Option.map_eq_some_iff] at hc
    obtain⟨v,h1,rfl⟩:=hc
    exact .inl (After.here g rfl (hρ _ _ h1))
theorem op_sound (hG:GamOk P G) (g:Good w M s) (hW:Wok P w) (hN:P.low≤M.N) {gro:Bool} {rf:FuncId→Option Nat} {o:Oper} {x:X} (hc:cX P tr rf gro o=some x) (hρ:∀o v,tr o=some v→ARep w M s (rA v) (ρ o)) (hk:∀v,ρ (.const v)=v) (hkf:∀f,ρ (.func f)=.func (.func f) #[] #[])
    (h:(x.eff G s nw rA).pre):Runs P (execOp ρ o) w (After w M s (x.eff G s nw rA)):=by
  obtain⟨dst,op,ty,pos,after,guard⟩:=o
  unfold cX at hc
  cases op <;> simp only at hc
  case move x' =>
    rcases move_sound (G:=G) (nw:=nw) hρ g hc h with h1 | ⟨e,rfl,rfl⟩
    · exact Runs.value (v:=ρ x') (w':=w) rfl h1
    · refine Runs.value (v:=.slice none 0 0) (w':=w) (by simp[execOp,hk]) (eGrow_sound (a:=none) g h)
  case assign x' =>
    rcases move_sound (G:=G) (nw:=nw) hρ g hc h with h1 | ⟨e,rfl,rfl⟩
    · exact Runs.value (v:=ρ x') (w':=w) rfl h1
    · refine Runs.value (v:=.slice none 0 0) (w':=w) (by simp[execOp,hk]) (eGrow_sound (a:=none) g h)
  case pick c a b =>
    split at hc <;> simp at hc
    rename_i c' a' b' h1 h2 h3
    subst hc
    obtain⟨r,r1,r2⟩:=pick_sound (P:=P) g (hρ _ _ h1) (hρ _ _ h2) (hρ _ _ h3) h
    exact Runs.value (v:=r) (w':=w) r1 r2
  case binOp op t a b yt =>
    split at hc
    · rename_i a' b' h1 h2
      split at hc
      · rename_i hu
        split at hc <;> simp at hc <;> subst hc
        · obtain⟨r,r1,r2,r3⟩:=eBeq_sound (P:=P) false t hu a b (hρ _ _ h1) (hρ _ _ h2) h
          exact Runs.val r1 (After.here g r3 r2)
        · obtain⟨r,r1,r2,r3⟩:=eBeq_sound (P:=P) true t hu a b (hρ _ _ h1) (hρ _ _ h2) h
          exact Runs.val r1 (After.here g r3 r2)
      · rename_i fs hu
        split at hc
        · rename_i hst
          split at hc <;> simp at hc <;> subst hc
          · rename_i ks hks
            obtain⟨r,r1,r2,r3⟩:=eSeq_sound (P:=P) false hu hst.1 hst.2 hks a b (hρ _ _ h1) (hρ _ _ h2) h
            exact Runs.val r1 (After.here g r3 r2)
          · rename_i ks hks
            obtain⟨r,r1,r2,r3⟩:=eSeq_sound (P:=P) true hu hst.1 hst.2 hks a b (hρ _ _ h1) (hρ _ _ h2) h
            exact Runs.val r1 (After.here g r3 r2)
        · simp at hc
      · simp at hc;subst hc
        obtain⟨r,r1,r2,r3⟩:=eBin_sound (P:=P) op t a b (hρ _ _ h1) (hρ _ _ h2) h
        exact Runs.val r1 (After.here g r3 r2)
      · simp at hc;subst hc
        obtain⟨r,r1,r2,r3⟩:=eBin_sound (P:=P) op t a b (hρ _ _ h1) (hρ _ _ h2) h
        exact Runs.val r1 (After.here g r3 r2)
      · rename_i e hu
        split at hc <;> simp at hc <;> subst hc
        · obtain⟨r,r1,r2⟩:=eIsnil_sound (P:=P) (t:=t) g (.inl ⟨rfl,hk _,_,hu⟩) a (.const (.slice none 0 0)) (hρ _ _ h1) h
          exact Runs.val r1 r2
        · obtain⟨r,r1,r2⟩:=eIsnil_sound (P:=P) (t:=t) g (.inl ⟨rfl,hk _,_,hu⟩) a (.const (.slice none 0 0)) (hρ _ _ h1) h
          exact Runs.val r1 r2
      · rename_i e hu
        split at hc <;> simp at hc <;> subst hc
        · obtain⟨r,r1,r2⟩:=eIsnil_sound (P:=P) (t:=t) g (.inr (.inl ⟨rfl,hk _,_,hu⟩)) a (.const (.pointer none)) (hρ _ _ h1) h
          exact Runs.val r1 r2
        · obtain⟨r,r1,r2⟩:=eIsnil_sound (P:=P) (t:=t) g (.inr (.inl ⟨rfl,hk _,_,hu⟩)) a (.const (.pointer none)) (hρ _ _ h1) h
          exact Runs.val r1 r2
      · rename_i e1 e2 e3 hu
        split at hc <;> simp at hc <;> subst hc
        · obtain⟨r,r1,r2⟩:=eIsnil_sound (P:=P) (t:=t) g (.inr (.inr ⟨rfl,hk _,_,_,_,hu⟩)) a (.const .nilFunc) (hρ _ _ h1) h
          exact Runs.val r1 r2
        · obtain⟨r,r1,r2⟩:=eIsnil_sound (P:=P) (t:=t) g (.inr (.inr ⟨rfl,hk _,_,_,_,hu⟩)) a (.const .nilFunc) (hρ _ _ h1) h
          exact Runs.val r1 r2
      · simp at hc
    · simp at hc
  case unOp op t a =>
    simp only[Option.map_eq_some_iff] at hc
    obtain⟨v,h1,rfl⟩:=hc
    obtain⟨r,r1,r2,r3⟩:=eUn_sound (P:=P) op (hρ _ _ h1) h
    exact Runs.val r1 (After.here g r3 r2)
  case convert a b x' =>
    split at hc
    · rename_i v h1
      split at hc
      · rename_i ha hb
        simp at hc;subst hc
        obtain⟨r,r1,r2,r3⟩:=eConv_sound (P:=P) _ ha hb (hρ _ _ h1) h
        exact Runs.val r1 (After.here g r3 r2)
      · rename_i ha hb
        simp at hc;subst hc
        obtain⟨r,r1,r2,r3⟩:=eI2s_sound (P:=P) ha hb (hρ _ _ h1) h
        exact Runs.val r1 (After.here g r3 r2)
      · rename_i e ha hb
        split at hc
        · rename_i he
          simp at hc;subst hc
          obtain⟨r,r1,r2⟩:=eB2s_sound (P:=P) g ha he hb (hρ _ _ h1) h
          exact Runs.val r1 r2
        · simp at hc
      · simp at hc
    · simp at hc
  case buildSlice t n ps =>
    split at hc
    · rename_i e ht
      split at hc
      · rename_i esz ys hn hys
        split at hc
        · rename_i hb
          simp at hc;subst hc
          simp only[Bool.and_eq_true,beq_iff_eq,decide_eq_true_eq] at hb
          obtain⟨⟨⟨b1,b2⟩,b3⟩,b4⟩:=hb
          obtain⟨t1,t2⟩:=trAll_spec hys
          simp only[List.length_map,Array.length_toList] at t1
          have hrep:∀i,i<(ys.map rA).length→ARep w M s ((ys.map rA).getD i .any) (ρ (ps.toList.getD i default).2):=by
            intro i hi
            simp only[List.length_map] at hi
            have h3:=hρ _ _ (t2 i hi)
            rw[getD_lt _ _ hi,getD_lt _ _ (by simp;omega)] at h3
            rw[getD_lt _ _ (by simpa using hi),getD_lt _ _ (by simp;omega)]
            simpa using h3
          have key:=eSbuild_sound (P:=P) g (tslice_spec ht) hn b4 b1 b2 b3 ρ (xs:=ys.map rA) (by simp[t1]) hrep
          cases ys with
          | nil =>
            cases hrf:(rf 4000000).isSome with
            | true =>
              rw[hrf] at h
              obtain⟨r,w',r1,r2⟩:=eSbuildo_sound (P:=P) g (tslice_spec ht) hn b4 b1 b2 b3 ρ (xs:=([]:List V).map rA) (by simp[t1]) hrep h
              exact Runs.val r1 r2
            | false =>
            rw[hrf] at h
            obtain⟨r,w',r1,⟨M1,g1,e1,a1⟩,r3⟩:=key (by simp[eSbuild,Eff.valIf])
            obtain⟨a,rfl⟩:=r3 rfl
            obtain⟨M2,g2,e2,a2⟩:=eGrow_sound (e:=esz) (a:=a) (nw:=nw) g1 h
            exact Runs.val r1 ⟨M2,g2,Ext.trans g e1 g1 e2,a2⟩
          | cons y ys =>
          cases gro with
          | false =>
            obtain⟨r,w',r1,r2,_⟩:=key h
            exact Runs.val r1 r2
          | true =>
            obtain⟨r,w',r1,r2⟩:=eSbuildo_sound (P:=P) g (tslice_spec ht) hn b4 b1 b2 b3 ρ (xs:=(y::ys).map rA) (by simp[t1]) hrep h
            exact Runs.val r1 r2
        · simp at hc
      · simp at hc
    · simp at hc
  case build t ps =>
    split at hc
    · rename_i fs n eb z hf hz
      split at hc
      · rename_i hfs
        simp only[Option.map_eq_some_iff] at hc
        obtain⟨qs,hq,rfl⟩:=hc
        obtain⟨r,r1,r2⟩:=eBuild_sound (P:=P) g (tfields_spec hf) hz hfs hq rA ρ hρ h
        exact Runs.val r1 (After.here g (eBuild_fp _ _) r2)
      · simp at hc
    · simp at hc
  case box t x' =>
    split at hc <;> simp at hc
    rename_i n v hn h1
    subst hc
    obtain⟨r,w',r1,r2⟩:=eBox_sound (P:=P) g hn (hρ _ _ h1) h
    exact Runs.val r1 r2
  case alloc t =>
    split at hc
    case h_2=>simp at hc
    rename_i n eb z hn
    cases hb:(rf 7000000 == some t) with
    | true =>
      rw[hb] at hc
      simp only[cond_true] at hc
      split at hc
      · simp only[Option.map_eq_some_iff] at hc
        obtain⟨tb,_,rfl⟩:=hc
        obtain⟨r,w',r1,r2⟩:=eBalloc_sound (P:=P) g hn h
        exact Runs.val r1 r2
      · simp at hc
    | false =>
      rw[hb] at hc
      simp at hc
      subst hc
      obtain⟨r,w',r1,r2⟩:=eAlloc_sound (P:=P) g hn h
      exact Runs.val r1 r2
  case makeSlice t l c =>
    split at hc
    · rename_i e n' c' ht h1 h2
      split at hc
      · rename_i esz eb z hn
        split at hc
        · rename_i i j
          split at hc <;> simp at hc
          rename_i hij
          subst hij
          split at hc <;> subst hc
          · obtain⟨r,w',r1,r2⟩:=eMkd_sound (P:=P) g (tslice_spec ht) hn (hρ _ _ h1) h
            exact Runs.val r1 r2
          · obtain⟨r,w',r1,r2⟩:=eMkslice_sound (P:=P) g (tslice_spec ht) hn (hρ _ _ h1) h
            exact Runs.val r1 r2
        · rename_i i j
          split at hc <;> simp at hc
          rename_i hij
          subst hij
          split at hc <;> subst hc
          · obtain⟨r,w',r1,r2⟩:=eMkd_sound (P:=P) g (tslice_spec ht) hn (hρ _ _ h1) h
            exact Runs.val r1 r2
          · obtain⟨r,w',r1,r2⟩:=eMkslice_sound (P:=P) g (tslice_spec ht) hn (hρ _ _ h1) h
            exact Runs.val r1 r2
        · simp at hc;subst hc
          obtain⟨r,w',r1,r2⟩:=eMkcap_sound (P:=P) g (tslice_spec ht) hn (hρ _ _ h2) h
          exact Runs.val (by rw[hk];exact r1) r2
        · simp at hc
      · simp at hc
    · simp at hc
  case makeMap t r =>
    cases r with
    | none =>
      simp only at hc
      split at hc <;> simp at hc
      subst hc
      obtain⟨r,w',r1,r2⟩:=eMkmap_sound (P:=P) (t:=t) g h
      exact Runs.val r1 r2
    | some _=>simp at hc
  case load t p =>
    split at hc <;> simp at hc
    rename_i a n v ha hn h1
    subst hc
    obtain⟨r,r1,r2⟩:=eLoad_sound (P:=P) g ha hn (hρ _ _ h1) h
    exact Runs.val r1 r2
  case store t p x' =>
    split at hc <;> simp at hc
    rename_i n v u hn h1 h2
    subst hc
    obtain⟨w',r1,r2⟩:=eStore_sound (P:=P) g hn (hρ _ _ h1) (hρ _ _ h2) h
    exact Runs.unit r1 r2
  case fieldAddr t p i =>
    split at hc
    · rename_i fs v hf h1
      split at hc
      · rename_i f hfi
        split at hc <;> simp at hc
        rename_i n hn
        subst hc
        obtain⟨r,r1,r2⟩:=eFaddr_sound (P:=P) g (tfields_spec hf) hfi hn (hρ _ _ h1) h
        exact Runs.val r1 r2
      · simp at hc
    · simp at hc
  case indexAddr t x' i =>
    split at hc
    · rename_i e v u ht h1 h2
      split at hc <;> simp at hc
      rename_i n hn
      subst hc
      obtain⟨r,r1,r2⟩:=eIaddr_sound (P:=P) g (tslice_spec ht) hn (hρ _ _ h1) (hρ _ _ h2) h
      exact Runs.val r1 r2
    · simp at hc
  case index t x' i =>
    split at hc <;> simp at hc
    rename_i v u ht h1 h2
    subst hc
    obtain⟨r,r1,r2,r3⟩:=eIndex_sound (P:=P) ht (hρ _ _ h1) (hρ _ _ h2) h
    exact Runs.val r1 (After.here g r3 r2)
  case field t x' i =>
    split at hc
    · rename_i fs v hf h1
      split at hc
      · rename_i f hfi
        split at hc <;> simp at hc
        rename_i a n ha hn
        subst hc
        obtain⟨r,r1,r2⟩:=eField_sound (P:=P) g (tfields_spec hf) hfi ha hn (hρ _ _ h1) h
        exact Runs.val r1 r2
      · simp at hc
    · simp at hc
  case slice t x' lo hi mx =>
    split at hc
    · rename_i v lo' hi' mx' h1 h2 h3 h4
      split at hc
      · rename_i ht
        simp at hc;subst hc
        obtain⟨r,r1,r2⟩:=eSlice_sound (P:=P) (nw:=nw) g (.inl ⟨rfl,ht⟩) (hρ _ _ h1) (trO_rep hρ h2) (trO_rep hρ h3) (trO_rep hρ h4) h
        exact Runs.val r1 r2
      · rename_i e ht
        split at hc <;> simp at hc
        rename_i n hn
        subst hc
        obtain⟨r,r1,r2⟩:=eSlice_sound (P:=P) (nw:=nw) g (.inr ⟨rfl,e,ht,hn⟩) (hρ _ _ h1) (trO_rep hρ h2) (trO_rep hρ h3) (trO_rep hρ h4) h
        exact Runs.val r1 r2
      · simp at hc
    · simp at hc
  case lookup t m k ok =>
    split at hc
    · rename_i kt et m' k' ht h1 h2
      split at hc <;> simp at hc <;> subst hc
      · rename_i kk n eb z hkt hz
        obtain⟨r,r1,r2⟩:=eLookup_sound (P:=P) g ht (.inl ⟨rfl,_,hkt⟩) hz (hρ _ _ h1) (hρ _ _ h2) h
        exact Runs.val r1 r2
      · rename_i n eb z hkt hz
        obtain⟨r,r1,r2⟩:=eLookup_sound (P:=P) g ht (.inr ⟨rfl,hkt⟩) hz (hρ _ _ h1) (hρ _ _ h2) h
        exact Runs.val r1 r2
    · simp at hc
  case mapUpdate t m k x' =>
    split at hc
    · rename_i kt et m' k' v ht h1 h2 h3
      split at hc <;> simp at hc <;> subst hc
      · rename_i kk hkt
        obtain⟨w',r1,r2⟩:=eMapup_sound (P:=P) g ht (.inl ⟨rfl,_,hkt⟩) (hρ _ _ h1) (hρ _ _ h2) (hρ _ _ h3) h
        exact Runs.unit r1 r2
      · rename_i hkt
        obtain⟨w',r1,r2⟩:=eMapup_sound (P:=P) g ht (.inr ⟨rfl,hkt⟩) (hρ _ _ h1) (hρ _ _ h2) (hρ _ _ h3) h
        exact Runs.unit r1 r2
    · simp at hc
  case extract x' i =>
    split at hc <;> simp at hc
    rename_i v h1
    subst hc
    obtain⟨r,r1,r2⟩:=eExtract_sound (P:=P) g (hρ _ _ h1) h
    exact Runs.val r1 r2
  case makeFunc f a b =>
    split at hc <;> simp at hc
    rename_i a' b' h1 h2
    subst hc
    obtain⟨t1,t2⟩:=trAll_rep hρ h1
    obtain⟨t3,t4⟩:=trAll_rep hρ h2
    refine Runs.value (v:=.func f (a.map ρ) (b.map ρ)) (w':=w) (by simp[execOp,Instr.makeFunc]) (After.here g rfl (.fn _ _ _ _ _ t1 t3 t2 t4))
  case makeInterface t x' =>
    split at hc <;> simp at hc
    rename_i v d hd h1 ht
    subst hc
    have hr:=eMkif_sound (P:=P) (w:=w) ht hd (ρ x')
    exact Runs.val hr (After.here g rfl (.iface _ _ _ (hρ _ _ h1)))
  case typeAssert x' xt t ok =>
    split at hc
    · simp at hc
    · rename_i v d hd h1 ht
      split at hc <;> simp at hc
      rename_i hok
      subst hc
      have:ok=false:=by simpa using hok
      subst this
      obtain⟨r,r1,r2⟩:=eTassert_sound (P:=P) (xt:=xt) g ht hd (hρ _ _ h1) h
      exact Runs.val r1 r2
    · simp at hc
  case nilCheck x' =>
    simp only[Option.map_eq_some_iff] at hc
    obtain⟨v,h1,rfl⟩:=hc
    obtain⟨r1,r2⟩:=eNilck_sound (P:=P) g (hρ _ _ h1) h ρ x' rfl ⟨dst,.nilCheck x',ty,pos,after,guard⟩ rfl
    exact Runs.value r1 r2
  case call c =>
    split at hc
    · rename_i hcal
      split at hc
      · rename_i x' t h1 h2
        split at hc <;> simp at hc
        all_goals
          rename_i hx hu
          subst hc
          obtain⟨r,r1,r2⟩:=eLen_sound (P:=P) g ty (t:=t) (by first | exact .inl ⟨rfl,hu⟩ | exact .inr (.inl ⟨rfl,_,hu⟩) | exact .inr (.inr ⟨rfl,_,_,hu⟩)) (hρ _ _ hx) h
          refine Runs.value (v:=r) (w':=w) ?_ r2
          simp[execOp,resolve,hcal,argTypes1 h2,args1 (ρ:=ρ) h1,invoke,builtin,r1]
      · simp at hc
    · rename_i hcal
      split at hc
      · rename_i a b h1
        split at hc <;> simp at hc
        rename_i a' b' h2 h3
        subst hc
        obtain⟨r,r1,r2,r3⟩:=eMm_sound (P:=P) false c.argTypes ty (hρ _ _ h2) (hρ _ _ h3) h
        refine Runs.value (v:=r) (w':=w) ?_ (After.here g r3 r2)
        simp at r1
        simp[execOp,resolve,hcal,args2 (ρ:=ρ) h1,invoke,builtin,r1]
      · simp at hc
    · rename_i hcal
      split at hc
      · rename_i a b h1
        split at hc <;> simp at hc
        rename_i a' b' h2 h3
        subst hc
        obtain⟨r,r1,r2,r3⟩:=eMm_sound (P:=P) true c.argTypes ty (hρ _ _ h2) (hρ _ _ h3) h
        refine Runs.value (v:=r) (w':=w) ?_ (After.here g r3 r2)
        simp at r1
        simp[execOp,resolve,hcal,args2 (ρ:=ρ) h1,invoke,builtin,r1]
      · simp at hc
    · rename_i hcal
      split at hc
      · rename_i b x' t u h1 h2
        split at hc
        · rename_i b' v e e' hb hx ht hu
          split at hc
          · rename_i esz eb z hn
            split at hc
            case isFalse=>simp at hc
            rename_i hz
            cases hrb:(rf 7000001 == some e) with
            | true =>
              rw[hrb] at hc
              simp only[cond_true] at hc
              split at hc
              case isFalse=>simp at hc
              rename_i hee
              obtain⟨rfl,rfl⟩:=hee
              simp at hc
              subst hc
              obtain⟨r,w',r1,r2⟩:=eBappend_sound (P:=P) (ty:=ty) g (tslice_spec ht) (tsrc_spec hu) hn hz (hρ _ _ hb) (hρ _ _ hx) h
              refine Runs.value (v:=r) (w':=w') ?_ r2
              simp[execOp,resolve,hcal,argTypes2 h2,args2 (ρ:=ρ) h1,invoke,builtin,r1]
            | false =>
              rw[hrb] at hc
              simp at hc
              subst hc
              obtain⟨r,w',r1,r2⟩:=eAppend_sound (P:=P) (nw:=nw) (ty:=ty) g (tslice_spec ht) (tsrc_spec hu) hn (by omega) hz (hρ _ _ hb) (hρ _ _ hx) h
              refine Runs.value (v:=r) (w':=w') ?_ r2
              simp[execOp,resolve,hcal,argTypes2 h2,args2 (ρ:=ρ) h1,invoke,builtin,r1]
          · simp at hc
        · simp at hc
      · simp at hc
    · simp at hc
      subst hc
      exact h.elim
    · simp at hc
    · rename_i go name hcal
      split at hc
      · rename_i t ht
        split at hc <;> simp at hc
        rename_i f x' args hm h0 h1
        subst hc
        obtain⟨t1,t2⟩:=trAll_rep hρ h1
        have key:=callm_sound (P:=P) hm (hρ _ _ h0) t1 t2 (fun k args vs=>eRCall_sound (P:=P) hG g hW hN k args vs) h
        have he:(execOp ρ ⟨dst,.call c,ty,pos,after,guard⟩).run P w=(callMethod (ρ go) name (c.args.map ρ)).run P w:=by
          have hx:(#[ρ go]++c.args.map ρ).extract 1 (#[ρ go]++c.args.map ρ).size=c.args.map ρ:=by
            apply Array.ext
            · simp
            · intro i h1 h2
              simp
          have h0:(#[ρ go]++c.args.map ρ)[0]?=some (ρ go):=by
            rw[Array.getElem?_append,if_pos (by simp)]
            simp
          simp only[execOp,resolve,hcal,Sem.run_bind,Sem.run_pure,Result.andThen_ok,invoke]
          rw[h0,hx]
        unfold Runs at key ⊢
        rw[he]
        exact key
      · simp at hc
    · rename_i f hcal
      simp only[Option.map_eq_some_iff] at hc
      obtain⟨vs,h1,hx⟩:=hc
      obtain⟨t1,t2⟩:=trAll_rep hρ h1
      have he:(execOp ρ ⟨dst,.call c,ty,pos,after,guard⟩).run P w=(callFunc f (c.args.map ρ)).run P w:=by
        simp only[execOp,resolve,hcal,hkf,Deferred.ofValue,Sem.run_bind,Sem.run_pure,Result.andThen_ok,invoke,Array.empty_append,Array.append_empty]
      cases hrf:rf f with
      | some k0 =>
        rw[hrf] at hx
        subst hx
        simp only[X.eff] at h ⊢
        have key:=eRCall_sound (P:=P) hG g hW hN f _ _ t1 t2 (eRc_pre h)
        rw[← eRc_after h] at key
        unfold Runs at key ⊢
        rw[he]
        exact key
      | none =>
        rw[hrf] at hx
        subst hx
        have key:=eCall_sound (P:=P) hG g hW (f:=f) t1 t2 h
        unfold Runs at key ⊢
        rw[he]
        exact key
    · rename_i fo hne hcal
      split at hc <;> simp at hc
      rename_i f vs h0 h1
      subst hc
      obtain⟨t1,t2⟩:=trAll_rep hρ h1
      have key:=callv_sound (P:=P) hG g (hρ _ _ h0) t1 t2 (fun k args vs=>eRCall_sound (P:=P) hG g hW hN k args vs) h
      have he:(execOp ρ ⟨dst,.call c,ty,pos,after,guard⟩).run P w=(do let d ← Deferred.ofValue (ρ fo) (c.args.map ρ);invoke d.target d.args:Sem Next).run P w:=by
        simp only[execOp,resolve,hcal]
      unfold Runs at key ⊢
      rw[he]
      exact key
  case panic x' =>
    simp at hc
    subst hc
    exact h.elim
  all_goals (simp at hc)
end
end Go.AE
namespace Go.AE
def oV:Option V→List V
  | none=>[]
  | some v=>[v]
def X.ops:X→List V
  | .mv x | .un _ x | .conv _ x | .s2b x | .b2s x | .i2s x | .len _ x | .box _ x | .load _ _ x | .faddr _ x | .field _ _ _ x | .extract x _ | .mkif _ x | .tassert _ x | .nilck x | .isnil _ _ x | .mkcap _ _ _ x | .mkslice _ _ _ x | .mkd _ _ _ x=>[x]
  | .grow _ | .alloc _ _ | .balloc _ _ | .mkmap | .boom=>[]
  | .pick a b c=>[a,b,c]
  | .bin _ x y | .beq _ x y | .seq _ _ x y | .mm _ x y | .bappend _ x y | .append _ _ x y | .store _ x y | .iaddr _ x y | .index x y | .lookup _ _ _ x y=>[x,y]
  | .mapup _ x y z=>[x,y,z]
  | .sbuild _ ps=>ps
  | .sbuildo _ ps=>ps
  | .build _ ps=>ps.map (·.2.2)
  | .slice _ _ x lo hi mx=>x::(oV lo++oV hi++oV mx)
  | .mkfn _ a b=>a++b
  | .call _ args=>args
  | .rcall _ _ args=>args
  | .callv f args=>f::args
  | .callm _ _ x args=>x::args
def X.writer:X→Bool
  | .grow _ | .sbuildo _ _ | .append _ _ _ _ | .box _ _ | .alloc _ _ | .balloc _ _ | .bappend _ _ _ | .mkcap _ _ _ _ | .mkslice _ _ _ _ | .mkmap | .store _ _ _ | .mapup _ _ _ _ | .callv _ _ | .callm _ _ _ _=>true
  | .slice _ _ _ _ _ mx=>mx.isSome
  | .rcall k _ _=>decide (k<1000000)
  | _=>false
def X.looker:X→Bool
  | .len _ _ | .isnil _ _ _ | .load _ _ _ | .faddr _ _ | .iaddr _ _ _ | .lookup _ _ _ _ _ | .nilck _ | .call _ _ | .b2s _ | .slice _ _ _ _ _ _ | .rcall _ _ _=>true
  | x=>x.writer
theorem omap_congr {r r':V→A} {o:Option V} (h:∀v,v∈oV o→r v=r' v):o.map r=o.map r':=by
  cases o with
  | none=>rfl
  | some v=>simp[h v (by simp[oV])]
theorem eff_congr (G:Gam) (s:Store) (nw:Nat) {r r':V→A} (x:X) (h:∀v,v∈x.ops→r v=r' v):x.eff G s nw r=x.eff G s nw r':=by
  cases x with
  | sbuild e ps=>simp only[X.eff];rw[show ps.map r=ps.map r' from List.map_congr_left h]
  | sbuildo e ps=>simp only[X.eff];rw[show ps.map r=ps.map r' from List.map_congr_left h]
  | build z ps =>
    simp only[X.eff]
    congr 1
    refine List.map_congr_left fun p hp=>?_
    rw[h p.2.2 (List.mem_map.2 ⟨p,hp,rfl⟩)]
  | slice st e x lo hi mx =>
    simp only[X.ops,List.mem_cons,List.mem_append] at h
    simp only[X.eff]
    rw[h x (.inl rfl),omap_congr (fun v hv=>h v (.inr (.inl (.inl hv)))),omap_congr (o:=hi) (fun v hv=>h v (.inr (.inl (.inr hv)))),omap_congr (o:=mx) (fun v hv=>h v (.inr (.inr hv)))]
  | mkfn f a b =>
    simp only[X.ops,List.mem_append] at h
    simp only[X.eff]
    rw[List.map_congr_left (fun v hv=>h v (.inl hv)),List.map_congr_left (fun v hv=>h v (.inr hv))]
  | call f args=>simp only[X.eff];rw[show args.map r=args.map r' from List.map_congr_left h]
  | rcall k f args=>simp only[X.eff];rw[show args.map r=args.map r' from List.map_congr_left h]
  | callv f args =>
    simp only[X.ops,List.mem_cons] at h
    simp only[X.eff]
    rw[h f (.inl rfl),List.map_congr_left (fun v hv=>h v (.inr hv))]
  | callm t f x args =>
    simp only[X.ops,List.mem_cons] at h
    simp only[X.eff]
    rw[h x (.inl rfl),List.map_congr_left (fun v hv=>h v (.inr hv))]
  | _=>simp only[X.eff] <;> simp only[X.ops,List.mem_cons,List.not_mem_nil,or_false,forall_eq_or_imp,forall_eq] at h <;> simp only[h]
theorem reader_fp (G:Gam) (s:Store) (nw:Nat) (r:V→A) (x:X) (hx:x.writer=false):∀p,p∈(x.eff G s nw r).fp→p.2=s.getD p.1 .dead:=by
  have one:∀(l:Nat) (o:Ob),s.getD l .dead=o→∀p,p∈[(l,o)]→p.2=s.getD p.1 .dead:=by
    intro l o h p hp
    simp at hp
    subst hp
    exact h.symm
  cases x <;> simp only[X.writer,Bool.true_eq_false] at hx <;> simp only[X.eff]
  case mv=>simp
  case rcall k f args =>
    have hk:¬k<1000000:=by simpa using hx
    rw[eRc,if_neg hk]
    intro p hp
    obtain⟨q,_,rfl⟩:=List.mem_map.1 hp
    rfl
  case pick c a b=>unfold ePick;split <;> simp[Eff.fail]
  case bin op x y =>
    unfold eBin
    split
    · unfold iBin;split <;> simp[Eff.valIf]
    · unfold sBin;split <;> simp[Eff.valIf,Eff.val,Eff.fail]
    · simp[Eff.fail]
  case beq n x y=>unfold eBeq;split <;> simp[Eff.val,Eff.fail]
  case seq n ks x y=>unfold eSeq;split <;> simp[Eff.valIf,Eff.fail]
  case un op x =>
    unfold eUn
    split
    · split <;> simp[Eff.val,Eff.fail]
    · split <;> simp[Eff.val,Eff.fail]
    · simp[Eff.fail]
  case conv k x=>unfold eConv;split <;> simp[Eff.val,Eff.fail]
  case s2b x=>unfold eS2b;split <;> simp[Eff.val,Eff.fail]
  case b2s x=>exact fun p hp=>borFp_same p hp
  case i2s x=>unfold eI2s;split <;> simp[Eff.valIf,Eff.fail]
  case len k x =>
    unfold eLen
    split
    · simp[Eff.valIf]
    · simp[Eff.valIf]
    · simp[Eff.valIf]
    · simp[Eff.valIf]
    · split
      · rename_i h;exact one _ _ h
      · simp[Eff.fail]
    · split
      · rename_i h;exact one _ _ h
      · simp[Eff.fail]
    · simp[Eff.fail]
  case mm b x y=>unfold eMm;split <;> simp[Eff.valIf,Eff.fail]
  case sbuild=>simp[eSbuild,Eff.valIf]
  case build z ps=>simp[eBuild_fp]
  case load a n p =>
    unfold eLoad
    split
    · split
      · rename_i h;exact one _ _ h
      · simp[Eff.fail]
    · simp[Eff.valIf]
    · simp[Eff.fail]
  case faddr o p =>
    unfold eFaddr
    split
    · split
      · rename_i h;exact one _ _ h
      · simp[Eff.fail]
    · simp
    · simp[Eff.fail]
  case iaddr e x i =>
    unfold eIaddr
    split
    · simp
    · simp
    · split
      · rename_i h;exact one _ _ h
      · simp[Eff.fail]
    · simp[Eff.fail]
  case index x i=>unfold eIndex;split <;> simp[Eff.valIf,Eff.fail]
  case field a o n x=>unfold eField;split <;> simp[Eff.valIf,Eff.fail]
  case slice st e x lo hi mx =>
    cases mx with
    | some m=>simp at hx
    | none =>
      unfold eSlice
      split
      · simp[Eff.valIf]
      · simp[Eff.valIf]
      · simp[Eff.valIf]
      · simp[Eff.valIf]
      · split
        · rename_i h;exact one _ _ h
        · simp[Eff.fail]
      · simp[Eff.fail]
  case lookup ok kk z m k =>
    unfold eLookup
    split
    · split
      · rename_i h;exact one _ _ h
      · simp[Eff.fail]
    · simp[Eff.fail]
  case extract x i=>unfold eExtract;split <;> simp[Eff.fail]
  case mkfn=>simp
  case mkif=>simp
  case tassert t x=>unfold eTassert;split <;> simp[Eff.fail]
  case mkd e eb z n=>unfold eMkd;split <;> simp[Eff.valIf,Eff.fail]
  case boom=>simp[Eff.fail]
  case isnil k n x =>
    unfold eIsnil
    split <;> try (simp[Eff.valIf,Eff.fail];done)
    all_goals
      split
      · rename_i h;exact one _ _ h
      · simp[Eff.fail]
  case nilck x =>
    unfold eNilck
    split
    · split
      · rename_i h;exact one _ _ h
      · simp[Eff.fail]
    · simp
    · simp
    · simp[Eff.fail]
  case call f args =>
    unfold eCall
    split
    · intro p hp
      obtain⟨x,_,hp⟩:=List.mem_flatMap.1 hp
      exact borFp_same p hp
    · simp[Eff.fail]
theorem blind_fp (G:Gam) (s:Store) (nw:Nat) (r:V→A) (x:X) (hx:x.looker=false):(x.eff G s nw r).fp=[]:=by
  cases x <;> simp only[X.looker,X.writer,Bool.true_eq_false] at hx <;> simp only[X.eff]
  case pick c a b=>unfold ePick;split <;> simp[Eff.fail]
  case bin op x y =>
    unfold eBin
    split
    · unfold iBin;split <;> simp[Eff.valIf]
    · unfold sBin;split <;> simp[Eff.valIf,Eff.val,Eff.fail]
    · simp[Eff.fail]
  case beq n x y=>unfold eBeq;split <;> simp[Eff.val,Eff.fail]
  case seq n ks x y=>unfold eSeq;split <;> simp[Eff.valIf,Eff.fail]
  case un op x =>
    unfold eUn
    split
    · split <;> simp[Eff.val,Eff.fail]
    · split <;> simp[Eff.val,Eff.fail]
    · simp[Eff.fail]
  case conv k x=>unfold eConv;split <;> simp[Eff.val,Eff.fail]
  case s2b x=>unfold eS2b;split <;> simp[Eff.val,Eff.fail]
  case i2s x=>unfold eI2s;split <;> simp[Eff.valIf,Eff.fail]
  case mm b x y=>unfold eMm;split <;> simp[Eff.valIf,Eff.fail]
  case sbuild=>simp[eSbuild,Eff.valIf]
  case build z ps=>simp[eBuild_fp]
  case index x i=>unfold eIndex;split <;> simp[Eff.valIf,Eff.fail]
  case field a o n x=>unfold eField;split <;> simp[Eff.valIf,Eff.fail]
  case extract x i=>unfold eExtract;split <;> simp[Eff.fail]
  case tassert t x=>unfold eTassert;split <;> simp[Eff.fail]
  case mkd e eb z n=>unfold eMkd;split <;> simp[Eff.valIf,Eff.fail]
  case boom=>simp[Eff.fail]
def agree (s s2:Store) (l:List (Nat × Ob)):Prop:=∀p,p∈l→s2.getD p.1 .dead=s.getD p.1 .dead
theorem bor_local {s s2:Store} {x:A} (h:agree s s2 (borFp s x)):bor s2 x=bor s x∧borFp s2 x=borFp s x:=by
  cases x with
  | own l ver off n =>
    have:=h (l,s.getD l .dead) (by simp[borFp])
    simp only at this
    simp only[bor,borFp,this,and_self]
  | _=>exact⟨rfl,rfl⟩
theorem src_local {s s2:Store} {x:A} {esz:Nat} (h:agree s s2 (borFp s x)):src s2 esz x=src s esz x:=by
  cases x with
  | own l ver off n =>
    have:=h (l,s.getD l .dead) (by simp[borFp])
    simp only at this
    simp only[src,this]
  | d x=>cases x <;> rfl
  | _=>rfl
theorem bors_local {s s2:Store} {xs:List A} (h:agree s s2 (xs.flatMap (borFp s))):xs.map (bor s2)=xs.map (bor s)∧xs.flatMap (borFp s2)=xs.flatMap (borFp s):=by
  induction xs with
  | nil=>exact⟨rfl,rfl⟩
  | cons x xs ih =>
    have h1:=bor_local (x:=x) (fun p hp=>h p (by simp only[List.flatMap_cons,List.mem_append];exact .inl hp))
    have h2:=ih (fun p hp=>h p (by simp only[List.flatMap_cons,List.mem_append];exact .inr hp))
    simp only[List.map_cons,List.flatMap_cons,h1.1,h1.2,h2.1,h2.2,and_self]
theorem eCall_local {G:Gam} {s s2:Store} {f:FuncId} {args:List A} (h:agree s s2 (eCall G s f args).fp):eCall G s2 f args=eCall G s f args:=by
  unfold eCall at h ⊢
  split
  · rename_i sp hsp
    rw[hsp] at h
    obtain⟨h1,h2⟩:=bors_local h
    have h3:args.map (fun a=>(bor s2 a).2)=args.map (fun a=>(bor s a).2):=by
      have:=congrArg (List.map Prod.snd) h1
      simpa [List.map_map,Function.comp_def] using this
    simp only[h1,h2,h3]
  · rfl
theorem mem_zip':∀{a:List Nat} {b:List Ob},b.length=a.length→∀x,x∈a→∃y,(x,y)∈a.zip b:=by
  intro a
  induction a with
  | nil=>intro b _ x hx;simp at hx
  | cons c a ih =>
    intro b hb x hx
    cases b with
    | nil=>simp at hb
    | cons d b =>
      rcases List.mem_cons.1 hx with rfl | hx
      · exact⟨d,by simp⟩
      · obtain⟨y,hy⟩:=ih (by simpa using hb) x hx
        exact⟨y,by simp[hy]⟩
theorem eRCall_local {G:Gam} (hloc:∀f r,G.findR f=some r→∀args s s2 nw,(∀l,l∈r.ren args s nw→s2.getD l .dead=s.getD l .dead)→r.ren args s2 nw=r.ren args s nw) {s s2:Store} {nw:Nat} (hlen:s2.length=s.length) {f:FuncId} {args:List A}
    (hp:(eRCall G s nw f args).pre) (h:agree s s2 (eRCall G s nw f args).fp):eRCall G s2 nw f args=eRCall G s nw f args:=by
  unfold eRCall at hp h ⊢
  cases hr:G.findR f with
  | none=>rfl
  | some rs =>
    rw[hr] at hp h
    simp only at hp h ⊢
    obtain⟨_,hlt,_,_,_,hl2,_,_⟩:=hp
    have hag:∀l,l∈rs.ren args s nw→s2.getD l .dead=s.getD l .dead:=by
      intro l hl
      have hz:((rs.spec (args.map (A.ren (idxIn (rs.ren args s nw)))) ((rs.ren args s nw).map fun l=>(s.getD l .dead).ren (idxIn (rs.ren args s nw)))).2.1.map (Ob.ren fun k=>(rs.ren args s nw).getD k 0)).length=(rs.ren args s nw).length:=by rw[List.length_map];exact hl2
      obtain⟨y,hy⟩:=mem_zip' hz l hl
      exact h _ hy
    have h1:=hloc f rs hr args s s2 nw hag
    have h2:(rs.ren args s nw).map (fun l=>(s2.getD l .dead).ren (idxIn (rs.ren args s nw)))=(rs.ren args s nw).map (fun l=>(s.getD l .dead).ren (idxIn (rs.ren args s nw))):=List.map_congr_left fun l hl=>by rw[hag l hl]
    rw[h1,h2,hlen]
theorem res_local {s s2:Store} {l:Nat} (h:s2.getD l .dead=s.getD l .dead):(s2[l]?=some .res)=(s[l]?=some .res):=by
  have key:∀s:Store,(s[l]?=some Ob.res)↔s.getD l .dead=.res:=by
    intro s
    constructor
    · intro h;simp[h]
    · intro h;exact (getD_ne h (by simp)).1
  rw[eq_iff_iff,key,key,h]
theorem eff_local {G:Gam} (hloc:∀f r,G.findR f=some r→∀args s s2 nw,(∀l,l∈r.ren args s nw→s2.getD l .dead=s.getD l .dead)→r.ren args s2 nw=r.ren args s nw) {s s2:Store} (hlen:s2.length=s.length) {nw:Nat} {r:V→A} {x:X} (hp:(x.eff G s nw r).pre) (h:agree s s2 (x.eff G s nw r).fp):x.eff G s2 nw r=x.eff G s nw r:=by
  cases x <;> simp only[X.eff] at hp h ⊢
  case grow e=>rw[res_local (h _ (List.mem_singleton.2 rfl))]
  case b2s x =>
    have h1:=bor_local h
    simp only[eB2s,src_local h,h1.2]
  case len k x =>
    generalize r x=a at *
    cases a with
    | own l ver off n =>
      simp only[eLen] at hp h ⊢
      split at hp
      · rename_i hs
        rw[hs] at h
        have:=h _ (List.mem_singleton.2 rfl)
        simp only at this
        rw[this,hs]
      · exact hp.elim
    | mp l =>
      simp only[eLen] at hp h ⊢
      split at hp
      · rename_i hs
        rw[hs] at h
        have:=h _ (List.mem_singleton.2 rfl)
        simp only at this
        rw[this,hs]
      · exact hp.elim
    | d x=>cases x <;> rfl
    | _=>rfl
  case append e eb b x =>
    generalize r b=b' at *
    generalize r x=x' at *
    cases b' with
    | gr l e0 xs =>
      simp only[eAppend] at hp h ⊢
      split at hp
      · rename_i n hs
        rw[hs] at h
        simp only at h
        have h1:=h _ List.mem_cons_self
        have h2:agree s s2 (borFp s x'):=fun p hp=>h p (List.mem_cons_of_mem _ hp)
        simp only at h1
        simp only[h1,hs,src_local h2,(bor_local h2).2]
      · exact hp.elim
    | d d =>
      cases d with
      | nilsl =>
        simp only[eAppend] at hp h ⊢
        have h1:=h _ List.mem_cons_self
        have h2:agree s s2 (borFp s x'):=fun p hp=>h p (List.mem_cons_of_mem _ hp)
        simp only at h1
        simp only[res_local h1,src_local h2,(bor_local h2).2]
      | _=>exact hp.elim
    | own l ver off n =>
      simp only[eAppend] at hp h ⊢
      split at hp
      · rename_i ver' e0 xs hs
        rw[hs] at h
        simp only at h
        cases x' with
        | own l2 v2 o2 n2 =>
          simp only at hp h ⊢
          split at hp
          · rename_i v2' e2 zs hz
            rw[hz] at h
            simp only at h
            have h1:=h _ List.mem_cons_self
            have h3:=h _ (List.mem_cons_of_mem _ List.mem_cons_self)
            simp only at h1 h3
            simp only[h1,h3,hs,hz]
          · exact hp.elim
        | _ =>
          simp only at hp h ⊢
          have h1:=h _ (List.mem_singleton.2 rfl)
          simp only at h1
          have h2:∀y,borFp s y=[]→src s2 e y=src s e y:=fun y hy=>src_local (by rw[hy];intro p hp;simp at hp)
          simp only[h1,hs]
          rw[h2 _ rfl]
      · exact hp.elim
    | _=>exact hp.elim
  case sbuildo e ps=>simp only[eSbuildo] at h ⊢;rw[res_local (h _ (List.mem_singleton.2 rfl))]
  case box e x=>simp only[eBox] at h ⊢;rw[res_local (h _ (List.mem_singleton.2 rfl))]
  case alloc e z=>simp only[eBox] at h ⊢;rw[res_local (h _ (List.mem_singleton.2 rfl))]
  case bappend t b x =>
    generalize r b=b' at *
    cases b' with
    | bgr l t' bs =>
      simp only[eBappend] at hp h ⊢
      split at hp
      · rename_i hs
        rw[hs] at h
        have:=h _ (List.mem_singleton.2 rfl)
        simp only at this
        rw[this,hs]
      · exact hp.elim
    | _=>rfl
  case balloc t tb=>simp only[eBalloc] at h ⊢;rw[res_local (h _ (List.mem_cons_self ..)),res_local (h _ (List.mem_cons_of_mem _ (List.mem_singleton.2 rfl)))]
  case mkcap e eb z n =>
    unfold eMkcap at hp h ⊢
    split
    · rename_i k hk
      rw[hk] at h
      simp only at h
      rw[res_local (h _ (List.mem_singleton.2 rfl))]
    · rfl
  case isnil k n x =>
    generalize r x=p' at *
    cases p' with
    | own l ver off n =>
      simp only[eIsnil] at hp h ⊢
      split at hp
      · rename_i hs
        rw[hs] at h
        have:=h _ (List.mem_singleton.2 rfl)
        simp only at this
        rw[this,hs]
      · exact hp.elim
    | ref l ver i j =>
      simp only[eIsnil] at hp h ⊢
      split at hp
      · rename_i hs
        rw[hs] at h
        have:=h _ (List.mem_singleton.2 rfl)
        simp only at this
        rw[this,hs]
      · exact hp.elim
    | d x=>cases x <;> rfl
    | _=>rfl
  case mkslice e eb z n =>
    unfold eMkslice at hp h ⊢
    split
    · rename_i k hk
      rw[hk] at h
      simp only at h
      rw[res_local (h _ (List.mem_singleton.2 rfl))]
    · rfl
  case mkmap=>simp only[eMkmap] at h ⊢;rw[res_local (h _ (List.mem_singleton.2 rfl))]
  case load a n p =>
    generalize r p=p' at *
    cases p' with
    | ref l ver i j =>
      simp only[eLoad] at hp h ⊢
      split at hp
      · rename_i hs
        rw[hs] at h
        have:=h _ (List.mem_singleton.2 rfl)
        simp only at this
        rw[this,hs]
      · exact hp.elim
    | _=>rfl
  case store n p x =>
    generalize r p=p' at *
    cases p' with
    | ref l ver i j =>
      simp only[eStore] at hp h ⊢
      split at hp
      · rename_i hs
        rw[hs] at h
        have:=h _ (List.mem_singleton.2 rfl)
        simp only at this
        rw[this,hs]
      · exact hp.elim
    | _=>rfl
  case faddr o p =>
    generalize r p=p' at *
    cases p' with
    | ref l ver i j =>
      simp only[eFaddr] at hp h ⊢
      split at hp
      · rename_i hs
        rw[hs] at h
        have:=h _ (List.mem_singleton.2 rfl)
        simp only at this
        rw[this,hs]
      · exact hp.elim
    | _=>rfl
  case iaddr e x i =>
    generalize r x=x' at *
    generalize r i=i' at *
    cases x' with
    | own l ver off m =>
      cases i' with
      | d y =>
        cases y with
        | int k n =>
          simp only[eIaddr] at hp h ⊢
          split at hp
          · rename_i hs
            rw[hs] at h
            have:=h _ (List.mem_singleton.2 rfl)
            simp only at this
            rw[this,hs]
          · exact hp.elim
        | _=>rfl
      | _=>rfl
    | d x=>cases x <;> first | rfl | (cases i' <;> first | rfl | (rename_i y;cases y <;> rfl))
    | gr l e0 xs=>cases i' <;> first | rfl | (rename_i y;cases y <;> rfl)
    | _=>rfl
  case slice st e x lo hi mx =>
    generalize r x=x' at *
    cases x' with
    | own l ver off n =>
      simp only[eSlice] at hp h ⊢
      split at hp
      · rename_i hs
        rw[hs] at h
        have:=h _ (List.mem_singleton.2 rfl)
        simp only at this
        rw[this,hs]
      · exact hp.elim
    | d d =>
      cases d with
      | sl e0 xs =>
        cases mx with
        | none=>rfl
        | some m =>
          simp only[eSlice,Option.map_some] at h ⊢
          rw[res_local (h _ (List.mem_singleton.2 rfl))]
      | _=>rfl
    | gr l e0 xs =>
      cases mx with
      | none=>rfl
      | some m =>
        simp only[eSlice,Option.map_some] at h ⊢
        rw[res_local (h _ (List.mem_singleton.2 rfl))]
    | _=>rfl
  case lookup ok kk z m k =>
    unfold eLookup at hp h ⊢
    split at hp
    · rename_i l kd hm hk
      rw[hm,hk] at h
      simp only at h
      split at hp
      · rename_i hs
        rw[hs] at h
        have:=h _ (List.mem_singleton.2 rfl)
        simp only at this
        rw[this,hs]
      · exact hp.elim
    · exact hp.elim
  case mapup kk m k x =>
    unfold eMapup at hp h ⊢
    split at hp
    · rename_i l kd hm hk
      rw[hm,hk] at h
      simp only at h
      split at hp
      · rename_i hs
        rw[hs] at h
        have:=h _ (List.mem_singleton.2 rfl)
        simp only at this
        rw[this,hs]
      · exact hp.elim
    · exact hp.elim
  case nilck x =>
    generalize r x=p' at *
    cases p' with
    | ref l ver i j =>
      simp only[eNilck] at hp h ⊢
      split at hp
      · rename_i hs
        rw[hs] at h
        have:=h _ (List.mem_singleton.2 rfl)
        simp only at this
        rw[this,hs]
      · exact hp.elim
    | fn f a b=>cases f <;> rfl
    | _=>rfl
  case call f args=>exact eCall_local h
  case rcall k f args =>
    unfold eRc at hp h ⊢
    split at hp
    · rename_i hk
      rw[if_pos hk] at h
      rw[if_pos hk,if_pos hk]
      exact eRCall_local hloc hlen hp h
    · rename_i hk
      rw[if_neg hk] at h
      rw[if_neg hk,if_neg hk]
      have h':agree s s2 (eRCall G s nw f (args.map r)).fp:=fun p hp'=>h (p.1,s.getD p.1 .dead) (List.mem_map.2 ⟨p,hp',rfl⟩)
      rw[eRCall_local hloc hlen hp.1 h']
      unfold Eff.look
      congr 1
      · apply propext
        refine and_congr_right fun _=>forall_congr' fun p=>⟨fun k hp'=>?_,fun k hp'=>?_⟩
        · rw[k hp',h' p hp']
        · rw[k hp',h' p hp']
      · refine List.map_congr_left fun p hp'=>?_
        rw[h' p hp']
  case callv f args =>
    unfold eCallv at hp h ⊢
    split at hp
    · rename_i g cap hf
      rw[hf] at h
      simp only at h
      exact eRCall_local hloc hlen hp h
    · rename_i g cap hf
      rw[hf] at h
      simp only at h
      exact eRCall_local hloc hlen hp h
    · exact hp.elim
  case callm t f x args =>
    unfold eCallm at hp h ⊢
    split at hp
    · rename_i t' y hf
      rw[hf] at h
      simp only at h
      split at hp
      · rename_i ht
        rw[if_pos ht] at h
        rw[if_pos ht,if_pos ht]
        exact eRCall_local hloc hlen hp h
      · exact hp.elim
    · exact hp.elim
structure XO where
  x:X
  var:Option Nat:=none
  guard:Option (Nat × Bool):=none
  al:Nat:=0
  deriving Inhabited
structure RS where
  T:List A
  L:List A
  s:Store
def wantsA (o:XO) (L:List A):Option Bool :=
  match o.guard with
  | none=>some true
  | some (j,want)=>match L.getD j .any with
    | .d (.bool b)=>some (b == want)
    | .tup []=>some false
    | _=>none
def setv (T:List A):Option Nat→A→List A
  | some k,a=>T.set k a
  | none,_=>T
def effAt (G:Gam) (n0:Nat) (o:XO) (R:RS):Eff:=o.x.eff G R.s (n0+o.al) (V.get R.T R.L)
def stepPre (G:Gam) (n0:Nat) (o:XO) (R:RS):Prop :=
  match wantsA o R.L with
  | some true=>(effAt G n0 o R).pre
  | some false=>True
  | none=>False
def stepTo (G:Gam) (n0:Nat) (i:Nat) (o:XO) (R:RS):RS :=
  match wantsA o R.L with
  | some true=>⟨setv R.T o.var (effAt G n0 o R).res,R.L.set i (effAt G n0 o R).res,R.s.setAll (effAt G n0 o R).fp⟩
  | _=>⟨setv R.T o.var (.tup []),R.L.set i (.tup []),R.s⟩
def fpIdx (G:Gam) (n0:Nat) (o:XO) (R:RS):List Nat :=
  match wantsA o R.L with
  | some true=>(effAt G n0 o R).fp.map (·.1)
  | _=>[]
def gV:Option (Nat × Bool)→List V
  | none=>[]
  | some (j,_)=>[.l j]
def XO.reads (o:XO):List V:=o.x.ops++gV o.guard
theorem getD_set_ne {α:Type} (l:List α) {i j:Nat} (a d:α) (h:i≠j):(l.set i a).getD j d=l.getD j d:=by simp[List.getD,List.getElem?_set,h]
theorem V.get_step {T L:List A} {o:Option Nat} {i:Nat} {a b:A} {v:V} (h1:v≠.l i) (h2:∀k,o=some k→v≠.v k):V.get (setv T o a) (L.set i b) v=V.get T L v:=by
  cases v with
  | v k =>
    cases o with
    | none=>rfl
    | some j =>
      simp only[V.get,setv]
      exact getD_set_ne T a .any (fun e=>h2 j rfl (by rw[e]))
  | l j =>
    simp only[V.get]
    exact getD_set_ne L b .any (fun e=>h1 (by rw[e]))
  | _=>rfl
theorem wantsA_step {o':XO} {L:List A} {i:Nat} {b:A} (h:V.l i ∉ gV o'.guard):wantsA o' (L.set i b)=wantsA o' L:=by
  unfold wantsA
  cases hg:o'.guard with
  | none=>rfl
  | some p =>
    obtain⟨j,w⟩:=p
    rw[hg] at h
    simp only[gV,List.mem_singleton,V.l.injEq] at h
    simp only[getD_set_ne L b .any h]
theorem setAll_getD:∀(l:List (Nat × Ob)) (s:Store) (k:Nat),(∀p,p∈l→p.1≠k)→(s.setAll l).getD k .dead=s.getD k .dead:=by
  intro l
  induction l with
  | nil=>intro s k _;rfl
  | cons p l ih =>
    intro s k h
    obtain⟨a,b⟩:=p
    simp only[Store.setAll]
    rw[ih _ _ (fun p hp=>h p (by simp[hp])),getD_set_ne _ _ _ (h (a,b) (by simp))]
theorem setAll_set:∀(l:List (Nat × Ob)) (s:Store) (k:Nat) (x:Ob),(∀p,p∈l→p.1≠k)→Store.setAll (s.set k x) l=(s.setAll l).set k x:=by
  intro l
  induction l with
  | nil=>intro s k x _;rfl
  | cons p l ih =>
    intro s k x h
    obtain⟨a,b⟩:=p
    simp only[Store.setAll]
    rw[List.set_comm _ _ (Ne.symm (h (a,b) (by simp))),ih _ _ _ (fun p hp=>h p (by simp[hp]))]
theorem setAll_comm:∀(l m:List (Nat × Ob)) (s:Store),(∀p,p∈l→∀q,q∈m→p.1≠q.1)→(s.setAll l).setAll m=(s.setAll m).setAll l:=by
  intro l
  induction l with
  | nil=>intro m s _;rfl
  | cons p l ih =>
    intro m s h
    obtain⟨a,b⟩:=p
    simp only[Store.setAll]
    rw[ih m (s.set a b) (fun p hp q hq=>h p (by simp[hp]) q hq),setAll_set m s a b (fun q hq=>Ne.symm (h (a,b) (by simp) q hq))]
structure Indep (i:Nat) (o:XO) (j:Nat) (p:XO):Prop where
  ne:i≠j
  li:V.l i ∉ p.reads
  lj:V.l j ∉ o.reads
  vi:∀k,o.var=some k→V.v k ∉ p.reads∧p.var≠some k
  vj:∀k,p.var=some k→V.v k ∉ o.reads
def disj (a b:List Nat):Prop:=∀x,x∈a→x ∉ b
theorem setv_comm {T:List A} {a b:A} {x y:Option Nat} (h:∀k,x=some k→y≠some k):setv (setv T x a) y b=setv (setv T y b) x a:=by
  cases x <;> cases y <;> simp only[setv]
  rename_i i j
  exact List.set_comm _ _ (fun e=>h i rfl (by rw[e]))
theorem step_comm {G:Gam} (hloc:∀f r,G.findR f=some r→∀args s s2 nw,(∀l,l∈r.ren args s nw→s2.getD l .dead=s.getD l .dead)→r.ren args s2 nw=r.ren args s nw) {n0 i j:Nat} {o p:XO} {R:RS} (hi:Indep i o j p) (hf:(o.x.writer=false∧p.x.writer=false)∨disj (fpIdx G n0 o R) (fpIdx G n0 p (stepTo G n0 i o R)))
    (h1:stepPre G n0 o R) (h2:stepPre G n0 p (stepTo G n0 i o R)) :
    stepPre G n0 p R∧stepPre G n0 o (stepTo G n0 j p R)∧stepTo G n0 j p (stepTo G n0 i o R)=stepTo G n0 i o (stepTo G n0 j p R) ∧
      fpIdx G n0 p R=fpIdx G n0 p (stepTo G n0 i o R)∧fpIdx G n0 o (stepTo G n0 j p R)=fpIdx G n0 o R:=by
  have gp:V.l i ∉ gV p.guard:=fun h=>hi.li (List.mem_append.2 (.inr h))
  have go:V.l j ∉ gV o.guard:=fun h=>hi.lj (List.mem_append.2 (.inr h))
  have rp:∀(T L:List A) (a b:A) (v:V),v∈p.x.ops→V.get (setv T o.var a) (L.set i b) v=V.get T L v:=fun T L a b v hv =>
    V.get_step (fun e=>hi.li (List.mem_append.2 (.inl (e ▸ hv)))) (fun k hk e=>(hi.vi k hk).1 (List.mem_append.2 (.inl (e ▸ hv))))
  have ro:∀(T L:List A) (a b:A) (v:V),v∈o.x.ops→V.get (setv T p.var a) (L.set j b) v=V.get T L v:=fun T L a b v hv =>
    V.get_step (fun e=>hi.lj (List.mem_append.2 (.inl (e ▸ hv)))) (fun k hk e=>hi.vj k hk (List.mem_append.2 (.inl (e ▸ hv))))
  have ep:∀(T L:List A) (a b:A) (s:Store),effAt G n0 p ⟨setv T o.var a,L.set i b,s⟩=effAt G n0 p ⟨T,L,s⟩:=fun T L a b s=>eff_congr G s _ p.x (rp T L a b)
  have eo:∀(T L:List A) (a b:A) (s:Store),effAt G n0 o ⟨setv T p.var a,L.set j b,s⟩=effAt G n0 o ⟨T,L,s⟩:=fun T L a b s=>eff_congr G s _ o.x (ro T L a b)
  have hv:∀k,o.var=some k→p.var≠some k:=fun k hk=>(hi.vi k hk).2
  obtain⟨T,L,s⟩:=R
  cases ho:wantsA o L with
  | none=>simp[stepPre,ho] at h1
  | some bo =>
    cases hp:wantsA p L with
    | none =>
      exfalso
      cases bo <;> simp[stepPre,stepTo,ho,wantsA_step gp,hp] at h2
    | some bp =>
      cases bo <;> cases bp <;> simp only[stepPre,stepTo,fpIdx,ho,hp,wantsA_step gp,wantsA_step go,ep,eo] at h1 h2 hf ⊢
      · exact⟨trivial,trivial,by rw[setv_comm hv,List.set_comm _ _ hi.ne],trivial,trivial⟩
      · exact⟨h2,trivial,by rw[setv_comm hv,List.set_comm _ _ hi.ne],trivial,trivial⟩
      · exact⟨trivial,h1,by rw[setv_comm hv,List.set_comm _ _ hi.ne],trivial,trivial⟩
      · generalize he:effAt G n0 o ⟨T,L,s⟩=e at *
        generalize he':effAt G n0 p ⟨T,L,s.setAll e.fp⟩=e' at *
        have key:(∀q,q∈e.fp→q.2=s.getD q.1 .dead)∧(∀q,q∈e'.fp→q.2=(s.setAll e.fp).getD q.1 .dead)∨(∀a,a∈e.fp→∀b,b∈e'.fp→a.1≠b.1):=by
          rcases hf with ⟨w1,w2⟩ | hf
          · left
            exact⟨by rw[← he];exact reader_fp G s _ _ o.x w1,by rw[← he'];exact reader_fp G _ _ _ p.x w2⟩
          · right
            intro a ha b hb hab
            exact hf a.1 (List.mem_map.2 ⟨a,ha,rfl⟩) (List.mem_map.2 ⟨b,hb,hab.symm⟩)
        have k1:effAt G n0 p ⟨T,L,s⟩=e':=by
          rw[← he']
          refine eff_local hloc (by simp[setAll_length]) (by have:=h2;rw[← he'] at this;exact this) (fun q hq=>?_)
          have hq':q∈e'.fp:=by rw[← he'];exact hq
          rcases key with ⟨k1,_⟩ | k
          · rw[setAll_same _ k1]
          · exact (setAll_getD _ _ _ (fun a ha=>k a ha q hq')).symm
        have k2:effAt G n0 o ⟨T,L,s.setAll e'.fp⟩=e:=by
          rw[← he]
          refine eff_local hloc (by simp[setAll_length]) (by have:=h1;rw[← he] at this;exact this) (fun q hq=>?_)
          have hq':q∈e.fp:=by rw[← he];exact hq
          rcases key with ⟨k1,k3⟩ | k
          · rw[setAll_same _ k1] at k3
            rw[setAll_same _ k3]
          · exact setAll_getD _ _ _ (fun a ha=>Ne.symm (k q hq' a ha))
        rw[k1,k2]
        refine⟨h2,h1,?_,rfl,rfl⟩
        have k3:(s.setAll e.fp).setAll e'.fp=(s.setAll e'.fp).setAll e.fp:=by
          rcases key with ⟨k1,k3⟩ | k
          · rw[setAll_same _ k1] at k3
            rw[setAll_same _ k1,setAll_same _ k3,setAll_same _ k1]
          · exact setAll_comm _ _ _ k
        rw[k3,setv_comm hv,List.set_comm _ _ hi.ne]
def runAll (G:Gam) (n0:Nat) (F:List (List Nat)):List (Nat × XO)→RS→(RS→Prop)→Prop
  | [],R,K=>K R
  | (i,o)::r,R,K=>stepPre G n0 o R∧fpIdx G n0 o R=F.getD i []∧runAll G n0 F r (stepTo G n0 i o R) K
theorem runAll_front {G:Gam} (hloc:∀f r,G.findR f=some r→∀args s s2 nw,(∀l,l∈r.ren args s nw→s2.getD l .dead=s.getD l .dead)→r.ren args s2 nw=r.ren args s nw) {n0:Nat} {F:List (List Nat)} {i:Nat} {o:XO} {K:RS→Prop}:∀(l1 l2:List (Nat × XO)) (R:RS),
    (∀q,q∈l1→Indep q.1 q.2 i o∧((q.2.x.writer=false∧o.x.writer=false)∨disj (F.getD q.1 []) (F.getD i []))) →
    runAll G n0 F (l1++(i,o)::l2) R K→runAll G n0 F ((i,o)::(l1++l2)) R K:=by
  intro l1
  induction l1 with
  | nil=>intro l2 R _ h;exact h
  | cons q l1 ih =>
    intro l2 R hq h
    obtain⟨j,p⟩:=q
    obtain⟨h1,h2,h3⟩:=h
    have h4:=ih l2 (stepTo G n0 j p R) (fun q hq'=>hq q (by simp[hq'])) h3
    obtain⟨h5,h6,h7⟩:=h4
    obtain⟨q1,q2⟩:=hq (j,p) (by simp)
    have hc:=step_comm (G:=G) hloc (n0:=n0) (R:=R) q1 (by
      rcases q2 with q2 | q2
      · exact .inl q2
      · right;rw[h2,h6];exact q2) h1 h5
    obtain⟨c1,c2,c3,c4,c5⟩:=hc
    refine⟨c1,by rw[c4,h6],c2,by rw[c5,h2],?_⟩
    rw[← c3]
    exact h7
def locsOf (vars:List Tmp) (ops:List Oper):List (Option Tmp) :=
  ops.map fun o=>match o.dst with
    | some d=>if vars.contains d then none else some d
    | none=>none
def trR (vars:List Tmp) (locs:List (Option Tmp)) (allow:Nat→Bool):Operand→Option V
  | .tmp t=>match vars.idxOf? t with
    | some k=>some (.v k)
    | none=>match locs.idxOf? (some t) with
      | some i=>if allow i then some (.l i) else none
      | none=>none
  | .const v=>(D.ofV v).map .c
  | .func f=>some (.f f)
  | .global _=>none
structure OpOk (P:Program) (vars:List Tmp) (locs:List (Option Tmp)) (N:Nat) (allow:Nat→Bool) (rf:FuncId→Option Nat) (gro:Bool) (o:Oper) (x:XO):Prop where
  cx:cX P (trR vars locs allow) rf gro o=some x.x
  var:x.var=o.dst.bind fun d=>vars.idxOf? d
  dst:∀d,o.dst=some d→d<N
  guard:x.guard=o.guard
  loc:∀j b,o.guard=some (j,b)→allow j=true∧∃d,locs[j]?=some (some d)
structure CR (w0:World) (M0:Mem) (s0:Store) (vars:List Tmp) (locs:List (Option Tmp)) (N:Nat) (done:Nat→Bool) (a:Act) (w:World) (R:RS):Prop where
  mem:∃M,Good w M R.s∧Ext w0 M0 s0 w M R.s∧(∀k d,vars[k]?=some d→ARep w M R.s (R.T.getD k .any) (a.tmps.getD d undef)) ∧
    (∀i d,done i=true→locs[i]?=some (some d)→ARep w M R.s (R.L.getD i .any) (a.tmps.getD d undef))
  size:a.tmps.size=N
  defers:a.defers=[]
  tlen:R.T.length=vars.length
  llen:R.L.length=locs.length
structure RegOk (P:Program) (vars:List Tmp) (ops:Array Oper) (N:Nat):Prop where
  vnodup:vars.Nodup
  vlt:∀d,d∈vars→d<N
  lnodup:∀(i j:Nat) (d:Tmp),(locsOf vars ops.toList)[i]?=some (some d)→(locsOf vars ops.toList)[j]?=some (some d)→i=j
  follows:P.follows .mixedOrders=true
theorem idxOf?_spec {α:Type} [BEq α] [LawfulBEq α] {l:List α} {a:α} {k:Nat} (h:l.idxOf? a=some k):l[k]?=some a:=by
  rw[List.idxOf?,List.findIdx?_eq_some_iff_getElem] at h
  obtain⟨h1,h2,_⟩:=h
  rw[List.getElem?_eq_getElem h1]
  simpa using h2
theorem put_getD {a:Act} {d e:Tmp} {v:Value} (hd:d<a.tmps.size):(a.put (some d) v).tmps.getD e undef=if d=e then v else a.tmps.getD e undef:=by
  simp only[Act.put,Array.getD_eq_getD_getElem?,Array.getElem?_setIfInBounds]
  split
  · rename_i h
    subst h
    simp[hd]
  · rfl
theorem put_size {a:Act} {d:Option Tmp} {v:Value}:(a.put d v).tmps.size=a.tmps.size:=by
  cases d <;> simp[Act.put]
theorem put_defers' {a:Act} {d:Option Tmp} {v:Value}:(a.put d v).defers=a.defers:=by
  cases d <;> rfl
section
variable {P:Program} {w0:World} {M0:Mem} {s0:Store} {vars:List Tmp} {ops:Array Oper} {N:Nat} {G:Gam} {n0:Nat}
theorem trR_rep {w:World} {M:Mem} {R:RS} {a:Act} {locs:List (Option Tmp)} {allow done:Nat→Bool} (hv:∀k d,vars[k]?=some d→ARep w M R.s (R.T.getD k .any) (a.tmps.getD d undef))
    (hl:∀i d,done i=true→locs[i]?=some (some d)→ARep w M R.s (R.L.getD i .any) (a.tmps.getD d undef)) (had:∀i,allow i=true→done i=true) :
    ∀o v,trR vars locs allow o=some v→ARep w M R.s (V.get R.T R.L v) (a.eval o):=by
  intro o v h
  unfold trR at h
  split at h
  · rename_i t
    split at h
    · rename_i k hk
      simp at h
      subst h
      exact hv k t (idxOf?_spec hk)
    · split at h
      · rename_i i hi
        split at h
        · rename_i ha
          simp at h
          subst h
          exact hl i t (had i ha) (idxOf?_spec hi)
        · simp at h
      · simp at h
  · simp only[Option.map_eq_some_iff] at h
    obtain⟨x,h1,rfl⟩:=h
    exact .d _ _ (ofV_rep h1)
  · simp at h
    subst h
    exact .fn _ _ _ _ _ rfl rfl (fun k hk=>by simp at hk) (fun k hk=>by simp at hk)
  · simp at h
theorem CR.put {locs:List (Option Tmp)} (hloc:locs=locsOf vars ops.toList) (hreg:RegOk P vars ops N) {done:Nat→Bool} {a:Act} {w w':World} {M M':Mem} {R:RS} {i:Nat} {o:Oper} {ov:Option Nat} {res:A} {v:Value} {s':Store}
    (ho:ops[i]?=some o) (hov:ov=o.dst.bind fun d=>vars.idxOf? d) (hd:∀d,o.dst=some d→d<N)
    (g:Good w M R.s) (hvars:∀k d,vars[k]?=some d→ARep w M R.s (R.T.getD k .any) (a.tmps.getD d undef)) (hlocs:∀i d,done i=true→locs[i]?=some (some d)→ARep w M R.s (R.L.getD i .any) (a.tmps.getD d undef))
    (hsz:a.tmps.size=N) (htl:R.T.length=vars.length) (hll:R.L.length=locs.length) (he:Ext w M R.s w' M' s') (hr:ARep w' M' s' res v) :
    (∀k d,vars[k]?=some d→ARep w' M' s' ((setv R.T ov res).getD k .any) ((a.put o.dst v).tmps.getD d undef)) ∧
    (∀j d,(done j=true∨j=i)→locs[j]?=some (some d)→ARep w' M' s' ((R.L.set i res).getD j .any) ((a.put o.dst v).tmps.getD d undef)):=by
  have hli:locs[i]?=some (match o.dst with | some d=>if vars.contains d then none else some d | none=>none):=by
    subst hloc
    simp[locsOf,ho]
  refine⟨fun k d hk=>?_,fun j d hj hjd=>?_⟩
  · cases hdst:o.dst with
    | none =>
      rw[hov,hdst]
      exact he.arep g (hvars k d hk)
    | some e =>
      rw[put_getD (by rw[hsz];exact hd e hdst),hov,hdst]
      simp only[Option.bind_some]
      cases hx:vars.idxOf? e with
      | none =>
        rw[if_neg]
        · exact he.arep g (hvars k d hk)
        · rintro rfl
          have:e∈vars:=List.mem_of_getElem? hk
          simp[List.idxOf?,List.findIdx?_eq_none_iff] at hx
          exact hx _ this rfl
      | some k' =>
        have hk':=idxOf?_spec hx
        simp only[setv]
        by_cases hkk:k'=k
        · subst hkk
          rw[hk] at hk'
          simp at hk'
          subst hk'
          rw[if_pos rfl,show (R.T.set k' res).getD k' .any=res by
            have:k'<R.T.length:=by rw[htl];exact (List.getElem?_eq_some_iff.1 hk).1
            simp[List.getD,this]]
          exact hr
        · rw[getD_set_ne _ _ _ hkk,if_neg]
          · exact he.arep g (hvars k d hk)
          · rintro rfl
            apply hkk
            obtain⟨q1,q2⟩:=List.getElem?_eq_some_iff.1 hk
            obtain⟨q3,q4⟩:=List.getElem?_eq_some_iff.1 hk'
            exact (List.getElem_inj hreg.vnodup).1 (q4.trans q2.symm)
  · by_cases hji:i=j
    · subst hji
      rw[hjd] at hli
      have hil:i<R.L.length:=by rw[hll];exact (List.getElem?_eq_some_iff.1 hjd).1
      rw[show (R.L.set i res).getD i .any=res by simp[List.getD,hil]]
      cases hdst:o.dst with
      | none=>rw[hdst] at hli;simp at hli
      | some e =>
        rw[hdst] at hli
        simp only[Option.some.injEq] at hli
        split at hli <;> simp at hli
        subst hli
        rw[put_getD (by rw[hsz];exact hd _ hdst),if_pos rfl]
        exact hr
    · have hdj:done j=true:=by
        rcases hj with h | h
        · exact h
        · exact absurd h.symm hji
      rw[getD_set_ne _ _ _ hji]
      cases hdst:o.dst with
      | none=>exact he.arep g (hlocs j d hdj hjd)
      | some e =>
        rw[put_getD (by rw[hsz];exact hd _ hdst),if_neg]
        · exact he.arep g (hlocs j d hdj hjd)
        · rintro rfl
          rw[hdst] at hli
          simp only at hli
          split at hli
          · rename_i hc
            subst hloc
            simp only[locsOf,List.getElem?_map,Option.map_eq_some_iff] at hjd
            obtain⟨o',_,h2⟩:=hjd
            split at h2
            · split at h2 <;> simp at h2
              rename_i hc2
              subst h2
              exact hc2 hc
            · simp at h2
          · subst hloc
            exact hji (hreg.lnodup i j e hli hjd)
theorem exec_op {locs:List (Option Tmp)} (hloc:locs=locsOf vars ops.toList) (hreg:RegOk P vars ops N) (hG:GamOk P G) (g0:Good w0 M0 s0) (hW0:Wok P w0) (hN0:P.low≤M0.N) {allow done:Nat→Bool} {rf:FuncId→Option Nat} {gro:Bool} {i:Nat} {o:Oper} {x:XO} (ho:ops[i]?=some o)
    (hx:OpOk P vars locs N allow rf gro o x) (had:∀j,allow j=true→done j=true) {a:Act} {w:World} {R:RS} (hc:CR w0 M0 s0 vars locs N done a w R) (hp:stepPre G n0 x R) {Q:Exit→Act→World→Prop} {K:Act→World→Prop}
    (hK:∀a' w',CR w0 M0 s0 vars locs N (fun j=>done j || j == i) a' w' (stepTo G n0 i x R)→K a' w'):wpOp P ops Q i K a w:=by
  obtain⟨⟨M,g,e0,hvars,hlocs⟩,hsz,hdef,htl,hll⟩:=hc
  unfold wpOp
  simp only[ho]
  have hw:∀b,wantsA x R.L=some b→Region.wanted o (yielded ops a.tmps)=b:=by
    intro b hb
    unfold wantsA at hb
    rw[hx.guard] at hb
    unfold Region.wanted
    cases hg:o.guard with
    | none=>rw[hg] at hb;simpa using hb
    | some jw =>
      obtain⟨j,want⟩:=jw
      rw[hg] at hb
      simp only at hb ⊢
      obtain⟨h1,d,h2⟩:=hx.loc j want hg
      have h3:=hlocs j d (had j h1) h2
      split at hb
      · rename_i c hc
        rw[hc] at h3
        have h4:=inv_bool h3
        have hy:yielded ops a.tmps j=some c:=by
          unfold yielded
          have h5:(ops[j]?).bind (·.dst)=some d:=by
            subst hloc
            simp only[locsOf,List.getElem?_map,Option.map_eq_some_iff,Array.getElem?_toList] at h2
            obtain⟨o',h5,h6⟩:=h2
            rw[h5]
            split at h6
            · split at h6 <;> simp at h6
              subst h6
              assumption
            · simp at h6
          have h6:d<a.tmps.size:=by
            rcases Nat.lt_or_ge d a.tmps.size with h | h
            · exact h
            · simp[h,undef] at h4
          have h7:a.tmps[d]?=some (.bool c):=by
            simp[h6] at h4
            simp[h6,h4]
          simp only[h5,Option.bind_some,h7]
        rw[hy]
        simp at hb
        subst hb
        rfl
      · rename_i hc
        rw[hc] at h3
        have hy:yielded ops a.tmps j=none:=by
          unfold yielded
          have h5:(ops[j]?).bind (·.dst)=some d:=by
            subst hloc
            simp only[locsOf,List.getElem?_map,Option.map_eq_some_iff,Array.getElem?_toList] at h2
            obtain⟨o',h5,h6⟩:=h2
            rw[h5]
            split at h6
            · split at h6 <;> simp at h6
              subst h6
              assumption
            · simp at h6
          simp only[h5,Option.bind_some]
          rcases Nat.lt_or_ge d a.tmps.size with h6 | h6
          · have h7:a.tmps[d]?=some a.tmps[d]:=by simp[h6]
            have h8:a.tmps.getD d undef=a.tmps[d]:=by simp[h6]
            rw[h8] at h3
            rw[h7]
            generalize a.tmps[d]=v at h3
            cases h3
            rfl
          · have h7:a.tmps[d]?=none:=by simp[h6]
            rw[h7]
        rw[hy]
        simp at hb
        subst hb
        rfl
      · simp at hb
  unfold stepPre at hp
  cases hwant:wantsA x R.L with
  | none=>rw[hwant] at hp;exact hp.elim
  | some b =>
    rw[hwant] at hp
    rw[hw b hwant]
    cases b with
    | true =>
      simp only[if_true]
      left
      refine wp_of_runs (op_sound (nw:=n0+x.al) hG g (Ext.wok g0 e0 hW0 hN0) (by rw[e0.N];exact hN0) hx.cx (trR_rep hvars hlocs had) (fun v=>rfl) (fun f=>rfl) hp) ?_
      rintro v w' ⟨M',g',e',hr⟩
      apply hK
      obtain⟨k1,k2⟩:=CR.put hloc hreg ho hx.var hx.dst g hvars hlocs hsz htl hll e' hr
      refine⟨⟨M',?_,?_,?_,?_⟩,by rw[put_size];exact hsz,by rw[put_defers'];exact hdef,?_,?_⟩ <;> simp only[stepTo,hwant]
      · exact g'
      · exact Ext.trans g0 e0 g e'
      · exact k1
      · intro j d hj hjd
        exact k2 j d (by simpa using hj) hjd
      · cases x.var <;> simp[setv,htl]
      · simp[hll]
    | false =>
      simp only[Bool.false_eq_true,if_false]
      apply hK
      obtain⟨k1,k2⟩:=CR.put (res:=.tup []) (v:=undef) hloc hreg ho hx.var hx.dst g hvars hlocs hsz htl hll (Ext.refl w M R.s) (.tup [] #[] rfl (fun k hk=>absurd hk (Nat.not_lt_zero k)))
      refine⟨⟨M,?_,?_,?_,?_⟩,by rw[put_size];exact hsz,by rw[put_defers'];exact hdef,?_,?_⟩ <;> simp only[stepTo,hwant]
      · exact g
      · exact e0
      · exact k1
      · intro j d hj hjd
        exact k2 j d (by simpa using hj) hjd
      · cases x.var <;> simp[setv,htl]
      · simp[hll]
theorem CR.mono {locs:List (Option Tmp)} {done done':Nat→Bool} {a:Act} {w:World} {R:RS} (h:CR w0 M0 s0 vars locs N done a w R) (hd:∀i,done' i=true→done i=true):CR w0 M0 s0 vars locs N done' a w R:=by
  obtain⟨⟨M,g,e0,hvars,hlocs⟩,hsz,hdef,htl,hll⟩:=h
  exact⟨⟨M,g,e0,hvars,fun i d hi hid=>hlocs i d (hd i hi) hid⟩,hsz,hdef,htl,hll⟩
end
end Go.AE
namespace Go.AE
def vGuard (b want:Bool) (j:Nat) (L:List A) (run skip:List A→Prop):Prop :=
  (b=true→(if want=true then run else skip) (L.set j (.d (.bool true))))∧(b=false→(if want=true then skip else run) (L.set j (.d (.bool false))))
def vOps (G:Gam) (n0:Nat):List XO→List A→List A→Store→(List A→Store→Prop)→Prop
  | [],T,_,s,K=>K T s
  | o::r,T,L,s,K =>
    let run:=fun L=>(o.x.eff G s (n0+o.al) (V.get T L)).pre∧vOps G n0 r (setv T o.var (o.x.eff G s (n0+o.al) (V.get T L)).res) (L++[(o.x.eff G s (n0+o.al) (V.get T L)).res]) (s.setAll (o.x.eff G s (n0+o.al) (V.get T L)).fp) K
    let skip:=fun L=>vOps G n0 r (setv T o.var (.tup [])) (L++[.tup []]) s K
    match o.guard with
    | none=>run L
    | some (j,want)=>match L.getD j .any with
      | .d (.bool b)=>vGuard b want j L run skip
      | .tup []=>skip L
      | _=>False
def vOpsD (G:Gam) (n0:Nat):List XO→List A→List A→Store→List (List Nat)→(List A→Store→List (List Nat)→Prop)→Prop
  | [],T,_,s,F,K=>K T s F
  | o::r,T,L,s,F,K =>
    let run:=fun L=>(o.x.eff G s (n0+o.al) (V.get T L)).pre∧vOpsD G n0 r (setv T o.var (o.x.eff G s (n0+o.al) (V.get T L)).res) (L++[(o.x.eff G s (n0+o.al) (V.get T L)).res]) (s.setAll (o.x.eff G s (n0+o.al) (V.get T L)).fp)
      (F++[(o.x.eff G s (n0+o.al) (V.get T L)).fp.map (·.1)]) K
    let skip:=fun L=>vOpsD G n0 r (setv T o.var (.tup [])) (L++[.tup []]) s (F++[[]]) K
    match o.guard with
    | none=>run L
    | some (j,want)=>match L.getD j .any with
      | .d (.bool b)=>vGuard b want j L run skip
      | .tup []=>skip L
      | _=>False
theorem vGuard_mono {b want:Bool} {j:Nat} {L:List A} {run skip run' skip':List A→Prop} (h1:∀L,run L→run' L) (h2:∀L,skip L→skip' L) (h:vGuard b want j L run skip):vGuard b want j L run' skip':=by
  refine⟨fun hb=>?_,fun hb=>?_⟩
  · have:=h.1 hb
    split at this <;> simp_all
  · have:=h.2 hb
    split at this <;> simp_all
theorem vOps_D {G:Gam} {n0:Nat}:∀(xs:List XO) (T L:List A) (s:Store) (F:List (List Nat)) (K:List A→Store→Prop),vOps G n0 xs T L s K→vOpsD G n0 xs T L s F (fun T s _=>K T s):=by
  intro xs
  induction xs with
  | nil=>intro T L s F K h;exact h
  | cons o r ih =>
    intro T L s F K h
    unfold vOps at h
    unfold vOpsD
    simp only at h ⊢
    split at h
    · exact⟨h.1,ih _ _ _ _ _ h.2⟩
    · split at h
      · exact vGuard_mono (fun L h=>⟨h.1,ih _ _ _ _ _ h.2⟩) (fun L h=>ih _ _ _ _ _ h) h
      · exact ih _ _ _ _ _ h
      · exact h.elim
def pad (n:Nat) (L:List A):List A:=L++List.replicate (n-L.length) .any
theorem pad_getD (n:Nat) (L:List A) (j:Nat):(pad n L).getD j .any=L.getD j .any:=by
  simp only[pad,List.getD,List.getElem?_append]
  split
  · rfl
  · rename_i h
    rw[List.getElem?_eq_none (by omega:L.length≤j),List.getElem?_replicate]
    split <;> rfl
theorem pad_get (n:Nat) (T L:List A) (v:V):V.get T (pad n L) v=V.get T L v:=by
  cases v with
  | l j=>exact pad_getD n L j
  | _=>rfl
theorem pad_set {n:Nat} {L:List A} (h:L.length<n) (a:A):(pad n L).set L.length a=pad n (L++[a]):=by
  simp only[pad]
  rw[List.set_append_right _ _ (Nat.le_refl _),Nat.sub_self]
  have:n-L.length=(n-(L++[a]).length)+1:=by simp;omega
  rw[this,List.replicate_succ]
  simp
theorem effAt_pad {G:Gam} {n0 n:Nat} {o:XO} {T L:List A} {s:Store}:effAt G n0 o ⟨T,pad n L,s⟩=o.x.eff G s (n0+o.al) (V.get T L) :=
  eff_congr G s _ o.x (fun v _=>pad_get n T L v)
theorem set_getD' {L:List A} {j:Nat} {x:A} (h:L.getD j .any=x) (hx:x≠.any):L.set j x=L:=by
  by_cases hj:j<L.length
  · apply List.ext_getElem?
    intro i
    rw[List.getElem?_set]
    split
    · rename_i h1;subst h1;rw[← h];simp[hj]
    · rfl
  · rw[List.set_eq_of_length_le (by omega)]
def idxs (k:Nat):List XO→List (Nat × XO)
  | []=>[]
  | x::r=>(k,x)::idxs (k+1) r
theorem vOpsD_run {G:Gam} {n0 n:Nat}:∀(xs:List XO) (T L:List A) (s:Store) (F:List (List Nat)) (K:List A→Store→List (List Nat)→Prop),F.length=L.length→n=L.length+xs.length →
    vOpsD G n0 xs T L s F K→∃F',(∀i,i<L.length→F'.getD i []=F.getD i [])∧runAll G n0 F' (idxs L.length xs) ⟨T,pad n L,s⟩ (fun R=>K R.T R.s F'):=by
  intro xs
  induction xs with
  | nil =>
    intro T L s F K hF hn h
    exact⟨F,fun _ _=>rfl,h⟩
  | cons o r ih =>
    intro T L s F K hF hn h
    simp only[List.length_cons] at hn
    have hlt:L.length<n:=by omega
    have run:(o.x.eff G s (n0+o.al) (V.get T L)).pre∧vOpsD G n0 r (setv T o.var (o.x.eff G s (n0+o.al) (V.get T L)).res) (L++[(o.x.eff G s (n0+o.al) (V.get T L)).res]) (s.setAll (o.x.eff G s (n0+o.al) (V.get T L)).fp)
        (F++[(o.x.eff G s (n0+o.al) (V.get T L)).fp.map (·.1)]) K→wantsA o (pad n L)=some true →
        ∃F',(∀i,i<L.length→F'.getD i []=F.getD i [])∧runAll G n0 F' (idxs L.length (o::r)) ⟨T,pad n L,s⟩ (fun R=>K R.T R.s F'):=by
      rintro⟨h1,h2⟩ hw
      obtain⟨F',q1,q2⟩:=ih _ _ _ _ _ (by simp[hF]) (by simp;omega) h2
      refine⟨F',fun i hi=>?_,?_,?_,?_⟩
      · rw[q1 i (by simp;omega)]
        simp[List.getD,List.getElem?_append,hF,hi]
      · simp only[stepPre,hw,effAt_pad]
        exact h1
      · simp only[fpIdx,hw,effAt_pad]
        rw[q1 L.length (by simp)]
        simp[List.getD,List.getElem?_append,hF]
      · simp only[stepTo,hw,effAt_pad]
        rw[pad_set hlt]
        simpa using q2
    have skip:vOpsD G n0 r (setv T o.var (.tup [])) (L++[.tup []]) s (F++[[]]) K→wantsA o (pad n L)=some false →
        ∃F',(∀i,i<L.length→F'.getD i []=F.getD i [])∧runAll G n0 F' (idxs L.length (o::r)) ⟨T,pad n L,s⟩ (fun R=>K R.T R.s F'):=by
      intro h2 hw
      obtain⟨F',q1,q2⟩:=ih _ _ _ _ _ (by simp[hF]) (by simp;omega) h2
      refine⟨F',fun i hi=>?_,?_,?_,?_⟩
      · rw[q1 i (by simp;omega)]
        simp[List.getD,List.getElem?_append,hF,hi]
      · simp only[stepPre,hw]
      · simp only[fpIdx,hw]
        rw[q1 L.length (by simp)]
        simp[List.getD,List.getElem?_append,hF]
      · simp only[stepTo,hw]
        rw[pad_set hlt]
        simpa using q2
    unfold vOpsD at h
    simp only at h
    split at h
    · rename_i hg
      exact run h (by simp[wantsA,hg])
    · rename_i j want hg
      split at h
      · rename_i b hb
        have hL:L.set j (.d (.bool b))=L:=set_getD' hb (by simp)
        have hw:wantsA o (pad n L)=some (b == want):=by
          simp only[wantsA,hg,pad_getD,hb]
        cases b with
        | true =>
          have h1:=h.1 rfl
          rw[hL] at h1
          cases want with
          | true=>exact run h1 hw
          | false=>exact skip h1 hw
        | false =>
          have h1:=h.2 rfl
          rw[hL] at h1
          cases want with
          | true=>exact skip h1 hw
          | false=>exact run h1 hw
      · rename_i hb
        exact skip h (by simp only[wantsA,hg,pad_getD,hb])
      · exact h.elim
section
variable {P:Program} {w0:World} {M0:Mem} {s0:Store} {vars:List Tmp} {ops:Array Oper} {N:Nat} {G:Gam} {n0:Nat}
theorem lex_sound {locs:List (Option Tmp)} (hloc:locs=locsOf vars ops.toList) (hreg:RegOk P vars ops N) (hG:GamOk P G) (g0:Good w0 M0 s0) (hW0:Wok P w0) (hN0:P.low≤M0.N) {rf:FuncId→Option Nat} {gro:Nat→Bool} {F:List (List Nat)} {K:RS→Prop} {Q:Exit→Act→World→Prop}
    (hK:∀a w R,K R→CR w0 M0 s0 vars locs N (fun _=>false) a w R→Q .normal a w) :
    ∀(xs:List XO) (k:Nat) (a:Act) (w:World) (R:RS),k+xs.length=ops.size→(∀i,i<xs.length→∃o,ops[k+i]?=some o∧OpOk P vars locs N (fun j=>decide (j<k+i)) rf (gro (k+i)) o (xs.getD i default)) →
      CR w0 M0 s0 vars locs N (fun j=>decide (j<k)) a w R→runAll G n0 F (idxs k xs) R K→wpOps P ops Q ((List.range ops.size).drop k) a w:=by
  intro xs
  induction xs with
  | nil =>
    intro k a w R hk _ hc h
    simp only[List.length_nil,Nat.add_zero] at hk
    rw[List.drop_eq_nil_of_le (by simp;omega)]
    exact hK a w R h (hc.mono (fun i h=>by simp at h))
  | cons x r ih =>
    intro k a w R hk hx hc h
    simp only[List.length_cons] at hk
    have hlt:k<ops.size:=by omega
    rw[List.drop_eq_getElem_cons (by simpa using hlt),List.getElem_range,wpOps_cons]
    obtain⟨o,ho,hok⟩:=hx 0 (by simp)
    rw[Nat.add_zero] at ho hok
    refine exec_op hloc hreg hG g0 hW0 hN0 ho hok (fun j hj=>hj) hc h.1 (fun a' w' hc'=>?_)
    refine ih (k+1) a' w' _ (by omega) (fun i hi=>?_) (hc'.mono (fun j hj=>?_)) h.2.2
    · have:=hx (i+1) (by simpa using hi)
      rw[show k+1+i=k+(i+1) by omega]
      simpa using this
    · simp only[decide_eq_true_eq,Bool.or_eq_true,beq_iff_eq] at hj ⊢
      omega
structure DrawOk (P:Program) (vars:List Tmp) (locs:List (Option Tmp)) (N:Nat) (ops:Array Oper) (rf:FuncId→Option Nat) (gro:Nat→Bool) (xs:List XO) (preds:Nat→List Nat) (pairs:List (Nat × Nat)):Prop where
  len:xs.length=ops.size
  back:∀i o e,ops[i]?=some o→e∈o.after→Region.binds .any e=true→e.on<i
  predsOk:∀i o j,ops[i]?=some o→j∈preds i→∃e,e∈o.after∧Region.binds .any e=true∧(j=e.on∨j∈preds e.on)
  op:∀i,i<ops.size→∃o,ops[i]?=some o∧OpOk P vars locs N (fun j=>(preds i).contains j) rf (gro i) o (xs.getD i default)
  apart:∀i j,j<i→i<ops.size→j ∉ preds i→Indep j (xs.getD j default) i (xs.getD i default) ∧
    (((xs.getD j default).x.writer=false∧(xs.getD i default).x.writer=false)∨(xs.getD j default).x.looker=false∨(xs.getD i default).x.looker=false∨(j,i)∈pairs)
def pairsOk (F:List (List Nat)):List (Nat × Nat)→Prop
  | []=>True
  | (i,j)::r=>disj (F.getD i []) (F.getD j [])∧pairsOk F r
theorem pairsOk_mem {F:List (List Nat)}:∀{l:List (Nat × Nat)},pairsOk F l→∀p,p∈l→disj (F.getD p.1 []) (F.getD p.2 []):=by
  intro l
  induction l with
  | nil=>intro _ p hp;simp at hp
  | cons q l ih =>
    intro h p hp
    rcases List.mem_cons.1 hp with rfl | hp
    · exact h.1
    · exact ih h.2 p hp
def unl (ops:Array Oper) (listed:Array Bool):List Nat:=(List.range ops.size).filter fun i=>!listed.getD i true
theorem mem_unl {listed:Array Bool} {i:Nat}:i∈unl ops listed↔i<ops.size∧listed.getD i true=false:=by
  simp[unl]
theorem unl_set {listed:Array Bool} {i:Nat} {l1 l2:List Nat} (hs:listed.size=ops.size) (h:unl ops listed=l1++i::l2):unl ops (listed.setIfInBounds i true)=l1++l2:=by
  have hnd:(unl ops listed).Nodup:=List.Pairwise.filter _ List.nodup_range
  have e1:unl ops (listed.setIfInBounds i true)=(unl ops listed).filter (fun j=>j != i):=by
    simp only[unl,List.filter_filter]
    apply List.filter_congr
    intro j hj
    simp only[List.mem_range] at hj
    simp only[Array.getD_eq_getD_getElem?,Array.getElem?_setIfInBounds]
    by_cases hji:i=j
    · subst hji
      simp[hs,hj]
    · simp[hji,Ne.symm hji,bne]
  rw[e1,h]
  rw[h] at hnd
  rw[List.nodup_append] at hnd
  obtain⟨n1,n2,n3⟩:=hnd
  rw[List.nodup_cons] at n2
  rw[List.filter_append,List.filter_cons_of_neg (by simp)]
  congr 1
  · apply List.filter_eq_self.2
    intro j hj
    have:=n3 j hj i (by simp)
    simpa using this
  · apply List.filter_eq_self.2
    intro j hj
    simp only[bne_iff_ne,ne_eq]
    rintro rfl
    exact n2.1 hj
theorem mem_split {α:Type} {a:α} {l:List α} (h:a∈l):∃l1 l2,l=l1++a::l2:=List.append_of_mem h
theorem draw_sound {locs:List (Option Tmp)} (hloc:locs=locsOf vars ops.toList) (hreg:RegOk P vars ops N) (hG:GamOk P G) (g0:Good w0 M0 s0) (hW0:Wok P w0) (hN0:P.low≤M0.N) {rf:FuncId→Option Nat} {gro:Nat→Bool} {xs:List XO} {preds:Nat→List Nat} {pairs:List (Nat × Nat)}
    (hd:DrawOk P vars locs N ops rf gro xs preds pairs) {F:List (List Nat)} (hF:pairsOk F pairs) (hF0:∀i,i<ops.size→(xs.getD i default).x.looker=false→F.getD i []=[]) {K:RS→Prop} {Q:Exit→Act→World→Prop}
    (hK:∀a w R,K R→CR w0 M0 s0 vars locs N (fun _=>false) a w R→Q .normal a w) :
    ∀(fuel:Nat) (listed:Array Bool) (a:Act) (w:World) (R:RS),listed.size=ops.size→(unl ops listed).length=fuel →
      (∀i o e,ops[i]?=some o→listed.getD i true=true→e∈o.after→Region.binds .any e=true→listed.getD e.on false=true) →
      CR w0 M0 s0 vars locs N (fun j=>listed.getD j false) a w R→runAll G n0 F ((unl ops listed).map fun i=>(i,xs.getD i default)) R K→wpAny P .any ops Q fuel listed a w:=by
  have conv:∀(listed:Array Bool) (i:Nat),listed.size=ops.size→i<ops.size→listed.getD i true=listed.getD i false:=by
    intro listed i h1 h2
    simp[show i<listed.size by omega]
  have ready:∀(listed:Array Bool) (i:Nat),i∈Region.ready .any ops listed→i<ops.size∧listed.getD i true=false∧∀o e,ops[i]?=some o→e∈o.after→Region.binds .any e=true→listed.getD e.on false=true:=by
    intro listed i hi
    simp only[Region.ready,List.mem_filter,List.mem_range,Bool.and_eq_true,Bool.not_eq_true'] at hi
    obtain⟨h1,h2,h3⟩:=hi
    refine⟨h1,h2,fun o e ho he hb=>?_⟩
    rw[ho] at h3
    simp only[Option.map_some,Option.getD_some,Array.all_eq_true_iff_forall_mem] at h3
    have:=h3 e he
    simpa [hb] using this
  have closed:∀(listed:Array Bool),(∀i o e,ops[i]?=some o→listed.getD i true=true→e∈o.after→Region.binds .any e=true→listed.getD e.on false=true)→listed.size=ops.size →
      ∀n i o,i=n→ops[i]?=some o→listed.getD i true=true→∀j,j∈preds i→listed.getD j false=true:=by
    intro listed hcl hsz n
    induction n using Nat.strongRecOn with
    | _ n ih =>
      rintro i o rfl ho hl j hj
      obtain⟨e,he,hb,h1⟩:=hd.predsOk i o j ho hj
      have h2:=hcl i o e ho hl he hb
      have h3:=hd.back i o e ho he hb
      rcases h1 with rfl | h1
      · exact h2
      · have hi:i<ops.size:=(Array.getElem?_eq_some_iff.1 ho).1
        have h4:e.on<ops.size:=by omega
        exact ih e.on h3 e.on ops[e.on] rfl (by simp[h4]) (by rw[conv _ _ hsz h4];exact h2) j h1
  intro fuel
  induction fuel with
  | zero =>
    intro listed a w R hsz hlen hcl hc h
    have h0:unl ops listed=[]:=List.eq_nil_of_length_eq_zero hlen
    rw[h0] at h
    refine⟨?_,hK a w R h (hc.mono (fun i h=>by simp at h))⟩
    rw[List.eq_nil_iff_forall_not_mem]
    intro i hi
    obtain⟨h1,h2,_⟩:=ready listed i hi
    have:i∈unl ops listed:=mem_unl.2 ⟨h1,h2⟩
    rw[h0] at this
    simp at this
  | succ fuel ih =>
    intro listed a w R hsz hlen hcl hc h
    refine⟨fun hr=>?_,fun i hi=>?_⟩
    · exfalso
      cases hu:unl ops listed with
      | nil=>rw[hu] at hlen;simp at hlen
      | cons i0 rest =>
        have h1:i0∈unl ops listed:=by rw[hu];simp
        obtain⟨h2,h3⟩:=mem_unl.1 h1
        have hmin:∀j,j<i0→listed.getD j false=true:=by
          intro j hj
          rw[← conv _ _ hsz (by omega)]
          cases hlj:listed.getD j true with
          | true=>rfl
          | false =>
            have h4:j∈unl ops listed:=mem_unl.2 ⟨by omega,hlj⟩
            have hso:(unl ops listed).Pairwise (·<·):=List.Pairwise.filter _ List.pairwise_lt_range
            rw[hu] at h4 hso
            rcases List.mem_cons.1 h4 with rfl | h4
            · omega
            · have:=(List.pairwise_cons.1 hso).1 j h4
              omega
        have:i0∈Region.ready .any ops listed:=by
          simp only[Region.ready,List.mem_filter,List.mem_range,Bool.and_eq_true,Bool.not_eq_true']
          refine⟨h2,h3,?_⟩
          have ho:ops[i0]?=some ops[i0]:=by simp[h2]
          rw[ho]
          simp only[Option.map_some,Option.getD_some,Array.all_eq_true_iff_forall_mem]
          intro e he
          cases hb:Region.binds .any e with
          | false=>rfl
          | true=>simpa using hmin e.on (hd.back i0 _ e ho he hb)
        rw[hr] at this
        simp at this
    · obtain⟨h1,h2,h3⟩:=ready listed i hi
      have hio:ops[i]?=some ops[i]:=by simp[h1]
      have hmem:i∈unl ops listed:=mem_unl.2 ⟨h1,h2⟩
      obtain⟨l1,l2,hsplit⟩:=mem_split hmem
      have hso:(unl ops listed).Pairwise (·<·):=List.Pairwise.filter _ List.pairwise_lt_range
      have hpr:∀j,j∈preds i→listed.getD j false=true:=by
        intro j hj
        obtain⟨e,he,hb,h4⟩:=hd.predsOk i _ j hio hj
        have h5:=h3 _ e hio he hb
        rcases h4 with rfl | h4
        · exact h5
        · have h6:=hd.back i _ e hio he hb
          have h7:e.on<ops.size:=by omega
          exact closed listed hcl hsz e.on e.on ops[e.on] rfl (by simp[h7]) (by rw[conv _ _ hsz h7];exact h5) j h4
      rw[hsplit] at h hso
      rw[List.map_append,List.map_cons] at h
      have hfront:=runAll_front (fun f r hr=>(hG.rs f r hr).loc) (l1.map fun i=>(i,xs.getD i default)) (l2.map fun i=>(i,xs.getD i default)) R (by
        intro q hq
        obtain⟨j,hj,rfl⟩:=List.mem_map.1 hq
        have hjm:j∈unl ops listed:=by rw[hsplit];simp[hj]
        obtain⟨j1,j2⟩:=mem_unl.1 hjm
        have hji:j<i:=(List.pairwise_append.1 hso).2.2 j hj i (by simp)
        have hnp:j ∉ preds i:=by
          intro hjp
          have:=hpr j hjp
          rw[← conv _ _ hsz j1,j2] at this
          simp at this
        obtain⟨a1,a2⟩:=hd.apart i j hji h1 hnp
        refine⟨a1,?_⟩
        rcases a2 with a2 | a2 | a2 | a2
        · exact .inl a2
        · right;rw[hF0 j j1 a2];intro x hx;simp at hx
        · right;rw[hF0 i h1 a2];intro x _ hx;simp at hx
        · right;exact pairsOk_mem hF (j,i) a2) h
      obtain⟨r1,r2,r3⟩:=hfront
      obtain⟨o,ho,hok⟩:=hd.op i h1
      refine exec_op hloc hreg hG g0 hW0 hN0 ho hok (fun j hj=>?_) hc r1 (fun a' w' hc'=>?_)
      · have:j∈preds i:=by simpa using hj
        exact hpr j this
      · have hu:=unl_set hsz hsplit
        refine ih (listed.setIfInBounds i true) a' w' _ (by simpa using hsz) ?_ ?_ (hc'.mono (fun j hj=>?_)) ?_
        · rw[hu]
          rw[hsplit] at hlen
          simp only[List.length_append,List.length_cons] at hlen ⊢
          omega
        · intro k o' e hko hkl he hb
          have hget:∀(b:Bool) (m:Nat),(listed.setIfInBounds i true).getD m b=if i=m∧m<ops.size then true else listed.getD m b:=by
            intro b m
            simp only[Array.getD_eq_getD_getElem?,Array.getElem?_setIfInBounds]
            by_cases him:i=m
            · subst him
              simp[hsz,h1]
            · simp[him]
          rw[hget] at hkl ⊢
          split
          · rfl
          · split at hkl
            · rename_i hik
              obtain⟨rfl,_⟩:=hik
              exact h3 o' e hko he hb
            · exact hcl k o' e hko hkl he hb
        · simp only[Array.getD_eq_getD_getElem?,Array.getElem?_setIfInBounds] at hj
          simp only[Bool.or_eq_true,beq_iff_eq]
          by_cases him:i=j
          · exact .inr him.symm
          · left
            rw[if_neg him] at hj
            simpa [Array.getD_eq_getD_getElem?] using hj
        · rw[hu,List.map_append]
          exact r3
end
end Go.AE
namespace Go.AE
inductive XC where
  | skip
  | reg (xs:List XO) (al:Nat)
  | regD (xs:List XO) (al:Nat) (pairs:List (Nat × Nat))
  | seq (a b:XC)
  | cond (c:V) (a b:XC)
  | block (id:Nat) (a:XC)
  | loop (a:XC)
  | exit (id:Nat)
  | ret
  | hint
  deriving Inhabited
inductive XE where
  | normal
  | exit (id:Nat)
  | ret
  deriving DecidableEq
def mask:List Bool→List A→List A
  | b::k,a::T=>(if b=true then a else .any)::mask k T
  | [],_::T=>.any::mask [] T
  | _,[]=>[]
abbrev Bears (w0:World) (M0:Mem) (s0:Store) (vars:List Tmp) (N:Nat) (a:Act) (w:World) (T:List A) (s:Store):Prop :=
  CR w0 M0 s0 vars [] N (fun _=>false) a w ⟨T,[],s⟩
def Re (lo:Nat) (T:List A) (s:Store) (T':List A) (s':Store):Prop :=
  ∀(w0:World) (M0:Mem) (s0:Store) (vars:List Tmp) (N:Nat) (a:Act) (w:World),s0.length=lo→Good w0 M0 s0→Bears w0 M0 s0 vars N a w T s→Bears w0 M0 s0 vars N a w T' s'
def inScope (n:Nat) (T:List A) (s:Store):Prop:=s.length≤n∨(T.all (A.under n)=true∧(s.take n).all (Ob.under n)=true)
def vc (G:Gam) (lo:Nat):XC→(XE→List A→Store→Prop)→List A→Store→Prop
  | .skip,Q,T,s=>Q .normal T s
  | .reg xs al,Q,T,s=>vOps G s.length xs T [] (s++List.replicate al .res) (Q .normal)
  | .regD xs al pairs,Q,T,s=>vOpsD G s.length xs T [] (s++List.replicate al .res) [] (fun T s F=>pairsOk F pairs∧Q .normal T s)
  | .seq a b,Q,T,s=>vc G lo a (fun e T s=>match e with | .normal=>vc G lo b Q T s | e=>Q e T s) T s
  | .cond c a b,Q,T,s=>match V.get T [] c with
    | .d (.bool t)=>(t=true→vc G lo a Q T s)∧(t=false→vc G lo b Q T s)
    | _=>False
  | .block id a,Q,T,s=>vc G lo a (fun e T s=>match e with | .exit j=>if j=id then Q .normal T s else Q (.exit j) T s | e=>Q e T s) T s
  | .loop a,Q,T,s=>∃I:Nat→List A→Store→Prop,(∃m T' s',Re lo T s T' s'∧I m T' s') ∧
      ∀m T s,I m T s→vc G lo a (fun e T s=>match e with | .normal=>∃m' T' s',m'<m∧Re lo T s T' s'∧I m' T' s' | e=>Q e T s) T s
  | .exit id,Q,T,s=>Q (.exit id) T s
  | .ret,Q,T,s=>Q .ret T s
  | .hint,Q,T,s=>∃T' s',Re lo T s T' s'∧Q .normal T' s'
/-! the translation -/
def onceN (l:List Nat):List Nat:=l.foldl (fun a n=>if a.contains n then a else a++[n]) []
def predsOf (ops:List Oper):List (List Nat) :=
  ops.foldl (fun acc o=>acc++[onceN (o.after.toList.flatMap fun e=>if Region.binds .any e then e.on::acc.getD e.on [] else [])]) []
def X.allocs:X→Nat
  | .grow _ | .sbuildo _ _ | .append _ _ _ _ | .box _ _ | .alloc _ _ | .mkslice _ _ _ _ | .mkcap _ _ _ _ | .mkmap=>1
  | .slice _ _ _ _ _ mx=>if mx.isSome then 1 else 0
  | .balloc _ _=>2
  | .rcall k _ _=>k % 1000000
  | _=>0
def buildX (P:Program) (vars:List Tmp) (locs:List (Option Tmp)) (rf:FuncId→Option Nat) (gs:Tmp→Bool) (allow:Nat→Nat→Bool):Nat→Nat→List Oper→Option (List XO × Nat)
  | _,al,[]=>some ([],al)
  | i,al,o::r=>match cX P (trR vars locs (allow i)) rf ((o.dst.map gs).getD false) o with
    | some x=>match buildX P vars locs rf gs allow (i+1) (al+x.allocs) r with
      | some (xs,n)=>some (⟨x,o.dst.bind fun d=>vars.idxOf? d,o.guard,al⟩::xs,n)
      | none=>none
    | none=>none
def guardB (locs:List (Option Tmp)) (allow:Nat→Bool) (o:Oper):Bool :=
  match o.guard with
  | some (j,_)=>allow j && (locs.getD j none).isSome
  | none=>true
def nodupB:List (Option Tmp)→Bool
  | []=>true
  | some d::r=>!r.contains (some d) && nodupB r
  | none::r=>nodupB r
def V.isL (j:Nat):V→Bool
  | .l i=>i == j
  | _=>false
def V.isV (j:Nat):V→Bool
  | .v i=>i == j
  | _=>false
def indepB (i:Nat) (o:XO) (j:Nat) (p:XO):Bool :=
  i != j && !p.reads.any (V.isL i) && !o.reads.any (V.isL j) &&
  (match o.var with | some k=>!p.reads.any (V.isV k) && p.var != some k | none=>true) &&
  (match p.var with | some k=>!o.reads.any (V.isV k) | none=>true)
def clash (o p:XO):Bool:=o.x.looker && p.x.looker && (o.x.writer || p.x.writer)
def pairsFor (xs:List XO) (preds:List (List Nat)):List (Nat × Nat) :=
  (List.range xs.length).flatMap fun i=>(List.range i).filterMap fun j=>if !(preds.getD i []).contains j && clash (xs.getD j default) (xs.getD i default) then some (j,i) else none
def drawB (ops:List Oper) (xs:List XO) (preds:List (List Nat)):Bool :=
  (List.range ops.length).all fun i =>
    ((ops.getD i default).after.toList.all fun e=>!Region.binds .any e || decide (e.on<i)) &&
    ((preds.getD i []).all fun j=>(ops.getD i default).after.toList.any fun e=>Region.binds .any e && (j == e.on || (preds.getD e.on []).contains j)) &&
    ((List.range i).all fun j=>(preds.getD i []).contains j || indepB j (xs.getD j default) i (xs.getD i default))
def regB (locs:List (Option Tmp)) (N:Nat) (allow:Nat→Nat→Bool) (ops:Array Oper):Bool :=
  nodupB locs && (ops.toList.all fun o=>match o.dst with | some d=>decide (d<N) | none=>true) && ((List.range ops.size).all fun i=>guardB locs (allow i) (ops.toList.getD i default))
def cReg (P:Program) (vars:List Tmp) (N:Nat) (rf:FuncId→Option Nat) (gs:Tmp→Bool) (ops:Array Oper) (draw:Bool):Option XC :=
  let locs:=locsOf vars ops.toList
  let preds:=predsOf ops.toList
  let allow:=fun i j=>if draw then (preds.getD i []).contains j else decide (j<i)
  match buildX P vars locs rf gs allow 0 0 ops.toList with
  | some (xs,n) =>
    if regB locs N allow ops=true then
      if draw=true then (if drawB ops.toList xs preds=true then some (.regD xs n (pairsFor xs preds)) else none) else some (.reg xs n)
    else none
  | none=>none
def cC (P:Program) (vars:List Tmp) (N:Nat) (rf:FuncId→Option Nat) (gs:Tmp→Bool):Code→Option XC
  | .skip=>some .skip
  | .region id ops draw=>match cReg P vars N rf gs ops draw with
    | some x=>if gs (2000000+id)=true then some (.seq .hint x) else some x
    | none=>none
  | .seq a b=>match cC P vars N rf gs a,cC P vars N rf gs b with
    | some x,some y=>some (.seq x y)
    | _,_=>none
  | .cond c a b=>match trR vars [] (fun _=>false) c,cC P vars N rf gs a,cC P vars N rf gs b with
    | some v,some x,some y=>some (.cond v x y)
    | _,_,_=>none
  | .block id a=>match cC P vars N rf gs a with
    | some x=>if gs (1000000+id)=true then some (.seq (.block id x) .hint) else some (.block id x)
    | none=>none
  | .loop a=>match cC P vars N rf gs a with
    | some x=>some (.loop x)
    | none=>none
  | .exit id=>some (.exit id)
  | .ret=>some .ret
  | .label _=>some .skip
  | _=>none
section
variable {P:Program} {vars:List Tmp} {N:Nat} {rf:FuncId→Option Nat} {gs:Tmp→Bool}
theorem buildX_spec {locs:List (Option Tmp)} {allow:Nat→Nat→Bool}:∀(ops:List Oper) (i al:Nat) (xs:List XO) (n:Nat),buildX P vars locs rf gs allow i al ops=some (xs,n) →
    xs.length=ops.length∧∀k,k<ops.length→cX P (trR vars locs (allow (i+k))) rf (((ops.getD k default).dst.map gs).getD false) (ops.getD k default)=some (xs.getD k default).x ∧
      (xs.getD k default).var=(ops.getD k default).dst.bind (fun d=>vars.idxOf? d)∧(xs.getD k default).guard=(ops.getD k default).guard:=by
  intro ops
  induction ops with
  | nil =>
    intro i al xs n h
    simp[buildX] at h
    obtain⟨rfl,rfl⟩:=h
    simp
  | cons o r ih =>
    intro i al xs n h
    unfold buildX at h
    split at h
    · rename_i x hx
      split at h
      · rename_i ys m hy
        simp at h
        obtain⟨rfl,rfl⟩:=h
        obtain⟨h1,h2⟩:=ih _ _ _ _ hy
        refine⟨by simp[h1],fun k hk=>?_⟩
        cases k with
        | zero=>exact⟨hx,rfl,rfl⟩
        | succ k =>
          have:=h2 k (by simpa using hk)
          rw[show i+(k+1)=i+1+k by omega]
          simpa using this
      · simp at h
    · simp at h
theorem nodupB_spec:∀(l:List (Option Tmp)),nodupB l=true→∀(i j:Nat) (d:Tmp),l[i]?=some (some d)→l[j]?=some (some d)→i=j:=by
  intro l
  induction l with
  | nil=>intro _ i j d h;simp at h
  | cons x r ih =>
    intro h i j d hi hj
    have hr:nodupB r=true:=by cases x <;> simp_all [nodupB]
    have hx:∀(k:Nat),x=some d→r[k]?=some (some d)→False:=by
      intro k hx hk
      subst hx
      simp only[nodupB,Bool.and_eq_true,Bool.not_eq_true',List.contains_iff_mem] at h
      have:=h.1
      simp at this
      exact this (List.mem_of_getElem? hk)
    cases i with
    | zero =>
      cases j with
      | zero=>rfl
      | succ j =>
        simp at hi hj
        exact (hx j hi hj).elim
    | succ i =>
      cases j with
      | zero =>
        simp at hi hj
        exact (hx i hj hi).elim
      | succ j =>
        simp at hi hj
        rw[ih hr i j d hi hj]
theorem indepB_spec {i j:Nat} {o p:XO} (h:indepB i o j p=true):Indep i o j p:=by
  simp only[indepB,Bool.and_eq_true,bne_iff_ne,ne_eq,Bool.not_eq_true'] at h
  obtain⟨⟨⟨⟨h1,h2⟩,h3⟩,h4⟩,h5⟩:=h
  have nL:∀(l:List V) (k:Nat),l.any (V.isL k)=false→V.l k ∉ l:=by
    intro l k hl hm
    rw[List.any_eq_false] at hl
    exact hl _ hm (by simp[V.isL])
  have nV:∀(l:List V) (k:Nat),l.any (V.isV k)=false→V.v k ∉ l:=by
    intro l k hl hm
    rw[List.any_eq_false] at hl
    exact hl _ hm (by simp[V.isV])
  refine⟨h1,nL _ _ h2,nL _ _ h3,fun k hk=>?_,fun k hk=>?_⟩
  · rw[hk] at h4
    simp only[Bool.and_eq_true,Bool.not_eq_true',bne_iff_ne,ne_eq] at h4
    exact⟨nV _ _ h4.1,h4.2⟩
  · rw[hk] at h5
    simp only[Bool.not_eq_true'] at h5
    exact nV _ _ h5
theorem toList_getD {ops:Array Oper} {i:Nat} {o:Oper} (h:ops[i]?=some o):ops.toList.getD i default=o:=by
  simp[List.getD,h]
theorem cReg_spec {ops:Array Oper} {draw:Bool} {xc:XC} (h:cReg P vars N rf gs ops draw=some xc) (hm:P.follows .mixedOrders=true) (hv:vars.Nodup) (hlt:∀d,d∈vars→d<N) :
    RegOk P vars ops N∧∃xs n,(draw=false∧xc=.reg xs n∧xs.length=ops.size∧∀i,i<xs.length→∃o,ops[i]?=some o∧OpOk P vars (locsOf vars ops.toList) N (fun j=>decide (j<i)) rf ((o.dst.map gs).getD false) o (xs.getD i default)) ∨
      (draw=true∧∃pairs,xc=.regD xs n pairs∧∃preds:Nat→List Nat,∃gro,DrawOk P vars (locsOf vars ops.toList) N ops rf gro xs preds pairs):=by
  unfold cReg at h
  simp only at h
  split at h
  · rename_i xs n hb
    by_cases hc:regB (locsOf vars ops.toList) N (fun i j=>if draw=true then ((predsOf ops.toList).getD i []).contains j else decide (j<i)) ops=true
    · rw[if_pos hc] at h
      simp only[regB,Bool.and_eq_true] at hc
      obtain⟨⟨c1,c2⟩,c3⟩:=hc
      refine⟨⟨hv,hlt,nodupB_spec _ c1,hm⟩,xs,n,?_⟩
      obtain⟨b1,b2⟩:=buildX_spec _ _ _ _ _ hb
      simp only[Array.length_toList] at b1
      have op:∀(i:Nat),i<ops.size→∃o,ops[i]?=some o∧OpOk P vars (locsOf vars ops.toList) N (fun j=>if draw=true then ((predsOf ops.toList).getD i []).contains j else decide (j<i)) rf ((o.dst.map gs).getD false) o (xs.getD i default):=by
        intro i hi
        have ho:ops[i]?=some ops[i]:=by simp[hi]
        obtain⟨d1,d2,d3⟩:=b2 i (by simpa using hi)
        rw[toList_getD ho,Nat.zero_add] at d1
        rw[toList_getD ho] at d2 d3
        refine⟨ops[i],ho,d1,d2,fun d hd=>?_,d3,fun j b hg=>?_⟩
        · rw[List.all_eq_true] at c2
          have:=c2 ops[i] (by simp)
          rw[hd] at this
          simpa using this
        · rw[List.all_eq_true] at c3
          have:=c3 i (by simpa using hi)
          rw[toList_getD ho] at this
          simp only[guardB,hg,Bool.and_eq_true] at this
          obtain⟨t1,t2⟩:=this
          refine⟨t1,?_⟩
          obtain⟨d,hd⟩:=Option.isSome_iff_exists.1 t2
          refine⟨d,?_⟩
          rcases Nat.lt_or_ge j (locsOf vars ops.toList).length with hj | hj
          · rw[getD_lt _ _ hj] at hd
            rw[List.getElem?_eq_getElem hj,hd]
          · simp[List.getD,hj] at hd
      clear hb
      cases draw with
      | false =>
        simp at h
        subst h
        left
        refine⟨rfl,rfl,b1,fun i hi=>?_⟩
        simpa using op i (by omega)
      | true =>
        simp only[if_true] at h
        split at h
        · rename_i hd
          simp at h
          subst h
          right
          refine⟨rfl,_,rfl,fun i=>(predsOf ops.toList).getD i [],fun i=>(((ops.toList.getD i default).dst.map gs).getD false),?_⟩
          simp only[drawB,List.all_eq_true,List.mem_range,Array.length_toList,Bool.and_eq_true,Bool.or_eq_true,Bool.not_eq_true',decide_eq_true_eq] at hd
          refine⟨b1,fun i o e ho he hbi=>?_,fun i o j ho hj=>?_,fun i hi=>?_,fun i j hji hi hnp=>?_⟩
          · have hi:i<ops.size:=(Array.getElem?_eq_some_iff.1 ho).1
            have:=(hd i hi).1.1 e (by rw[toList_getD ho];simpa using he)
            rw[hbi] at this
            simpa using this
          · have hi:i<ops.size:=(Array.getElem?_eq_some_iff.1 ho).1
            have:=(hd i hi).1.2 j hj
            rw[toList_getD ho,List.any_eq_true] at this
            obtain⟨e,he,h2⟩:=this
            simp only[Bool.and_eq_true,Bool.or_eq_true,beq_iff_eq,List.contains_iff_mem] at h2
            exact⟨e,by simpa using he,h2.1,h2.2⟩
          · obtain⟨o,ho,hok⟩:=op i hi
            refine⟨o,ho,?_⟩
            simp only[toList_getD ho]
            simpa using hok
          · have:=(hd i hi).2 j hji
            rcases this with h2 | h2
            · rw[List.contains_iff_mem] at h2
              exact absurd h2 hnp
            · refine⟨indepB_spec h2,?_⟩
              cases hcl:clash (xs.getD j default) (xs.getD i default) with
              | true =>
                right;right;right
                simp only[pairsFor,List.mem_flatMap,List.mem_range,List.mem_filterMap]
                refine⟨i,by omega,j,hji,?_⟩
                rw[if_pos]
                simp only[hcl,Bool.and_true,Bool.not_eq_true']
                rw[← Bool.not_eq_true,List.contains_iff_mem]
                exact hnp
              | false =>
                simp only[clash,Bool.and_eq_false_iff,Bool.or_eq_false_iff] at hcl
                rcases hcl with (h3 | h3) | h3
                · exact .inr (.inl h3)
                · exact .inr (.inr (.inl h3))
                · exact .inl h3
        · simp at h
    · rw[if_neg hc] at h
      simp at h
  · simp at h
end
end Go.AE
namespace Go.AE
theorem wp_loop_ghost {P:Program} {Q:Exit→Act→World→Prop} {a:Act} {w:World} {c:Code} (I:Nat→Act→World→Prop) (h₀:∃m,I m a w)
    (round:∀m a w,I m a w→c.wp P (Exit.then (fun a' w'=>∃m',m'<m∧I m' a' w') Q) a w):(Code.loop c).wp P Q a w:=by
  intro b k cs
  have key:∀m a w,I m a w→∃e a' w',Q e a' w'∧Arrives P (lone (b.at a (.code c::.inLoop c::k)) cs w) b k cs e a' w':=by
    intro m
    induction m using Nat.strongRecOn with
    | _ m ih =>
      intro a w hI
      obtain⟨e,a₁,w₁,hq,harr⟩:=round m a w hI b (.inLoop c::k) cs
      cases e with
      | normal =>
        obtain⟨m',hlt,hI₁⟩:=hq
        obtain⟨e₂,a₂,w₂,hq₂,harr₂⟩:=ih m' hlt a₁ w₁ hI₁
        exact⟨e₂,a₂,w₂,hq₂,.of_steps (Steps.trans harr (.one step_inLoop)) harr₂⟩
      | exit id=>exact⟨_,a₁,w₁,hq,.pass (x:=.inLoop c) rfl (fun _ _=>.inl (by simp)) harr⟩
      | goto l=>exact⟨_,a₁,w₁,hq,.pass (x:=.inLoop c) rfl (fun _ _=>.inl (by simp)) harr⟩
      | ret=>exact⟨_,a₁,w₁,hq,.pass (x:=.inLoop c) rfl (fun _ _=>.inl (by simp)) harr⟩
      | panic ch=>exact⟨_,a₁,w₁,hq,.pass (x:=.inLoop c) rfl (fun _ _=>.inl (by simp)) harr⟩
      | outgrown=>exact⟨_,a₁,w₁,hq,.pass (x:=.inLoop c) rfl (fun _ _=>.inl (by simp)) harr⟩
  obtain⟨m,h₀⟩:=h₀
  obtain⟨e,a',w',hq,harr⟩:=key m a w h₀
  exact⟨e,a',w',hq,.of_steps (.one step_loop) harr⟩
section
variable {P:Program} {w0:World} {M0:Mem} {s0:Store} {vars:List Tmp} {N:Nat} {rf:FuncId→Option Nat} {gs:Tmp→Bool} {G:Gam}
def Post (w0:World) (M0:Mem) (s0:Store) (vars:List Tmp) (N:Nat) (Q:XE→List A→Store→Prop):Exit→Act→World→Prop
  | .normal,a,w=>∃T s,Q .normal T s∧Bears w0 M0 s0 vars N a w T s
  | .exit id,a,w=>∃T s,Q (.exit id) T s∧Bears w0 M0 s0 vars N a w T s
  | .ret,a,w=>∃T s,Q .ret T s∧Bears w0 M0 s0 vars N a w T s
  | _,_,_=>False
theorem padRes {w:World} {M:Mem} {s:Store} (g:Good w M s) (k:Nat):Good w M (s++List.replicate k .res)∧Ext w M s w M (s++List.replicate k .res):=by
  have old:∀l,l<s.length→(s++List.replicate k Ob.res).getD l .dead=s.getD l .dead:=by
    intro l hl
    simp[List.getD,List.getElem?_append,hl]
  have he:Ext w M s w M (s++List.replicate k .res):={ Ext.refl w M s with len:=by simp,ob:=fun l hl=>by rw[old l hl];exact obStep.refl M l _ }
  refine⟨⟨g.imm,g.off,g.sep,fun l=>?_,g.nle,g.nof⟩,he⟩
  rcases Nat.lt_or_ge l s.length with hl | hl
  · rw[old l hl]
    exact (g.obj l).keep g he rfl (fun _ _ _=>rfl)
  · have h:=g.obj l
    have hd:s.getD l .dead=.dead:=by simp[List.getD,hl]
    rw[hd] at h
    have:(s++List.replicate k Ob.res).getD l .dead=.res∨(s++List.replicate k Ob.res).getD l .dead=.dead:=by
      simp only[List.getD,List.getElem?_append,if_neg (by omega:¬l<s.length),List.getElem?_replicate]
      split
      · exact .inl rfl
      · exact .inr rfl
    rcases this with h1 | h1 <;> rw[h1] <;> exact h
theorem enterRegion {a:Act} {w:World} {T:List A} {s:Store} {locs:List (Option Tmp)} (g0:Good w0 M0 s0) (h:Bears w0 M0 s0 vars N a w T s) (al n:Nat) (hn:n=locs.length) :
    CR w0 M0 s0 vars locs N (fun _=>false) a w ⟨T,pad n [],s++List.replicate al .res⟩:=by
  obtain⟨⟨M,g,e0,hv,_⟩,hsz,hdef,htl,_⟩:=h
  obtain⟨p1,p2⟩:=padRes g al
  exact⟨⟨M,p1,Ext.trans g0 e0 g p2,fun k d hk=>p2.arep g (hv k d hk),fun i d hi=>by simp at hi⟩,hsz,hdef,htl,by simp[pad,hn]⟩
theorem leaveRegion {a:Act} {w:World} {locs:List (Option Tmp)} {R:RS} (h:CR w0 M0 s0 vars locs N (fun _=>false) a w R):Bears w0 M0 s0 vars N a w R.T R.s:=by
  obtain⟨⟨M,g,e0,hv,_⟩,hsz,hdef,htl,_⟩:=h
  exact⟨⟨M,g,e0,hv,fun i d hi=>by simp at hi⟩,hsz,hdef,htl,rfl⟩
theorem runAll_and {n0:Nat} {F:List (List Nat)} {p:Prop} {K:RS→Prop}:∀(l:List (Nat × XO)) (R:RS),runAll G n0 F l R (fun R=>p∧K R)→p∧runAll G n0 F l R K:=by
  intro l
  induction l with
  | nil=>intro R h;exact h
  | cons q l ih =>
    intro R h
    obtain⟨h1,h2,h3⟩:=h
    obtain⟨h4,h5⟩:=ih _ h3
    exact⟨h4,h1,h2,h5⟩
theorem runAll_blind {n0:Nat} {F:List (List Nat)} {K:RS→Prop}:∀(l:List (Nat × XO)) (R:RS),runAll G n0 F l R K→∀q,q∈l→q.2.x.looker=false→F.getD q.1 []=[]:=by
  intro l
  induction l with
  | nil=>intro R _ q hq;simp at hq
  | cons p l ih =>
    intro R h q hq hb
    obtain⟨h1,h2,h3⟩:=h
    rcases List.mem_cons.1 hq with rfl | hq
    · rw[← h2]
      unfold fpIdx
      split
      · simp only[effAt]
        rw[blind_fp G _ _ _ _ hb]
        rfl
      · rfl
    · exact ih _ h3 q hq hb
theorem idxs_eq:∀(xs:List XO) (k:Nat),idxs k xs=(List.range' k xs.length).map fun i=>(i,xs.getD (i-k) default):=by
  intro xs
  induction xs with
  | nil=>intro k;rfl
  | cons x r ih =>
    intro k
    simp only[idxs,List.length_cons,List.range'_succ,List.map_cons,Nat.sub_self,List.getD_cons_zero]
    rw[ih (k+1)]
    congr 1
    apply List.map_congr_left
    intro i hi
    simp only[List.mem_range'] at hi
    obtain⟨j,hj,rfl⟩:=hi
    rw[show k+1+1 * j-k=(k+1+1 * j-(k+1))+1 by omega,List.getD_cons_succ]
theorem unl_all (ops:Array Oper):unl ops (Array.replicate ops.size false)=List.range ops.size:=by
  unfold unl
  apply List.filter_eq_self.2
  intro i hi
  simp only[List.mem_range] at hi
  simp[hi]
theorem region_sound (hm:P.follows .mixedOrders=true) (hvn:vars.Nodup) (hlt:∀d,d∈vars→d<N) (hG:GamOk P G) (g0:Good w0 M0 s0) (hW0:Wok P w0) (hN0:P.low≤M0.N) {id:Nat} {ops:Array Oper} {draw:Bool} {xc:XC} (hc:cReg P vars N rf gs ops draw=some xc)
    {Q:XE→List A→Store→Prop} {a:Act} {w:World} {T:List A} {s:Store} {lo:Nat} (hb:Bears w0 M0 s0 vars N a w T s) (h:vc G lo xc Q T s):(Code.region id ops draw).wp P (Post w0 M0 s0 vars N Q) a w:=by
  obtain⟨hreg,xs,n,hcase⟩:=cReg_spec hc hm hvn hlt
  have hlocs:(locsOf vars ops.toList).length=ops.size:=by simp[locsOf]
  have fin:∀(K:List A→Store→List (List Nat)→Prop) (F:List (List Nat)),(∀T s,K T s F→Q .normal T s)→∀a w R,K R.T R.s F→CR w0 M0 s0 vars (locsOf vars ops.toList) N (fun _=>false) a w R→Post w0 M0 s0 vars N Q .normal a w :=
    fun K F hKF a w R hK hcr=>⟨R.T,R.s,hKF _ _ hK,leaveRegion hcr⟩
  rcases hcase with ⟨rfl,rfl,hl,hx⟩ | ⟨rfl,pairs,rfl,preds,gro,hd⟩
  · simp only[vc] at h
    have h2:=vOps_D _ _ _ _ [] _ h
    obtain⟨F,_,h3⟩:=vOpsD_run (n:=ops.size) xs T [] _ [] _ rfl (by simp[hl]) h2
    have hcr:=enterRegion (locs:=locsOf vars ops.toList) g0 hb n ops.size hlocs.symm
    refine wp_region ?_
    have:=lex_sound (Q:=Post w0 M0 s0 vars N Q) (K:=fun R=>Q .normal R.T R.s) rfl hreg hG g0 hW0 hN0 (fun a w R hK hcr=>⟨R.T,R.s,hK,leaveRegion hcr⟩) (gro:=fun i=>(((ops.toList.getD i default).dst.map gs).getD false)) xs 0 a w _ (by simp[hl]) (fun i hi=>by
      obtain⟨o,ho,hok⟩:=hx i hi
      refine⟨o,by simpa using ho,?_⟩
      simp only[Nat.zero_add,toList_getD ho]
      exact hok) (hcr.mono (fun i h=>by simp at h)) h3
    simpa using this
  · simp only[vc] at h
    obtain⟨F,_,h3⟩:=vOpsD_run (n:=ops.size) xs T [] _ [] _ rfl (by simp[hd.len]) h
    obtain⟨hF,h4⟩:=runAll_and _ _ h3
    have hcr:=enterRegion (locs:=locsOf vars ops.toList) g0 hb n ops.size hlocs.symm
    have hidx:idxs ([]:List A).length xs=(List.range ops.size).map fun i=>(i,xs.getD i default):=by
      rw[List.length_nil,idxs_eq,List.range_eq_range',hd.len]
      rfl
    rw[hidx] at h4
    refine wp_region_any hm ?_
    refine draw_sound (K:=fun R=>Q .normal R.T R.s) rfl hreg hG g0 hW0 hN0 hd hF (fun i hi hl=>?_) (fun a w R hK hcr=>⟨R.T,R.s,hK,leaveRegion hcr⟩) ops.size (Array.replicate ops.size false) a _ ⟨T,pad ops.size [],s++List.replicate n .res⟩ (by simp) (by rw[unl_all];simp) ?_ ?_ (by rw[unl_all];exact h4)
    · exact runAll_blind _ _ h4 (i,xs.getD i default) (List.mem_map.2 ⟨i,by simpa using hi,rfl⟩) hl
    · intro i o e ho hl
      have hi:i<ops.size:=(Array.getElem?_eq_some_iff.1 ho).1
      simp[hi] at hl
    · have hfalse:∀j,(Array.replicate ops.size false).getD j false=true→False:=by
        intro j hj
        by_cases hjn:j<ops.size <;> simp[hjn] at hj
      obtain⟨⟨M,g,e0,hv,_⟩,hsz,hdef,htl,hll⟩:=hcr
      have hst:Still w { w with drawn:=w.drawn+1 }:=⟨rfl,rfl,rfl⟩
      have he:Ext w M (s++List.replicate n .res) { w with drawn:=w.drawn+1 } M (s++List.replicate n .res):=Ext.same hst rfl
      exact⟨⟨M,g.same hst rfl,Ext.trans g0 e0 g he,fun k d hk=>he.arep g (hv k d hk),fun i d hi=>(hfalse i hi).elim⟩,hsz,hdef,htl,hll⟩
def Mem.trunc (M:Mem) (n:Nat):Mem:=⟨M.I,fun l=>if l<n then M.B l else none,M.N⟩
theorem take_get {s:Store} {n l:Nat} (h:l<n):(s.take n)[l]?=s[l]?:=by simp[List.getElem?_take,h]
theorem ARep.trunc {w:World} {M:Mem} {s:Store} {n:Nat} {x:A} {v:Value} (h:ARep w M s x v) (hu:x.under n=true):ARep w (M.trunc n) (s.take n) x v:=by
  induction h with
  | any v=>exact .any v
  | d x v h=>exact .d x v h
  | ref l ver i j v h1 h =>
    simp only[A.under,decide_eq_true_eq] at hu
    refine .ref _ _ _ _ _ h1 ?_
    unfold refOk at h ⊢
    rw[take_get hu]
    simpa [Mem.trunc,hu] using h
  | own l ver off n' v h1 h =>
    simp only[A.under,decide_eq_true_eq] at hu
    refine .own _ _ _ _ _ h1 ?_
    unfold ownOk at h ⊢
    rw[take_get hu]
    simpa [Mem.trunc,hu] using h
  | gr l esz xs v h =>
    simp only[A.under,decide_eq_true_eq] at hu
    refine .gr _ _ _ _ ⟨h.1,?_⟩
    have h2:=h.2
    rw[take_get hu]
    simpa [Mem.trunc,hu] using h2
  | iptr cs v h=>exact .iptr _ _ h
  | mp l v h1 h =>
    simp only[A.under,decide_eq_true_eq] at hu
    refine .mp _ _ h1 ?_
    unfold mpOk at h ⊢
    rw[take_get hu]
    simpa [Mem.trunc,hu] using h
  | tref l ver t v h1 h =>
    simp only[A.under,decide_eq_true_eq] at hu
    refine .tref _ _ _ _ h1 ?_
    unfold trefOk at h ⊢
    rw[take_get hu]
    simpa [Mem.trunc,hu] using h
  | bgr l t bs v h h2 =>
    simp only[A.under,decide_eq_true_eq] at hu
    refine .bgr _ _ _ _ ⟨h.1,?_⟩ (h2.imp id fun⟨b,n,cap,c,f,q1,q2,q3,q4⟩=>⟨b,n,cap,c,f,q1,q2,q3,by
      unfold tipOk at q4 ⊢
      rw[take_get hu]
      simpa [Mem.trunc,hu] using q4⟩)
    have h2:=h.2
    rw[take_get hu]
    simpa [Mem.trunc,hu] using h2
  | agg cs vs hl ho hr ih =>
    simp only[A.under,A.unders_all,List.all_eq_true] at hu
    exact .agg cs vs hl ho (fun k hk=>ih k hk (hu _ (getD_mem cs .any hk)))
  | tup cs vs hl hr ih =>
    simp only[A.under,A.unders_all,List.all_eq_true] at hu
    exact .tup cs vs hl (fun k hk=>ih k hk (hu _ (getD_mem cs .any hk)))
  | fn f fi ca vf vc h1 h2 h3 h4 ih1 ih2 =>
    simp only[A.under,A.unders_all,Bool.and_eq_true,List.all_eq_true] at hu
    exact .fn f fi ca vf vc h1 h2 (fun k hk=>ih1 k hk (hu.1 _ (getD_mem fi .any hk))) (fun k hk=>ih2 k hk (hu.2 _ (getD_mem ca .any hk)))
  | iface t x v h ih=>exact .iface t x v (ih hu)
theorem A.cells_under {x:A} {n j:Nat} (h:x.under n=true):(x.cells.getD j .any).under n=true:=by
  have key:∀(l:List A),l.all (A.under n)=true→(l.getD j .any).under n=true:=by
    intro l hl
    rcases Nat.lt_or_ge j l.length with hj | hj
    · rw[List.all_eq_true] at hl
      exact hl _ (getD_mem l .any hj)
    · simp[List.getD,hj,A.under]
  cases x with
  | d x =>
    cases x with
    | agg cs=>exact key (cs.map A.d) (by simp[A.under])
    | _=>exact key [A.d _] (by simp[A.under])
  | agg cs=>exact key cs (by simpa [A.under,A.unders_all] using h)
  | _=>exact key [_] (by simpa using h)
theorem Good.trunc {w:World} {M:Mem} {s:Store} {n:Nat} (g:Good w M s) (hu:(s.take n).all (Ob.under n)=true):Good w (M.trunc n) (s.take n) where
  imm:=g.imm
  off b j l o h hB:=by
    simp only[Mem.trunc] at hB
    split at hB
    · exact g.off b j l o h hB
    · simp at hB
  sep l l' b o o' h h':=by
    simp only[Mem.trunc] at h h'
    split at h
    · split at h'
      · exact g.sep _ _ _ _ _ h h'
      · simp at h'
    · simp at h
  nle:=g.nle
  nof l b o h:=by
    simp only[Mem.trunc] at h
    split at h
    · exact g.nof _ _ _ h
    · simp at h
  obj l:=by
    rcases Nat.lt_or_ge l n with hl | hl
    · have h:=g.obj l
      have hd:(s.take n).getD l .dead=s.getD l .dead:=by simp[List.getD,List.getElem?_take,hl]
      have hB:(M.trunc n).B l=M.B l:=by simp[Mem.trunc,hl]
      rw[hd]
      cases hx:s.getD l .dead with
      | dead=>rw[hx] at h;simp only[obOk] at h ⊢;rw[hB];exact h
      | res=>rw[hx] at h;simp only[obOk] at h ⊢;rw[hB];exact h
      | tip k =>
        rw[hx] at h
        intro b o hb
        rw[hB] at hb
        exact h b o hb
      | map ms =>
        rw[hx] at h
        obtain⟨b,es,cl,h1,h2,h3⟩:=h
        exact⟨b,es,cl,by rw[hB];exact h1,h2,h3⟩
      | cells ver esz xs =>
        rw[hx] at h
        rcases h with ⟨h1,h2⟩ | ⟨b,o,c,E,f,h1,h2,h3,h4,h5,h6⟩
        · exact .inl ⟨h1,by rw[hB];exact h2⟩
        have hmem:Ob.cells ver esz xs∈s.take n:=by
          have:=getD_ne (s:=s.take n) (l:=l) (hd.trans hx) (by simp)
          exact List.mem_of_getElem? this.1
        rw[List.all_eq_true] at hu
        have hxs:=hu _ hmem
        simp only[Ob.under,List.all_eq_true] at hxs
        exact .inr ⟨b,o,c,E,f,by rw[hB];exact h1,h2,h3,h4,h5,fun i j hi hj=>(h6 i j hi hj).trunc (A.cells_under (hxs _ (getD_mem xs .any hi)))⟩
    · have hd:(s.take n).getD l .dead=.dead:=by
        rw[List.getD,List.getElem?_eq_none (by simp;omega)]
        rfl
      rw[hd]
      simp[obOk,Mem.trunc]
      omega
theorem obStep_congr {M M' M'':Mem} {l:Nat} {x y:Ob} (hB:M'.B l=M''.B l) (h:obStep M M' l x y):obStep M M'' l x y:=by
  cases x <;> cases y <;> simp_all [obStep]
theorem Ext.trunc {w:World} {M:Mem} {s:Store} {n:Nat} (e:Ext w0 M0 s0 w M s) (hn:s0.length≤n):Ext w0 M0 s0 w (M.trunc n) (s.take n) where
  os:=e.os
  tape:=e.tape
  output:=e.output
  size:=e.size
  keep:=e.keep
  low:=e.low
  blk:=e.blk
  imm:=e.imm
  immNew:=e.immNew
  own l b o h:=by
    simp only[Mem.trunc] at h
    split at h
    · exact e.own l b o h
    · simp at h
  N:=e.N
  len:=by
    have:=e.len
    simp
    omega
  ob l hl:=by
    have h:=e.ob l hl
    have hd:(s.take n).getD l .dead=s.getD l .dead:=by
      have:l<n:=by omega
      simp[List.getD,List.getElem?_take,this]
    have hB:(M.trunc n).B l=M.B l:=by simp[Mem.trunc];omega
    rw[hd]
    exact obStep_congr hB.symm h
theorem mask_getD:∀(keep:List Bool) (T:List A) (k:Nat),(mask keep T).getD k .any=T.getD k .any∨(mask keep T).getD k .any=.any:=by
  intro keep T
  induction T generalizing keep with
  | nil =>
    intro k
    cases keep <;> exact .inl rfl
  | cons a T ih =>
    intro k
    cases keep with
    | nil =>
      cases k with
      | zero=>exact .inr rfl
      | succ k=>simpa [mask] using ih [] k
    | cons b keep =>
      cases k with
      | zero =>
        simp only[mask,List.getD_cons_zero]
        split
        · exact .inl rfl
        · exact .inr rfl
      | succ k=>simpa [mask] using ih keep k
theorem mask_length:∀(keep:List Bool) (T:List A),(mask keep T).length=T.length:=by
  intro keep T
  induction T generalizing keep with
  | nil=>cases keep <;> rfl
  | cons a T ih=>cases keep <;> simp[mask,ih]
theorem forget {a:Act} {w:World} {T:List A} {s:Store} {keep:List Bool} {n:Nat} (h:Bears w0 M0 s0 vars N a w T s) (hn:s0.length≤n) (hs:inScope n (mask keep T) s):Bears w0 M0 s0 vars N a w (mask keep T) (s.take n):=by
  obtain⟨⟨M,g,e0,hv,_⟩,hsz,hdef,htl,_⟩:=h
  have hv':∀k d,vars[k]?=some d→ARep w M s ((mask keep T).getD k .any) (a.tmps.getD d undef):=by
    intro k d hk
    rcases mask_getD keep T k with h | h <;> rw[h]
    · exact hv k d hk
    · exact .any _
  have hl:(mask keep T).length=vars.length:=by rw[mask_length];exact htl
  rcases hs with hs | ⟨h1,h2⟩
  · rw[List.take_of_length_le hs]
    exact⟨⟨M,g,e0,hv',fun i d hi=>by simp at hi⟩,hsz,hdef,hl,rfl⟩
  · refine⟨⟨M.trunc n,g.trunc h2,e0.trunc hn,fun k d hk=>?_,fun i d hi=>by simp at hi⟩,hsz,hdef,hl,rfl⟩
    refine (hv' k d hk).trunc ?_
    rw[List.all_eq_true] at h1
    rcases Nat.lt_or_ge k (mask keep T).length with hk2 | hk2
    · exact h1 _ (getD_mem _ _ hk2)
    · simp[List.getD,hk2,A.under]
theorem vc_sound (hm:P.follows .mixedOrders=true) (hvn:vars.Nodup) (hlt:∀d,d∈vars→d<N) (hG:GamOk P G) (g0:Good w0 M0 s0) (hW0:Wok P w0) (hN0:P.low≤M0.N):∀(c:Code) (xc:XC),cC P vars N rf gs c=some xc →
    ∀(Q:XE→List A→Store→Prop) (a:Act) (w:World) (T:List A) (s:Store),Bears w0 M0 s0 vars N a w T s→vc G s0.length xc Q T s→c.wp P (Post w0 M0 s0 vars N Q) a w:=by
  intro c
  induction c with
  | skip =>
    intro xc hc Q a w T s hb h
    simp[cC] at hc
    subst hc
    exact wp_skip ⟨T,s,h,hb⟩
  | label l =>
    intro xc hc Q a w T s hb h
    simp[cC] at hc
    subst hc
    exact wp_label ⟨T,s,h,hb⟩
  | region id ops draw =>
    intro xc hc Q a w T s hb h
    unfold cC at hc
    split at hc
    · rename_i x h1
      split at hc
      · simp at hc
        subst hc
        simp only[vc] at h
        obtain⟨T',s',hre,h⟩:=h
        exact region_sound hm hvn hlt hG g0 hW0 hN0 h1 (hre _ _ _ _ _ _ _ rfl g0 hb) h
      · simp at hc
        subst hc
        exact region_sound hm hvn hlt hG g0 hW0 hN0 h1 hb h
    · simp at hc
  | seq x y ihx ihy =>
    intro xc hc Q a w T s hb h
    unfold cC at hc
    split at hc
    · rename_i cx cy h1 h2
      simp at hc
      subst hc
      simp only[vc] at h
      refine wp_seq (wp_mono (ihx cx h1 _ a w T s hb h) ?_)
      intro e a w hp
      cases e with
      | normal =>
        obtain⟨T,s,hq,hb⟩:=hp
        exact ihy cy h2 _ a w T s hb hq
      | exit id=>exact hp
      | ret=>exact hp
      | _=>exact hp
    · simp at hc
  | cond cnd x y ihx ihy =>
    intro xc hc Q a w T s hb h
    unfold cC at hc
    split at hc
    · rename_i v cx cy h0 h1 h2
      simp at hc
      subst hc
      simp only[vc] at h
      split at h
      · rename_i t ht
        have hr:ARep w hb.mem.choose s (V.get T [] v) (a.eval cnd) :=
          trR_rep (R:=⟨T,[],s⟩) (locs:=[]) (allow:=fun _=>false) (done:=fun _=>false) hb.mem.choose_spec.2.2.1 (fun i d hi=>by simp at hi) (fun i hi=>by simp at hi) cnd v h0
        rw[ht] at hr
        refine wp_cond_split (inv_bool hr) (fun h3=>?_) (fun h3=>?_)
        · exact ihx cx h1 Q a w T s hb (h.1 h3)
        · exact ihy cy h2 Q a w T s hb (h.2 h3)
      · exact h.elim
    · simp at hc
  | block id x ih =>
    intro xc hc Q a w T s hb h
    unfold cC at hc
    split at hc
    · rename_i cx h1
      split at hc
      · simp at hc
        subst hc
        simp only[vc] at h
        refine wp_block (wp_mono (ih cx h1 _ a w T s hb h) ?_)
        intro e a w hp
        cases e with
        | normal =>
          obtain⟨T,s,⟨T',s',hre,hq⟩,hb⟩:=hp
          exact⟨T',s',hq,hre _ _ _ _ _ _ _ rfl g0 hb⟩
        | exit j =>
          obtain⟨T,s,hq,hb⟩:=hp
          simp only[Exit.inBlock]
          by_cases hj:j=id
          · simp only[hj,if_true] at hq ⊢
            obtain⟨T',s',hre,hq⟩:=hq
            exact⟨T',s',hq,hre _ _ _ _ _ _ _ rfl g0 hb⟩
          · simp only[hj,if_false] at hq ⊢
            exact⟨T,s,hq,hb⟩
        | ret=>exact hp
        | _=>exact hp
      · simp at hc
        subst hc
        simp only[vc] at h
        refine wp_block (wp_mono (ih cx h1 _ a w T s hb h) ?_)
        intro e a w hp
        cases e with
        | normal=>exact hp
        | exit j =>
          obtain⟨T,s,hq,hb⟩:=hp
          simp only[Exit.inBlock]
          by_cases hj:j=id
          · simp only[hj,if_true] at hq ⊢
            exact⟨T,s,hq,hb⟩
          · simp only[hj,if_false] at hq ⊢
            exact⟨T,s,hq,hb⟩
        | ret=>exact hp
        | _=>exact hp
    · simp at hc
  | loop x ih =>
    intro xc hc Q a w T s hb h
    unfold cC at hc
    split at hc
    · rename_i cx h1
      simp at hc
      subst hc
      simp only[vc] at h
      obtain⟨I,⟨m,T',s',hre,hI⟩,hround⟩:=h
      refine wp_loop_ghost (fun m a w=>∃T s,I m T s∧Bears w0 M0 s0 vars N a w T s) ⟨m,_,_,hI,hre _ _ _ _ _ _ _ rfl g0 hb⟩ ?_
      rintro m a w ⟨T,s,hI,hb⟩
      refine wp_mono (ih cx h1 _ a w T s hb (hround m T s hI)) ?_
      intro e a w hp
      cases e with
      | normal =>
        obtain⟨T,s,⟨m',T',s',hm',hre,hI'⟩,hb⟩:=hp
        exact⟨m',hm',_,_,hI',hre _ _ _ _ _ _ _ rfl g0 hb⟩
      | exit id=>exact hp
      | ret=>exact hp
      | _=>exact hp
    · simp at hc
  | exit id =>
    intro xc hc Q a w T s hb h
    simp[cC] at hc
    subst hc
    exact wp_exit ⟨T,s,h,hb⟩
  | ret =>
    intro xc hc Q a w T s hb h
    simp[cC] at hc
    subst hc
    exact wp_ret ⟨T,s,h,hb⟩
  | _=>intro xc hc;simp[cC] at hc
theorem Re.refl (lo:Nat) (T:List A) (s:Store):Re lo T s T s:=fun _ _ _ _ _ _ _ _ _ h=>h
theorem Re.trans {lo:Nat} {T T' T'':List A} {s s' s'':Store} (h:Re lo T s T' s') (k:Re lo T' s' T'' s''):Re lo T s T'' s'' :=
  fun w0 M0 s0 vars N a w hl g hb=>k w0 M0 s0 vars N a w hl g (h w0 M0 s0 vars N a w hl g hb)
theorem Re.forget {lo n:Nat} {T:List A} {s:Store} (keep:List Bool) (hn:lo≤n) (hs:inScope n (mask keep T) s):Re lo T s (mask keep T) (s.take n) :=
  fun _ _ _ _ _ _ _ hl _ hb=>Go.AE.forget hb (by omega) hs
theorem Re.of {lo:Nat} {T T':List A} {s s':Store} (hl:T'.length=T.length)
    (h:∀(w0:World) (M0:Mem) (s0:Store) (w:World) (M:Mem),s0.length=lo→Good w M s→Ext w0 M0 s0 w M s→∃M',Good w M' s'∧Ext w0 M0 s0 w M' s'∧∀k v,ARep w M s (T.getD k .any) v→ARep w M' s' (T'.getD k .any) v):Re lo T s T' s':=by
  intro w0 M0 s0 vars N a w hs g0 hb
  obtain⟨⟨M,g,e,hv,_⟩,hsz,hdef,htl,_⟩:=hb
  obtain⟨M',g',e',hv'⟩:=h w0 M0 s0 w M hs g e
  exact⟨⟨M',g',e',fun k d hk=>hv' k _ (hv k d hk),fun i d hi=>by simp at hi⟩,hsz,hdef,by simp only at htl ⊢;omega,rfl⟩
theorem vc_mono {lo:Nat}:∀(c:XC) (Q Q':XE→List A→Store→Prop) (T:List A) (s:Store),(∀e T s,Q e T s→Q' e T s)→vc G lo c Q T s→vc G lo c Q' T s:=by
  have ops:∀(xs:List XO) (n0:Nat) (T L:List A) (s:Store) (K K':List A→Store→Prop),(∀T s,K T s→K' T s)→vOps G n0 xs T L s K→vOps G n0 xs T L s K':=by
    intro xs
    induction xs with
    | nil=>intro n0 T L s K K' hk h;exact hk _ _ h
    | cons o r ih =>
      intro n0 T L s K K' hk h
      unfold vOps at h ⊢
      simp only at h ⊢
      split at h
      · exact⟨h.1,ih _ _ _ _ _ _ hk h.2⟩
      · split at h
        · exact vGuard_mono (fun L h=>⟨h.1,ih _ _ _ _ _ _ hk h.2⟩) (fun L h=>ih _ _ _ _ _ _ hk h) h
        · exact ih _ _ _ _ _ _ hk h
        · exact h.elim
  have opsD:∀(xs:List XO) (n0:Nat) (T L:List A) (s:Store) (F:List (List Nat)) (K K':List A→Store→List (List Nat)→Prop),(∀T s F,K T s F→K' T s F)→vOpsD G n0 xs T L s F K→vOpsD G n0 xs T L s F K':=by
    intro xs
    induction xs with
    | nil=>intro n0 T L s F K K' hk h;exact hk _ _ _ h
    | cons o r ih =>
      intro n0 T L s F K K' hk h
      unfold vOpsD at h ⊢
      simp only at h ⊢
      split at h
      · exact⟨h.1,ih _ _ _ _ _ _ _ hk h.2⟩
      · split at h
        · exact vGuard_mono (fun L h=>⟨h.1,ih _ _ _ _ _ _ _ hk h.2⟩) (fun L h=>ih _ _ _ _ _ _ _ hk h) h
        · exact ih _ _ _ _ _ _ _ hk h
        · exact h.elim
  intro c
  induction c with
  | skip=>intro Q Q' T s hq h;exact hq _ _ _ h
  | ret=>intro Q Q' T s hq h;exact hq _ _ _ h
  | hint =>
    intro Q Q' T s hq h
    obtain⟨T',s',h1,h2⟩:=h
    exact⟨T',s',h1,hq _ _ _ h2⟩
  | exit id=>intro Q Q' T s hq h;exact hq _ _ _ h
  | reg xs al=>intro Q Q' T s hq h;exact ops _ _ _ _ _ _ _ (fun T s=>hq _ T s) h
  | regD xs al pairs=>intro Q Q' T s hq h;exact opsD _ _ _ _ _ _ _ _ (fun T s F h=>⟨h.1,hq _ T s h.2⟩) h
  | seq a b iha ihb =>
    intro Q Q' T s hq h
    simp only[vc] at h ⊢
    refine iha _ _ T s (fun e T s h=>?_) h
    cases e with
    | normal=>exact ihb _ _ _ _ hq h
    | exit j=>exact hq _ _ _ h
    | ret=>exact hq _ _ _ h
  | block id a ih =>
    intro Q Q' T s hq h
    simp only[vc] at h ⊢
    refine ih _ _ T s (fun e T s h=>?_) h
    cases e with
    | normal=>exact hq _ _ _ h
    | exit j=>simp only at h ⊢;split at h <;> rename_i hj <;> simp only[hj,if_true,if_false] <;> exact hq _ _ _ h
    | ret=>exact hq _ _ _ h
  | cond c a b iha ihb =>
    intro Q Q' T s hq h
    simp only[vc] at h ⊢
    split at h
    · exact⟨fun ht=>iha _ _ _ _ hq (h.1 ht),fun ht=>ihb _ _ _ _ hq (h.2 ht)⟩
    · exact h.elim
  | loop a ih =>
    intro Q Q' T s hq h
    simp only[vc] at h ⊢
    obtain⟨I,h1,h2⟩:=h
    refine⟨I,h1,fun m T s hI=>ih _ _ _ _ (fun e T s h=>?_) (h2 m T s hI)⟩
    cases e with
    | normal=>exact h
    | exit j=>exact hq _ _ _ h
    | ret=>exact hq _ _ _ h
end
end Go.AE
