/-
  tree.CheckPath at this seat.
-/
import Derived.Test.YtlkndcbimdcnpaaDoorSpa8D
import Derived.Test.YtlkndcbimdcnpaaDoorCona2
import Derived.Test.YtlkndcbimdcnpaaDoorCona1
import Derived.Lib.Builder

set_option linter.unusedSimpArgs false
set_option linter.unusedVariables false
set_option linter.unnecessarySimpa false
set_option linter.unusedVariables false
namespace Go.Proofs
open Go.RowKit Go.Shelf Go.AE
attribute [local go_sem] Oper.semAt_some
set_option maxRecDepth 100000 in
set_option maxHeartbeats 4000000 in
theorem Tryd.splitMake_in (n:Nat) (s p:ByteArray) (w:World) :
    CallsIn Fence.wide n Tryd.prog 69 #[.string s,.string p,.int .i64 0] w fun e w' =>
      e=.returned (.func (.func 74) #[] #[.pointer (some ⟨w.heap.size+1,0,none⟩),.pointer (some ⟨w.heap.size,0,none⟩),.pointer (some ⟨w.heap.size+1+1,0,none⟩)])∧w'=((w.alloc (.cells #[.string s] 9)).alloc (.cells #[.string p] 9)).alloc (.cells #[.int .i64 0] 3):=by
  refine callsIn_of_wp Tryd.func69 rfl trivial ?_ rfl
  simp only[Tryd.ntmps69,List.size_toArray,List.length_cons,List.length_nil,Nat.reduceAdd,Nat.reduceSub,Array.replicate_succ,Array.replicate_zero,List.push_toArray,List.append_toArray,List.nil_append,List.cons_append]
  gi_wp2
  go_ret
  exact⟨rfl,rfl⟩
set_option maxRecDepth 100000 in
set_option maxHeartbeats 4000000 in
theorem Tryd.splitSeq_in (n:Nat) (hn:1≤n) (s p:ByteArray) (w:World) :
    CallsIn Fence.wide n Tryd.prog 63 #[.string s,.string p] w fun e w' =>
      e=.returned (.func (.func 74) #[] #[.pointer (some ⟨w.heap.size+1,0,none⟩),.pointer (some ⟨w.heap.size,0,none⟩),.pointer (some ⟨w.heap.size+1+1,0,none⟩)])∧w'=((w.alloc (.cells #[.string s] 9)).alloc (.cells #[.string p] 9)).alloc (.cells #[.int .i64 0] 3):=by
  refine callsIn_of_wp Tryd.func63 rfl trivial ?_ rfl
  simp only[Tryd.ntmps63,List.size_toArray,List.length_cons,List.length_nil,Nat.reduceAdd,Nat.reduceSub,Array.replicate_succ,Array.replicate_zero,List.push_toArray,List.append_toArray,List.nil_append,List.cons_append]
  have h69:Fence.wide.fn 69:=trivial
  gi_wp2_with (gi_at_call 69;refine (Tryd.splitMake_in (n-1) s p w).mono ?_;rintro e w' ⟨rfl,rfl⟩)
  go_ret
  exact⟨rfl,rfl⟩
theorem below_put (n:Nat) (A:World) (l:Nat) (o:Obj) (h:n≤l):Below n A (A.putObj l o):=⟨rfl,rfl,rfl,by simp[World.putObj],fun k hk=>World.putObj_heap_other (by omega)⟩
theorem four_new (w:World) (a b c d:Obj):((((w.alloc a).alloc b).alloc c).alloc d).heap[w.heap.size]?=some a∧((((w.alloc a).alloc b).alloc c).alloc d).heap[w.heap.size+1]?=some b ∧
    ((((w.alloc a).alloc b).alloc c).alloc d).heap[w.heap.size+1+1]?=some c∧((((w.alloc a).alloc b).alloc c).alloc d).heap[w.heap.size+1+1+1]?=some d:=by
  have s1:(w.alloc a).heap.size=w.heap.size+1:=World.size_alloc _ _
  have s2:((w.alloc a).alloc b).heap.size=w.heap.size+1+1:=by rw[World.size_alloc,s1]
  have s3:(((w.alloc a).alloc b).alloc c).heap.size=w.heap.size+1+1+1:=by rw[World.size_alloc,s2]
  have n1:=World.alloc_heap_new w a
  have n2:=World.alloc_heap_new (w.alloc a) b
  have n3:=World.alloc_heap_new ((w.alloc a).alloc b) c
  have n4:=World.alloc_heap_new (((w.alloc a).alloc b).alloc c) d
  rw[s1] at n2
  rw[s2] at n3
  rw[s3] at n4
  refine⟨?_,?_,?_,n4⟩
  · rw[Below.heap_alloc _ _ _ (by omega),Below.heap_alloc _ _ _ (by omega),Below.heap_alloc _ _ _ (by omega)];exact n1
  · rw[Below.heap_alloc _ _ _ (by omega),Below.heap_alloc _ _ _ (by omega)];exact n2
  · rw[Below.heap_alloc _ _ _ (by omega)];exact n3
set_option maxRecDepth 100000 in
set_option maxHeartbeats 4000000 in
theorem Tryd.checkPath_in (n:Nat) (hn:3≤n) (p:List UInt8) (w:World) :
    CallsIn Fence.wide n Tryd.prog 56 #[.string ⟨p.toArray⟩] w fun e w'=>e=.returned (.int .i64 (pathE p))∧Below w.heap.size w w':=by
  refine callsIn_of_wp_marks Tryd.func56 rfl trivial ?_ rfl
  simp only[Tryd.ntmps56,List.size_toArray,List.length_cons,List.length_nil,Nat.reduceAdd,Nat.reduceSub,Array.replicate_succ,Array.replicate_zero,List.push_toArray,List.append_toArray,List.nil_append,List.cons_append]
  have h1n:1≤n:=by omega
  have h62:Fence.wide.fn 62:=trivial
  have h63:Fence.wide.fn 63:=trivial
  have hct:∀w0,CallsIn Fence.wide (n-1) Tryd.prog 62 #[.string ⟨p.toArray⟩,.string ⟨#[0]⟩] w0 fun e w'=>e=.returned (.bool (decide (0≤Lib.indexByte p 0)))∧w'=w0:=fun w0=>by
    refine callsIn_wide.2 ((Tryd.strings_Contains_one ⟨p.toArray⟩ 0 w0).mono ?_)
    rintro e w' ⟨rfl,rfl⟩
    exact⟨by simp,rfl⟩
  have hret:∀(e:Int) (tm:Array Value) (B:World),tm[2]?=some (.pointer (some ⟨w.heap.size,0,none⟩))→B.cell? ⟨w.heap.size,0,none⟩=some (.int .i64 e)→e=pathE p→Below w.heap.size w B →
      LeavesInM Fence.wide n Tryd.prog Tryd.f56 tm (fun e w'=>e=.returned (.int .i64 (pathE p))∧Below w.heap.size w w') [] .returning B:=by
    intro e tm B htm hc he hb
    refine⟨.int .i64 e,?_,by rw[he],hb⟩
    simp[results,Tryd.f56,go_sem,htm,hc]
  by_cases c1:200<(p.length:Int)
  · gi_wp2
    refine hret 210 _ _ rfl (World.cell?_alloc_new _ _ _ 0) ?_ ((Below.refl _ w).alloc (Nat.le_refl _) _)
    unfold pathE
    rw[if_pos (.inl c1)]
  · have hp:p.length≤1000000:=by omega
    by_cases c2:0≤Lib.indexByte p 0
    · gi_wp2_with (gi_at_call 62;refine (hct _).mono ?_;rintro e w' ⟨rfl,rfl⟩)
      refine hret 210 _ _ rfl (World.cell?_alloc_new _ _ _ 0) ?_ ((Below.refl _ w).alloc (Nat.le_refl _) _)
      unfold pathE
      rw[if_pos (.inr c2)]
    · gi_wp2_with (first | (gi_at_call 62;refine (hct _).mono ?_;rintro e w' ⟨rfl,rfl⟩) | (gi_at_call 63;refine (Tryd.splitSeq_in (n-1) (by omega) _ _ _).mono ?_;rintro e w' ⟨rfl,rfl⟩))
      obtain⟨V,hV⟩:∃V,((((w.alloc (Obj.cells #[Value.int IntKind.i64 0] 27)).alloc (Obj.cells #[Value.string { data:=p.toArray }] 9)).alloc (Obj.cells #[Value.string { data:=#[47] }] 9)).alloc (Obj.cells #[Value.int IntKind.i64 0] 3))=V:=⟨_,rfl⟩
      have vs:V.heap.size=w.heap.size+4:=by rw[← hV];simp[World.size_alloc]
      have vb:Below w.heap.size w V:=by
        rw[← hV]
        exact ((((Below.refl _ w).alloc (Nat.le_refl _) _).alloc (by simp[World.size_alloc]) _).alloc (by simp[World.size_alloc];omega) _).alloc (by simp[World.size_alloc];omega) _
      obtain⟨x0,x1,x2,x3⟩:=four_new w (Obj.cells #[Value.int IntKind.i64 0] 27) (Obj.cells #[Value.string { data:=p.toArray }] 9) (Obj.cells #[Value.string { data:=#[47] }] 9) (Obj.cells #[Value.int IntKind.i64 0] 3)
      rw[hV] at x0 x1 x2 x3
      have v0:V.cell? ⟨w.heap.size,0,none⟩=some (.int .i64 0):=by rw[Lib.cell_of_heap x0];rfl
      have v0f:V.frozen? ⟨w.heap.size,0,none⟩=false:=Lib.frozen_of_heap x0 0
      have v1:V.cell? ⟨w.heap.size+1,0,none⟩=some (.string ⟨p.toArray⟩):=by rw[Lib.cell_of_heap x1];rfl
      have v1f:V.frozen? ⟨w.heap.size+1,0,none⟩=false:=Lib.frozen_of_heap x1 0
      have v2:V.cell? ⟨w.heap.size+1+1,0,none⟩=some (.string ⟨#[47]⟩):=by rw[Lib.cell_of_heap x2];rfl
      have v3:V.cell? ⟨w.heap.size+1+1+1,0,none⟩=some (.int .i64 0):=by rw[Lib.cell_of_heap x3];rfl
      rw[hV]
      have hseq:SeqW (n-1) Tryd.prog 74 #[.pointer (some ⟨w.heap.size+1+1,0,none⟩),.pointer (some ⟨w.heap.size+1,0,none⟩),.pointer (some ⟨w.heap.size+1+1+1,0,none⟩)] (fun x:List UInt8=>#[.string ⟨x.toArray⟩]) V.heap.size (w.heap.size+1) (splitB p) V:=by
        intro l J Jx W hW hJ hY h0
        have g2:=(hW.cell (p:=⟨w.heap.size+1,0,none⟩) (by rw[vs];show w.heap.size+1<_;omega)).trans v1
        have g1:=(hW.cell (p:=⟨w.heap.size+1+1,0,none⟩) (by rw[vs];show w.heap.size+1+1<_;omega)).trans v2
        have g3:=(hW.cell (p:=⟨w.heap.size+1+1+1,0,none⟩) (by rw[vs];show w.heap.size+1+1+1<_;omega)).trans v3
        have gf:=(hW.frozen (p:=⟨w.heap.size+1,0,none⟩) (by rw[vs];show w.heap.size+1<_;omega)).trans v1f
        exact Tryd.split1_in (n-1) (by omega) l (w.heap.size+1) (w.heap.size+1+1) (w.heap.size+1+1+1) V.heap.size p (by omega) (by omega) (by omega) (by omega) (by omega) hp J Jx hY hJ W g1 g2 g3 gf h0
      refine rangeW (by omega) (gfn:=74) rfl (enters_of Tryd.func74 (by kernel_rfl) rfl) (by omega) hseq (fun _=>rfl)
        (fun pre W=>(∀x,x∈pre→badP x=false)∧W.cell? ⟨w.heap.size,0,none⟩=some (.int .i64 0)∧W.frozen? ⟨w.heap.size,0,none⟩=false∧Below w.heap.size w W)
        (fun pre W=>(∃x,x∈pre∧badP x=true)∧W.cell? ⟨w.heap.size,0,none⟩=some (.int .i64 210)∧Below w.heap.size w W)
        ?i1 ?i2 ?i3 ?x2 ⟨by simp,v0,v0f,vb⟩
        (fun x=>{ tmps:=#[Value.string { data:=p.toArray },undef,Value.pointer (some { block:=w.heap.size,off:=0 }),Value.string ⟨x.toArray⟩,
          Value.string { data:=p.toArray },Value.int IntKind.i64 ↑p.length,Value.bool false,Value.bool false,
          Value.string { data:=p.toArray },Value.bool (decide (0≤Lib.indexByte p 0)),
          Value.bool (decide (0≤Lib.indexByte p 0)),Value.string { data:=p.toArray },
          Value.func (Fn.func 74) #[]
            #[Value.pointer (some { block:=w.heap.size+1+1,off:=0 }),
              Value.pointer (some { block:=w.heap.size+1,off:=0 }),
              Value.pointer (some { block:=w.heap.size+1+1+1,off:=0 })],
          Value.string ⟨x.toArray⟩,undef,undef,undef,undef,undef,undef,undef,undef,undef,undef],defers:=[] }) ?assign ?body ?done ?stop
      case i1 =>
        rintro pre A o hs ⟨a1,a2,a3,a4⟩
        refine⟨a1,?_,?_,a4.alloc (by omega) _⟩
        · rw[World.cell?_alloc_lt _ _ _ (by show w.heap.size<_;omega)];exact a2
        · rw[World.frozen?_alloc_old _ _ _ (by show w.heap.size≠_;omega)];exact a3
      case i2 =>
        rintro pre A l o hl ⟨a1,a2,a3,a4⟩
        have e1:(A.putObj l o).heap[w.heap.size]?=A.heap[w.heap.size]?:=World.putObj_heap_other (by omega)
        refine⟨a1,?_,?_,a4.trans (below_put _ _ _ _ (by omega))⟩
        · exact (World.cell?_of_block e1).trans a2
        · exact (World.frozen?_of_block e1).trans a3
      case i3 =>
        rintro pre A v ⟨a1,a2,a3,a4⟩
        refine⟨a1,?_,?_,a4.setCell (p:=⟨w.heap.size+1,0,none⟩) (by show w.heap.size≤w.heap.size+1;omega) _⟩
        · rw[World.cell?_setCell_far _ _ _ _ (by show w.heap.size+1≠w.heap.size;omega)];exact a2
        · rw[World.frozen?_setCell];exact a3
      case x2 =>
        rintro pre A l o hl ⟨a1,a2,a4⟩
        have e1:(A.putObj l o).heap[w.heap.size]?=A.heap[w.heap.size]?:=World.putObj_heap_other (by omega)
        exact⟨a1,(World.cell?_of_block e1).trans a2,a4.trans (below_put _ _ _ _ (by omega))⟩
      case assign =>
        intro l x W K hK
        gi_wp2
        exact hK
      case body =>
        rintro l pre x W ⟨a1,a2,a3,a4⟩ _
        have hst:badP x=true→KeepsOthers W (W.setCell ⟨w.heap.size,0,none⟩ (.int .i64 210))∧(∃y,y∈pre++[x]∧badP y=true)∧(W.setCell ⟨w.heap.size,0,none⟩ (.int .i64 210)).cell? ⟨w.heap.size,0,none⟩=some (.int .i64 210)∧Below w.heap.size w (W.setCell ⟨w.heap.size,0,none⟩ (.int .i64 210)):=fun hb =>
          ⟨KeepsOthers.setCell _ _ _,⟨x,by simp,hb⟩,World.cell?_setCell_same' _ _ _ (by rw[a2];rfl),a4.setCell (p:=⟨w.heap.size,0,none⟩) (Nat.le_refl _) _⟩
        gi_wp2
        · exact hst (by simp[badP, *])
        · exact hst (by simp[badP, *])
        · rename_i q1 q2 q3
          refine hst ?_
          unfold badP
          rcases q3 with (q | q) | q
          · exact absurd (List.isEmpty_iff.1 q) q1
          · simp[q]
          · simp[q]
        · rename_i q1 q2 q3
          refine⟨KeepsOthers.refl _,Below.refl _ _,fun y hy=>?_,a2,a3,a4⟩
          rcases List.mem_append.1 hy with hy | hy
          · exact a1 y hy
          · have:y=x:=by simpa using hy
            subst this
            unfold badP
            rw[q3.1.2,q3.2]
            simp[q1]
      case done =>
        rintro D W hD ⟨a1,a2,a3,a4⟩ hK
        gi_wp2
        have hK':=(KeepsOthers.setCell W ⟨w.heap.size,0,none⟩ (.int .i64 0)).same D _ hK rfl
        refine⟨by simp,.inl ⟨_,_,rfl,run_takeDeferred hK',?_⟩⟩
        have e1:((W.setCell ⟨w.heap.size,0,none⟩ (.int .i64 0)).putObj D (.deferred none)).heap[w.heap.size]?=(W.setCell ⟨w.heap.size,0,none⟩ (.int .i64 0)).heap[w.heap.size]?:=World.putObj_heap_other (by omega)
        refine hret 0 _ _ rfl ((World.cell?_of_block e1).trans (World.cell?_setCell_same' _ _ _ (by rw[a2];rfl))) ?_ ((a4.setCell (p:=⟨w.heap.size,0,none⟩) (Nat.le_refl _) _).trans (below_put _ _ _ _ (by omega)))
        unfold pathE
        rw[if_neg (by intro h;rcases h with h | h <;> omega),if_neg]
        rw[Bool.not_eq_true,List.any_eq_false]
        intro x hx
        rw[a1 x hx]
        simp
      case stop =>
        rintro D pre W hD hpre ⟨⟨x,hx,hbx⟩,a2,a3⟩ hK
        gi_wp2
        refine⟨by simp,.inl ⟨_,_,rfl,run_takeDeferred hK,?_⟩⟩
        have e1:(W.putObj D (.deferred none)).heap[w.heap.size]?=W.heap[w.heap.size]?:=World.putObj_heap_other (by omega)
        refine hret 210 _ _ rfl ((World.cell?_of_block e1).trans a2) ?_ (a3.trans (below_put _ _ _ _ (by omega)))
        unfold pathE
        rw[if_neg (by intro h;rcases h with h | h <;> omega),if_pos]
        exact List.any_eq_true.2 ⟨x,hpre.subset hx,hbx⟩
end Go.Proofs
