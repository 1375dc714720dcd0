/-
  strings.SplitSeq at this seat: the iterator.
-/
import Derived.Test.YtlkndcbimdcnpaaDoorShS8D
import Derived.Test.YtlkndcbimdcnpaaDoorCona1
import Derived.Deep.RegionHeld
import Derived.Laws.Strings2
import Derived.LoopIn
import Derived.LoopNIn
import Derived.OwnWalkIn
import Derived.RangeFuncBound
import Derived.RangeFuncCalls
import Derived.RangeFuncLeaves
import Derived.RangeFuncNested
import Derived.Shelf.Abstract
import Derived.Shelf.RegionOpen
import Derived.TacticsInMore
import Derived.WalkKit

set_option linter.unusedSimpArgs false
set_option linter.unusedVariables false
set_option linter.unnecessarySimpa false
set_option linter.unusedVariables false
namespace Go.Proofs
open Go.RowKit Go.Shelf Go.AE
attribute [local go_sem] Oper.semAt_some
def strAt (w:World) (b:Nat):Nat:=match w.cell? ⟨b,0,none⟩ with
  | some (.string s)=>s.size
  | _=>0
theorem cutT (w:World) (s:List UInt8) (b:Nat) (h:b≤s.length):(Instr.slice 9 (.string ⟨s.toArray⟩) none (some (.int .i64 b)) none).run Tryd.prog w=.ok (.string ⟨(s.take b).toArray⟩) w:=by
  have hsz:(ByteArray.mk s.toArray).size=s.length:=by show s.toArray.size=_;simp
  rw[run_slice_string_h w (t:=9) (s:=⟨s.toArray⟩) Tryd.underlying9 .i64 (b:Int) (by omega) (by rw[hsz];omega)]
  congr 3
  apply ByteArray.ext
  rw[ByteArray.data_extract]
  simp
theorem cutD (w:World) (s:List UInt8) (a:Nat) (h:a≤s.length):(Instr.slice 9 (.string ⟨s.toArray⟩) (some (.int .i64 a)) none none).run Tryd.prog w=.ok (.string ⟨(s.drop a).toArray⟩) w:=by
  have hsz:(ByteArray.mk s.toArray).size=s.length:=by show s.toArray.size=_;simp
  rw[run_slice_string_l w (t:=9) (s:=⟨s.toArray⟩) Tryd.underlying9 .i64 (a:Int) (by omega) (by rw[hsz];omega)]
  congr 3
  apply ByteArray.ext
  rw[ByteArray.data_extract,hsz]
  simp
  exact List.take_of_length_le (by simp)
set_option maxRecDepth 100000 in
set_option maxHeartbeats 4000000 in
theorem Tryd.split1_in (n:Nat) (hn:1≤n) (l bs bp bk n₀:Nat) (t0:List UInt8) (h1:bs<n₀) (h2:bp<n₀) (h3:bk<n₀) (h4:bs≠bp) (h5:bs≠bk) (ht0:t0.length≤1000000) (J Jx:List (List UInt8)→World→Prop)
    (hY:∀pre x W,J pre W→pre.length<(splitB t0).length→YieldAt Fence.wide (n-1) Tryd.prog l #[.string ⟨x.toArray⟩] W fun e W' =>
      (e=.returned (.bool true)∧J (pre++[x]) W'∧Below n₀ W W')∨(e=.returned (.bool false)∧Jx (pre++[x]) W'))
    (hJ:∀pre W v,J pre W→J pre (W.setCell ⟨bs,0,none⟩ v))
    (W:World) (c1:W.cell? ⟨bp,0,none⟩=some (.string ⟨#[47]⟩)) (c2:W.cell? ⟨bs,0,none⟩=some (.string ⟨t0.toArray⟩)) (c3:W.cell? ⟨bk,0,none⟩=some (.int .i64 0)) (f1:W.frozen? ⟨bs,0,none⟩=false) (h0:J [] W) :
    CallsIn Fence.wide n Tryd.prog 74 #[.func (.yield l) #[] #[],.pointer (some ⟨bp,0,none⟩),.pointer (some ⟨bs,0,none⟩),.pointer (some ⟨bk,0,none⟩)] W fun e W'=>(∃v,e=.returned v) ∧
      (J (splitB t0) W'∨(∃pre,pre <+: splitB t0∧Jx pre W')):=by
  refine callsIn_of_wp Tryd.func74 rfl trivial ?_ rfl
  simp only[Tryd.ntmps74,List.size_toArray,List.length_cons,List.length_nil,Nat.reduceAdd,Nat.reduceSub,Array.replicate_succ,Array.replicate_zero,List.push_toArray,List.append_toArray,List.nil_append,List.cons_append]
  gi_wp2
  gi_loopw [] (fun wr=>∃(pre:List (List UInt8)) (t:List UInt8),splitB t0=pre++splitB t∧t.length≤t0.length∧J pre wr∧wr.cell? ⟨bs,0,none⟩=some (.string ⟨t.toArray⟩)∧wr.cell? ⟨bp,0,none⟩=some (.string ⟨#[47]⟩)∧wr.cell? ⟨bk,0,none⟩=some (.int .i64 0)∧wr.frozen? ⟨bs,0,none⟩=false)
    (fun wr=>strAt wr bs)
  case atStart =>
    exact⟨[],t0,rfl,Nat.le_refl _,h0,c2,c1,c3,f1⟩
  case round =>
    obtain⟨pre,t,hsp,htl,hJs,d2,d1,d3,d4⟩:=hrel
    have h68:Fence.wide.fn 68:=trivial
    rcases split_idx t with ⟨e1,e2⟩ | ⟨j,e1,e2,e3⟩
    · have hix:CallsIn Fence.wide (n-1) Tryd.prog 68 #[.string ⟨t.toArray⟩,.string ⟨#[47]⟩] wr fun e w'=>e=.returned (.int .i64 (-1))∧w'=wr:=by
        refine callsIn_wide.2 ((Tryd.strings_Index_one ⟨t.toArray⟩ 47 wr).mono ?_)
        rintro e w' ⟨rfl,rfl⟩
        exact⟨by simp[e1],rfl⟩
      have hpl:pre.length<(splitB t0).length:=by rw[hsp,e2];simp
      obtain⟨fn,tmps,assign,body,hy,hR⟩:=hY pre t wr hJs hpl
      gi_wp2_with (gi_at_call 68;refine hix.mono ?_;rintro e w' ⟨rfl,rfl⟩)
      refine hR.mono ?_
      rintro e W3 (⟨rfl,hJ3,hk3⟩ | ⟨rfl,hJx3⟩)
      · gi_wp2
        go_end0
        exact⟨⟨_,rfl⟩,.inl (by rw[hsp,e2];exact hJ3)⟩
      · gi_wp2
        go_end0
        exact⟨⟨_,rfl⟩,.inr ⟨pre++[t],⟨[],by rw[hsp,e2];simp⟩,hJx3⟩⟩
    · have hix:CallsIn Fence.wide (n-1) Tryd.prog 68 #[.string ⟨t.toArray⟩,.string ⟨#[47]⟩] wr fun e w'=>e=.returned (.int .i64 j)∧w'=wr:=by
        refine callsIn_wide.2 ((Tryd.strings_Index_one ⟨t.toArray⟩ 47 wr).mono ?_)
        rintro e w' ⟨rfl,rfl⟩
        exact⟨by simp[e1],rfl⟩
      have hsl1:∀w,(Instr.slice 9 (.string ⟨t.toArray⟩) none (some (.int .i64 j)) none).run Tryd.prog w=.ok (.string ⟨(t.take j).toArray⟩) w:=fun w=>cutT w t j (by omega)
      have hsl2:∀w,(Instr.slice 9 (.string ⟨t.toArray⟩) (some (.int .i64 (j+1))) none none).run Tryd.prog w=.ok (.string ⟨(t.drop (j+1)).toArray⟩) w:=fun w=>cutD w t (j+1) (by omega)
      have hpl:pre.length<(splitB t0).length:=by rw[hsp,e3];simp
      obtain⟨fn,tmps,assign,body,hy,hR⟩:=hY pre (t.take j) wr hJs hpl
      gi_wp2_with (gi_at_call 68;refine hix.mono ?_;rintro e w' ⟨rfl,rfl⟩)
      refine hR.mono ?_
      rintro e W3 (⟨rfl,hJ3,hk3⟩ | ⟨rfl,hJx3⟩)
      · have k2:=(hk3.cell (p:=⟨bs,0,none⟩) h1).trans d2
        have k1:=(hk3.cell (p:=⟨bp,0,none⟩) h2).trans d1
        have k3:=(hk3.cell (p:=⟨bk,0,none⟩) h3).trans d3
        have k4:=(hk3.frozen (p:=⟨bs,0,none⟩) h1).trans d4
        gi_wp2
        go_roundw
        case rel =>
          refine⟨pre++[t.take j],t.drop (j+1),by rw[hsp,e3];simp,by simp;omega,hJ _ _ _ hJ3,?_,?_,?_,?_⟩
          · exact World.cell?_setCell_same' _ _ _ (by rw[k2];rfl)
          · rw[World.cell?_setCell_far _ _ _ _ h4];exact k1
          · rw[World.cell?_setCell_far _ _ _ _ h5];exact k3
          · rw[World.frozen?_setCell];exact k4
        case measure =>
          unfold strAt
          rw[World.cell?_setCell_same' _ _ _ (by rw[k2];rfl),d2]
          simp[ByteArray.size]
          omega
      · gi_wp2
        refine bodyPost_ret (results_none rfl _ _ _) rfl ?_
        exact⟨⟨_,rfl⟩,.inr ⟨pre++[t.take j],⟨splitB (t.drop (j+1)),by rw[hsp,e3];simp⟩,hJx3⟩⟩
end Go.Proofs
