/-
  The laws of the shortest script,second part.
-/
import Derived.Test.YtoalcbdgfahikaaCona1

set_option linter.unusedSimpArgs false
set_option linter.unusedVariables false
set_option linter.unnecessarySimpa false
set_option maxRecDepth 20000
namespace Go.AE
def shiftS (n:Int) (s:SpanT):SpanT:=⟨s.fr+n,s.to+n⟩
def shiftC (n:Int) (c:ChangeT):ChangeT:=⟨c.old+n,c.oldLen,c.new+n,c.newLen⟩
theorem walkV_shift (n:Int) (a b:List Int) (i j:Int):walkV a b (i+n) (j+n)=(walkV a b i j).map (shiftS n):=by
  generalize hk:a.length+b.length=k
  induction k using Nat.strongRecOn generalizing a b i j with
  | _ k ih =>
    cases a with
    | nil=>rw[walkV_nil,walkV_nil];rfl
    | cons x a =>
      cases b with
      | nil=>rw[walkV_nil',walkV_nil'];rfl
      | cons y b =>
        simp only[List.length_cons] at hk
        by_cases h:x=y
        · subst h
          have:=ih (a.length+b.length) (by omega) a b (i+1) (j+1) rfl
          rw[walkV_eq,walkV_eq,List.map_cons,← this]
          simp only[shiftS]
          congr 2 <;> omega
        · rw[walkV_ne h,walkV_ne h]
          split
          · have:=ih (a.length+(b.length+1)) (by omega) a (y::b) (i+1) j (by simp)
            rw[← this]
            congr 1
            omega
          · have:=ih ((a.length+1)+b.length) (by omega) (x::a) b i (j+1) (by simp)
            rw[← this]
            congr 1
            omega
theorem chgV_shift (n:Int):∀(q:List SpanT) (i j:Int),chgV (q.map (shiftS n)) (i+n) (j+n)=(chgV q i j).map (shiftC n)
  | [],_,_=>rfl
  | s::q,i,j=>by
    have ih:=chgV_shift n q (s.fr+1) (s.to+1)
    have e1:s.fr+n+1=s.fr+1+n:=by omega
    have e2:s.to+n+1=s.to+1+n:=by omega
    simp only[List.map_cons,chgV,shiftS,e1,e2,ih]
    by_cases h:s.fr > i∨s.to > j
    · rw[if_pos h,if_pos (by omega),List.map_cons]
      simp only[shiftC]
      congr 2 <;> omega
    · rw[if_neg h,if_neg (by omega)]
theorem chgV_beg (q:List SpanT):∀(n:Nat) (i:Int),chgV ((List.range n).map (fun k=>(⟨i+(k:Nat),i+(k:Nat)⟩:SpanT))++q) i i=chgV q (i+n) (i+n)
  | 0,i=>by simp
  | n+1,i=>by
    rw[List.range_succ_eq_map,List.map_cons,List.map_map,List.cons_append]
    have:((fun k=>(⟨i+(k:Nat),i+(k:Nat)⟩:SpanT)) ∘ Nat.succ)=fun k:Nat=>(⟨i+1+(k:Nat),i+1+(k:Nat)⟩:SpanT):=by
      funext k
      simp only[Function.comp,SpanT.mk.injEq]
      omega
    rw[this]
    have ih:=chgV_beg q n (i+1)
    simp only[chgV,Int.natCast_zero,Int.add_zero]
    rw[if_neg (by omega),ih]
    congr 1 <;> omega
theorem walkV_app (p a b:List Int):∀(i j:Int),walkV (p++a) (p++b) i j=(List.range p.length).map (fun k=>(⟨i+(k:Nat),j+(k:Nat)⟩:SpanT))++walkV a b (i+p.length) (j+p.length):=by
  induction p with
  | nil=>intro i j;simp
  | cons x p ih =>
    intro i j
    rw[List.cons_append,List.cons_append,walkV_eq,ih,List.length_cons,List.range_succ_eq_map,List.map_cons,List.map_map,List.cons_append]
    congr 1
    · simp
    · congr 1
      · refine List.map_congr_left fun k _=>?_
        simp only[Function.comp,SpanT.mk.injEq]
        omega
      · congr 1 <;> push_cast <;> omega
theorem scriptV_app (p a b:List Int):scriptV (p++a) (p++b)=(scriptV a b).map (shiftC p.length):=by
  unfold scriptV madeV
  rw[walkV_app,List.append_assoc,chgV_beg,← chgV_shift,List.map_append,List.map_cons,List.map_nil]
  have:=walkV_shift p.length a b 0 0
  rw[this]
  congr 3
  simp only[shiftS,List.length_append,SpanT.mk.injEq]
  omega
theorem scriptV_self (a:List Int):scriptV a a=[]:=by
  have:=scriptV_app a [] []
  rw[List.append_nil] at this
  rw[this]
  have:scriptV [] []=[]:=by decide +kernel
  rw[this]
  rfl
@[simp] def S_law09_ShortestLimits:List D→Prop × D:=spec1 (α:=Bool) (fun _=>True) (fun _=>Rep.to true)
theorem ct_law09_ShortestLimits {P:Program} {f g1 g2 g3 g4:Nat} {G:Gam} (h:CodeOf P f 1 11 [1] (x_law09_ShortestLimits g1 g2 g3 g4)) (hG:GamOk P G) (h1:G.find g1=some S_shortest_Script) (h2:G.find g2=some S_shortest_Distance) (h3:G.find g3=some S_shortest_Common) (h4:G.find g4=some S_law09_awake):Has P f S_law09_ShortestLimits:=h.has1 hG fun more _=>by
  have key:∀n:Nat,n≤4097→∀x:List Int,x=List.replicate n 0→((longV x x↔4096<n)∧(longV [] x↔4096<n)∧(longV x []↔4096<n)∧x.length=n):=by
    intro n hn x hx
    have hl:x.length=n:=by rw[hx];simp
    refine⟨?_,?_,?_,hl⟩ <;> unfold longV <;> simp only[hl,List.length_nil] <;> omega
  have hfz:∀n:Nat,Fz 0 0 1 (List.replicate n (A.d (.int .i64 0))) (.own 0 0 0 n) (.d (.sl 1 ((List.replicate n (0:Int)).map Rep.to))):=by
    intro n
    have h:=Fz.own 0 0 1 0 n (List.replicate n (A.d (.int .i64 0))) (by
      rw[List.drop_zero,List.take_of_length_le (by simp),List.all_eq_true]
      intro x hx
      rw[(List.mem_replicate.1 hx).2]
      rfl)
    rw[List.drop_zero,List.take_of_length_le (by simp),List.map_replicate] at h
    rw[List.map_replicate]
    exact h
  have w1:=wrap_in (n:=4097) (by omega) (by omega)
  cases more with
  | true =>
    obtain⟨x,hx⟩:∃x,x=List.replicate 4097 (0:Int):=⟨_,rfl⟩
    obtain⟨k1,k2,k3,k4⟩:=key 4097 (by omega) x hx
    have k1:=k1.2 (by omega)
    have k2:=k2.2 (by omega)
    have k3:=k3.2 (by omega)
    have hf:=hfz 4097
    rw[← hx] at hf
    simp[x_law09_ShortestLimits,pairsOk,w1]
    refine⟨by unfold room;omega,?_⟩
    refine Hint.of (T':=[.d (.bool true),.d (.bool false),.d (.int .i64 4097),.d (.sl 1 (x.map Rep.to)),.any,.any,.any,.any,.any,.any,.any]) (s':=[.dead]) (Re.freeze 0 0 1 _ rfl ?_ ⟨rfl,?_⟩ rfl) ?_
    · simp
      exact hf
    · intro k hk h0
      simp at hk
      omega
    · simp[h1,h2,h3,h4,k1,k2,k3,k4]
  | false =>
    obtain⟨x,hx⟩:∃x,x=List.replicate 4096 (0:Int):=⟨_,rfl⟩
    obtain⟨k1,k2,k3,k4⟩:=key 4096 (by omega) x hx
    have k1:¬longV x x:=fun h=>absurd (k1.1 h) (by omega)
    have k2:¬longV [] x:=fun h=>absurd (k2.1 h) (by omega)
    have k3:¬longV x []:=fun h=>absurd (k3.1 h) (by omega)
    have hf:=hfz 4096
    rw[← hx] at hf
    have hs:=scriptV_self x
    simp[x_law09_ShortestLimits,pairsOk]
    refine⟨by unfold room;omega,?_⟩
    refine Hint.of (T':=[.d (.bool false),.d (.bool false),.d (.int .i64 4096),.d (.sl 1 (x.map Rep.to)),.any,.any,.any,.any,.any,.any,.any]) (s':=[.dead]) (Re.freeze 0 0 1 _ rfl ?_ ⟨rfl,?_⟩ rfl) ?_
    · simp
      exact hf
    · intro k hk h0
      simp at hk
      omega
    · simp[h1,h2,h3,h4,k1,k2,k3,k4,hs]
theorem law09_ShortestLimits_pre (m:Bool) (w0:Arg.wf m):True:=trivial
end Go.AE
