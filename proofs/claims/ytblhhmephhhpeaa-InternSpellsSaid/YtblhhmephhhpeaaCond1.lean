/-
  The laws of layer 3,second part.
-/
import Derived.Test.YtblhhmephhhpeaaCona1

set_option linter.unusedSimpArgs false
set_option linter.unusedVariables false
set_option linter.unnecessarySimpa false
namespace Go.AE
@[simp] def S_law03_InternSpells:List D→Prop × D:=spec3 (α:=List Str) (β:=List Int) (γ:=Bool) (fun _ _ _=>True) (fun _ _ _=>Rep.to true)
theorem law03_InternSpells_pre (l:List Str) (m:List Int) (b:Bool) (w0:Arg.wf l) (w1:Arg.wf m) (w2:Arg.wf b):True:=trivial
theorem spell_res (names:List Str) (ids:List Int):∃a e,spellD names ids=.tup [Rep.to (α:=List Str) a,.int .i64 e]∧a.length≤ids.length:=by
  unfold spellD
  split
  · exact⟨_,_,rfl,by simp[spellV]⟩
  · exact⟨_,_,rfl,by simp⟩
theorem ct_law03_InternSpells {P:Program} {f g1 g2 g3 g4 g5:Nat} {G:Gam} (h:CodeOf P f 3 13 [3] (x_law03_InternSpells g1 g2 g3 g4 g5)) (hG:GamOk P G)
    (h1:G.find g1=some S_law03_awake) (h2:G.find g2=some S_gen_Mod) (h3:G.find g3=some S_intern_Spell) (h4:G.find g4=some S_ref03_Spell) (h5:G.find g5=some S_gen_Strings):Has P f S_law03_InternSpells:=h.has3 hG fun names ids fit _=>by
  simp[x_law03_InternSpells,h1]
  intro hn hi
  obtain⟨Tf,hT⟩:∃Tf:List Int→List A,∀l,Tf l=[.d (Rep.to names),.d (Rep.to ids),.d (.bool fit),.any,.own 0 l.length 0 l.length,.d (.int .i64 l.length),.any,.any,.any,.any,.any,.any,.any]:=⟨_,fun _=>rfl⟩
  obtain⟨sf,hs⟩:∃sf:List Int→Store,∀l,sf l=[.cells l.length 1 (l.map fun x=>.d (Rep.to x))]:=⟨_,fun _=>rfl⟩
  refine vc_ghostR (σ:=List Int) (fun l=>l.length≤ids.length) (fun l=>ids.length-l.length) Tf sf [] ⟨?_,by simp⟩ ?_
  · rw[hT,hs]
    refine Re.wn (s':=[]) [true,true,true,false,true,true] [.cells 0 1 []] (by simp) (by simp) ?_ (by simp) (by simp)
    simp
    exact Wk.freshO _ _ _ 0 rfl
  intro l hl
  rw[hT,hs]
  simp
  refine⟨fun h6=>?_,fun h6=>?_⟩
  · have e:=add1 (i:=l.length) (n:=ids.length) h6 (by omega)
    have hm:∀x n,1≤n→0≤modV x n:=fun x n h=>(modV_lt x h).1
    simp[getD_map,h6,h2]
    refine⟨by unfold room;omega,fun h7=>⟨fun h8=>?_,fun h8=>?_⟩,fun h7=>?_⟩
    · refine⟨⟨by omega,by omega⟩,by omega,l++[modV ids[l.length] names.length],by simp;omega,?_,by simp;omega⟩
      rw[hT,hs]
      refine Re.wf _ [true,true,true,false,true,true] 1 (by omega) (by simp) (WkS.refl _ _ _) ?_ (by simp[e]) (by simp)
      right
      simp
    · refine⟨l++[ids[l.length]],by simp;omega,?_,by simp;omega⟩
      rw[hT,hs]
      refine Re.wf _ [true,true,true,false,true,true] 1 (by omega) (by simp) (WkS.refl _ _ _) (.inr (by simp)) (by simp[e]) (by simp)
    · refine⟨l++[ids[l.length]],by simp;omega,?_,by simp;omega⟩
      rw[hT,hs]
      refine Re.wf _ [true,true,true,false,true,true] 1 (by omega) (by simp) (WkS.refl _ _ _) (.inr (by simp)) (by simp[e]) (by simp)
  · have hfz:((((l.map fun x=>A.d (Rep.to x)).drop 0).take l.length).all A.isD)=true:=by
      rw[List.drop_zero,List.take_of_length_le (by simp),List.all_eq_true]
      intro x hx
      obtain⟨y,_,rfl⟩:=List.mem_map.1 hx
      rfl
    have hfr:=Fz.own 0 l.length 1 0 l.length (l.map fun x=>A.d (Rep.to x)) hfz
    rw[List.drop_zero,List.take_of_length_le (by simp),List.map_map] at hfr
    refine Hint.of (T':=[.d (Rep.to names),.d (Rep.to ids),.any,.any,.d (Rep.to l),.any,.any,.any,.any,.any,.any,.any,.any]) (s':=[.dead]) (Re.freeze 0 l.length 1 _ rfl ?_ ⟨rfl,?_⟩ rfl) ?_
    · simp
      exact hfr
    · intro k hk h0
      simp at hk
      omega
    · obtain⟨a,e,hsp,ha⟩:=spell_res names l
      simp[h3,h4,h5,h1,hsp]
      exact⟨by omega,by omega⟩
end Go.AE
