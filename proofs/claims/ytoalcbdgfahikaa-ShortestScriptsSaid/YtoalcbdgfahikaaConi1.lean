/-
  Law 9: Scripts.
-/
import Derived.Test.YtoalcbdgfahikaaConc1
import Derived.Test.YtoalcbdgfahikaaConf1

set_option linter.unusedSimpArgs false
set_option linter.unusedVariables false
set_option linter.unnecessarySimpa false
set_option maxRecDepth 20000
namespace Go.AE
@[simp] def S_law09_ShortestScripts:List D→Prop × D:=spec4 (α:=List Int) (β:=Int) (γ:=List Int) (δ:=List Int) (fun raw _ _ _=>raw.length≤9223372036854775807) (fun _ _ _ _=>Rep.to true)
theorem ct_law09_ShortestScripts {P:Program} {f g1 g2 g3 g4 g5 g6 g7 g8 g9:Nat} {G:Gam} (h:CodeOf P f 4 24 [4] (x_law09_ShortestScripts g1 g2 g3 g4 g5 g6 g7 g8 g9)) (hG:GamOk P G) (h1:G.find g1=some S_law09_awake) (h2:G.find g2=some S_law09_pair) (h3:G.find g3=some S_shortest_Script) (h4:G.find g4=some S_ref09_Script) (h5:G.find g5=some S_shortest_Distance) (h6:G.find g6=some S_ref09_Distance) (h7:G.find g7=some S_shortest_Common) (h8:G.find g8=some S_ref09_Common) (h9:G.find g9=some S_gen_Changes):Has P f S_law09_ShortestScripts:=h.has4 hG fun raw kinds x y hr=>by
  obtain⟨a,ha⟩:∃a,a=pairA raw kinds:=⟨_,rfl⟩
  obtain⟨b,hb⟩:∃b,b=pairB raw kinds:=⟨_,rfl⟩
  have la:a.length≤12:=by rw[ha];exact pairA_len raw kinds
  have lb:b.length≤12:=by rw[hb];exact pairB_len raw kinds
  have s1:a.length≤1048576:=by omega
  have s2:b.length≤1048576:=by omega
  have s3:a.length≤4096:=by omega
  have s4:b.length≤4096:=by omega
  have hl1:¬longV a b:=by unfold longV;omega
  have hsl:=scriptV_len a b
  have hsl':(scriptV a b).length≤9223372036854775807:=by omega
  by_cases hx:12<x.length
  · have hx':(12:Int)<x.length:=by omega
    simp[x_law09_ShortestScripts,h1,hx,hx']
  · have hx':¬(12:Int)<x.length:=by omega
    by_cases hy:12<y.length
    · have hy':(12:Int)<y.length:=by omega
      simp[x_law09_ShortestScripts,h1,hx,hx',hy,hy']
    · have hy':¬(12:Int)<y.length:=by omega
      have t1:x.length≤1048576:=by omega
      have t2:y.length≤1048576:=by omega
      have t3:x.length≤4096:=by omega
      have t4:y.length≤4096:=by omega
      have hl2:¬longV x y:=by unfold longV;omega
      have hsk:=scriptV_len x y
      have hsk':(scriptV x y).length≤9223372036854775807:=by omega
      simp[x_law09_ShortestScripts,h1,hx',hy',h2,← ha,← hb,hr]
      simp[h1,h3,h4,h5,h6,h7,h8,h9,s1,s2,s3,s4,t1,t2,t3,t4,hl1,hl2,hsl',hsk']
theorem law09_ShortestScripts_pre (raw:List Int) (k:Int) (x:List Int) (y:List Int) (w0:Arg.wf raw) (w1:Arg.wf k) (w2:Arg.wf x) (w3:Arg.wf y):raw.length≤9223372036854775807:=by
  have:=len_wf w0
  have:=len_wf w2
  have:=len_wf w3
  omega
end Go.AE
