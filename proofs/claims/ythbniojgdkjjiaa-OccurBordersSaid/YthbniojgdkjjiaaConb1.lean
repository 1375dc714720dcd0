/-
  Law 07: OccurFinds,OccurBorders.
-/
import Derived.Test.YthbniojgdkjjiaaCona1

set_option linter.unusedSimpArgs false
set_option linter.unusedVariables false
set_option linter.unnecessarySimpa false
set_option maxRecDepth 20000
set_option maxHeartbeats 1000000
namespace Go.AE
@[simp] def S_law07_OccurBorders:List D→Prop × D:=spec2 (α:=Str) (β:=List Int) (fun s raw=>s.length≤9223372036854775807∧raw.length≤9223372036854775807) (fun _ _=>.bool true)
theorem law07_OccurBorders_pre (s:Str) (raw:List Int) (w0:Arg.wf s) (w1:Arg.wf raw):s.length≤9223372036854775807∧raw.length≤9223372036854775807:=by
  have:=str_wf w0
  have:=len_wf w1
  omega
theorem ct_law07_OccurBorders {P:Program} {f g1 g2 g3 g4 g5:Nat} {G:Gam} (h:CodeOf P f 2 5 [2] (x_law07_OccurBorders g1 g2 g3 g4 g5)) (hG:GamOk P G) (h1:G.find g1=some S_law07_awake) (h2:G.find g2=some S_law07_word) (h3:G.find g3=some S_occur_Borders) (h4:G.find g4=some S_ref07_Borders) (h5:G.find g5=some S_gen_Ints):Has P f S_law07_OccurBorders:=h.has2 hG fun s raw hp=>by
  obtain⟨p1,p2⟩:=hp
  have q2:s.length≤9223372036854775807:=by omega
  have ht:=wordV_len (raw:=raw) (fr:=0) (n:=25) (by omega)
  have w1:(wordV raw 0 25).length≤1048576:=by omega
  have w2:(wordV raw 0 25).length≤4194304:=by omega
  have w3:(wordV raw 0 25).length≤9223372036854775807:=by omega
  by_cases c:s.length≤60
  · have c':¬(60<(s.length:Int)):=by omega
    have q0:s.length≤1048576:=by omega
    have q1:s.length≤4194304:=by omega
    simp[x_law07_OccurBorders,h1,h2,h3,h4,h5,q0,p2,q1,q2,w1,w2,w3,c,c',bordsV_len]
  · have c':60<(s.length:Int):=by omega
    simp[x_law07_OccurBorders,h1,h2,h3,h4,h5,c']
@[simp] def S_law07_OccurFinds:List D→Prop × D:=spec4 (α:=Str) (β:=Str) (γ:=Int) (δ:=List Int) (fun n s _ raw=>n.length≤9223372036854775807∧s.length≤9223372036854775807∧raw.length≤9223372036854775807) (fun _ _ _ _=>.bool true)
theorem law07_OccurFinds_pre (n:Str) (s:Str) (i:Int) (raw:List Int) (w0:Arg.wf n) (w1:Arg.wf s) (w2:Arg.wf i) (w3:Arg.wf raw):n.length≤9223372036854775807∧s.length≤9223372036854775807∧raw.length≤9223372036854775807:=by
  have:=str_wf w0
  have:=str_wf w1
  have:=len_wf w3
  omega
theorem ct_law07_OccurFinds {P:Program} {f g1 g2 g3 g4 g5 g6 g7 g8 g9:Nat} {G:Gam} (h:CodeOf P f 4 16 [4] (x_law07_OccurFinds g1 g2 g3 g4 g5 g6 g7 g8 g9)) (hG:GamOk P G) (h1:G.find g1=some S_law07_awake) (h2:G.find g2=some S_occur_Next) (h3:G.find g3=some S_ref07_Next) (h4:G.find g4=some S_law07_word) (h5:G.find g5=some S_gen_Mod) (h6:G.find g6=some S_occur_Positions) (h7:G.find g7=some S_ref07_Positions) (h8:G.find g8=some S_gen_Ints) (h9:G.find g9=some S_occur_Count):Has P f S_law07_OccurFinds:=h.has4 hG fun n s i raw hp=>by
  obtain⟨p1,p2,p3⟩:=hp
  by_cases c:n.length≤30
  · have c':¬(30<(n.length:Int)):=by omega
    by_cases d:s.length≤100
    · have d':¬(100<(s.length:Int)):=by omega
      have q1:s.length≤4194304:=by omega
      have q2:n.length≤4194304:=by omega
      have q3:s.length≤1048576:=by omega
      have q4:n.length≤1048576:=by omega
      have hn:=wordV_len (raw:=raw) (fr:=0) (n:=4) (by omega)
      have ht:=wordV_len (raw:=raw) (fr:=20) (n:=30) (by omega)
      have a1:(wordV raw 0 4).length≤1048576:=by omega
      have a2:(wordV raw 0 4).length≤4194304:=by omega
      have b1:(wordV raw 20 30).length≤1048576:=by omega
      have b2:(wordV raw 20 30).length≤4194304:=by omega
      have w:IntKind.i64.wrap (((wordV raw 20 30).length:Int)+2)=(wordV raw 20 30).length+2:=wrap_in (by omega) (by omega)
      have w1:(1:Int)≤(wordV raw 20 30).length+2:=by omega
      have w2:((wordV raw 20 30).length:Int)+2≤9223372036854775807:=by omega
      have k1:(posI n s).length≤9223372036854775807:=by have:=posI_len n s;omega
      have k2:(posI (wordV raw 0 4) (wordV raw 20 30)).length≤9223372036854775807:=by have:=posI_len (wordV raw 0 4) (wordV raw 20 30);omega
      simp[x_law07_OccurFinds,h1,h2,h3,h4,h5,h6,h7,h8,h9,p3,q1,q2,q3,q4,a1,a2,b1,b2,w,w1,w2,k1,k2,c',d']
    · have d':100<(s.length:Int):=by omega
      simp[x_law07_OccurFinds,h1,c',d']
  · have c':30<(n.length:Int):=by omega
    simp[x_law07_OccurFinds,h1,c']
end Go.AE
