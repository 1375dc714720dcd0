/-
  Law 17: the runs and the hunks are the document's.
-/
import Derived.Test.YtgmdpmpmbhahhaaConb1

set_option linter.unusedSimpArgs false
set_option linter.unusedVariables false
set_option linter.unnecessarySimpa false
set_option maxRecDepth 20000
set_option maxHeartbeats 4000000
namespace Go.AE
@[simp] def S_law17_InterestRuns:List D→Prop × D:=spec4 (α:=List Int) (β:=Int) (γ:=Bool) (δ:=Bool) (fun raw _ _ _=>raw.length≤9223372036854775807) (fun _ _ _ _=>.bool true)
theorem ct_law17_InterestRuns {P:Program} {f g1 g2 g3 g4 g5 g6 g7:Nat} {G:Gam} (h:CodeOf P f 4 14 [4] (x_law17_InterestRuns g1 g2 g3 g4 g5 g6 g7)) (hG:GamOk P G) (h1:G.find g1=some S_law17_pick) (h2:G.find g2=some S_interest_Runs) (h3:G.find g3=some S_ref17_Runs) (h4:G.find g4=some S_interest_Interesting) (h5:G.find g5=some S_ref17_Interesting) (h6:G.find g6=some S_gen_Spans) (h7:G.find g7=some S_law17_awake):Has P f S_law17_InterestRuns:=h.has4 hG fun raw n free dense hp=>by
  obtain⟨hc,hok,_⟩:=pick_valid raw n free
  generalize hv:pickV raw n free=t at *
  have hl:=runsV_len t
  have hl2:=intV_len t (!dense)
  have hn:=hok.1
  obtain⟨par,rows⟩:=t
  simp[x_law17_InterestRuns,h1,h2,h3,h4,h5,h6,h7,hp,hv,hok,hc,intD]
  simp only at hl hl2 hn
  omega
@[simp] def S_law17_InterestHunks:List D→Prop × D:=spec5 (α:=List Int) (β:=Int) (γ:=Bool) (δ:=Bool) (ε:=Int) (fun raw _ _ _ _=>raw.length≤9223372036854775807) (fun _ _ _ _ _=>.bool true)
theorem ct_law17_InterestHunks {P:Program} {f g1 g2 g3 g4 g5 g6:Nat} {G:Gam} (h:CodeOf P f 5 15 [5] (x_law17_InterestHunks g1 g2 g3 g4 g5 g6)) (hG:GamOk P G) (h1:G.find g1=some S_law17_pick) (h2:G.find g2=some S_interest_Hunks) (h3:G.find g3=some S_ref17_Hunks) (h4:G.find g4=some S_gen_Mod) (h5:G.find g5=some S_gen_Spans) (h6:G.find g6=some S_law17_awake):Has P f S_law17_InterestHunks:=h.has5 hG fun raw n free dense c hp=>by
  obtain⟨hc,hok,_⟩:=pick_valid raw n free
  generalize hv:pickV raw n free=t at *
  have hl:=fun c=>spV_len (nearB (intV t (!dense)) c) t.rows.length
  have hl2:∀c,(hunksV t c (!dense)).length≤t.rows.length:=hl
  have hn:=hok.1
  obtain⟨m1,m2⟩:=modV_lt c (n:=4) (by omega)
  obtain⟨par,rows⟩:=t
  have hb:∀c,(hunksV ⟨par,rows⟩ c (!dense)).length≤9223372036854775807:=fun c=>by have:=hl2 c;simp only at this hn;omega
  by_cases hcc:0≤c∧c≤1048576
  · simp[x_law17_InterestHunks,h1,h2,h3,h4,h5,h6,hp,hv,hok,hc,hunksD,hcc,m1,show modV c 4≤1048576 by omega,hb]
  · simp[x_law17_InterestHunks,h1,h2,h3,h4,h5,h6,hp,hv,hok,hc,hunksD,hcc,m1,show modV c 4≤1048576 by omega,hb]
theorem law17_InterestRuns_pre (raw:List Int) (n:Int) (a:Bool) (b:Bool) (w0:Arg.wf raw) (w1:Arg.wf n) (w2:Arg.wf a) (w3:Arg.wf b):raw.length≤9223372036854775807:=by
  have:=len_wf w0
  omega
theorem law17_InterestHunks_pre (raw:List Int) (n:Int) (a:Bool) (b:Bool) (c:Int) (w0:Arg.wf raw) (w1:Arg.wf n) (w2:Arg.wf a) (w3:Arg.wf b) (w4:Arg.wf c):raw.length≤9223372036854775807:=by
  have:=len_wf w0
  omega
end Go.AE
