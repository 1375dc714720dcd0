/-
  The laws of the shortest script,third part.
-/
import Derived.Test.YtoalcbdgfahikaaConb1

set_option linter.unusedSimpArgs false
set_option linter.unusedVariables false
set_option linter.unnecessarySimpa false
set_option maxRecDepth 20000
namespace Go.AE
theorem chgV_len:∀(q:List SpanT) (i j:Int),(chgV q i j).length≤q.length
  | [],_,_=>by simp[chgV]
  | s::q,i,j=>by
    have:=chgV_len q (s.fr+1) (s.to+1)
    simp only[chgV]
    split <;> simp <;> omega
theorem scriptV_len (a b:List Int):(scriptV a b).length≤a.length+1:=by
  unfold scriptV madeV
  have h1:=chgV_len (walkV a b 0 0++[⟨a.length,b.length⟩]) 0 0
  have h2:=walkV_len a b 0 0
  simp only[List.length_append,List.length_cons,List.length_nil] at h1
  omega
theorem chgV_in:∀(q:List SpanT) (i j B:Int),(∀s,s∈q→0≤s.fr∧s.fr≤B∧0≤s.to∧s.to≤B)→0≤i→i≤B+1→0≤j→j≤B+1→∀c,c∈chgV q i j→0≤c.old∧c.old≤B+1∧0≤c.new∧c.new≤B+1
  | [],_,_,_,_,_,_,_,_,c,hc=>by simp[chgV] at hc
  | s::q,i,j,B,h,h1,h2,h3,h4,c,hc=>by
    have hs:=h s (by simp)
    have ih:=chgV_in q (s.fr+1) (s.to+1) B (fun x hx=>h x (by simp[hx])) (by omega) (by omega) (by omega) (by omega)
    simp only[chgV] at hc
    split at hc
    · rcases List.mem_cons.1 hc with rfl | hc
      · exact⟨h1,h2,h3,h4⟩
      · exact ih c hc
    · exact ih c hc
theorem scriptV_in {a b:List Int} {B:Int} (ha:(a.length:Int)≤B) (hb:(b.length:Int)≤B):∀c,c∈scriptV a b→0≤c.old∧c.old≤B+1∧0≤c.new∧c.new≤B+1:=by
  unfold scriptV madeV
  refine chgV_in _ 0 0 B (fun s hs=>?_) (Int.le_refl _) (by omega) (Int.le_refl _) (by omega)
  rcases List.mem_append.1 hs with hs | hs
  · have hw:=walkV_asc a b 0 0
    have:=ascB_mem hw s hs
    omega
  · rw[List.mem_singleton.1 hs]
    simp only
    omega
@[simp] def S_law09_ShortestPrefix:List D→Prop × D:=spec3 (α:=List Int) (β:=Int) (γ:=Int) (fun raw _ _=>raw.length≤9223372036854775807) (fun _ _ _=>Rep.to true)
theorem ct_law09_ShortestPrefix {P:Program} {f g1 g2 g3 g4 g5:Nat} {G:Gam} (h:CodeOf P f 3 17 [3] (x_law09_ShortestPrefix g1 g2 g3 g4 g5)) (hG:GamOk P G) (h1:G.find g1=some S_law09_pair) (h2:G.find g2=some S_gen_Mod) (h3:G.find g3=some S_gen_Ids) (h4:G.find g4=some S_shortest_Script) (h5:G.find g5=some S_law09_awake):Has P f S_law09_ShortestPrefix:=h.has3 hG fun raw kinds more hr=>by
  have hmo:=modV_lt more (n:=6) (by omega)
  obtain⟨a,ha⟩:∃a,a=pairA raw kinds:=⟨_,rfl⟩
  obtain⟨b,hb⟩:∃b,b=pairB raw kinds:=⟨_,rfl⟩
  obtain⟨n,hn⟩:∃n:Nat,modV more 6=(n:Int):=⟨_,(Int.toNat_of_nonneg hmo.1).symm⟩
  obtain⟨p,hp⟩:∃p,p=idsG raw 90 n 3:=⟨_,rfl⟩
  have la:a.length≤12:=by rw[ha];exact pairA_len raw kinds
  have lb:b.length≤12:=by rw[hb];exact pairB_len raw kinds
  have lp:p.length=n:=by rw[hp,idsG_len]
  have s1:a.length≤1048576:=by omega
  have s2:b.length≤1048576:=by omega
  have hl1:¬longV a b:=by unfold longV;omega
  have hl2:¬longV (p++a) (p++b):=by unfold longV;simp only[List.length_append];omega
  have s3:(p++a).length≤1048576:=by rw[List.length_append];omega
  have s4:(p++b).length≤1048576:=by rw[List.length_append];omega
  have hsc:=scriptV_app p a b
  have hsl:=scriptV_len a b
  have hsi:=scriptV_in (a:=a) (b:=b) (B:=12) (by omega) (by omega)
  have r1:∀k:Nat,k≤100→room k 8:=fun k hk=>by unfold room;omega
  have r2:=r1 p.length (by omega)
  have r3:=r1 (p.length+a.length) (by omega)
  have r4:=r1 (p.length+b.length) (by omega)
  have n1:(n:Int)≤1000000:=by omega
  rw[lp] at hsc r2 r3 r4
  simp only[List.length_append] at s3 s4
  rw[lp] at s3 s4
  simp[x_law09_ShortestPrefix,h1,h2,h3,← ha,← hb,hr,hn,n1]
  simp[← hp,h4,s1,s2,hl1,r2,r3,r4,lp,hl2,s3,s4,hsc]
  generalize scriptV a b=l at *
  refine vc_ghost (σ:=Nat) [false,false,false,false,false,false,true,false,true,false,true,false,true] 0 (fun k=>k≤l.length) (fun k=>l.length-k) (fun k=>[.any,.any,.any,.any,.any,.any,.d (.int .i64 n),.any,.d (.sl 4 (l.map Rep.to)),.any,.d (.sl 4 (l.map (Rep.to ∘ shiftC n))),.any,.d (.int .i64 k),.any,.any,.any,.any]) (fun _=>[]) 0 (by omega) (by simp[inScope]) ⟨by simp,by simp,by omega⟩ ?_
  intro k hk
  simp
  refine⟨fun h6=>?_,fun h6=>?_⟩
  · have e:=add1 h6 (by omega)
    obtain⟨q1,q2,q3,q4⟩:=hsi _ (List.getElem_mem h6)
    have w1:=wrap_in (n:=l[k].old+n) (by omega) (by omega)
    have w2:=wrap_in (n:=l[k].new+n) (by omega) (by omega)
    simp[getD_map,h6,e,w1,w2,pairsOk,eSeq,cellsEq,cellEq,shiftC,inScope]
    exact⟨k+1,by omega,by simp,by omega⟩
  · simp[h5]
theorem law09_ShortestPrefix_pre (raw:List Int) (k:Int) (m:Int) (w0:Arg.wf raw) (w1:Arg.wf k) (w2:Arg.wf m):raw.length≤9223372036854775807:=by
  have:=len_wf w0
  omega
end Go.AE
