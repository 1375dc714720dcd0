/-
  The laws of layer 3,third part.
-/
import Derived.Test.YtblhhmephhhpeaaCona1

set_option linter.unusedSimpArgs false
set_option linter.unusedVariables false
set_option linter.unnecessarySimpa false
namespace Go.AE
theorem mem_fold (xs:List Str):∀out:List Str,∀x,x∈xs.foldl addV out↔x∈out∨x∈xs:=by
  induction xs with
  | nil=>intro out x;simp
  | cons y xs ih =>
    intro out x
    rw[List.foldl_cons,ih]
    unfold addV
    by_cases hy:y∈out
    · simp only[hy,if_true,List.mem_cons]
      constructor
      · rintro (h | h)
        · exact .inl h
        · exact .inr (.inr h)
      · rintro (h | rfl | h)
        · exact .inl h
        · exact .inl hy
        · exact .inr h
    · simp only[hy,if_false,List.mem_append,List.mem_cons,List.not_mem_nil,or_false,or_assoc]
theorem mem_names {l:List (List Str)} {x:Str}:x∈namesV l↔∃y,y∈l∧x∈y:=by
  unfold namesV
  rw[mem_fold]
  simp
theorem placeV_mem {l:List Str} {x:Str} (h:x∈l):∃k:Nat,∃hk:k<l.length,placeV l x=k∧l[k]=x:=by
  unfold placeV
  cases hf:l.findIdx? (· == x) with
  | none =>
    rw[List.findIdx?_eq_none_iff] at hf
    simpa using hf x h
  | some k =>
    rw[List.findIdx?_eq_some_iff_getElem] at hf
    obtain⟨hk,h1,_⟩:=hf
    exact⟨k,hk,rfl,by simpa using h1⟩
theorem placeV_inj {l:List Str} {x y:Str} (hx:x∈l) (hy:y∈l):placeV l x=placeV l y↔x=y:=by
  obtain⟨a,ha,h1,h2⟩:=placeV_mem hx
  obtain⟨b,hb,h3,h4⟩:=placeV_mem hy
  constructor
  · intro h
    have:a=b:=by omega
    subst this
    rw[← h2,← h4]
  · rintro rfl;rfl
theorem spell_ids {l:List (List Str)} {k:Nat} (h:k<l.length):spellD (namesV l) (l[k].map (placeV (namesV l)))=.tup [Rep.to l[k],.int .i64 0]:=by
  have hm:∀x,x∈l[k]→x∈namesV l:=fun x hx=>mem_names.2 ⟨_,List.getElem_mem h,hx⟩
  unfold spellD
  rw[if_pos]
  · congr 3
    unfold spellV
    rw[List.map_map]
    conv=>rhs;rw[← List.map_id l[k]]
    refine List.map_congr_left fun x hx=>?_
    obtain⟨a,ha,h1,h2⟩:=placeV_mem (hm x hx)
    simp only[Function.comp,h1,id]
    simp[List.getD,ha,h2]
  · intro x hx
    obtain⟨y,hy,rfl⟩:=List.mem_map.1 hx
    obtain⟨a,ha,h1,h2⟩:=placeV_mem (hm y hy)
    rw[h1]
    exact⟨by omega,by omega⟩
@[simp] def S_law03_InternExact:List D→Prop × D:=spec5 (α:=List (List Str)) (β:=Int) (γ:=Int) (δ:=Int) (ε:=Int) (fun _ _ _ _ _=>True) (fun _ _ _ _ _=>Rep.to true)
theorem ct_law03_InternExact {P:Program} {f g1 g2 g3 g4 g5 g6 g7:Nat} {G:Gam} (h:CodeOf P f 5 16 [5] (x_law03_InternExact g1 g2 g3 g4 g5 g6 g7)) (hG:GamOk P G)
    (h1:G.find g1=some S_law03_small) (h2:G.find g2=some S_law03_awake) (h3:G.find g3=some S_intern_Ids) (h4:G.find g4=some S_intern_Names) (h5:G.find g5=some S_intern_Spell) (h6:G.find g6=some S_gen_Strings) (h7:G.find g7=some S_gen_Mod):Has P f S_law03_InternExact:=h.has5 hG fun l f i g j _=>by
  simp[x_law03_InternExact,h1,h2]
  intro hs h0
  obtain⟨hs1,hs2,hs3⟩:=small_le hs
  simp[h3,h4,hs1]
  have hil:(idsV l).length=l.length:=by simp[idsV]
  simp[hil]
  have hpos:0<l.length:=List.length_pos_iff.2 h0
  have hik:∀k (hk:k<l.length),(idsV l)[k]'(by omega)=l[k].map (placeV (namesV l)):=by intro k hk;simp[idsV]
  have hlen:∀k (hk:k<l.length),l[k].length≤60:=by intro k hk;have:=elem_flat_le hk;omega
  obtain⟨Tf,hT⟩:∃Tf:Nat→List A,∀k,Tf k=[.d (Rep.to l),.d (.int .i64 f),.d (.int .i64 i),.d (.int .i64 g),.d (.int .i64 j),.any,.d (Rep.to (idsV l)),.d (Rep.to (namesV l)),.d (.int .i64 k),.any,.any,.any,.any,.any,.any,.any]:=⟨_,fun _=>rfl⟩
  refine vc_ghost (σ:=Nat) [true,true,true,true,true,false,true,true,true] 0 (fun k=>k≤l.length) (fun k=>l.length-k) Tf (fun _=>[]) 0 (by omega) (by simp) (by simp[hT]) ?_
  intro k hk
  rw[hT]
  simp
  refine⟨fun hk1=>?_,fun hk1=>?_⟩
  · have e:=add1 hk1 (by omega)
    have hl:=hlen k hk1
    have hil2:k<(idsV l).length:=by omega
    have hl2:(idsV l)[k].length=l[k].length:=by rw[hik k hk1];simp
    have hsp:spellD (namesV l) (idsV l)[k]=.tup [Rep.to l[k],.int .i64 0]:=by rw[hik k hk1,spell_ids hk1]
    simp[getD_map,hk1,hil2,h5,hl2,hsp,h6,e,pairsOk]
    refine⟨by omega,by omega,k+1,by omega,by rw[hT];simp,by omega⟩
  · have hf:=modV_lt f (n:=(l.length:Int)) (by omega)
    have hg:=modV_lt g (n:=(l.length:Int)) (by omega)
    obtain⟨a,ha⟩:=Int.eq_ofNat_of_zero_le hf.1
    obtain⟨b,hb⟩:=Int.eq_ofNat_of_zero_le hg.1
    have ha1:a<l.length:=by omega
    have hb1:b<l.length:=by omega
    have hla:=hlen a ha1
    have hlb:=hlen b hb1
    simp[h7,ha,hb,getD_map,ha1,hb1,h2]
    refine⟨⟨by omega,by omega⟩,fun n1 n2=>?_⟩
    have p1:0<l[a].length:=List.length_pos_iff.2 n1
    have p2:0<l[b].length:=List.length_pos_iff.2 n2
    have hi2:=modV_lt i (n:=(l[a].length:Int)) (by omega)
    have hj2:=modV_lt j (n:=(l[b].length:Int)) (by omega)
    obtain⟨c,hc⟩:=Int.eq_ofNat_of_zero_le hi2.1
    obtain⟨d,hd⟩:=Int.eq_ofNat_of_zero_le hj2.1
    have hc1:c<l[a].length:=by omega
    have hd1:d<l[b].length:=by omega
    have ha2:a<(idsV l).length:=by omega
    have hb2:b<(idsV l).length:=by omega
    have hla2:(idsV l)[a].length=l[a].length:=by rw[hik a ha1];simp
    have hlb2:(idsV l)[b].length=l[b].length:=by rw[hik b hb1];simp
    have hc2:c<(idsV l)[a].length:=by omega
    have hd2:d<(idsV l)[b].length:=by omega
    have key:((idsV l)[a][c]=(idsV l)[b][d])↔(l[a][c]=l[b][d]):=by
      simp only[idsV,List.getElem_map]
      exact placeV_inj (mem_names.2 ⟨_,List.getElem_mem ha1,List.getElem_mem hc1⟩) (mem_names.2 ⟨_,List.getElem_mem hb1,List.getElem_mem hd1⟩)
    refine⟨⟨by omega,by omega⟩,⟨by omega,by omega⟩,?_⟩
    simp[hc,hd,getD_map,ha1,hb1,hc1,hd1,ha2,hb2,hc2,hd2,pairsOk,key,h2]
theorem law03_InternExact_pre (l:List (List Str)) (f:Int) (i:Int) (g:Int) (j:Int) (w0:Arg.wf l) (w1:Arg.wf f) (w2:Arg.wf i) (w3:Arg.wf g) (w4:Arg.wf j):True:=trivial
end Go.AE
