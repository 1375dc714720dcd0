/-
  The laws of layer 3,fourth part.
-/
import Derived.Test.YtblhhmephhhpeaaConb1

set_option linter.unusedSimpArgs false
set_option linter.unusedVariables false
set_option linter.unnecessarySimpa false
namespace Go.AE
@[simp] def S_law03_InternFirst:List D→Prop × D:=spec2 (α:=List (List Str)) (β:=List Str) (fun _ _=>True) (fun _ _=>Rep.to true)
theorem names_app (l:List (List Str)) (m:List (List Str)):∃r,namesV (l++m)=namesV l++r:=by
  unfold namesV
  rw[List.flatten_append,List.foldl_append]
  exact fold_pre _ _
theorem ids_app (l:List (List Str)) (m:List (List Str)):(idsV (l++m)).take l.length=idsV l:=by
  obtain⟨r,hr⟩:=names_app l m
  unfold idsV
  rw[hr,List.map_append,List.take_append_of_le_length (by simp),List.take_of_length_le (by simp)]
  refine List.map_congr_left fun x hx=>List.map_congr_left fun y hy=>?_
  exact placeV_app (mem_names.2 ⟨x,hx,hy⟩)
theorem part_place {l:List (List Str)} {i j:Nat} (h:i<l.length) (hj:j<l[i].length) :
    0≤placeV (namesV l) l[i][j]∧placeV (namesV l) l[i][j]≤(part l i j).length∧(part l i (j+1)).length=if placeV (namesV l) l[i][j]=(part l i j).length then (part l i j).length+1 else (part l i j).length:=by
  rw[part_step h hj,← place_part h hj]
  by_cases hx:l[i][j]∈part l i j
  · obtain⟨a,ha,h1,h2⟩:=placeV_mem hx
    have e:addV (part l i j) l[i][j]=part l i j:=by simp[addV,hx]
    rw[e,h1]
    refine⟨by omega,by omega,?_⟩
    rw[if_neg (by omega)]
  · have e:addV (part l i j) l[i][j]=part l i j++[l[i][j]]:=by simp[addV,hx]
    rw[e,placeV_snoc hx]
    refine⟨by omega,by omega,by simp⟩
theorem ct_law03_InternFirst {P:Program} {f g1 g2 g3 g4 g5:Nat} {G:Gam} (h:CodeOf P f 2 14 [2] (x_law03_InternFirst g1 g2 g3 g4 g5)) (hG:GamOk P G)
    (h1:G.find g1=some S_law03_small) (h2:G.find g2=some S_law03_awake) (h3:G.find g3=some S_intern_Ids) (h4:G.find g4=some S_gen_Lists) (h5:G.find g5=some S_intern_Names):Has P f S_law03_InternFirst:=h.has2 hG fun l more _=>by
  simp[x_law03_InternFirst,h1,h2]
  intro hs hm
  obtain⟨hs1,hs2,hs3⟩:=small_le hs
  obtain⟨b,hb⟩:∃b,b=l++[more]:=⟨_,rfl⟩
  have hb1:smallL b:=by
    rw[hb]
    refine⟨by simp;omega,?_⟩
    rw[List.flatten_append,List.length_append]
    simp only[List.flatten_cons,List.flatten_nil,List.append_nil]
    omega
  have hbl:b.length=l.length+1:=by rw[hb];simp
  have hta:(idsV b).take l.length=idsV l:=by rw[hb];exact ids_app l _
  have hil:(idsV b).length=b.length:=by simp[idsV]
  have hmb:(List.map Rep.to l++[D.sl 1 (List.map Rep.to more)]:List D)=List.map Rep.to b:=by rw[hb];simp
  have hfl:b.flatten.length≤1048576:=hb1.2
  have hpl:∀i (h:i<b.length) j,j≤b[i].length→(part b i j).length≤68:=by
    intro i h j hj
    have h6:=part_len h hj
    have:b.flatten.length≤68:=by rw[hb];simp only[List.flatten_append,List.length_append,List.flatten_cons,List.flatten_nil,List.append_nil];omega
    omega
  have hel:∀i (h:i<b.length),b[i].length≤68:=by
    intro i h
    have h6:=elem_flat_le h
    have:b.flatten.length≤68:=by rw[hb];simp only[List.flatten_append,List.length_append,List.flatten_cons,List.flatten_nil,List.append_nil];omega
    omega
  simp[h3,hs1,hmb,hb1]
  refine⟨by unfold room;omega,by unfold room;omega,?_⟩
  have e0:IntKind.i64.wrap ((l.length:Int)+1)=((idsV b).length:Int):=by rw[wrap_in (by omega) (by omega)];omega
  have hle:(l.length:Int)≤(idsV b).length:=by omega
  have hok:=ids_ok hs1
  have hmt:(List.take l.length (List.map Rep.to (idsV b)):List D)=List.map Rep.to (idsV l):=by rw[← List.map_take,hta]
  simp[e0,hmt,h4,hle]
  refine⟨by omega,hok,?_⟩
  obtain⟨T1,hT1⟩:∃Tf:Nat→List A,∀i,Tf i=[.d (Rep.to l),.d (Rep.to more),.any,.any,.d (Rep.to (idsV b)),.d (.int .i64 (part b i 0).length),.d (.int .i64 i),.any,.any,.any,.any,.any,.any,.any]:=⟨_,fun _=>rfl⟩
  refine vc_ghost (σ:=Nat) [true,true,false,false,true,true,true] 0 (fun i=>i≤b.length) (fun i=>b.length-i) T1 (fun _=>[]) 0 (by omega) (by simp[inScope]) (by simp[hT1,part]) ?_
  intro i hi
  rw[hT1]
  simp[hil]
  refine⟨fun h6=>?_,fun h6=>?_⟩
  · have h7:i<(idsV b).length:=by omega
    have hrow:(idsV b)[i]=b[i].map (placeV (namesV b)):=by simp[idsV]
    have hrl:(idsV b)[i].length=b[i].length:=by rw[hrow];simp
    obtain⟨T2,hT2⟩:∃Tf:Nat→List A,∀j,Tf j=[.d (Rep.to l),.d (Rep.to more),.any,.any,.d (Rep.to (idsV b)),.d (.int .i64 (part b i j).length),.d (.int .i64 i),.d (.int .i64 j),.any,.any,.any,.any,.any,.any]:=⟨_,fun _=>rfl⟩
    refine vc_ghost (σ:=Nat) [true,true,false,false,true,true,true,true] 0 (fun j=>j≤b[i].length) (fun j=>b[i].length-j) T2 (fun _=>[]) 0 (by omega) (by simp[inScope]) (by simp[hT2]) ?_
    intro j hj
    rw[hT2]
    simp[getD_map,h7,hrl]
    have hp:=hpl i h6 j hj
    refine⟨fun h8=>?_,fun h8=>?_⟩
    · have h9:j<(idsV b)[i].length:=by omega
      have hel2:(idsV b)[i][j]=placeV (namesV b) b[i][j]:=by simp[idsV]
      obtain⟨p1,p2,p3⟩:=part_place h6 h8
      have e2:=add1 h8 (by have:=hel i h6;omega)
      have e3:IntKind.i64.wrap (((part b i j).length:Int)+1)=(((part b i j).length+1:Nat):Int):=by rw[wrap_in (by omega) (by omega)];omega
      simp[getD_map,h9,hel2,pairsOk,hil,h6,hrl,h8]
      refine⟨p1,fun _=>⟨p2,fun _=>⟨fun h10=>⟨j+1,by omega,?_,by omega⟩,fun h10=>⟨j+1,by omega,?_,by omega⟩⟩⟩⟩
      · rw[hT2,e2,e3,p3,if_pos h10]
        simp
      · rw[hT2,e2,p3,if_neg h10]
        simp
    · have h9:j=b[i].length:=by omega
      have e2:=add1 h6 (by omega)
      refine⟨i+1,by omega,?_,by omega⟩
      rw[hT1,h9,part_next h6,e2]
      simp
  · have h7:i=b.length:=by omega
    have h8:(part b i 0).length=(namesV b).length:=by rw[h7,part_end]
    simp[hmb,h5,h8,h2]
    exact⟨by unfold room;omega,by unfold room;omega,hb1⟩
theorem law03_InternFirst_pre (l:List (List Str)) (m:List Str) (w0:Arg.wf l) (w1:Arg.wf m):True:=trivial
end Go.AE
