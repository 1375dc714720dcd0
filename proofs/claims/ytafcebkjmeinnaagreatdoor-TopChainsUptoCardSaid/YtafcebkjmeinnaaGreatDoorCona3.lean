/-
  Contracts of patch.
-/
import Derived.Test.YtafcebkjmeinnaaGreatDoorCona2
import Derived.Test.YtafcebkjmeinnaaGreatDoorCona1
import Derived.Test.YtafcebkjmeinnaaGreatDoorCode1

set_option linter.unusedSimpArgs false
set_option linter.unusedVariables false
set_option linter.unnecessarySimpa false
set_option maxRecDepth 100000
set_option maxHeartbeats 4000000
namespace Go.AE
def strsD (l:List Str):List D:=l.map Rep.to
theorem strsD_one (l:List Str) (x:Str):strsD l++[.str x]=strsD (l++[x]):=by simp[strsD]
theorem strsD_len (l:List Str):(strsD l).length=l.length:=by simp[strsD]
@[simp] def S_patch_sides:List D→Prop × D:=spec1 (α:=PHunkT) (fun h=>h.lines.length≤1000000000) (fun h=>.tup [Rep.to (oldL h.lines),Rep.to (newL h.lines)])
theorem ct_patch_sides {P:Program} {f:Nat} {G:Gam} (h:CodeOf P f 1 11 [2,3] x_patch_sides) (hG:GamOk P G):Has P f S_patch_sides:=h.has1 hG fun x hp=>by
  obtain⟨o,n,l⟩:=x
  simp only at hp
  simp[x_patch_sides]
  refine vc_lp (σ:=Nat) (fun i=>i≤l.length) (fun i=>l.length-i) (fun i=>[.any,.ref 0 0 0 0,.gr 1 1 (strsD (oldL (l.take i))),.gr 2 1 (strsD (newL (l.take i))),.any,.d (.sl 2 (l.map Rep.to)),.d (.int .i64 l.length),.d (.int .i64 i),.any,.any,.any])
    (fun i=>[.cells 0 3 [.d (Rep.to (⟨o,n,l⟩:PHunkT))],.tip (oldL (l.take i)).length,.tip (newL (l.take i)).length]) 0 (by simp[oldL,newL,strsD]) (by simp[oldL,newL]) (by simp) ?_
  intro i i1
  have a1:=old_le (l.take i)
  have a2:=new_le (l.take i)
  rw[List.length_take] at a1 a2
  by_cases hi:i<l.length
  · have e1:=old_succ hi
    have e2:=new_succ hi
    have w1:IntKind.i64.wrap ((i:Int)+1)=(i:Int)+1:=wrap_in (by omega) (by omega)
    have l1:=strsD_len (oldL (l.take i))
    have l2:=strsD_len (newL (l.take i))
    have s1:=strsD_one (oldL (l.take i)) l[i].text
    have s2:=strsD_one (newL (l.take i)) l[i].text
    by_cases c1:l[i].kind=43
    · simp[hi,getD_map,c1,w1,l2,s2]
      refine⟨by unfold room;omega,Nxt.mk (i+1) (by omega) ?_ ?_ (by omega)⟩
      · simp[e1,e2,c1]
      · simp[e1,e2,c1]
    · by_cases c2:l[i].kind=45
      · simp[hi,getD_map,c2,w1,l1,s1]
        refine⟨by unfold room;omega,Nxt.mk (i+1) (by omega) ?_ ?_ (by omega)⟩
        · simp[e1,e2,c2]
        · simp[e1,e2,c2]
      · simp[hi,getD_map,c1,c2,w1,l1,s1,l2,s2]
        refine⟨by unfold room;omega,by unfold room;omega,Nxt.mk (i+1) (by omega) ?_ ?_ (by omega)⟩
        · simp[e1,e2,c1,c2]
        · simp[e1,e2,c1,c2]
  · rw[List.take_of_length_le (by omega)]
    simp[hi,strsD]
def prepD (p:PatchT) (b:Str):D:=if chkP p=0 then splitD b else .tup [.nilsl,.int .i64 (chkP p)]
@[simp] def S_patch_prepare:List D→Prop × D:=spec2 (α:=PatchT) (β:=Str) (fun p b=>PatOk p∧b.length≤4194304) (fun p b=>prepD p b)
theorem ct_patch_prepare {P:Program} {f g1 g2:Nat} {G:Gam} (h:CodeOf P f 2 7 [3,4] (x_patch_prepare g1 g2)) (hG:GamOk P G) (h1:G.find g1=some S_unified_Check) (h2:G.find g2=some S_text_Split):Has P f S_patch_prepare:=h.has2 hG fun p b hp=>by
  obtain⟨hp,hb⟩:=hp
  have pk:PatOk ⟨p.oldName,p.newName,p.hunks⟩:=hp
  have hc:chkP ⟨p.oldName,p.newName,p.hunks⟩=chkP p:=rfl
  by_cases c:chkP p=0
  · have e:prepD p b=splitD b:=if_pos c
    rw[e]
    by_cases c2:checkT b=0
    · rw[splitD,if_pos c2]
      simp[x_patch_prepare,h1,pk,hc,c,h2,hb,splitD,c2]
    · rw[splitD,if_neg c2]
      simp[x_patch_prepare,h1,pk,hc,c,h2,hb,splitD,c2]
  · have e:prepD p b=.tup [.nilsl,.int .i64 (chkP p)]:=if_neg c
    rw[e]
    simp[x_patch_prepare,h1,pk,hc,c]
@[simp] def S_patch_found:List D→Prop × D:=spec3 (α:=List Str) (β:=Int) (γ:=List Str) (fun l a o=>l.length≤1000000000∧o.length≤1000000000∧0≤a) (fun l a o=>.bool (foundV l a o))
theorem ct_patch_found {P:Program} {f g1:Nat} {G:Gam} (h:CodeOf P f 3 4 [3] (x_patch_found g1)) (hG:GamOk P G) (h1:G.find g1=some S_slices_Equal_string_string):Has P f S_patch_found:=h.has3 hG fun l a o hp=>by
  obtain⟨p1,p2,p3⟩:=hp
  obtain⟨k,rfl⟩:=Int.eq_ofNat_of_zero_le p3
  have e:foundV l k o=(decide ((k:Int)≤l.length) && decide ((o.length:Int)≤l.length-k) && decide ((l.drop k).take o.length=o)):=rfl
  by_cases c1:k≤l.length
  · have w1:IntKind.i64.wrap ((l.length:Int)-k)=(l.length:Int)-k:=wrap_in (by omega) (by omega)
    have w2:IntKind.i64.wrap ((k:Int)+o.length)=((k+o.length:Nat):Int):=by rw[wrap_in (by omega) (by omega)];omega
    by_cases c2:(o.length:Int)≤(l.length:Int)-k
    · simp only[Int.natCast_add] at w2
      have w3:((k:Int)+o.length).toNat-k=o.length:=by omega
      simp[x_patch_found,e,c1,c2,w1,w2,w3,h1,show k+o.length≤l.length by omega]
      omega
    · simp[x_patch_found,e,c1,c2,w1]
  · simp[x_patch_found,e,c1,show ¬(k:Int)≤l.length by omega]
@[simp] def S_patch_swapped:List D→Prop × D:=spec1 (α:=U8T) (fun _=>True) (fun k=>.int .u8 (swapK k.n))
theorem ct_patch_swapped {P:Program} {f:Nat} {G:Gam} (h:CodeOf P f 1 5 [1] x_patch_swapped) (hG:GamOk P G):Has P f S_patch_swapped:=h.has1 hG fun k _=>by
  obtain⟨k⟩:=k
  by_cases c1:k=45
  · subst c1;simp[x_patch_swapped,swapK]
  · by_cases c2:k=43
    · subst c2;simp[x_patch_swapped,swapK]
    · simp[x_patch_swapped,swapK,c1,c2]
theorem flen_app (a b:List Str):flen (a++b)=flen a+flen b:=by simp[flen]
theorem flen_new (l:List PLineT):flen (newL l)≤(linesT l l.length).length:=by
  unfold linesT
  rw[List.take_length]
  induction l with
  | nil=>simp[newL,flen]
  | cons x r ih =>
    have e:newL (x::r)=(if x.kind=45 then [] else [x.text])++newL r:=by
      by_cases c:x.kind=45 <;> simp[newL,c]
    rw[e,flen_app,List.flatMap_cons,List.length_append]
    have:flen (if x.kind=45 then [] else [x.text])≤(lineW x).length:=by
      split
      · simp[flen]
      · simp[flen,lineW];omega
    omega
theorem flen_cut (l:List Str) (a d:Nat):flen (l.take (a+d))=flen (l.take a)+flen ((l.drop a).take d):=by
  rw[List.take_add,flen_app]
theorem flen_mono (l:List Str) {a b:Nat} (h:a≤b):flen (l.take a)≤flen (l.take b):=by
  obtain⟨d,rfl⟩:∃d,b=a+d:=⟨b-a,by omega⟩
  rw[flen_cut]
  omega
def PatS (p:PatchT):Prop:=PatOk p∧(writV p).length≤2000000
theorem splitD_spec (b:Str):(checkT b=0∧splitD b=.tup [Rep.to (linesV b),.int .i64 0])∨(checkT b≠0∧splitD b=.tup [.nilsl,.int .i64 1]):=by
  by_cases c:checkT b=0
  · exact .inl ⟨c,if_pos c⟩
  · exact .inr ⟨c,if_neg c⟩
theorem joinD_P (l:List Str):(listV l=true∧joinD l=.tup [.str (joinP l).1,.int .i64 (joinP l).2]∧(joinP l).2≠2)∨(listV l=false∧joinD l=.tup [.str [],.int .i64 2]∧joinP l=([],140)):=by
  unfold joinD joinP
  cases c:listV l with
  | true =>
    left
    rw[join_flat]
    by_cases d:flen l≤1048576∧l.length≤4096
    · simp[d]
    · simp[d]
  | false=>right;simp
structure ApX where
  i:Nat
  a:Nat
  out:List Str
  o:SideT
  n:SideT
def apI (p:PatchT) (L:List Str) (x:ApX):Prop:=x.i≤p.hunks.length∧x.a≤L.length∧wellV x.o x.n (p.hunks.drop x.i)=true∧x.o.fin=x.a∧x.n.fin=x.out.length∧x.n.fin≤4096∧flen x.out≤flen (L.take x.a)+(writT p x.i).length∧applyL L x.a x.out (p.hunks.drop x.i)=applyL L 0 [] p.hunks
@[simp] def S_patch_Apply:List D→Prop × D:=spec2 (α:=PatchT) (β:=Str) (fun p b=>PatS p∧b.length≤1048576) (fun p b=>.tup [.str (applyV p b).1,.int .i64 (applyV p b).2])
theorem ct_patch_Apply {P:Program} {f g1 g2 g3 g4:Nat} {G:Gam} (h:CodeOf P f 2 20 [3,4] (x_patch_Apply g1 g2 g3 g4)) (hG:GamOk P G) (h1:G.find g1=some S_patch_prepare) (h2:G.find g2=some S_patch_sides) (h3:G.find g3=some S_patch_found) (h4:G.find g4=some S_text_Join):Has P f S_patch_Apply:=h.has2 hG fun p b hp=>by
  obtain⟨⟨hp,hs⟩,hb⟩:=hp
  have pk:PatOk ⟨p.oldName,p.newName,p.hunks⟩:=hp
  have hpe:prepD ⟨p.oldName,p.newName,p.hunks⟩ b=prepD p b:=rfl
  by_cases c:chkP p=0
  · have e:prepD p b=splitD b:=if_pos c
    rcases splitD_spec b with ⟨c2,e2⟩ | ⟨c2,e2⟩
    · have ev:applyV p b=applyO (applyL (linesV b) 0 [] p.hunks):=by unfold applyV;rw[if_neg (by rw[c];simp),if_neg (by rw[c2];simp)]
      have hLb:flen (linesV b)=b.length:=by unfold flen;rw[lines_flat]
      have hLl:=checkT_lns c2
      generalize hL:linesV b=L at *
      have hT:flen (L.take L.length)=b.length:=by rw[List.take_length];exact hLb
      obtain⟨q1,q2,q3,q4,q5⟩:=hp
      simp[x_patch_Apply,h1,pk,hpe,e,e2,show b.length≤4194304 by omega]
      refine vc_lp (σ:=ApX) (apI p L) (fun x=>p.hunks.length-x.i)
        (fun x=>[.any,.any,.ref 0 0 0 0,.any,.any,.d (.sl 1 (L.map Rep.to)),.d (.int .i64 0),.gr 1 1 (strsD x.out),.d (.int .i64 x.a),.any,.any,.any,.any,.any,.d (.sl 3 (p.hunks.map Rep.to)),.d (.int .i64 p.hunks.length),.d (.int .i64 x.i),.any,.any,.any])
        (fun x=>[.cells 0 3 [.d (Rep.to p)],.tip x.out.length]) ⟨0,0,[],⟨0,false⟩,⟨0,false⟩⟩ (by simp[strsD]) (by simp) ⟨by simp,by simp,by simpa using (chkP_zero.1 c).2.2.1,rfl,rfl,by simp,by simp[flen],by simp⟩ ?_
      rintro⟨i,a,out,o,n⟩ ⟨i1,i2,i3,i4,i5,i6,i7,i8⟩
      simp only at i1 i2 i3 i4 i5 i6 i7 i8
      have hol:=strsD_len out
      by_cases hi:i<p.hunks.length
      · have w1:IntKind.i64.wrap ((i:Int)+1)=(i:Int)+1:=wrap_in (by omega) (by omega)
        have hh:=q5 _ (List.getElem_mem hi)
        rw[List.drop_eq_getElem_cons hi] at i3 i8
        simp only[wellV,Bool.and_eq_true] at i3
        obtain⟨_,k2,k3⟩:=i3
        have hr:=placed_rng k2
        have hws:=writT_succ hi
        have hwl:=congrArg List.length hws
        rw[List.length_append,List.length_append] at hwl
        have hfn:=flen_new p.hunks[i].lines
        have a1:=old_le p.hunks[i].lines
        have a2:=new_le p.hunks[i].lines
        have hw9:=writT_le p (i+1)
        have hpos:posOk p.hunks[i] o n=true:=by
          by_cases c:posOk p.hunks[i] o n=true
          · exact c
          · unfold placedV at k2;rw[if_neg c] at k2;cases k2
        have hopn:(openL o.opn n.opn p.hunks[i].lines).2=true:=by
          by_cases c:(openL o.opn n.opn p.hunks[i].lines).2=true
          · exact c
          · unfold placedV at k2;rw[if_pos hpos,if_neg c] at k2;cases k2
        have hpl:(placedV p.hunks[i] o n).1=(⟨p.hunks[i].old+(oldL p.hunks[i].lines).length,(openL o.opn n.opn p.hunks[i].lines).1.1⟩,⟨p.hunks[i].new+(newL p.hunks[i].lines).length,(openL o.opn n.opn p.hunks[i].lines).1.2⟩):=by
          unfold placedV
          rw[if_pos hpos,if_pos hopn]
        rw[hpl] at k3 hr
        simp only at hr
        rw[posOk_iff] at hpos
        rw[applyL] at i8
        cases cf:foundV L p.hunks[i].old (oldL p.hunks[i].lines) with
        | false =>
          rw[cf,if_neg (by simp)] at i8
          rw[ev,← i8]
          simp[hi,getD_map,h2,hh.1,h3,cf,show L.length≤1000000000 by omega,show (oldL p.hunks[i].lines).length≤1000000000 by have:=hh.1;omega,hpos.1,applyO]
        | true =>
          rw[cf,if_pos rfl] at i8
          obtain⟨k,hk,hkl,_⟩:=found_spec cf hpos.1
          have hak:a≤k:=by omega
          rw[hk] at cf
          rw[hk,Int.toNat_natCast] at i8
          have hcut:((L.drop a).take (k-a)).length=k-a:=by simp;omega
          have hfc:=flen_cut L a (k-a)
          rw[Nat.add_sub_cancel' hak] at hfc
          have hfm:=flen_mono L (show k≤k+(oldL p.hunks[i].lines).length by omega)
          have w2:IntKind.i64.wrap ((k:Int)+(oldL p.hunks[i].lines).length)=(k:Int)+(oldL p.hunks[i].lines).length:=wrap_in (by omega) (by omega)
          have hnl:(newL p.hunks[i].lines).length≤4096:=by omega
          have s1:strsD out++List.take (k-a) (List.drop a (L.map Rep.to))++(newL p.hunks[i].lines).map Rep.to=strsD (out++(L.drop a).take (k-a)++newL p.hunks[i].lines):=by simp[strsD,List.map_take,List.map_drop]
          simp only[List.append_assoc] at s1
          have hkl2:k≤L.length:=by omega
          have hlen3:(out++(List.take (k-a) (List.drop a L)++newL p.hunks[i].lines)).length=out.length+(k-a)+(newL p.hunks[i].lines).length:=by
            rw[List.length_append,List.length_append,hcut]
            omega
          have hfl:flen (out++(List.take (k-a) (List.drop a L)++newL p.hunks[i].lines))=flen out+flen ((L.drop a).take (k-a))+flen (newL p.hunks[i].lines):=by rw[flen_app,flen_app];omega
          rw[List.append_assoc] at i8
          simp[hi,getD_map,h2,hh.1,h3,hk,cf,show L.length≤1000000000 by omega,show (oldL p.hunks[i].lines).length≤1000000000 by have:=hh.1;omega,hak,hkl2,hol,w1,w2,s1]
          refine⟨by unfold room;omega,by unfold room;omega,Nxt.mk (⟨i+1,k+(oldL p.hunks[i].lines).length,out++(List.take (k-a) (List.drop a L)++newL p.hunks[i].lines),⟨p.hunks[i].old+(oldL p.hunks[i].lines).length,(openL o.opn n.opn p.hunks[i].lines).1.1⟩,⟨p.hunks[i].new+(newL p.hunks[i].lines).length,(openL o.opn n.opn p.hunks[i].lines).1.2⟩⟩:ApX) (by simp only;omega) (by simp) ?_ ⟨by simp only;omega,by simp only;omega,k3,by simp only;omega,by simp only[hlen3];omega,by simp only;omega,by simp only[hfl];omega,i8⟩⟩
          simp
          omega
      · have hi2:i=p.hunks.length:=by omega
        subst hi2
        rw[List.drop_length,applyL] at i8
        rw[writT_end] at i7
        have hd:flen (L.drop a)+flen (L.take a)=b.length:=by rw[← hLb,flen_take L a];omega
        have s1:strsD out++List.take (L.length-a) (List.drop a (L.map Rep.to))=strsD (out++L.drop a):=by
          rw[List.take_of_length_le (by simp)]
          simp[strsD,List.map_drop]
        have hfl:flen (out++L.drop a)≤4194304:=by rw[flen_app];omega
        have hll:(out++L.drop a).length≤4194304:=by simp;omega
        have ev2:applyV p b=joinP (out++L.drop a):=by rw[ev,← i8];rfl
        rw[ev2]
        generalize hF:out++L.drop a=F at *
        have hrep:strsD F=F.map Rep.to:=rfl
        rcases joinD_P F with ⟨j1,j2,j3⟩ | ⟨j1,j2,j3⟩
        · simp[hi,i2,hol,s1,h4,hfl,hll,j2,j3,hrep]
          unfold room
          omega
        · simp[hi,i2,hol,s1,h4,hfl,hll,j2,j3,hrep]
          unfold room
          omega
    · have ev:applyV p b=([],1):=by unfold applyV;rw[if_neg (by rw[c];simp),if_pos c2]
      rw[ev]
      simp[x_patch_Apply,h1,pk,hpe,e,e2,show b.length≤4194304 by omega]
  · have e:prepD p b=.tup [.nilsl,.int .i64 (chkP p)]:=if_neg c
    have ev:applyV p b=([],chkP p):=by unfold applyV;rw[if_pos c]
    rw[ev]
    simp[x_patch_Apply,h1,pk,hpe,e,c,show b.length≤4194304 by omega]
def revD (p:PatchT):D:=if chkP p=0 then .tup [Rep.to (revP p),.int .i64 0] else .tup [Rep.to (⟨[],[],[]⟩:PatchT),.int .i64 (chkP p)]
def revT (l:List PHunkT) (i:Nat):List D:=(l.take i).map fun h=>Rep.to (revH h)
def revLT (l:List PLineT) (j:Nat):List D:=(l.take j).map fun x=>Rep.to (revL x)
theorem revT_succ {l:List PHunkT} {i:Nat} (h:i<l.length):revT l i++[Rep.to (revH l[i])]=revT l (i+1):=by unfold revT;rw[List.take_succ_eq_append_getElem h,List.map_append];rfl
theorem revLT_succ {l:List PLineT} {i:Nat} (h:i<l.length):revLT l i++[Rep.to (revL l[i])]=revLT l (i+1):=by unfold revLT;rw[List.take_succ_eq_append_getElem h,List.map_append];rfl
@[simp] def S_patch_Reverse:List D→Prop × D:=spec1 (α:=PatchT) PatOk (fun p=>revD p)
theorem ct_patch_Reverse {P:Program} {f g1 g2:Nat} {G:Gam} (h:CodeOf P f 1 18 [32002,3] (x_patch_Reverse g1 g2)) (hG:GamOk P G) (h1:G.find g1=some S_unified_Check) (h2:G.find g2=some S_patch_swapped):Has P f S_patch_Reverse:=h.has1 hG fun p hp=>by
  have pk:PatOk ⟨p.oldName,p.newName,p.hunks⟩:=hp
  have hc:chkP ⟨p.oldName,p.newName,p.hunks⟩=chkP p:=rfl
  obtain⟨q1,q2,q3,q4,q5⟩:=hp
  by_cases c:chkP p=0
  · have e:revD p=.tup [Rep.to (revP p),.int .i64 0]:=if_pos c
    rw[e]
    simp[x_patch_Reverse,h1,pk,hc,c]
    refine vc_lpR (σ:=Nat) (fun i=>i≤p.hunks.length) (fun i=>p.hunks.length-i)
      (fun i=>[.any,.any,.ref 1 0 0 0,.any,.any,.ref 2 0 0 0,.any,.any,.any,.any,.d (.sl 3 (p.hunks.map Rep.to)),.d (.int .i64 p.hunks.length),.d (.int .i64 i),.any,.any,.any,.any,.any])
      (fun i=>[.cells 0 3 [.d (Rep.to p)],.cells 0 3 [.d (.agg [.str [],.str [],.nilsl])],.cells 0 3 [.agg [.d (.str p.newName),.d (.str p.oldName),.gr 3 3 (revT p.hunks i)]],.tip i]) 0 ?_ (by simp) ?_
    · refine Re.wn (s':=[.cells 0 3 [.d (Rep.to p)],.cells 0 3 [.d (.agg [.str [],.str [],.nilsl])],.cells 0 3 [.agg [.d (.str p.newName),.d (.str p.oldName),.gr 3 3 (revT p.hunks 0)]]]) [false,false,true,false,false,true,false,false,false,false,true,true,true] [.tip 0] (by simp) (by simp) ?_ ?_ (by simp)
      · simp
      · refine⟨.inl rfl,.inl rfl,.cellsL ?_,trivial⟩
        simp
        exact Wk.fresh _ _ _ 0 rfl
    intro i i1
    by_cases hi:i<p.hunks.length
    · have w1:IntKind.i64.wrap ((i:Int)+1)=(i:Int)+1:=wrap_in (by omega) (by omega)
      have hh:=q5 _ (List.getElem_mem hi)
      have hs:=revT_succ hi
      have hrl:(revT p.hunks i).length=i:=by simp[revT];omega
      simp[hi,getD_map]
      obtain⟨hh1,hh2⟩:=hh
      have hrh:(revH p.hunks[i])=⟨p.hunks[i].new,p.hunks[i].old,p.hunks[i].lines.map revL⟩:=rfl
      rw[hrh] at hs
      generalize hl:p.hunks[i].lines=l at *
      generalize p.hunks[i].old=ho at *
      generalize p.hunks[i].new=hn at *
      refine vc_lpR (σ:=Nat) (fun j=>j≤l.length) (fun j=>l.length-j)
        (fun j=>[.any,.any,.ref 1 0 0 0,.any,.any,.ref 2 0 0 0,.any,.ref 5 0 0 0,.any,.any,.d (.sl 3 (p.hunks.map Rep.to)),.d (.int .i64 p.hunks.length),.d (.int .i64 i),.any,.d (.sl 2 (l.map Rep.to)),.d (.int .i64 l.length),.d (.int .i64 j),.any])
        (fun j=>[.cells 0 3 [.d (Rep.to p)],.cells 0 3 [.d (.agg [.str [],.str [],.nilsl])],.cells 0 3 [.agg [.d (.str p.newName),.d (.str p.oldName),.gr 3 3 (revT p.hunks i)]],.tip i,.cells 0 3 [.d (.agg [.int .i64 ho,.int .i64 hn,.sl 2 (l.map Rep.to)])],.cells 0 3 [.agg [.d (.int .i64 hn),.d (.int .i64 ho),.gr 6 2 (revLT l j)]],.tip j]) 0 ?_ (by simp) ?_
      · refine Re.wn (s':=[.cells 0 3 [.d (Rep.to p)],.cells 0 3 [.d (.agg [.str [],.str [],.nilsl])],.cells 0 3 [.agg [.d (.str p.newName),.d (.str p.oldName),.gr 3 3 (revT p.hunks i)]],.tip i,.cells 0 3 [.d (.agg [.int .i64 ho,.int .i64 hn,.sl 2 (l.map Rep.to)])],.cells 0 3 [.agg [.d (.int .i64 hn),.d (.int .i64 ho),.gr 6 2 (revLT l 0)]]]) [false,false,true,false,false,true,false,true,false,false,true,true,true,false,true,true,true] [.tip 0] (by simp) (by simp) ?_ ?_ (by simp)
        · simp
        · refine⟨.inl rfl,.inl rfl,.inl rfl,.inl rfl,.inl rfl,.cellsL ?_,trivial⟩
          simp
          exact Wk.fresh _ _ _ 0 rfl
      intro j j1
      have hjl:(revLT l j).length=j:=by simp[revLT];omega
      by_cases hj:j<l.length
      · have w2:IntKind.i64.wrap ((j:Int)+1)=(j:Int)+1:=wrap_in (by omega) (by omega)
        have hs2:=revLT_succ hj
        have hrl2:revL l[j]=⟨swapK l[j].kind,l[j].text⟩:=rfl
        rw[hrl2] at hs2
        simp only[to_PLine] at hs2
        simp[hj,getD_map,h2,hjl,w2,hs2]
        refine⟨by unfold room;omega,Nxt.mk (j+1) (by omega) (by simp) (by simp) (by omega)⟩
      · have e:revLT l j=(l.map revL).map Rep.to:=by unfold revLT;rw[List.take_of_length_le (by omega),List.map_map];rfl
        rw[e]
        simp only[to_PHunk] at hs
        simp[hj,hrl,w1]
        simp at hs
        rw[hs]
        refine⟨by unfold room;omega,Nxt.mk (i+1) (by omega) (by simp) (by simp) (by omega)⟩
    · have e:revT p.hunks i=(p.hunks.map revH).map Rep.to:=by unfold revT;rw[List.take_of_length_le (by omega),List.map_map];rfl
      rw[e]
      simp[hi,revP]
  · have e:revD p=.tup [Rep.to (⟨[],[],[]⟩:PatchT),.int .i64 (chkP p)]:=if_neg c
    rw[e]
    simp[x_patch_Reverse,h1,pk,hc,c]
def A.grx:A→List D
  | .gr _ _ xs=>xs
  | _=>[]
@[simp] theorem grx_gr (l e:Nat) (xs:List D):A.grx (.gr l e xs)=xs:=rfl
structure LnX where
  xs:List D
  k:Int
  l:List Str
def tagD (k:Int) (l:List Str):List D:=(tagL k l).map Rep.to
theorem tagD_len (k:Int) (l:List Str):(tagD k l).length=l.length:=by simp[tagD,tagL]
theorem tagD_one (k:Int) (l:List Str) (t:Str):tagD k l++[.agg [.int .u8 k,.str t]]=tagD k (l++[t]):=by simp[tagD,tagL]
@[simp] def F_unified_lines:RF LnX where
  new:=0
  view a _:=⟨(a.getD 0 .any).grx,(a.getD 1 .any).gi,(a.getD 2 .any).gl Str⟩
  args x:=[.gr 0 2 x.xs,.d (.int .u8 x.k),.d (.sl 1 (x.l.map Rep.to))]
  st x:=[.tip x.xs.length]
  pre x:=x.xs.length+x.l.length≤1000000000
  res x:=.gr 0 2 (x.xs++tagD x.k x.l)
  st' x:=[.tip (x.xs.length+x.l.length)]
abbrev R_unified_lines:RSpec:=F_unified_lines.spec
theorem ct_unified_lines {P:Program} {f:Nat} {G:Gam} (hc:CodeOf P f 3 9 [3] x_unified_lines) (hG:GamOk P G):RSpec.Ok P f R_unified_lines:=by
  refine RF.ok hc.call fun x hx=>hc.rcalls hG rfl ?_
  obtain⟨xs,k,l⟩:=x
  have hx:xs.length+l.length≤1000000000:=hx
  simp[x_unified_lines,startA]
  refine vc_lp (σ:=Nat) (fun i=>i≤l.length) (fun i=>l.length-i)
    (fun i=>[.gr 0 2 (xs++tagD k (l.take i)),.d (.int .u8 k),.any,.any,.any,.d (.sl 1 (l.map Rep.to)),.d (.int .i64 l.length),.d (.int .i64 i),.any]) (fun i=>[.tip (xs.length+i)]) 0 (by simp[tagD,tagL]) (by simp) (by simp) ?_
  intro i i1
  have hl:=tagD_len k (l.take i)
  rw[List.length_take] at hl
  by_cases hi:i<l.length
  · have w1:IntKind.i64.wrap ((i:Int)+1)=(i:Int)+1:=wrap_in (by omega) (by omega)
    have h1:=tagD_one k (l.take i) l[i]
    rw[← List.take_succ_eq_append_getElem hi] at h1
    simp[hi,w1,hl,Nat.min_eq_left i1,h1]
    refine⟨by unfold room;omega,Nxt.mk (i+1) (by omega) (by simp) (by simp;omega) (by omega)⟩
  · obtain rfl:i=l.length:=by omega
    rw[List.take_length]
    simp
    exact FinR.done (by simp) (by simp) rfl (by simp[resOf,resE]) (by simp) (by simp)
def bOk (x y:List Str):List ChangeT→Nat→Nat→Prop
  | [],s,t=>s≤t∧t≤x.length
  | c::r,s,t=>∃o d p e:Nat,c=⟨o,d,p,e⟩∧s≤o∧o+d≤x.length∧p+e≤y.length∧bOk x y r (o+d) t
theorem bOk_le {x y:List Str}:∀{g:List ChangeT} {s t:Nat},bOk x y g s t→s≤t∧t≤x.length
  | [],s,t,h=>h
  | c::r,s,t,h=>by
    obtain⟨o,d,p,e,rfl,h1,h2,h3,h4⟩:=h
    have:=bOk_le h4
    omega
theorem bLines_len {x y:List Str}:∀{g:List ChangeT} {s t:Nat},bOk x y g s t→(bLines x y g s t).length≤(t-s)+y.length * g.length
  | [],s,t,h=>by
    obtain⟨h1,h2⟩:=h
    simp only[bLines,tagL,List.length_map]
    rw[ct_len (by omega)]
    omega
  | c::r,s,t,h=>by
    obtain⟨o,d,p,e,rfl,h1,h2,h3,h4⟩:=h
    have ih:=bLines_len h4
    have hb:=bOk_le h4
    simp only[bLines,tagL,List.length_map,List.length_append,Int.toNat_natCast,List.length_cons]
    rw[ct_len (by omega),ct_len (by omega),ct_len (by omega),Nat.mul_succ]
    omega
def hunkArg (h:HunkT) (l:List ChangeT) (x y:List Str):Prop:=0≤h.first∧h.first≤h.last∧h.last≤l.length∧0≤h.ofr∧h.ofr≤4096∧0≤h.oto∧h.oto≤4096∧l.length≤8192∧x.length≤4096∧y.length≤4096∧bOk x y ((l.drop h.first.toNat).take (h.last-h.first).toNat) h.ofr.toNat h.oto.toNat
structure BdX where
  j:Nat
  s:Nat
  out:List PLineT
@[simp] def S_unified_build:List D→Prop × D:=spec4 (α:=HunkT) (β:=List ChangeT) (γ:=List Str) (δ:=List Str) (fun h l x y=>hunkArg h l x y) (fun h l x y=>Rep.to (buildV l x y h))
theorem ct_unified_build {P:Program} {f g1:Nat} {G:Gam} (h:CodeOf P f 4 13 [32005] (x_unified_build g1)) (hG:GamOk P G) (h1:G.findR g1=some R_unified_lines):Has P f S_unified_build:=h.has4 hG fun hh l x y hp=>by
  obtain⟨fi,la,ofr,oto,nfr,nto⟩:=hh
  obtain⟨p1,p2,p3,p4,p5,p6,p7,p8,p9,p10,p11⟩:=hp
  simp only at p1 p2 p3 p4 p5 p6 p7 p11
  obtain⟨fi,rfl⟩:=Int.eq_ofNat_of_zero_le p1
  obtain⟨la,rfl⟩:=Int.eq_ofNat_of_zero_le (show 0≤la by omega)
  obtain⟨s0,rfl⟩:=Int.eq_ofNat_of_zero_le p4
  obtain⟨t,rfl⟩:=Int.eq_ofNat_of_zero_le p6
  have e1:((la:Int)-(fi:Int)).toNat=la-fi:=by omega
  simp only[buildV,Int.toNat_natCast,e1] at *
  have hfl:fi≤la:=by omega
  have hll:la≤l.length:=by omega
  obtain⟨g,hg⟩:∃g,(l.drop fi).take (la-fi)=g:=⟨_,rfl⟩
  have hgm:List.take (la-fi) (List.drop fi (l.map Rep.to))=g.map Rep.to:=by rw[← hg,List.map_take,List.map_drop]
  rw[hg] at p11 ⊢
  simp[x_unified_build,hfl,hll,hgm]
  have hb:=bOk_le p11
  have hln:=bLines_len p11
  have hgl:g.length≤8192:=by rw[← hg];simp;omega
  have hln2:(bLines x y g s0 t).length≤40000000:=by
    have:y.length * g.length≤4096 * 8192:=Nat.mul_le_mul p10 hgl
    omega
  refine vc_lpR (σ:=BdX) (fun z=>z.j≤g.length∧bOk x y (g.drop z.j) z.s t∧z.out++bLines x y (g.drop z.j) z.s t=bLines x y g s0 t) (fun z=>g.length-z.j)
    (fun z=>[.any,.any,.d (.sl 1 (x.map Rep.to)),.d (.sl 1 (y.map Rep.to)),.ref 0 0 0 0,.ref 1 0 0 0,.ref 2 0 0 0,.d (.int .i64 z.s),.any,.d (.sl 4 (g.map Rep.to)),.d (.int .i64 g.length),.d (.int .i64 z.j),.any])
    (fun z=>[.cells 0 6 [.d (.agg [.int .i64 fi,.int .i64 la,.int .i64 s0,.int .i64 t,.int .i64 nfr,.int .i64 nto])],.cells 0 3 [.d (.agg [.int .i64 0,.int .i64 0,.nilsl])],.cells 0 3 [.agg [.d (.int .i64 s0),.d (.int .i64 nfr),.gr 3 2 (z.out.map Rep.to)]],.tip z.out.length]) ⟨0,s0,[]⟩ ?_ ⟨by simp,by simpa using p11,by simp⟩ ?_
  · refine Re.wn (s':=[.cells 0 6 [.d (.agg [.int .i64 fi,.int .i64 la,.int .i64 s0,.int .i64 t,.int .i64 nfr,.int .i64 nto])],.cells 0 3 [.d (.agg [.int .i64 0,.int .i64 0,.nilsl])],.cells 0 3 [.agg [.d (.int .i64 s0),.d (.int .i64 nfr),.gr 3 2 []]]]) [false,false,true,true,true,true,true,true,false,true,true,true] [.tip 0] (by simp) (by simp) ?_ ?_ (by simp)
    · simp
    · refine⟨.inl rfl,.inl rfl,.cellsL ?_,trivial⟩
      simp
      exact Wk.fresh _ _ _ 0 rfl
  rintro⟨j,s,out⟩ ⟨i1,i2,i3⟩
  simp only at i1 i2 i3
  have hol:(out.map Rep.to).length=out.length:=by simp
  have i3l:=congrArg List.length i3
  rw[List.length_append] at i3l
  by_cases hj:j<g.length
  · have w1:IntKind.i64.wrap ((j:Int)+1)=(j:Int)+1:=wrap_in (by omega) (by omega)
    rw[List.drop_eq_getElem_cons hj] at i2 i3 i3l
    obtain⟨o,d,p,e,hc,k1,k2,k3,k4⟩:=i2
    have hgj:g[j]?=some ⟨o,d,p,e⟩:=by rw[List.getElem?_eq_getElem hj,hc]
    simp only[hc,bLines,Int.toNat_natCast,List.length_append] at i3 i3l
    have t1:∀(z:List Str) (a b:Nat),List.take b (List.drop a (z.map Rep.to))=(ct z a b).map Rep.to:=fun z a b=>by unfold ct;rw[List.map_take,List.map_drop]
    have t2:=t1 x s (o-s)
    have t3:=t1 x o d
    have t4:=t1 y p e
    have w2:IntKind.i64.wrap ((o:Int)+d)=((o+d:Nat):Int):=by rw[wrap_in (by omega) (by omega)];omega
    have w3:IntKind.i64.wrap ((p:Int)+e)=((p+e:Nat):Int):=by rw[wrap_in (by omega) (by omega)];omega
    simp only[Int.natCast_add] at w2 w3
    generalize ct x s (o-s)=a1 at *
    generalize ct x o d=a2 at *
    generalize ct y p e=a3 at *
    simp only[tagL,List.length_map] at i3l
    have tl:∀(k:Int) (l:List Str),(tagL k l).length=l.length:=fun k l=>by simp[tagL]
    have e3:((o:Int)+d).toNat-o=d:=by omega
    have e4:((p:Int)+e).toNat-p=e:=by omega
    simp[hj,hgj,hc,w1,w2,w3,t2,t3,t4,e3,e4,k1,show o≤x.length by omega,eRCall,h1,tagD,tl]
    refine⟨by omega,⟨by omega,by omega⟩,by omega,⟨by omega,by omega⟩,⟨by omega,by omega⟩,Nxt.mk ⟨j+1,o+d,out++(tagL 32 a1++(tagL 45 a2++tagL 43 a3))⟩ (by simp only;omega) (by simp) (by simp[tl];omega) ⟨by simp only;omega,k4,by simpa using i3⟩⟩
  · obtain rfl:j=g.length:=by omega
    rw[List.drop_length] at i2 i3 i3l
    simp only[bLines] at i3 i3l
    obtain⟨k1,k2⟩:=i2
    have t1:List.take (t-s) (List.drop s (x.map Rep.to))=(ct x s (t-s)).map Rep.to:=by unfold ct;rw[List.map_take,List.map_drop]
    generalize ct x s (t-s)=a1 at *
    have tl:∀(k:Int) (l:List Str),(tagL k l).length=l.length:=fun k l=>by simp[tagL]
    rw[tl] at i3l
    rw[← i3]
    simp[k1,k2,t1,eRCall,h1,tagD,tl]
    omega
theorem fit_bOk {x y:List Str} {t:Nat} (ht:t≤x.length):∀{g:List ChangeT} {i j:Nat} {f:Bool} {i2 j2 s:Nat},FitS x y g i j f i2 j2→(∀c,g.head?=some c→(s:Int)≤c.old)→(g=[]→s≤t)→i2≤t →
    bOk x y g s t∧(bLines x y g s t).length≤(t-s)+(j2-j)
  | [],i,j,f,i2,j2,s,h,h1,h2,h3=>by
    refine⟨⟨h2 rfl,ht⟩,?_⟩
    simp only[bLines,tagL,List.length_map]
    rw[ct_len (by have:=h2 rfl;omega)]
    omega
  | c::r,i,j,f,i2,j2,s,h,h1,h2,h3=>by
    obtain⟨q,d,e,rfl,k2,k3,k4,k5,k6,k7⟩:=h
    have hs:=h1 _ rfl
    simp only at hs
    have he:=FitS.end k7
    have ih:=fit_bOk (s:=i+q+d) ht k7 (fun c' hc'=>by
      cases r with
      | nil=>simp at hc'
      | cons c2 r2 =>
        obtain⟨q',d',e',rfl,_⟩:=k7
        simp at hc'
        subst hc'
        simp only
        omega) (fun _=>by omega) h3
    refine⟨⟨i+q,d,j+q,e,rfl,by omega,k3,k4,ih.1⟩,?_⟩
    simp only[bLines,tagL,List.length_map,List.length_append,Int.toNat_natCast]
    rw[ct_len (by omega),ct_len (by omega),ct_len (by omega)]
    omega
theorem fit_count {x y:List Str}:∀{g:List ChangeT} {i j:Nat} {f:Bool} {i2 j2:Nat},FitS x y g i j f i2 j2→g.length+i+j≤i2+j2
  | [],i,j,f,i2,j2,h=>by obtain⟨rfl,rfl,_,_⟩:=h;simp
  | c::r,i,j,f,i2,j2,h=>by
    obtain⟨q,d,e,rfl,k2,k3,k4,k5,k6,k7⟩:=h
    have:=fit_count k7
    simp only[List.length_cons]
    omega
theorem slice_fit {x y:List Str} {l:List ChangeT} {i' j':Nat} (h:FitS x y l 0 0 true i' j') {f k:Nat} (hf:f<k) (hk:k≤l.length) :
    ∃i1 j1 fl i2 j2,FitS x y ((l.drop f).take (k-f)) i1 j1 fl i2 j2∧(i2:Int)=(l.getD (k-1) default).old+(l.getD (k-1) default).oldLen:=by
  have e1:l=l.take f++((l.drop f).take (k-f)++(l.drop f).drop (k-f)):=by rw[List.take_append_drop,List.take_append_drop]
  rw[e1] at h
  obtain⟨i1,j1,_,h2⟩:=FitS.split h
  obtain⟨i2,j2,h3,_⟩:=FitS.split h2
  refine⟨i1,j1,_,i2,j2,h3,?_⟩
  have hk1:k-1-f<(l.drop f).length:=by simp;omega
  have e2:(l.drop f).take (k-f)=(l.drop f).take (k-1-f)++[l[k-1]]:=by
    rw[show k-f=(k-1-f)+1 by omega,List.take_succ_eq_append_getElem hk1]
    congr 2
    rw[List.getElem_drop]
    congr 1
    omega
  rw[e2] at h3
  obtain⟨i3,j3,_,h5⟩:=FitS.split h3
  obtain⟨q,d,e,hc,_,_,_,_,_,h6⟩:=h5
  obtain⟨rfl,_⟩:=h6
  rw[List.getD_eq_getElem?_getD,List.getElem?_eq_getElem (by omega),Option.getD_some,hc]
  simp
theorem grpH_mem {l:List ChangeT} {m ctx:Int}:∀(r:List ChangeT) (f i:Nat),i+r.length=l.length→f≤i→∀h,h∈grpH l m ctx r f i→∃f' k,h=closedV l f' k m ctx∧f'<k∧k≤l.length
  | [],f,i,_,_,h,hh=>by simp[grpH] at hh
  | c::r,f,i,hl,hf,h,hh=>by
    simp only[List.length_cons] at hl
    rw[grpH] at hh
    split at hh
    · rcases List.mem_cons.1 hh with rfl | hh
      · exact⟨f,i+1,rfl,by omega,by omega⟩
      · exact grpH_mem r (i+1) (i+1) (by omega) (Nat.le_refl _) h hh
    · exact grpH_mem r f (i+1) (by omega) (by omega) h hh
theorem bLines_mem {x y:List Str}:∀{g:List ChangeT} {s t:Nat} {u:PLineT},u∈bLines x y g s t→(u.text∈x∨u.text∈y)∧0≤u.kind∧u.kind<256:=by
  have tg:∀{k:Int} {l:List Str} {u:PLineT},u∈tagL k l→u.kind=k∧u.text∈l:=fun {k l u} h=>by
    obtain⟨v,hv,rfl⟩:=List.mem_map.1 h
    exact⟨rfl,hv⟩
  intro g
  induction g with
  | nil =>
    intro s t u h
    obtain⟨h1,h2⟩:=tg h
    exact⟨.inl (ct_mem h2),by omega,by omega⟩
  | cons c r ih =>
    intro s t u h
    rw[bLines] at h
    rcases List.mem_append.1 h with h | h
    · obtain⟨h1,h2⟩:=tg h
      exact⟨.inl (ct_mem h2),by omega,by omega⟩
    · rcases List.mem_append.1 h with h | h
      · obtain⟨h1,h2⟩:=tg h
        exact⟨.inl (ct_mem h2),by omega,by omega⟩
      · rcases List.mem_append.1 h with h | h
        · obtain⟨h1,h2⟩:=tg h
          exact⟨.inr (ct_mem h2),by omega,by omega⟩
        · exact ih h
def MkOk (a b:Str):Prop:=checkT a=0∧checkT b=0∧(linesV a).length≤20∧(linesV b).length≤20∧a.length≤100∧b.length≤100
theorem line_le {s u:Str} (h:u∈linesV s):u.length≤s.length:=by
  have:=lines_flat s
  rw[← this]
  exact (List.sublist_flatten_of_mem h).length_le
theorem hunk_arg {a b:Str} (h:MkOk a b) (ctx:Nat) (down:Bool) {u:HunkT} (hu:u∈grpH (chgP a b down) (linesV a).length ctx (chgP a b down) 0 0) :
    hunkArg u (chgP a b down) (linesV a) (linesV b)∧(buildV (chgP a b down) (linesV a) (linesV b) u).lines.length≤40:=by
  obtain⟨ha,hb,h1,h2,h3,h4⟩:=h
  obtain⟨i',j',k1,k2⟩:=chg_lines ha hb down
  have kc:=fit_count k1
  have ke:=FitS.end k1
  generalize chgP a b down=l at *
  generalize linesV a=x at *
  generalize linesV b=y at *
  obtain⟨f,k,rfl,hf,hk⟩:=grpH_mem l 0 0 (by simp) (Nat.le_refl _) u hu
  obtain⟨i1,j1,fl,i2,j2,m1,m2⟩:=slice_fit k1 hf hk
  have me:=FitS.end m1
  have hfl:f<l.length:=by omega
  have hhd:((l.drop f).take (k-f)).head?=some (l.getD f default):=by
    rw[List.drop_eq_getElem_cons hfl,show k-f=(k-f-1)+1 by omega,List.take_succ_cons,List.head?_cons]
    simp[List.getD,hfl]
  obtain⟨o,ho,hol⟩:∃o:Nat,(l.getD f default).old=o∧o≤i2:=by
    cases hg:(l.drop f).take (k-f) with
    | nil=>rw[hg] at hhd;simp at hhd
    | cons c r =>
      rw[hg] at hhd m1
      simp at hhd
      subst hhd
      obtain⟨q,d,e,hc,_,_,_,_,_,h7⟩:=m1
      have:=FitS.end h7
      exact⟨i1+q,by rw[List.getD_eq_getElem?_getD,hc],by omega⟩
  have hmin:min (ctx:Int) (l.getD f default).old=(min ctx o:Nat):=by rw[ho];omega
  have hmin2:min (ctx:Int) (x.length-(l.getD (k-1) default).old-(l.getD (k-1) default).oldLen)=(min ctx (x.length-i2):Nat):=by omega
  have e1:(closedV l f k x.length ctx).ofr=(o-min ctx o:Nat):=by
    simp only[closedV,hmin,ho]
    omega
  have e2:(closedV l f k x.length ctx).oto=(i2+min ctx (x.length-i2):Nat):=by
    simp only[closedV,hmin2]
    omega
  have hb:=fit_bOk (t:=i2+min ctx (x.length-i2)) (s:=o-min ctx o) (by omega) m1 (fun c hc=>by
    rw[hhd] at hc
    simp only[Option.some.injEq] at hc
    rw[← hc,ho]
    omega) (fun _=>by omega) (by omega)
  have e3:(closedV l f k x.length ctx).first=f:=rfl
  have e4:(closedV l f k x.length ctx).last=k:=rfl
  have e5:((k:Int)-(f:Int)).toNat=k-f:=by omega
  refine⟨?_,?_⟩
  · refine⟨by rw[e3];omega,by rw[e3,e4];omega,by rw[e4];omega,by rw[e1];omega,by rw[e1];omega,by rw[e2];omega,by rw[e2];omega,by omega,by omega,by omega,?_⟩
    rw[e1,e2,e3,e4,e5,Int.toNat_natCast,Int.toNat_natCast,Int.toNat_natCast]
    exact hb.1
  · simp only[buildV]
    rw[e1,e2,e3,e4,e5,Int.toNat_natCast,Int.toNat_natCast,Int.toNat_natCast]
    have:=hb.2
    omega
theorem nsum_le {l:List Nat} {B:Nat} (h:∀x,x∈l→x≤B):l.sum≤l.length * B:=by
  induction l with
  | nil=>simp
  | cons a r ih =>
    have h1:=h a (by simp)
    have h2:=ih fun x hx=>h x (by simp[hx])
    simp only[List.sum_cons,List.length_cons,Nat.succ_mul]
    omega
theorem made_small {a b:Str} (h:MkOk a b) (ctx:Nat) (down:Bool):(hunksP a b ctx down).length≤40∧hunksM (hunksP a b ctx down)≤300000∧∀u,u∈hunksP a b ctx down→HunkOk u:=by
  have h0:=h
  obtain⟨ha,hb,h1,h2,h3,h4⟩:=h
  obtain⟨i',j',k1,k2⟩:=chg_lines ha hb down
  have kc:=fit_count k1
  have ke:=FitS.end k1
  have hl:=grpH_len (chgP a b down) (linesV a).length ctx (chgP a b down) 0 0
  have hn:(hunksP a b ctx down).length≤40:=by unfold hunksP;rw[List.length_map];omega
  have hln:∀{u:PHunkT},u∈hunksP a b ctx down→u.lines.length≤40∧∀v,v∈u.lines→v.text.length≤100∧0≤v.kind∧v.kind<256:=fun {u} hu=>by
    unfold hunksP at hu
    obtain⟨w,hw,rfl⟩:=List.mem_map.1 hu
    refine⟨(hunk_arg h0 ctx down hw).2,fun v hv=>?_⟩
    obtain⟨m1,m2⟩:=bLines_mem hv
    refine⟨?_,m2⟩
    rcases m1 with m1 | m1
    · have:=line_le m1;omega
    · have:=line_le m1;omega
  refine⟨hn,?_,fun u hu=>⟨by have:=(hln hu).1;omega,fun v hv=>by have:=(hln hu).2 v hv;omega⟩⟩
  unfold hunksM
  have:=nsum_le (l:=(hunksP a b ctx down).map hunkM) (B:=5400) (fun z hz=>by
    obtain⟨u,hu,rfl⟩:=List.mem_map.1 hz
    obtain⟨n1,n2⟩:=hln hu
    unfold hunkM
    have:=nsum_le (l:=u.lines.map lineM) (B:=130) (fun z hz=>by
      obtain⟨v,hv,rfl⟩:=List.mem_map.1 hz
      unfold lineM
      have:=(n2 v hv).1
      omega)
    rw[List.length_map] at this
    have:u.lines.length * 130≤40 * 130:=Nat.mul_le_mul_right _ n1
    omega)
  rw[List.length_map] at this
  have:(hunksP a b ctx down).length * 5400≤40 * 5400:=Nat.mul_le_mul_right _ hn
  omega
def madeP (o n a b:Str) (ctx:Nat) (down:Bool):PatchT:=⟨o,n,hunksP a b ctx down⟩
theorem names_len (p:PatchT):(namesW p).length≤4 * p.oldName.length+4 * p.newName.length+40:=by
  have h1:=quote_len p.oldName
  have h2:=quote_len p.newName
  simp only[namesW,List.length_append,List.length_cons,List.length_nil]
  omega
theorem made_good {o n a b:Str} (ho:namedB o=true) (hn:namedB n=true) (h:MkOk a b) (ctx:Nat) (down:Bool) :
    PatOk (madeP o n a b ctx down)∧(writV (madeP o n a b ctx down)).length≤400000∧chkP (madeP o n a b ctx down)=0∧applyV (madeP o n a b ctx down) a=(b,0):=by
  obtain⟨s1,s2,s3⟩:=made_small h ctx down
  obtain⟨ha,hb,h1,h2,h3,h4⟩:=h
  obtain⟨m1,m2⟩:=made_ok ha hb ctx down
  have hol:o.length≤200:=by simp[namedB] at ho;exact ho.2
  have hnl:n.length≤200:=by simp[namedB] at hn;exact hn.2
  have hw:(writV (madeP o n a b ctx down)).length≤400000:=by
    have w1:=names_len (madeP o n a b ctx down)
    have w2:=hunksW_le (madeP o n a b ctx down).hunks
    have w3:hunksM (madeP o n a b ctx down).hunks≤300000:=s2
    have w4:(madeP o n a b ctx down).oldName=o:=rfl
    have w5:(madeP o n a b ctx down).newName=n:=rfl
    rw[w4,w5] at w1
    unfold writV
    rw[List.length_append]
    omega
  have hc:chkP (madeP o n a b ctx down)=0:=chkP_zero.2 ⟨ho,hn,m1,by omega⟩
  refine⟨⟨by simp only[madeP];omega,by simp only[madeP];omega,by omega,by simp only[madeP];omega,s3⟩,hw,hc,?_⟩
  have hj:=joinP_lines hb
  unfold applyV
  rw[if_neg (by rw[hc];simp),if_neg (by rw[ha];simp)]
  show applyO (applyL (linesV a) 0 [] (hunksP a b ctx down))=(b,0)
  rw[m2]
  exact hj
@[simp] def S_slide_Down:List D→Prop × D:=spec3 (α:=List ChangeT) (β:=List Int) (γ:=List Int) (fun l a b=>fitsV l a b=true) (fun l a b=>.tup [Rep.to (dwnV l a b),.int .i64 0])
theorem bld_one (l:List ChangeT) (x y:List Str) (H:List HunkT) {j:Nat} (hj:j<H.length):((H.take j).map (buildV l x y)).map Rep.to++[Rep.to (buildV l x y H[j])]=((H.take (j+1)).map (buildV l x y)).map Rep.to:=by
  rw[List.take_succ_eq_append_getElem hj,List.map_append,List.map_append]
  rfl
def bldD (l:List ChangeT) (x y:List Str) (H:List HunkT) (j:Nat):List D:=((H.take j).map (buildV l x y)).map Rep.to
theorem bldD_len (l:List ChangeT) (x y:List Str) (H:List HunkT) {j:Nat} (hj:j≤H.length):(bldD l x y H j).length=j:=by simp[bldD];omega
theorem bldD_one (l:List ChangeT) (x y:List Str) (H:List HunkT) {j:Nat} (hj:j<H.length):bldD l x y H j++[Rep.to (buildV l x y H[j])]=bldD l x y H (j+1):=bld_one l x y H hj
theorem bldD_all (l:List ChangeT) (x y:List Str) (H:List HunkT):bldD l x y H H.length=(H.map (buildV l x y)).map Rep.to:=by simp[bldD]
theorem bldD_zero (l:List ChangeT) (x y:List Str) (H:List HunkT):bldD l x y H 0=[]:=rfl
@[simp] def S_unified_Make:List D→Prop × D:=spec6 (α:=Str) (β:=Str) (γ:=Str) (δ:=Str) (ε:=Int) (ζ:=Bool) (fun o n a b ctx _=>namedB o=true∧namedB n=true∧MkOk a b∧0≤ctx∧ctx≤1000)
  (fun o n a b ctx down=>.tup [Rep.to (madeP o n a b ctx.toNat down),.int .i64 0])
theorem ct_unified_Make {P:Program} {f g1 g2 g3 g4 g5 g6 g7 g8:Nat} {G:Gam} (h:CodeOf P f 6 26 [32006,7] (x_unified_Make g1 g2 g3 g4 g5 g6 g7 g8)) (hG:GamOk P G) (h1:G.find g1=some S_unified_named) (h2:G.find g2=some S_text_Split) (h3:G.find g3=some S_intern_Ids) (h4:G.find g4=some S_shortest_Script)
    (h5:G.find g5=some S_slide_Down) (h6:G.find g6=some S_hunk_Group) (h7:G.find g7=some S_unified_build) (h8:G.find g8=some S_unified_size):Has P f S_unified_Make:=h.has6 hG fun o n a b ctx down hp=>by
  obtain⟨p1,p2,p3,p4,p5⟩:=hp
  obtain⟨ctx,rfl⟩:=Int.eq_ofNat_of_zero_le p4
  obtain⟨q1,q2,q3,q4⟩:=made_good p1 p2 p3 ctx down
  have hha:=fun {u} hu=>(hunk_arg p3 ctx down (u:=u) hu).1
  have hsm:=(made_small p3 ctx down).1
  obtain⟨k1,k2,k3,k4,k5,k6⟩:=p3
  have e1:splitD a=.tup [Rep.to (linesV a),.int .i64 0]:=if_pos k1
  have e2:splitD b=.tup [Rep.to (linesV b),.int .i64 0]:=if_pos k2
  have hi0:=idp2_l0 a b
  have hi1:=idp2_l1 a b
  have hsc:=script_fits (a:=(idp2 a b).getD 0 []) (b:=(idp2 a b).getD 1 []) (by omega) (by omega)
  have hck:=(chg_fit k1 k2 down).check (by omega) (by omega)
  rw[hi0,hi1] at hck
  have hl:¬longV ((idp2 a b).getD 0 []) ((idp2 a b).getD 1 []):=by unfold longV;omega
  have hsm2:smallL [linesV a,linesV b]:=⟨by simp,by simp;omega⟩
  have hids:idsV [linesV a,linesV b]=[(idp2 a b).getD 0 [],(idp2 a b).getD 1 []]:=rfl
  have hscr:scriptV ((idp2 a b).getD 0 []) ((idp2 a b).getD 1 [])=scrP a b:=rfl
  rw[hscr] at hsc
  have hmp:madeP o n a b ctx down=⟨o,n,(grpH (chgP a b down) (linesV a).length ctx (chgP a b down) 0 0).map (buildV (chgP a b down) (linesV a) (linesV b))⟩:=rfl
  have hml:(grpH (chgP a b down) (linesV a).length ctx (chgP a b down) 0 0).length≤40:=by unfold hunksP at hsm;rwa [List.length_map] at hsm
  simp only[Int.toNat_natCast]
  rw[hmp] at q1 q2 ⊢
  have hchg:(if down=true then dwnV (scrP a b) ((idp2 a b).getD 0 []) ((idp2 a b).getD 1 []) else scrP a b)=chgP a b down:=rfl
  generalize hL:chgP a b down=L at *
  generalize hH:grpH L (linesV a).length ctx L 0 0=H at *
  generalize (idp2 a b).getD 0 []=I0 at *
  generalize (idp2 a b).getD 1 []=I1 at *
  generalize scrP a b=S at *
  generalize hX:linesV a=x at *
  generalize hY:linesV b=y at *
  have main:vc G 0 (x_unified_Make g1 g2 g3 g4 g5 g6 g7 g8) (Fin [32006,7] (D.tup [Rep.to (⟨o,n,H.map (buildV L x y)⟩:PatchT),.int .i64 0])) (start [Rep.to o,Rep.to n,Rep.to a,Rep.to b,Rep.to (ctx:Int),Rep.to down] 26) []:=by
    cases down
    case' false =>
      simp at hchg
      have hchg:=hchg.symm
      subst hchg
      simp[x_unified_Make,h1,h2,p1,p2,e1,e2,h3,hsm2,hids,h4,hl,hscr,h6,hck,hH,show a.length≤4194304 by omega,show b.length≤4194304 by omega,show I0.length≤1048576 by omega,show I1.length≤1048576 by omega]
      refine⟨by omega,?_⟩
    case' true =>
      simp at hchg
      simp[x_unified_Make,h1,h2,p1,p2,e1,e2,h3,hsm2,hids,h4,hl,hscr,h5,hsc,hchg,h6,hck,hH,show a.length≤4194304 by omega,show b.length≤4194304 by omega,show I0.length≤1048576 by omega,show I1.length≤1048576 by omega]
      refine⟨by omega,?_⟩
    all_goals
      refine vc_lpR (σ:=Nat) (fun i=>i≤H.length) (fun i=>H.length-i)
        (fun i=>[.any,.any,.any,.any,.any,.any,.ref 0 0 0 0,.any,.d (.sl 1 (x.map Rep.to)),.any,.d (.sl 1 (y.map Rep.to)),.any,.d (.sl 4 (L.map Rep.to)),.any,.ref 1 0 0 0,.any,.any,.any,.any,.any,.any,.d (.sl 6 (H.map Rep.to)),.d (.int .i64 H.length),.d (.int .i64 i),.any,.any])
        (fun i=>[.cells 0 3 [.d (.agg [.str [],.str [],.nilsl])],.cells 0 3 [.agg [.d (.str o),.d (.str n),.gr 2 3 (bldD L x y H i)]],.tip i]) 0 ?_ (by simp) ?_
      · refine Re.wn (s':=[.cells 0 3 [.d (.agg [.str [],.str [],.nilsl])],.cells 0 3 [.agg [.d (.str o),.d (.str n),.gr 2 3 []]]]) [false,false,false,false,false,false,true,false,true,false,true,false,true,false,true,false,false,false,false,false,false,true,true,true] [.tip 0] (by simp) (by simp) ?_ ?_ (by simp[bldD_zero])
        · simp
        · refine⟨.inl rfl,.cellsL ?_,trivial⟩
          simp
          exact Wk.fresh _ _ _ 0 rfl
      intro i i1
      have hbl:=bldD_len L x y H i1
      by_cases hi:i<H.length
      · have w1:IntKind.i64.wrap ((i:Int)+1)=(i:Int)+1:=wrap_in (by omega) (by omega)
        have ha:=hha (List.getElem_mem hi)
        have hs:=bldD_one L x y H hi
        simp only[to_PHunk] at hs
        have hae:hunkArg ⟨H[i].first,H[i].last,H[i].ofr,H[i].oto,H[i].nfr,H[i].nto⟩ L x y:=ha
        have hbe:buildV L x y ⟨H[i].first,H[i].last,H[i].ofr,H[i].oto,H[i].nfr,H[i].nto⟩=buildV L x y H[i]:=rfl
        simp[hi,getD_map,h7,hae,hbe,hbl,w1,hs]
        refine⟨by unfold room;omega,Nxt.mk (i+1) (by omega) (by simp) (by simp) (by omega)⟩
      · obtain rfl:i=H.length:=by omega
        rw[bldD_all]
        simp[h8,q1]
        omega
  exact main
def spoilB (c:Int):UInt8:=UInt8.ofNat (IntKind.u8.wrap c).toNat
def spoilI (s:Str) (at':Int):Nat:=(modV at' (s.length+1)).toNat
def spoilV (s:Str) (what at' c:Int):Str :=
  if modV what 4=0 then s.take (spoilI s at')++(spoilB c::s.drop (spoilI s at')) else
    if modV what 4=1 then s.take (spoilI s at')++s.drop (min (spoilI s at'+1) s.length) else
      if modV what 4=2 then s.take (spoilI s at')++(spoilB c::s.drop (min (spoilI s at'+1) s.length)) else s
theorem spoil_len (s:Str) (what at' c:Int):(spoilV s what at' c).length≤s.length+1:=by
  unfold spoilV
  split
  · simp;omega
  · split
    · simp;omega
    · split
      · simp;omega
      · omega
@[simp] def S_gen_Spoiled:List D→Prop × D:=spec4 (α:=Str) (β:=Int) (γ:=Int) (δ:=Int) (fun s _ _ _=>s.length≤1048576) (fun s w a c=>.str (spoilV s w a c))
theorem ct_gen_Spoiled {P:Program} {f g1:Nat} {G:Gam} (h:CodeOf P f 4 10 [4] (x_gen_Spoiled g1)) (hG:GamOk P G) (h1:G.find g1=some S_gen_Mod):Has P f S_gen_Spoiled:=h.has4 hG fun s w a c hp=>by
  have w1:IntKind.i64.wrap ((s.length:Int)+1)=(s.length:Int)+1:=wrap_in (by omega) (by omega)
  obtain⟨m1,m2⟩:=modV_lt a (n:=(s.length:Int)+1) (by omega)
  obtain⟨k1,k2⟩:=modV_lt w (n:=4) (by omega)
  obtain⟨i,hi⟩:=Int.eq_ofNat_of_zero_le m1
  have hI:spoilI s a=i:=by unfold spoilI;rw[hi];rfl
  have hil:i≤s.length:=by omega
  have w2:IntKind.i64.wrap ((i:Int)+1)=(i:Int)+1:=wrap_in (by omega) (by omega)
  have hmin:min ((i:Int)+1) (s.length:Int)=((min (i+1) s.length:Nat):Int):=by omega
  have hb:spoilB c=UInt8.ofNat (IntKind.u8.wrap c).toNat:=rfl
  generalize hsv:spoilV s w a c=R
  unfold spoilV at hsv
  rw[hI,hb] at hsv
  generalize hk:modV w 4=k at *
  have hb2:eB2s [] (.d (.sl 1 [.int .u8 (IntKind.u8.wrap c)]))=⟨True,[],.d (.str [UInt8.ofNat (IntKind.u8.wrap c).toNat])⟩:=by
    simp[eB2s,A.notStr,src,allU8,u8s,borFp]
  have htk:s.drop i=List.take (s.length-i) (s.drop i):=by rw[List.take_of_length_le (by simp)]
  by_cases c0:k=0
  · rw[if_pos c0] at hsv
    subst c0
    simp[x_gen_Spoiled,h1,w1,hk,hi,hil,hb2]
    refine⟨by omega,by omega,by omega,?_⟩
    rw[← htk]
    exact hsv
  · rw[if_neg c0] at hsv
    generalize hm:min (i+1) s.length=m at *
    have hmn:(min ((i:Int)+1) (s.length:Int))=(m:Int):=by omega
    have hml:m≤s.length:=by omega
    have htm:s.drop m=List.take (s.length-m) (s.drop m):=by rw[List.take_of_length_le (by simp)]
    by_cases c1:k=1
    · rw[if_pos c1] at hsv
      subst c1
      simp[x_gen_Spoiled,h1,w1,hk,hi,hil,hb2,w2,hmn,hml]
      refine⟨⟨by omega,by omega⟩,by omega,?_⟩
      rw[← htm]
      exact hsv
    · rw[if_neg c1] at hsv
      by_cases c2:k=2
      · rw[if_pos c2] at hsv
        subst c2
        simp[x_gen_Spoiled,h1,w1,hk,hi,hil,hb2,w2,hmn,hml]
        refine⟨⟨by omega,by omega⟩,by omega,by omega,?_⟩
        rw[← htm]
        exact hsv
      · rw[if_neg c2] at hsv
        simp[x_gen_Spoiled,h1,w1,hk,hi,hil,hb2,w2,hmn,hml,c0,c1,c2]
        exact⟨⟨by omega,by omega⟩,hsv⟩
theorem readP_pat {s:Str} (hs:s.length≤1048576) (h:(readP s).2=0):PatOk (readP s).1:=by
  have hll:=linesS_len s
  unfold readP at h ⊢
  split
  · rename_i c;rw[if_pos c] at h;simp at h
  · rename_i c
    rw[if_neg c] at h
    split
    · rename_i c2;rw[if_pos c2] at h;simp at h
    · rename_i c2
      rw[if_neg c2] at h
      cases hp:parseV (linesS s).1 with
      | none=>rw[hp] at h;simp at h
      | some p =>
        rw[hp] at h
        simp only at h ⊢
        by_cases c3:chkP p=0∧writV p=s
        · rw[if_pos c3];exact parseV_ok hp (by omega) (by omega)
        · rw[if_neg c3] at h;simp at h
theorem PatOk.rev {p:PatchT} (h:PatOk p):PatOk (revP p):=by
  obtain⟨h1,h2,h3,h4,h5⟩:=h
  refine⟨h2,h1,by rw[writ_len];exact h3,by simp only[revP,List.length_map];exact h4,fun u hu=>?_⟩
  simp only[revP] at hu
  obtain⟨v,hv,rfl⟩:=List.mem_map.1 hu
  obtain⟨k1,k2⟩:=h5 v hv
  refine⟨by simp only[revH,List.length_map];exact k1,fun x hx=>?_⟩
  simp only[revH] at hx
  obtain⟨y,hy,rfl⟩:=List.mem_map.1 hx
  obtain⟨m1,m2,m3⟩:=k2 y hy
  refine⟨m1,?_,?_⟩
  · simp only[revL,swapK]
    split
    · omega
    · split <;> omega
  · simp only[revL,swapK]
    split
    · omega
    · split <;> omega
theorem PatS.rev {p:PatchT} (h:PatS p):PatS (revP p):=⟨h.1.rev,by rw[writ_len];exact h.2⟩
theorem apply_len {p:PatchT} {b y:Str} (h:applyV p b=(y,0)):y.length≤1048576:=by
  unfold applyV at h
  split at h
  · rw[← (Prod.mk.inj h).1];simp
  · split at h
    · rw[← (Prod.mk.inj h).1];simp
    · cases hl:applyL (linesV b) 0 [] p.hunks with
      | none=>rw[hl] at h;rw[← (Prod.mk.inj h).1];simp
      | some l =>
        rw[hl] at h
        have h:joinP l=(y,0):=h
        unfold joinP at h
        split at h
        · split at h
          · rename_i k
            rw[← (Prod.mk.inj h).1]
            have:l.flatten.length=flen l:=rfl
            omega
          · rw[← (Prod.mk.inj h).1];simp
        · rw[← (Prod.mk.inj h).1];simp
theorem read_law {s:Str} (hs:s.length≤1048576) (h:(readP s).2=0):PatS (readP s).1∧fmtP (readP s).1=.tup [.str s,.int .i64 0]∧chkP (readP s).1=0:=by
  obtain⟨h1,h2⟩:=readP_ok h
  refine⟨⟨readP_pat hs h,by rw[h2];omega⟩,?_,h1⟩
  unfold fmtP
  rw[if_pos h1,h2]
theorem made_law {o n a b:Str} (ho:namedB o=true) (hn:namedB n=true) (h:MkOk a b) (ctx:Nat) (down:Bool) :
    PatS (madeP o n a b ctx down)∧fmtP (madeP o n a b ctx down)=.tup [.str (writV (madeP o n a b ctx down)),.int .i64 0]∧revD (madeP o n a b ctx down)=.tup [Rep.to (revP (madeP o n a b ctx down)),.int .i64 0] ∧
      applyV (madeP o n a b ctx down) a=(b,0)∧applyV (revP (madeP o n a b ctx down)) b=(a,0):=by
  obtain⟨h1,h2,h3,h4⟩:=made_good ho hn h ctx down
  refine⟨⟨h1,by omega⟩,?_,?_,h4,(apply_back h3 h4).2⟩
  · unfold fmtP;rw[if_pos h3]
  · unfold revD;rw[if_pos h3]
def wakeS:Str:=[45,45,45,32,120,10,43,43,43,32,120,10,64,64,32,45,49,32,43,49,32,64,64,10,45,97,10,43,98,10]
def wakeP:PatchT:=⟨[120],[120],[⟨0,0,[⟨45,[97,10]⟩,⟨43,[98,10]⟩]⟩]⟩
theorem wake_read:readP wakeS=(wakeP,0):=by decide +kernel
theorem wake_apply:applyV wakeP [97,10]=([98,10],0):=by decide +kernel
theorem wake_ok:PatS wakeP:=by
  have h:=read_law (s:=wakeS) (by decide) (by rw[wake_read])
  rw[wake_read] at h
  exact h.1
@[simp] def S_top_wake:List D→Prop × D:=spec0 True (.bool true)
theorem ct_top_wake {P:Program} {f g1 g2:Nat} {G:Gam} (h:CodeOf P f 0 5 [0] (x_top_wake g1 g2)) (hG:GamOk P G) (h1:G.find g1=some S_strict_Parse) (h2:G.find g2=some S_patch_Apply):Has P f S_top_wake:=h.has0 hG fun _=>by
  have hr:readD [45,45,45,32,120,10,43,43,43,32,120,10,64,64,32,45,49,32,43,49,32,64,64,10,45,97,10,43,98,10]=.tup [Rep.to wakeP,.int .i64 0]:=by
    show D.tup [Rep.to (readP wakeS).1,.int .i64 (readP wakeS).2]=_
    rw[wake_read]
  have hw:=wake_ok
  have ha:=wake_apply
  generalize wakeP=p at *
  have hpe:PatS ⟨p.oldName,p.newName,p.hunks⟩:=hw
  have hae:applyV ⟨p.oldName,p.newName,p.hunks⟩ [97,10]=([98,10],0):=ha
  simp[x_top_wake,h1,hr,h2,hpe,hae]
@[simp] def S_top_TopReverses:List D→Prop × D:=spec7 (α:=Str) (β:=Str) (γ:=List Int) (δ:=Int) (ε:=Int) (ζ:=Int) (η:=Int) (fun _ _ raw _ _ _ _=>raw.length≤1048576) (fun _ _ _ _ _ _ _=>.bool true)
theorem ct_top_TopReverses {P:Program} {f g1 g2 g3 g4 g5 g6 g7 g8 g9 g10:Nat} {G:Gam} (h:CodeOf P f 7 36 [7] (x_top_TopReverses g1 g2 g3 g4 g5 g6 g7 g8 g9 g10)) (hG:GamOk P G) (h1:G.find g1=some S_top_wake) (h2:G.find g2=some S_gen_Blob) (h3:G.find g3=some S_gen_Near) (h4:G.find g4=some S_gen_Mod)
    (h5:G.find g5=some S_unified_Make) (h6:G.find g6=some S_unified_Format) (h7:G.find g7=some S_gen_Spoiled) (h8:G.find g8=some S_strict_Parse) (h9:G.find g9=some S_patch_Apply) (h10:G.find g10=some S_patch_Reverse):Has P f S_top_TopReverses:=h.has7 hG fun s blob raw context what at' c p1=>by
  by_cases c1:120<(s.length:Int)
  · simp[x_top_TopReverses,h1,c1]
  by_cases c2:60<(blob.length:Int)
  · simp[x_top_TopReverses,h1,c1,c2]
  have b1:=(blobV_good raw 0 5 (n:=8) (by omega))
  have b2:=lines_blob raw 0 5 (n:=8) (by omega)
  have b3:=nearV_good (blobV raw 0 8 5) raw 100
  have b4:=nearV_good (blobV raw 0 8 5) raw 300
  obtain⟨m1,m2⟩:=modV_lt context (n:=4) (by omega)
  generalize hA:blobV raw 0 8 5=A at *
  generalize hB:nearV A raw 100=B at *
  generalize hC:nearV A raw 300=C at *
  generalize hm:modV context 4=m at *
  have hmk:MkOk A B:=by
    have lc:∀s:Str,(linesV s).length≤s.count 10+1:=fun s=>by rw[linesV_len];split <;> omega
    have a1:=lc A
    have a2:=lc B
    have ck:∀s:Str,s.length≤200→checkT s=0:=fun s h=>check_of (by omega) (by have:s.count 10≤s.length:=List.count_le_length;omega)
    exact⟨ck _ (by omega),ck _ (by omega),by omega,by omega,by omega,by omega⟩
  obtain⟨q1,q2,q3,q4,q5⟩:=made_law (o:=[111]) (n:=[110]) (by decide) (by decide) hmk m.toNat false
  obtain⟨q6,q7,_,_⟩:=made_good (o:=[111]) (n:=[110]) (by decide) (by decide) hmk m.toNat false
  generalize hP:madeP [111] [110] A B m.toNat false=p at *
  generalize hT:writV p=T at *
  have hSp:=spoil_len T what at' c
  generalize hS:spoilV T what at' c=S at *
  have hpe:PatOk ⟨p.oldName,p.newName,p.hunks⟩:=q6
  have hpf:fmtP ⟨p.oldName,p.newName,p.hunks⟩=.tup [.str T,.int .i64 0]:=q2
  have n1:namedB [111]=true:=by decide
  have n2:namedB [110]=true:=by decide
  obtain⟨TX,hTX⟩:∃TX,TX=[s,T,S,([45,45,45,32,97,10,43,43,43,32,98,10,64,64,32,45,49,32,43,49,32,64,64,10]:Str)++s]:=⟨_,rfl⟩
  obtain⟨BL,hBL⟩:∃BL,BL=[blob,A,C]:=⟨_,rfl⟩
  simp[x_top_TopReverses,c1,c2,h2,p1,hA,h3,hB,h4,hm,h5,hmk,n1,n2,hP,h6,hpe,hpf,h7,hS,hC]
  have hTd:D.sl 1 (TX.map Rep.to)=D.sl 1 [.str s,.str T,.str S,.str (([45,45,45,32,97,10,43,43,43,32,98,10,64,64,32,45,49,32,43,49,32,64,64,10]:Str)++s)]:=by rw[hTX];rfl
  have hBd:D.sl 1 (BL.map Rep.to)=D.sl 1 [.str blob,.str A,.str C]:=by rw[hBL];rfl
  have hTl:TX.length=4:=by rw[hTX];rfl
  have hBl:BL.length=3:=by rw[hBL];rfl
  have hTs:∀t,t∈TX→t.length≤1048576:=by
    rw[hTX]
    intro t ht
    simp at ht
    rcases ht with rfl | rfl | rfl | rfl
    · omega
    · omega
    · omega
    · simp;omega
  have hBs:∀t,t∈BL→t.length≤1048576:=by
    rw[hBL]
    intro t ht
    simp at ht
    rcases ht with rfl | rfl | rfl <;> omega
  refine⟨by omega,⟨by omega,by omega⟩,by omega,by omega,by omega,?_⟩
  clear hTX hBL
  refine vc_lp (σ:=Nat) (fun i=>i≤4) (fun i=>4-i)
    (fun i=>[.any,.any,.any,.any,.any,.any,.any,.any,.any,.any,.any,.any,.any,.any,.d (.sl 1 (TX.map Rep.to)),.d (.sl 1 (BL.map Rep.to)),.d (.int .i64 i),.any,.any,.any,.any,.any,.any,.any,.any,.any,.any,.any,.any,.any,.any,.any,.any,.any,.any,.any]) (fun _=>[]) 0 (by rw[hTd,hBd];simp) (by simp) (by simp) ?_
  intro i i1
  clear hTd hBd
  by_cases hi:i<4
  · have w1:IntKind.i64.wrap ((i:Int)+1)=(i:Int)+1:=wrap_in (by omega) (by omega)
    have hiT:i<TX.length:=by omega
    have ht:=hTs _ (List.getElem_mem hiT)
    have hg:TX[i]?=some TX[i]:=List.getElem?_eq_getElem hiT
    generalize hge:TX[i]=t at *
    have hr:readD t=.tup [Rep.to (readP t).1,.int .i64 (readP t).2]:=rfl
    have hlaw:=fun h=>read_law ht h
    have hback:=fun (b y:Str) (h:(readP t).2=0)=>apply_back (b:=b) (y:=y) (hlaw h).2.2
    generalize (readP t).1=q at *
    generalize (readP t).2=e at *
    by_cases he:e=0
    · obtain⟨k1,k2,k3⟩:=hlaw he
      subst he
      simp[show (i:Int)<4 by omega,hiT,hg,hge,h8,ht,hr]
      have kpe:PatOk ⟨q.oldName,q.newName,q.hunks⟩:=k1.1
      have kse:PatS ⟨q.oldName,q.newName,q.hunks⟩:=k1
      have kre:=k1.rev
      have kfe:fmtP ⟨q.oldName,q.newName,q.hunks⟩=.tup [.str t,.int .i64 0]:=k2
      have kve:revD ⟨q.oldName,q.newName,q.hunks⟩=.tup [Rep.to (revP q),.int .i64 0]:=by
        show revD q=_
        unfold revD
        rw[if_pos k3]
      have hbk:∀b y:Str,applyV q b=(y,0)→applyV (revP q) y=(b,0):=fun b y h=>(hback b y rfl h).2
      have hye:∀b,applyV ⟨q.oldName,q.newName,q.hunks⟩ b=applyV q b:=fun b=>rfl
      have hyl:∀b y:Str,applyV q b=(y,0)→y.length≤1048576:=fun b y h=>apply_len h
      simp[show (i:Int)<4 by omega,hiT,hg,hge,h8,ht,hr,h6,kpe,kfe]
      generalize revP q=r at *
      have rse:PatS ⟨r.oldName,r.newName,r.hunks⟩:=kre
      have hze:∀b,applyV ⟨r.oldName,r.newName,r.hunks⟩ b=applyV r b:=fun b=>rfl
      refine vc_lp (σ:=Nat) (fun k=>k≤3) (fun k=>3-k)
        (fun k=>[.any,.any,.any,.any,.any,.any,.any,.any,.any,.any,.any,.any,.any,.any,.d (.sl 1 (TX.map Rep.to)),.d (.sl 1 (BL.map Rep.to)),.d (.int .i64 i),.ref 0 0 0 0,.any,.any,.any,.d (.int .i64 k),.any,.any,.any,.any,.any,.any,.any,.any,.any,.any,.any,.any,.any,.any]) (fun _=>[.cells 0 3 [.d (.agg [.str q.oldName,.str q.newName,.sl 3 (q.hunks.map Rep.to)])]]) 0 (by simp) (by simp) (by simp) ?_
      intro k hk
      by_cases hk3:k<3
      · have w2:IntKind.i64.wrap ((k:Int)+1)=(k:Int)+1:=wrap_in (by omega) (by omega)
        have hkB:k<BL.length:=by omega
        have hb:=hBs _ (List.getElem_mem hkB)
        have hgb:BL[k]?=some BL[k]:=List.getElem?_eq_getElem hkB
        generalize hgbe:BL[k]=b at *
        obtain⟨y,e,hy⟩:∃y e,applyV q b=(y,e):=⟨_,_,rfl⟩
        by_cases he:e=0
        · subst he
          have z1:=hbk b y hy
          have z2:=hyl b y hy
          simp[show (k:Int)<3 by omega,hkB,hgb,hgbe,h9,kse,hb,hye,hy,h10,kpe,kve,rse,z2,hze,z1,w2]
          exact Nxt.mk (k+1) (by omega) (by simp) (by simp) (by omega)
        · simp[show (k:Int)<3 by omega,hkB,hgb,hgbe,h9,kse,hb,hye,hy,he,w2]
          exact Nxt.mk (k+1) (by omega) (by simp) (by simp) (by omega)
      · simp[show ¬(k:Int)<3 by omega,w1]
        exact Nxt.mk (i+1) (by omega) (by simp) (by simp) (by omega)
    · simp[show (i:Int)<4 by omega,hiT,hg,hge,h8,ht,hr,he,w1]
      exact Nxt.mk (i+1) (by omega) (by simp) (by simp) (by omega)
  · simp[show ¬(i:Int)<4 by omega,h1]
theorem top_TopReverses_pre (s blob:Str) (raw:List Int) (context what at' c:Int) (_:Arg.wf s) (_:Arg.wf blob) (_:Arg.wf raw) (_:Arg.wf context) (_:Arg.wf what) (_:Arg.wf at') (_:Arg.wf c) (h:Arg.bulk s+(Arg.bulk blob+(Arg.bulk raw+(Arg.bulk context+(Arg.bulk what+(Arg.bulk at'+(Arg.bulk c+0))))))≤1048576):raw.length≤1048576:=by
  have:=len_bulk raw
  omega
theorem blobOne_cnt (raw:List Int) {lines:Int} (hl:0≤lines) (p:Nat):(blobOne raw lines p).count 10≤2 * lines.toNat+1:=by
  unfold blobOne
  split
  · have:=(blobV_good raw (600+50 * p) 4 hl).2;omega
  · split
    · have:=(blobV_good raw 0 5 hl).2;omega
    · have h1:=(nearV_good (blobV raw 0 lines 5) raw (600+50 * p)).2
      have h2:=(blobV_good raw 0 5 hl).2
      have h3:=lines_blob raw 0 5 hl
      omega
def SmlB (s:Str):Prop:=checkT s=0∧(linesV s).length≤20∧s.length≤100
theorem sml_of {s:Str} (h1:s.length≤100) (h2:s.count 10≤19):SmlB s :=
  ⟨check_of (by omega) (by omega),by rw[linesV_len];split <;> omega,h1⟩
theorem mk_of {a b:Str} (ha:SmlB a) (hb:SmlB b):MkOk a b:=⟨ha.1,hb.1,ha.2.1,hb.2.1,ha.2.2,hb.2.2⟩
@[simp] def S_top_TopChains:List D→Prop × D:=spec3 (α:=List Int) (β:=Int) (γ:=Int) (fun raw _ _=>raw.length≤1048576) (fun _ _ _=>.bool true)
theorem ct_top_TopChains {P:Program} {f g1 g2 g3 g4 g5 g6:Nat} {G:Gam} (h:CodeOf P f 3 17 [3] (x_top_TopChains g1 g2 g3 g4 g5 g6)) (hG:GamOk P G) (h1:G.find g1=some S_gen_Mod) (h2:G.find g2=some S_gen_Blobs) (h3:G.find g3=some S_unified_Make) (h4:G.find g4=some S_patch_Reverse) (h5:G.find g5=some S_patch_Apply) (h6:G.find g6=some S_top_wake):Has P f S_top_TopChains:=h.has3 hG fun raw n context p1=>by
  obtain⟨m1,m2⟩:=modV_lt context (n:=4) (by omega)
  obtain⟨n1,n2⟩:=modV_lt n (n:=5) (by omega)
  obtain⟨u,hu⟩:=Int.eq_ofNat_of_zero_le n1
  generalize hm:modV context 4=m at *
  have w0:IntKind.i64.wrap (1+(u:Int))=((u+1:Nat):Int):=by rw[wrap_in (by omega) (by omega)];omega
  have w1:IntKind.i64.wrap ((u:Int)+1+1)=(u:Int)+1+1:=wrap_in (by omega) (by omega)
  have e1:((u:Int)+1+1).toNat=u+1+1:=by omega
  have hL:∀b,b∈blobsV raw (u+1+1) 6→SmlB b:=fun b hb=>by
    obtain⟨p,_,rfl⟩:=List.mem_map.1 hb
    have h1:=blobOne_len raw (lines:=6) (by omega) p
    have h2:=blobOne_cnt raw (lines:=6) (by omega) p
    exact sml_of (by omega) (by omega)
  have hLl:(blobsV raw (u+1+1) 6).length=u+2:=by simp[blobsV]
  generalize hB:blobsV raw (u+1+1) 6=L at *
  have g0:L[0]?=some L[0]:=List.getElem?_eq_getElem (by omega)
  have gn:L[u+1]?=some L[u+1]:=List.getElem?_eq_getElem (by omega)
  simp only[Int.natCast_add,Int.natCast_one] at w0
  have a1:namedB [111]=true:=by decide
  have a2:namedB [110]=true:=by decide
  simp[x_top_TopChains,h1,hu,w0,w1,e1,h2,p1,hB,hLl]
  obtain⟨gL,hgL⟩:∃gL:Nat→Str,∀k (h:k<L.length),L[k]=gL k:=⟨fun k=>L.getD k [],fun k h=>by simp[List.getD,h]⟩
  have hgS:∀k,k<L.length→SmlB (gL k):=fun k h=>by rw[← hgL k h];exact hL _ (List.getElem_mem h)
  refine⟨by omega,by omega,by omega,?_⟩
  refine vc_lp (σ:=Nat) (fun k=>k≤u+1) (fun k=>u+1-k)
    (fun k=>[.any,.d (.int .i64 ((u:Int)+1)),.d (.int .i64 context),.any,.d (.sl 1 (L.map Rep.to)),.d (.str (gL k)),.d (.str (gL (u+1-k))),.d (.int .i64 k),.any,.any,.any,.any,.any,.any,.any,.any,.any]) (fun _=>[]) 0 (by simp[hgL 0 (by omega),hgL (u+1) (by omega)]) (by simp) (by simp) ?_
  intro k hk
  by_cases hku:k<u+1
  · have w2:IntKind.i64.wrap ((k:Int)+1)=(k:Int)+1:=wrap_in (by omega) (by omega)
    have w3:IntKind.i64.wrap (u:Int)=(u:Int):=wrap_in (by omega) (by omega)
    have w4:IntKind.i64.wrap ((u:Int)-k)=(u:Int)-k:=wrap_in (by omega) (by omega)
    have w5:IntKind.i64.wrap ((u:Int)+1-k)=(u:Int)+1-k:=wrap_in (by omega) (by omega)
    have e2:((u:Int)-k).toNat=u-k:=by omega
    have e3:((u:Int)+1-k).toNat=u+1-k:=by omega
    have q1:=hgL k (by omega)
    have q2:=hgL (k+1) (by omega)
    have q3:=hgL (u-k) (by omega)
    have q4:=hgL (u+1-k) (by omega)
    have r1:L[k]?=some (gL k):=by rw[List.getElem?_eq_getElem (by omega),q1]
    have r2:L[k+1]?=some (gL (k+1)):=by rw[List.getElem?_eq_getElem (by omega),q2]
    have r3:L[u-k]?=some (gL (u-k)):=by rw[List.getElem?_eq_getElem (by omega),q3]
    have r4:L[u+1-k]?=some (gL (u+1-k)):=by rw[List.getElem?_eq_getElem (by omega),q4]
    have s1:=hgS k (by omega)
    have s2:=hgS (k+1) (by omega)
    have s3:=hgS (u-k) (by omega)
    have s4:=hgS (u+1-k) (by omega)
    have mk1:=mk_of s1 s2
    have mk2:=mk_of s3 s4
    have en:u+1-(k+1)=u-k:=by omega
    obtain⟨dw,hdw⟩:∃dw,decide ((k:Int).tmod 2=0)=dw:=⟨_,rfl⟩
    obtain⟨t1,_,_,t2,_⟩:=made_law a1 a2 mk1 m.toNat dw
    obtain⟨t3,_,t4,_,t5⟩:=made_law a1 a2 mk2 m.toNat dw
    generalize hP1:madeP [111] [110] (gL k) (gL (k+1)) m.toNat dw=x at *
    generalize hP2:madeP [111] [110] (gL (u-k)) (gL (u+1-k)) m.toNat dw=y at *
    have t6:=t3.rev
    generalize revP y=r at *
    have x1:PatS ⟨x.oldName,x.newName,x.hunks⟩:=t1
    have x2:∀b,applyV ⟨x.oldName,x.newName,x.hunks⟩ b=applyV x b:=fun b=>rfl
    have y1:PatOk ⟨y.oldName,y.newName,y.hunks⟩:=t3.1
    have y2:revD ⟨y.oldName,y.newName,y.hunks⟩=.tup [Rep.to r,.int .i64 0]:=t4
    have r5:PatS ⟨r.oldName,r.newName,r.hunks⟩:=t6
    have r6:∀b,applyV ⟨r.oldName,r.newName,r.hunks⟩ b=applyV r b:=fun b=>rfl
    simp[show (k:Int)<(u:Int)+1 by omega,show k<u+2 by omega,hLl,r1,r2,r3,r4,q1,q2,q3,q4,w2,w3,w4,w5,e2,e3,h1,hm,h3,a1,a2,mk1,mk2,hdw,hP1,hP2,h4,y1,y2,h5,x1,x2,t2,r5,r6,t5,show (gL k).length≤1048576 by have:=s1.2.2;omega,show (gL (u+1-k)).length≤1048576 by have:=s4.2.2;omega]
    refine⟨by omega,⟨by omega,by omega⟩,⟨by omega,by omega⟩,⟨by omega,by omega⟩,⟨by omega,by omega⟩,⟨by omega,by omega⟩,Nxt.mk (k+1) (by omega) (by simp[en]) (by simp) (by omega)⟩
  · obtain rfl:k=u+1:=by omega
    have q1:=hgL 0 (by omega)
    have q2:=hgL (u+1) (by omega)
    simp[hLl,q1,q2,h6]
    omega
theorem top_TopChains_pre (raw:List Int) (n context:Int) (_:Arg.wf raw) (_:Arg.wf n) (_:Arg.wf context) (h:Arg.bulk raw+(Arg.bulk n+(Arg.bulk context+0))≤1048576):raw.length≤1048576:=by
  have:=len_bulk raw
  omega
def chA (c:ChangeT):A:=.agg [.d (.int .i64 c.old),.d (.int .i64 c.oldLen),.d (.int .i64 c.new),.d (.int .i64 c.newLen)]
def A.chT (a:A):ChangeT:=⟨(a.cells.getD 0 .any).gi,(a.cells.getD 1 .any).gi,(a.cells.getD 2 .any).gi,(a.cells.getD 3 .any).gi⟩
@[simp] theorem chT_chA (c:ChangeT):(chA c).chT=c:=by obtain⟨a,b,d,e⟩:=c;rfl
@[simp] theorem under_chA (n:Nat) (c:ChangeT):(chA c).under n=true:=rfl
@[simp] theorem fits_chA (c:ChangeT):(chA c).fits 4=true:=rfl
@[simp] theorem ren_chA (r:Nat→Nat) (c:ChangeT):(chA c).ren r=chA c:=rfl
@[simp] theorem ren_chA' (r:Nat→Nat):A.ren r ∘ chA=chA:=rfl
@[simp] theorem objs_chA (c:ChangeT):(chA c).objs=[]:=rfl
@[simp] theorem objsL_chA:∀(l:List ChangeT),A.objsL (l.map chA)=[]
  | []=>rfl
  | c::l=>by simp[A.objsL,objsL_chA l]
@[simp] theorem cells_chA (c:ChangeT):(chA c).cells=[.d (.int .i64 c.old),.d (.int .i64 c.oldLen),.d (.int .i64 c.new),.d (.int .i64 c.newLen)]:=rfl
theorem under_set (l:List ChangeT) (c:ChangeT) (k n:Nat):∀x,x∈(l.map chA).set k (chA c)→A.under n x=true:=fun x hx=>by
  rcases List.mem_or_eq_of_mem_set hx with h | h
  · obtain⟨y,_,rfl⟩:=List.mem_map.1 h
    rfl
  · subst h
    rfl
def Ob.chs:Ob→List ChangeT
  | .cells _ _ xs=>xs.map A.chT
  | _=>[]
@[simp] theorem chs_map (v e:Nat) (l:List ChangeT):Ob.chs (.cells v e (l.map chA))=l:=by
  show List.map A.chT (List.map chA l)=l
  rw[List.map_map,List.map_congr_left (g:=id) (fun c _=>by simp),List.map_id]
structure MvX where
  l:List ChangeT
  a:List Int
  b:List Int
  k:Nat
@[simp] def mvS (l:List ChangeT) (a b:List Int):Store:=[.cells 0 3 [.agg [.own 1 1 0 l.length,.d (.sl 1 (a.map Rep.to)),.d (.sl 1 (b.map Rep.to))]],.cells 1 4 (l.map chA)]
def MvP (x:MvX):Prop:=FitA x.l x.a x.b∧x.a.length≤4096∧x.b.length≤4096∧x.k<x.l.length∧x.l.length≤8193
def mvV (a:List A) (s:Store):MvX:=⟨(s.getD 1 .dead).chs,((s.getD 0 .dead).at 0 1).gl Int,((s.getD 0 .dead).at 0 2).gl Int,(a.getD 1 .any).gi.toNat⟩
@[simp] theorem mvV_eq (x:A) (l:List ChangeT) (a b:List Int) (k:Nat):mvV [x,.d (.int .i64 k)] [.cells 0 3 [.agg [.own 1 1 0 l.length,.d (.sl 1 (a.map Rep.to)),.d (.sl 1 (b.map Rep.to))]],.cells 1 4 (l.map chA)]=⟨l,a,b,k⟩:=by
  simp[mvV,A.gi,Ob.at,A.cells,A.gl]
@[simp] def F_slide_mover_end:RF MvX where
  new:=0
  view:=mvV
  args x:=[.ref 0 0 0 0,.d (.int .i64 x.k)]
  st x:=mvS x.l x.a x.b
  pre:=MvP
  res x:=.d (.int .i64 (endK x.l x.k))
  st' x:=mvS x.l x.a x.b
abbrev R_slide_mover_end:RSpec:=F_slide_mover_end.spec
theorem ct_slide_mover_end {P:Program} {f:Nat} {G:Gam} (hc:CodeOf P f 2 3 [2] x_slide_mover_end) (hG:GamOk P G):RSpec.Ok P f R_slide_mover_end:=by
  refine RF.ok hc.call fun x hx=>hc.rcalls hG rfl ?_
  obtain⟨l,a,b,k⟩:=x
  obtain⟨p1,p2,p3,p4,p5⟩:=hx
  simp only at p1 p2 p3 p4 p5
  obtain⟨o,d,p,e,g1,g2,g3,g4,g5⟩:=p1.get p4
  have h1:l[k]?=some ⟨o,d,p,e⟩:=by rw[List.getElem?_eq_getElem p4,g2]
  have hk:endK l k=((o+d:Nat):Int):=by unfold endK;rw[g1];simp
  have w1:IntKind.i64.wrap ((o:Int)+d)=((o+d:Nat):Int):=by rw[wrap_in (by omega) (by omega)];omega
  simp only[F_slide_mover_end,hk]
  simp[x_slide_mover_end,startA,h1,g2,p4,chA,w1]
  exact FinR.done (by simp) (by simp) rfl (by simp[resOf,resE,w1]) (by simp) (by simp)
def regD (l:List ChangeT) (a b:List Int) (k:Nat):A:=match regV l a b k with
  | none=>.tup [.d .nilsl,.d (.int .i64 0),.d (.int .i64 0),.d (.bool false)]
  | some (t,fr,sz)=>.tup [.d (.sl 1 (t.map Rep.to)),.d (.int .i64 fr),.d (.int .i64 sz),.d (.bool true)]
theorem reg_eq (l:List ChangeT) (a b:List Int) (k:Nat) {o d p e:Nat} (h:l.getD k default=⟨o,d,p,e⟩):regV l a b k=if (e:Int)=0 then some (a,(o:Int),(d:Int)) else if (d:Int)=0 then some (b,(p:Int),(e:Int)) else none:=by unfold regV;rw[h]
theorem reg_cases (l:List ChangeT) (a b:List Int) (k:Nat) {o d p e:Nat} (h:l.getD k default=⟨o,d,p,e⟩):(e≠0∧d≠0∧regV l a b k=none∧regD l a b k=.tup [.d .nilsl,.d (.int .i64 0),.d (.int .i64 0),.d (.bool false)]) ∨
    ∃(t:List Int) (fr sz:Nat),regV l a b k=some (t,(fr:Int),(sz:Int))∧regD l a b k=.tup [.d (.sl 1 (t.map Rep.to)),.d (.int .i64 fr),.d (.int .i64 sz),.d (.bool true)]∧((t=a∧fr=o∧sz=d∧e=0)∨(t=b∧fr=p∧sz=e∧d=0∧e≠0)):=by
  have hr:=reg_eq l a b k h
  by_cases c1:e=0
  · subst c1
    rw[if_pos (by simp)] at hr
    exact .inr ⟨a,o,d,hr,by unfold regD;rw[hr],.inl ⟨rfl,rfl,rfl,rfl⟩⟩
  · rw[if_neg (by omega)] at hr
    by_cases c2:d=0
    · subst c2
      rw[if_pos (by simp)] at hr
      exact .inr ⟨b,p,e,hr,by unfold regD;rw[hr],.inr ⟨rfl,rfl,rfl,rfl,c1⟩⟩
    · rw[if_neg (by omega)] at hr
      exact .inl ⟨c1,c2,hr,by unfold regD;rw[hr]⟩
@[simp] def F_slide_mover_region:RF MvX where
  new:=0
  view:=mvV
  args x:=[.ref 0 0 0 0,.d (.int .i64 x.k)]
  st x:=mvS x.l x.a x.b
  pre:=MvP
  res x:=regD x.l x.a x.b x.k
  st' x:=mvS x.l x.a x.b
abbrev R_slide_mover_region:RSpec:=F_slide_mover_region.spec
theorem ct_slide_mover_region {P:Program} {f:Nat} {G:Gam} (hc:CodeOf P f 2 9 [2,3,4,5] x_slide_mover_region) (hG:GamOk P G):RSpec.Ok P f R_slide_mover_region:=by
  refine RF.ok hc.call fun x hx=>hc.rcalls hG rfl ?_
  obtain⟨l,a,b,k⟩:=x
  obtain⟨p1,p2,p3,p4,p5⟩:=hx
  simp only at p1 p2 p3 p4 p5
  obtain⟨o,d,p,e,g1,g2,g3,g4,g5⟩:=p1.get p4
  have h1:l[k]?=some ⟨o,d,p,e⟩:=by rw[List.getElem?_eq_getElem p4,g2]
  simp only[F_slide_mover_region]
  rcases reg_cases l a b k g1 with ⟨c1,c2,_,hr⟩ | ⟨t,fr,sz,_,hr,⟨rfl,rfl,rfl,rfl⟩ | ⟨rfl,rfl,rfl,rfl,c1⟩⟩
  · rw[hr]
    simp[x_slide_mover_region,startA,h1,g2,p4,chA,c1,c2]
    exact FinR.done (by simp) (by simp) rfl (by simp[resOf,resE]) (by simp) (by simp)
  · rw[hr]
    simp[x_slide_mover_region,startA,h1,g2,p4,chA]
    exact FinR.done (by simp) (by simp) rfl (by simp[resOf,resE]) (by simp) (by simp)
  · rw[hr]
    simp[x_slide_mover_region,startA,h1,g2,p4,chA,c1]
    exact FinR.done (by simp) (by simp) rfl (by simp[resOf,resE]) (by simp) (by simp)
@[simp] def F_slide_mover_down:RF MvX where
  new:=0
  view:=mvV
  args x:=[.ref 0 0 0 0,.d (.int .i64 x.k)]
  st x:=mvS x.l x.a x.b
  pre:=MvP
  res x:=.d (.bool (canV x.l x.a x.b x.k))
  st' x:=mvS (if canV x.l x.a x.b x.k=true then movV x.l x.k else x.l) x.a x.b
abbrev R_slide_mover_down:RSpec:=F_slide_mover_down.spec
theorem fit_room {a b:List Int}:∀(l:List ChangeT) (k i j:Nat) (f:Bool) (i' j':Nat),FitS a b l i j f i' j'→a.drop i'=b.drop j'→k<l.length→1≤aftV l a k→endK l k<a.length∧(l.getD k default).new+(l.getD k default).newLen<b.length
  | [],k,i,j,f,i',j',h,hd,hk,ha=>by simp at hk
  | c::r,0,i,j,f,i',j',h,hd,hk,ha=>by
    obtain⟨q,d,e,rfl,k2,k3,k4,k5,k6,k7⟩:=h
    have hs:=fit_step r _ _ _ _ _ k7 hd (fun hr=>by
      subst hr
      simp[aftV,endK] at ha
      omega) (fun c' hc'=>by
      cases r with
      | nil=>simp at hc'
      | cons c2 r2 =>
        simp at hc'
        subst hc'
        simp[aftV,endK] at ha
        omega)
    simp[endK]
    omega
  | c::r,k+1,i,j,f,i',j',h,hd,hk,ha=>by
    obtain⟨q,d,e,rfl,k2,k3,k4,k5,k6,k7⟩:=h
    have ih:=fit_room r k _ _ _ _ _ k7 hd (by simpa using hk) (by simpa [aftV,endK] using ha)
    simpa [endK] using ih
theorem FitA.room {l:List ChangeT} {a b:List Int} (h:FitA l a b) {k:Nat} (hk:k<l.length) (ha:1≤aftV l a k):endK l k<a.length∧(l.getD k default).new+(l.getD k default).newLen<b.length:=by
  obtain⟨i',j',h1,h2⟩:=h
  exact fit_room _ _ _ _ _ _ _ h1 h2 hk ha
theorem ct_slide_mover_down {P:Program} {f g1 g2:Nat} {G:Gam} (hc:CodeOf P f 2 11 [2] (x_slide_mover_down g1 g2)) (hG:GamOk P G) (h1:G.findR g1=some R_slide_mover_region) (h2:G.findR g2=some R_slide_mover_end):RSpec.Ok P f R_slide_mover_down:=by
  refine RF.ok hc.call fun x hx=>hc.rcalls hG rfl ?_
  obtain⟨l,a,b,k⟩:=x
  have hx0:MvP ⟨l,a,b,k⟩:=hx
  obtain⟨p1,p2,p3,p4,p5⟩:=hx
  simp only at p1 p2 p3 p4 p5
  obtain⟨o,d,p,e,g1,g2,g3,g4,g5⟩:=p1.get p4
  have hk1:l[k]?=some ⟨o,d,p,e⟩:=by rw[List.getElem?_eq_getElem p4,g2]
  have hE:endK l k=((o+d:Nat):Int):=by unfold endK;rw[g1];simp
  have w1:IntKind.i64.wrap ((k:Int)+1)=(k:Int)+1:=wrap_in (by omega) (by omega)
  simp only[F_slide_mover_down]
  rcases reg_cases l a b k g1 with ⟨_,_,r1,r2⟩ | ⟨t,fr,sz,r1,r2,r3⟩
  · have hc:canV l a b k=false:=by unfold canV;rw[r1]
    rw[hc]
    simp[x_slide_mover_down,startA,eRCall,h1,hx0,r2]
    exact FinR.done (by simp) (by simp) rfl (by simp[resOf,resE]) (by simp) (by simp)
  · have hts:∀_:1≤aftV l a k,fr+sz<t.length∧t.length≤4096:=fun ha=>by
      have:=p1.room p4 ha
      rw[hE,g1] at this
      simp only at this
      rcases r3 with ⟨rfl,rfl,rfl,_⟩ | ⟨rfl,rfl,rfl,_,_⟩ <;> omega
    have hc:canV l a b k=(!decide (aftV l a k<1) && decide (t.getD fr 0=t.getD (fr+sz) 0)):=by
      unfold canV
      rw[r1]
      rfl
    have w2:IntKind.i64.wrap ((a.length:Int)-(o+d))=(a.length:Int)-(o+d):=wrap_in (by omega) (by omega)
    by_cases hn:k+1<l.length
    · obtain⟨o2,d2,p2,e2,n1,n2,n3,n4,n5⟩:=p1.get hn
      have hn1:l[k+1]?=some ⟨o2,d2,p2,e2⟩:=by rw[List.getElem?_eq_getElem hn,n2]
      have hA:aftV l a k=(o2:Int)-(o+d)-1:=by unfold aftV;rw[if_pos hn,n1,hE];simp
      have w3:IntKind.i64.wrap ((o2:Int)-(o+d))=(o2:Int)-(o+d):=wrap_in (by omega) (by omega)
      have w4:IntKind.i64.wrap ((o2:Int)-(o+d)-1)=(o2:Int)-(o+d)-1:=wrap_in (by omega) (by omega)
      by_cases c1:(o2:Int)-(o+d)-1<1
      · have hcf:canV l a b k=false:=by rw[hc,hA];simp[c1]
        rw[hcf]
        simp[x_slide_mover_down,startA,eRCall,h1,h2,hx0,r2,hE,w1,w2,show (k:Int)+1<l.length by omega,show k+1<l.length by omega,show 0≤(k:Int)+1 by omega,hn1,n2,w3,w4,c1]
        exact FinR.done (by simp) (by simp) rfl (by simp[resOf,resE]) (by simp) (by simp)
      · have ht:=hts (by omega)
        have w5:IntKind.i64.wrap ((fr:Int)+sz)=(fr:Int)+sz:=wrap_in (by omega) (by omega)
        have w6:IntKind.i64.wrap ((o:Int)+1)=(o:Int)+1:=wrap_in (by omega) (by omega)
        have w7:IntKind.i64.wrap ((p:Int)+1)=(p:Int)+1:=wrap_in (by omega) (by omega)
        have e5:((fr:Int)+sz).toNat=fr+sz:=by omega
        have t1:t[fr]?=some (t.getD fr 0):=by rw[List.getD_eq_getElem?_getD,List.getElem?_eq_getElem (by omega)];rfl
        have t2:t[fr+sz]?=some (t.getD (fr+sz) 0):=by rw[List.getD_eq_getElem?_getD,List.getElem?_eq_getElem (by omega)];rfl
        generalize t.getD fr 0=ta at *
        generalize t.getD (fr+sz) 0=tb at *
        by_cases c2:ta=tb
        · have hcf:canV l a b k=true:=by rw[hc,hA];simp[c1,c2]
          have hmv:movV l k=l.set k ⟨(o:Int)+1,d,(p:Int)+1,e⟩:=by unfold movV;rw[g1];rfl
          rw[hcf,if_pos rfl,hmv]
          simp[x_slide_mover_down,startA,eRCall,h1,h2,hx0,r2,hE,w1,w2,show (k:Int)+1<l.length by omega,show k+1<l.length by omega,show 0≤(k:Int)+1 by omega,hn1,n2,w3,w4,c1,w5,t1,t2,e5,c2,hk1,g2,p4,w6,w7]
          refine⟨by omega,⟨by omega,by omega⟩,?_⟩
          exact FinR.done (by simp) (by simp[chA]) (by simp) (by simp[resOf,resE]) (by simp;exact under_set _ _ _ _) (by simp)
        · have hcf:canV l a b k=false:=by rw[hc,hA];simp[c1,c2]
          rw[hcf]
          simp[x_slide_mover_down,startA,eRCall,h1,h2,hx0,r2,hE,w1,w2,show (k:Int)+1<l.length by omega,show k+1<l.length by omega,show 0≤(k:Int)+1 by omega,hn1,n2,w3,w4,c1,w5,t1,t2,e5,c2]
          refine⟨by omega,⟨by omega,by omega⟩,?_⟩
          exact FinR.done (by simp) (by simp) rfl (by simp[resOf,resE]) (by simp) (by simp)
    · have hA:aftV l a k=(a.length:Int)-(o+d):=by unfold aftV;rw[if_neg hn,hE];simp
      by_cases c1:(a.length:Int)-(o+d)<1
      · have hcf:canV l a b k=false:=by rw[hc,hA];simp[c1]
        rw[hcf]
        simp[x_slide_mover_down,startA,eRCall,h1,h2,hx0,r2,hE,w1,w2,show ¬(k:Int)+1<l.length by omega,c1]
        exact FinR.done (by simp) (by simp) rfl (by simp[resOf,resE]) (by simp) (by simp)
      · have ht:=hts (by omega)
        have w5:IntKind.i64.wrap ((fr:Int)+sz)=(fr:Int)+sz:=wrap_in (by omega) (by omega)
        have w6:IntKind.i64.wrap ((o:Int)+1)=(o:Int)+1:=wrap_in (by omega) (by omega)
        have w7:IntKind.i64.wrap ((p:Int)+1)=(p:Int)+1:=wrap_in (by omega) (by omega)
        have e5:((fr:Int)+sz).toNat=fr+sz:=by omega
        have t1:t[fr]?=some (t.getD fr 0):=by rw[List.getD_eq_getElem?_getD,List.getElem?_eq_getElem (by omega)];rfl
        have t2:t[fr+sz]?=some (t.getD (fr+sz) 0):=by rw[List.getD_eq_getElem?_getD,List.getElem?_eq_getElem (by omega)];rfl
        generalize t.getD fr 0=ta at *
        generalize t.getD (fr+sz) 0=tb at *
        by_cases c2:ta=tb
        · have hcf:canV l a b k=true:=by rw[hc,hA];simp[c1,c2]
          have hmv:movV l k=l.set k ⟨(o:Int)+1,d,(p:Int)+1,e⟩:=by unfold movV;rw[g1];rfl
          rw[hcf,if_pos rfl,hmv]
          simp[x_slide_mover_down,startA,eRCall,h1,h2,hx0,r2,hE,w1,w2,show ¬(k:Int)+1<l.length by omega,c1,w5,t1,t2,e5,c2,hk1,g2,p4,w6,w7]
          refine⟨by omega,⟨by omega,by omega⟩,?_⟩
          exact FinR.done (by simp) (by simp[chA]) (by simp) (by simp[resOf,resE]) (by simp;exact under_set _ _ _ _) (by simp)
        · have hcf:canV l a b k=false:=by rw[hc,hA];simp[c1,c2]
          rw[hcf]
          simp[x_slide_mover_down,startA,eRCall,h1,h2,hx0,r2,hE,w1,w2,show ¬(k:Int)+1<l.length by omega,c1,w5,t1,t2,e5,c2]
          refine⟨by omega,⟨by omega,by omega⟩,?_⟩
          exact FinR.done (by simp) (by simp) rfl (by simp[resOf,resE]) (by simp) (by simp)
@[simp] def F_slide_often (g1:Nat):RF MvX where
  new:=0
  view:=mvV
  args x:=[.fn (.func g1) [.ref 0 0 0 0] [],.d (.int .i64 x.k)]
  st x:=mvS x.l x.a x.b
  pre:=MvP
  res x:=.d (.int .i64 (oftV x.a x.b (x.a.length+1) x.l x.k).2)
  st' x:=mvS (oftV x.a x.b (x.a.length+1) x.l x.k).1 x.a x.b
abbrev R_slide_often (g1:Nat):RSpec:=(F_slide_often g1).spec
structure OfnX where
  f:Nat
  n:Nat
  l:List ChangeT
theorem ct_slide_often {P:Program} {f g1:Nat} {G:Gam} (hc:CodeOf P f 2 5 [2] x_slide_often) (hG:GamOk P G) (h1:G.findR g1=some R_slide_mover_down):RSpec.Ok P f (R_slide_often g1):=by
  refine RF.ok hc.call fun x hx=>hc.rcalls hG rfl ?_
  obtain⟨l,a,b,k⟩:=x
  obtain⟨p1,p2,p3,p4,p5⟩:=hx
  simp only at p1 p2 p3 p4 p5
  have hR:=oft_fit (a.length+1) l k p4 p1
  have hRl:=oft_len a b (a.length+1) l k
  simp only[F_slide_often]
  generalize hRR:oftV a b (a.length+1) l k=R at *
  simp[x_slide_often,startA]
  refine vc_lp (σ:=OfnX) (fun z=>FitA z.l a b∧z.l.length=l.length∧z.n+z.f=a.length+1∧(a.length<z.f+(z.l.getD k default).old.toNat)∧(oftV a b z.f z.l k).1=R.1∧(oftV a b z.f z.l k).2+z.n=R.2) (fun z=>z.f)
    (fun z=>[.fn (.func g1) [.ref 0 0 0 0] [],.d (.int .i64 k),.any,.d (.int .i64 z.n),.any]) (fun z=>mvS z.l a b) ⟨a.length+1,0,l⟩ (by simp) (by simp) ⟨p1,rfl,by simp,by simp only;omega,by rw[hRR],by rw[hRR];rfl⟩ ?_
  rintro⟨f,n,m⟩ ⟨i1,i2,i3,i4,i5,i6⟩
  simp only at i1 i2 i3 i4 i5 i6
  have hkm:k<m.length:=by omega
  have hmp:MvP ⟨m,a,b,k⟩:=⟨i1,p2,p3,hkm,by simp only;omega⟩
  have hkc:m[k]?=some (m.getD k default):=by rw[List.getD_eq_getElem?_getD,List.getElem?_eq_getElem hkm];rfl
  by_cases c:canV m a b k=true
  · obtain⟨o,d,p,e,g1,g2,g3,g4,g5⟩:=i1.get hkm
    rw[g1] at i4
    simp only at i4
    obtain⟨f,rfl⟩:∃f',f=f'+1:=⟨f-1,by omega⟩
    rw[oftV,if_pos c] at i5 i6
    have w1:IntKind.i64.wrap ((n:Int)+1)=(n:Int)+1:=wrap_in (by omega) (by omega)
    have hml:=mov_len m k
    have hgm:(movV m k).getD k default=⟨(o:Int)+1,d,(p:Int)+1,e⟩:=by unfold movV;rw[g1];simp[List.getD,hkm,movC]
    simp[eCallv,eRCall,h1,hmp,c,w1,hml]
    refine Nxt.mk ⟨f,n+1,movV m k⟩ (by simp) (by simp) (by simp[hml]) ⟨i1.move hkm c,by simp only;omega,by simp only;omega,?_,i5,by simp only;omega⟩
    simp only
    rw[← List.getD_eq_getElem?_getD,hgm]
    simp only
    omega
  · have hf:oftV a b f m k=(m,0):=by
      cases f with
      | zero=>rfl
      | succ f=>rw[oftV,if_neg c]
    rw[hf] at i5 i6
    simp only at i5 i6
    rw[← i5,← i6]
    have c':canV m a b k=false:=by simpa using c
    simp[eCallv,eRCall,h1,hmp,c']
    exact FinR.done (by simp) (by simp) (by simp[i2]) (by simp[resOf,resE]) (by simp) (by simp)
def clnA (j:Nat) (l:List ChangeT):A:=if l=[] then .d (.sl 4 []) else .own j 1 0 l.length
def clnS (l:List ChangeT):Ob:=if l=[] then .res else .cells 1 4 (l.map (A.d ∘ Rep.to))
@[simp] theorem ren_dto {α:Type} [Rep α] (r:Nat→Nat):A.ren r ∘ A.d ∘ (Rep.to:α→D)=A.d ∘ Rep.to:=rfl
@[simp] theorem clnA_nil (j:Nat):clnA j []=.d (.sl 4 []):=rfl
@[simp] theorem clnA_cons (j:Nat) (c:ChangeT) (r:List ChangeT):clnA j (c::r)=.own j 1 0 (r.length+1):=rfl
@[simp] theorem clnS_nil:clnS []=.res:=rfl
@[simp] theorem clnS_cons (c:ChangeT) (r:List ChangeT):clnS (c::r)=.cells 1 4 ((c::r).map (A.d ∘ Rep.to)):=rfl
@[simp] def F_slices_Clone_Change_Change:RF (List ChangeT) where
  new:=1
  view a _:=(a.getD 0 .any).gl ChangeT
  args l:=[.d (.sl 4 (l.map Rep.to))]
  st _:=[.res]
  pre l:=l.length≤100000
  res l:=clnA 0 l
  st' l:=[clnS l]
abbrev R_slices_Clone_Change_Change:RSpec:=F_slices_Clone_Change_Change.spec
theorem ct_slices_Clone_Change_Change {P:Program} {f:Nat} {G:Gam} (hc:CodeOf P f 1 3 [1] x_slices_Clone_Change_Change) (hG:GamOk P G) (h0:RCalls P f [.d (.sl 4 [])] [.res] (.d (.sl 4 [])) [.res]):RSpec.Ok P f R_slices_Clone_Change_Change:=by
  refine RF.ok hc.call fun l hl=>?_
  cases l with
  | nil=>exact h0
  | cons c r =>
    have hl:(c::r).length≤100000:=hl
    simp at hl
    refine hc.rcalls hG rfl ?_
    simp[x_slices_Clone_Change_Change,startA]
    refine⟨by unfold room;omega,?_⟩
    refine⟨by simp[resPre,resE],[1],rfl,⟨by decide,by simp,?_⟩,fun k hk=>?_,?_,?_,by simp[A.under,A.unders]⟩
    · simp[pickS,Ob.ren,A.ren,Function.comp_def]
    · match k,hk with
      | 0,_=>exact .inr rfl
    · simp[pickS,Ob.ren,A.ren,Function.comp_def]
    · simp[resOf,resE,A.ren,A.rens,idxIn]
structure StaX where
  l:List ChangeT
  a:List Int
  b:List Int
@[simp] def F_slide_start:RF StaX where
  new:=2
  view a _:=⟨(a.getD 0 .any).gl ChangeT,(a.getD 1 .any).gl Int,(a.getD 2 .any).gl Int⟩
  args x:=[.d (.sl 4 (x.l.map Rep.to)),.d (.sl 1 (x.a.map Rep.to)),.d (.sl 1 (x.b.map Rep.to))]
  st _:=[.res,.res]
  pre x:=fitsV x.l x.a x.b=true∧x.l.length≤100000
  res x:=.tup [.ref 0 0 0 0,.d (.int .i64 0)]
  st' x:=[.cells 0 3 [.agg [clnA 1 x.l,.d (.sl 1 (x.a.map Rep.to)),.d (.sl 1 (x.b.map Rep.to))]],clnS x.l]
abbrev R_slide_start:RSpec:=F_slide_start.spec
theorem ct_slide_start {P:Program} {f g1 g2:Nat} {G:Gam} (hc:CodeOf P f 3 6 [3,4] (x_slide_start g1 g2)) (hG:GamOk P G) (h1:G.find g1=some S_script_Fits) (h2:G.findR g2=some R_slices_Clone_Change_Change):RSpec.Ok P f R_slide_start:=by
  refine RF.ok hc.call fun x hx=>hc.rcalls hG rfl ?_
  obtain⟨l,a,b⟩:=x
  obtain⟨p1,p2⟩:=hx
  simp only at p1 p2
  cases l with
  | nil =>
    simp[x_slide_start,startA,h1,p1,eRCall,h2]
    refine⟨by simp[resPre,resE],[3,2],rfl,⟨by decide,by simp,?_⟩,fun k hk=>?_,?_,?_,by simp[A.under,A.unders]⟩
    · simp[pickS,Ob.ren,A.ren,A.rens]
    · match k,hk with
      | 0,_=>exact .inr rfl
      | 1,_=>exact .inr rfl
    · simp[pickS,Ob.ren,A.ren,A.rens,idxIn]
    · simp[resOf,resE,A.ren,A.rens,idxIn] <;> rfl
  | cons c r =>
    simp at p2
    simp[x_slide_start,startA,h1,p1,eRCall,h2]
    refine⟨by omega,by simp[resPre,resE],[3,2],rfl,⟨by decide,by simp,?_⟩,fun k hk=>?_,?_,?_,by simp[A.under,A.unders]⟩
    · simp[pickS,Ob.ren,A.ren,A.rens,idxIn,Function.comp_def] <;> decide
    · match k,hk with
      | 0,_=>exact .inr rfl
      | 1,_=>exact .inr rfl
    · simp[pickS,Ob.ren,A.ren,A.rens,idxIn,Function.comp_def] <;> rfl
    · simp[resOf,resE,A.ren,A.rens,idxIn] <;> rfl
theorem wk_ch (n:Nat) (k:List Ob):∀l:List ChangeT,WkEL n k 4 (l.map (A.d ∘ Rep.to)) (l.map chA)
  | []=>trivial
  | c::r=>⟨⟨rfl,Wk.refl _ _ _,Wk.refl _ _ _,Wk.refl _ _ _,Wk.refl _ _ _,trivial⟩,wk_ch n k r⟩
theorem chs_isD (l:List ChangeT):(l.map chA).all A.isD=true:=by
  rw[List.all_eq_true]
  intro x hx
  obtain⟨c,_,rfl⟩:=List.mem_map.1 hx
  rfl
theorem chs_toD (l:List ChangeT):(l.map chA).map A.toD=l.map Rep.to:=by
  rw[List.map_map]
  exact List.map_congr_left fun c _=>rfl
theorem bor_chs (s:Store) (j v:Nat) (l:List ChangeT) (h:s.getD j .dead=.cells v 4 (l.map chA)):bor s (.own j v 0 l.length)=(True,Rep.to l):=by
  unfold bor
  simp only[h,List.drop_zero]
  rw[List.take_of_length_le (by simp),chs_isD,chs_toD]
  simp
structure DwnX where
  m:Nat
  l:List ChangeT
theorem ct_slide_Down {P:Program} {f g1 g2 g3:Nat} {G:Gam} (h:CodeOf P f 3 10 [3,4] (x_slide_Down g1 g2 g3)) (hG:GamOk P G) (h1:G.findR g1=some R_slide_start) (h2:G.findR g2=some (R_slide_often g3)) (_:G.findR g3=some R_slide_mover_down):Has P f S_slide_Down:=h.has3 hG fun l a b hp=>by
  have hf:=hp
  simp only[fitsV,Bool.and_eq_true,List.all_eq_true,decide_eq_true_eq] at hf
  have hfit:=FitA.of hf.1 hf.2
  obtain⟨r1,r2,r3,r4,r5,r6⟩:=checkV_ch hf.1
  have hres:dwnV l a b=dwnK a b l.length l:=rfl
  cases l with
  | nil =>
    have hd:dwnV [] a b=[]:=rfl
    rw[hd]
    have w0:IntKind.i64.wrap (-1)=-1:=by decide
    simp[x_slide_Down,h1,eRCall,hp,w0]
    refine vc_lp (σ:=Unit) (fun _=>True) (fun _=>0) (fun _=>[.any,.any,.any,.any,.any,.ref 0 0 0 0,.any,.d (.int .i64 (-1)),.any,.any])
      (fun _=>[.cells 0 3 [.agg [.d (.sl 4 []),.d (.sl 1 (a.map Rep.to)),.d (.sl 1 (b.map Rep.to))]]]) () (by simp) (by simp) trivial ?_
    rintro⟨⟩ _
    simp
  | cons c r =>
    generalize hl:c::r=l at *
    have hne:l≠[]:=by rw[← hl];simp
    have hA:∀j,clnA j l=.own j 1 0 l.length:=fun j=>if_neg hne
    have hS:clnS l=.cells 1 4 (l.map (A.d ∘ Rep.to)):=if_neg hne
    have w0:IntKind.i64.wrap ((l.length:Int)-1)=(l.length:Int)-1:=wrap_in (by omega) (by omega)
    simp[x_slide_Down,h1,eRCall,hp,hA,hS,w0]
    refine⟨by omega,?_⟩
    refine vc_lpR (σ:=DwnX) (fun z=>z.m≤l.length∧z.l.length=l.length∧FitA z.l a b∧dwnK a b z.m z.l=dwnV l a b) (fun z=>z.m)
      (fun z=>[.any,.any,.any,.any,.any,.ref 0 0 0 0,.any,.d (.int .i64 ((z.m:Int)-1)),.any,.any])
      (fun z=>[.cells 0 3 [.agg [.own 1 1 0 z.l.length,.d (.sl 1 (a.map Rep.to)),.d (.sl 1 (b.map Rep.to))]],.cells 1 4 (z.l.map chA)]) ⟨l.length,l⟩ ?_ ⟨by simp,rfl,hfit,rfl⟩ ?_
    · refine Re.wn (s':=[.cells 0 3 [.agg [.own 1 1 0 l.length,.d (.sl 1 (a.map Rep.to)),.d (.sl 1 (b.map Rep.to))]],.cells 1 4 (l.map chA)]) [false,false,false,false,false,true,false,true] [] (by simp) (by simp) ?_ ?_ (by simp)
      · simp
      · exact⟨.inl rfl,.cellsL (wk_ch _ _ _),trivial⟩
    rintro⟨m,u⟩ ⟨i1,i2,i3,i4⟩
    simp only at i1 i2 i3 i4
    cases m with
    | zero =>
      have e:u=dwnV l a b:=i4
      subst e
      have hb:=bor_chs [.cells 0 3 [.agg [.own 1 1 0 (dwnV l a b).length,.d (.sl 1 (a.map Rep.to)),.d (.sl 1 (b.map Rep.to))]],.cells 1 4 ((dwnV l a b).map chA)] 1 1 (dwnV l a b) rfl
      simp[hb]
    | succ m =>
      rw[dwnK] at i4
      have hml:m<u.length:=by omega
      have hmp:MvP ⟨u,a,b,m⟩:=⟨i3,by simp only;omega,by simp only;omega,hml,by simp only;omega⟩
      have ho:=oft_fit (a.length+1) u m hml i3
      have hol:=oft_len a b (a.length+1) u m
      have w1:IntKind.i64.wrap ((m:Int)-1)=(m:Int)-1:=wrap_in (by omega) (by omega)
      have e1:((m+1:Nat):Int)-1=m:=by omega
      simp only[e1]
      simp[eRCall,h2,hmp,w1]
      exact Nxt.mk ⟨m,(oftV a b (a.length+1) u m).1⟩ (by simp) (by simp) (by simp) ⟨by simp only;omega,by simp only;omega,ho,i4⟩
end Go.AE
