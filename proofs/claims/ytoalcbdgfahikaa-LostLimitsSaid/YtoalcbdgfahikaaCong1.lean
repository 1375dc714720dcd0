/-
  Contracts of the document's functions on lost lines.
-/
import Derived.Test.YtoalcbdgfahikaaCone1
import Derived.Test.YtoalcbdgfahikaaConf1
import Derived.Test.YtoalcbdgfahikaaCode1
import Derived.Test.YtoalcbdgfahikaaAe3
import Derived.Test.YtoalcbdgfahikaaCona1

set_option linter.unusedSimpArgs false
set_option linter.unusedVariables false
set_option linter.unnecessarySimpa false
set_option maxRecDepth 20000
namespace Go.AE
def orU (a b:Int):Int:=IntKind.u32.wrap (((a % 2 ^ IntKind.u32.bits).toNat ||| (b % 2 ^ IntKind.u32.bits).toNat:Nat):Int)
def hitV (l:List MergedT) (bit:Int) (i e:Nat):List MergedT:=((l.drop i).take (e-i)).map fun m=>⟨m.line,orU m.parents bit⟩
theorem hitV_step {l:List MergedT} {bit:Int} {i e:Nat} (h:i<e) (h2:i<l.length):hitV l bit i e=⟨l[i].line,orU l[i].parents bit⟩::hitV l bit (i+1) e:=by
  unfold hitV
  rw[List.drop_eq_getElem_cons h2,show e-i=(e-(i+1))+1 by omega,List.take_succ_cons,List.map_cons]
theorem hitV_self (l:List MergedT) (bit:Int) (i:Nat):hitV l bit i i=[]:=by simp[hitV]
theorem okV_le:∀(l:List ChangeT) (i j m n:Int) (fst:Bool),okV l i j fst m n=true→i≤m∧j≤n
  | [],i,j,m,n,fst,h=>by
    simp only[okV,Bool.and_eq_true,decide_eq_true_eq] at h
    omega
  | c::l,i,j,m,n,fst,h=>by
    simp only[okV,Bool.and_eq_true] at h
    have h1:=okV_le l _ _ _ _ _ h.2
    have h2:=stepV_true h.1
    omega
def newV (lines:List Int) (bit:Int) (j e:Nat):List MergedT:=((lines.drop j).take (e-j)).map fun x=>⟨x,bit⟩
def oldV (l:List MergedT) (i e:Nat):List MergedT:=(l.drop i).take (e-i)
theorem newV_step {l:List Int} {bit:Int} {i e:Nat} (h:i<e) (h2:i<l.length):newV l bit i e=⟨l[i],bit⟩::newV l bit (i+1) e:=by
  unfold newV
  rw[List.drop_eq_getElem_cons h2,show e-i=(e-(i+1))+1 by omega,List.take_succ_cons,List.map_cons]
theorem oldV_step {l:List MergedT} {i e:Nat} (h:i<e) (h2:i<l.length):oldV l i e=l[i]::oldV l (i+1) e:=by
  unfold oldV
  rw[List.drop_eq_getElem_cons h2,show e-i=(e-(i+1))+1 by omega,List.take_succ_cons]
theorem newV_self (l:List Int) (bit:Int) (i:Nat):newV l bit i i=[]:=by simp[newV]
theorem oldV_self (l:List MergedT) (i:Nat):oldV l i i=[]:=by simp[oldV]
theorem newV_len (l:List Int) (bit:Int) (i e:Nat):(newV l bit i e).length≤e-i:=by simp[newV];omega
theorem oldV_len (l:List MergedT) (i e:Nat):(oldV l i e).length≤e-i:=by simp[oldV];omega
theorem hitV_len (l:List MergedT) (bit:Int) (i e:Nat):(hitV l bit i e).length≤e-i:=by simp[hitV];omega
def mergeS (l:List MergedT) (lines:List Int) (bit:Int):List ChangeT→Nat→List MergedT
  | [],t=>hitV l bit t l.length
  | c::r,t=>hitV l bit t c.old.toNat++oldV l c.old.toNat (c.old+c.oldLen).toNat++newV lines bit c.new.toNat (c.new+c.newLen).toNat++mergeS l lines bit r (c.old+c.oldLen).toNat
theorem mergeS_len (l:List MergedT) (lines:List Int) (bit:Int):∀(r:List ChangeT) (i j:Int) (fst:Bool),0≤i→0≤j→okV r i j fst l.length lines.length=true→(mergeS l lines bit r i.toNat).length+i.toNat+j.toNat≤l.length+lines.length
  | [],i,j,fst,hi,hj,h=>by
    have:=hitV_len l bit i.toNat l.length
    simp only[okV,Bool.and_eq_true,decide_eq_true_eq] at h
    simp only[mergeS]
    omega
  | c::r,i,j,fst,hi,hj,h=>by
    simp only[okV,Bool.and_eq_true] at h
    have h2:=stepV_true h.1
    have h1:=mergeS_len l lines bit r _ _ _ (by omega) (by omega) h.2
    have a1:=hitV_len l bit i.toNat c.old.toNat
    have a2:=oldV_len l c.old.toNat (c.old+c.oldLen).toNat
    have a3:=newV_len lines bit c.new.toNat (c.new+c.newLen).toNat
    simp only[mergeS,List.length_append]
    omega
def mlinesV (l:List MergedT):List Int:=l.map MergedT.line
@[simp] def S_ref15_lines:List D→Prop × D:=spec1 (α:=List MergedT) (fun l=>l.length≤4194304) (fun l=>Rep.to (mlinesV l))
theorem ct_ref15_lines {P:Program} {f:Nat} {G:Gam} (h:CodeOf P f 1 5 [1] x_ref15_lines) (hG:GamOk P G):Has P f S_ref15_lines:=h.has1 hG fun l hl=>by
  simp[x_ref15_lines]
  refine vc_lp (σ:=Nat) (fun k=>k≤l.length) (fun k=>l.length-k) (fun k=>[.d (Rep.to l),.any,.gr 0 1 (((mlinesV l).take k).map Rep.to),.d (.int .i64 k),.any]) (fun k=>[.tip k]) 0 (by simp) (by simp) (by simp) ?_
  intro k hk
  by_cases h1:k<l.length
  · have h2:k<(mlinesV l).length:=by simpa [mlinesV] using h1
    have h3:(mlinesV l)[k]=l[k].line:=by simp[mlinesV]
    have h4:(mlinesV l).length=l.length:=by simp[mlinesV]
    simp[h1,getD_map,add1 h1 (by omega),h4,Nat.min_eq_left (show k≤l.length by omega)]
    refine⟨by unfold room;omega,Nxt.mk (k+1) (by omega) ?_ (by simp) (by omega)⟩
    rw[take_to h2,h3]
    simp
  · have:k=l.length:=by omega
    subst this
    have h4:(mlinesV l).length=l.length:=by simp[mlinesV]
    simp
    rw[List.take_of_length_le (by simp[h4])]
def getU (m p:Int):Int:=IntKind.u32.wrap (((m.fdiv (2 ^ min p.toNat IntKind.u32.bits) % 2 ^ IntKind.u32.bits).toNat &&& 1 % 2 ^ IntKind.u32.bits:Nat):Int)
theorem u32_wrap {n:Nat} (h:n<4294967296):IntKind.u32.wrap ((n:Nat):Int)=n:=by
  simp only[IntKind.wrap,IntKind.bits,IntKind.signed]
  simp
  omega
theorem u64_wrap {n:Nat} (h:n<18446744073709551616):IntKind.u64.wrap ((n:Nat):Int)=n:=by
  simp only[IntKind.wrap,IntKind.bits,IntKind.signed]
  simp
  omega
theorem orU_nat {a b:Nat} (ha:a<4294967296) (hb:b<4294967296):orU a b=((a ||| b:Nat):Int):=by
  have e:(2:Int) ^ IntKind.u32.bits=4294967296:=rfl
  unfold orU
  rw[e]
  have h1:((a:Int) % 4294967296).toNat=a:=by omega
  have h2:((b:Int) % 4294967296).toNat=b:=by omega
  rw[h1,h2,u32_wrap]
  have:(4294967296:Nat)=2 ^ 32:=rfl
  rw[this] at *
  exact Nat.or_lt_two_pow ha hb
theorem getU_nat {m p:Nat} (hm:m<4294967296) (hp:p<32):getU m p=if m.testBit p=true then 1 else 0:=by
  have e:(2:Int) ^ IntKind.u32.bits=4294967296:=rfl
  have e2:(2:Nat) ^ IntKind.u32.bits=4294967296:=rfl
  have e3:min ((p:Int)).toNat IntKind.u32.bits=p:=by simp only[IntKind.bits,Int.toNat_natCast];omega
  unfold getU
  rw[e,e2,e3]
  have h0:((2:Int) ^ p)=((2 ^ p:Nat):Int):=by push_cast;rfl
  have h1:(m:Int).fdiv (2 ^ p)=((m / 2 ^ p:Nat):Int):=by rw[h0,Int.fdiv_eq_ediv_of_nonneg _ (Int.natCast_nonneg _)];rfl
  have h4:m.testBit p=decide ((m / 2 ^ p) % 2=1):=by rw[Nat.testBit_eq_decide_div_mod_eq]
  have hlt:m / 2 ^ p<4294967296:=Nat.lt_of_le_of_lt (Nat.div_le_self _ _) hm
  rw[h1]
  generalize m / 2 ^ p=d at *
  have h2:((d:Int) % 4294967296).toNat=d:=by omega
  rw[h2]
  have h3:d &&& 1 % 4294967296=d % 2:=by simp[Nat.and_one_is_mod]
  rw[h3,u32_wrap (by omega),h4]
  by_cases h5:d % 2=1
  · simp[h5]
  · have:d % 2=0:=by omega
    simp[this]
def hasV (p:Int) (m:MergedT):Bool:=decide (getU m.parents p=1)
def projV (l:List MergedT) (p:Int):List Int:=if 0≤p∧p<32 then mlinesV (l.filter (hasV p)) else []
@[simp] def S_ref15_Project:List D→Prop × D:=spec2 (α:=List MergedT) (β:=Int) (fun l _=>l.length≤1048576) (fun l p=>Rep.to (projV l p))
theorem ct_ref15_Project {P:Program} {f:Nat} {G:Gam} (h:CodeOf P f 2 7 [2] x_ref15_Project) (hG:GamOk P G):Has P f S_ref15_Project:=h.has2 hG fun l p hl=>by
  simp[x_ref15_Project]
  refine vc_lp (σ:=Nat × List Int) (fun x=>x.1≤l.length∧x.2.length≤x.1∧x.2++projV (l.drop x.1) p=projV l p) (fun x=>l.length-x.1) (fun x=>[.d (Rep.to l),.d (.int .i64 p),.any,.gr 0 1 (x.2.map Rep.to),.d (.int .i64 x.1),.any,.any]) (fun x=>[.tip x.2.length]) (0,[]) (by simp) (by simp) (by simp) ?_
  rintro⟨k,o⟩ ⟨g1,g2,g3⟩
  simp only at g1 g2 g3
  by_cases h1:k<l.length
  · rw[List.drop_eq_getElem_cons h1] at g3
    by_cases hp:0≤p∧p<32
    · obtain⟨p,rfl⟩:=Int.eq_ofNat_of_zero_le hp.1
      simp only[projV,hp,and_self,if_true,List.filter_cons] at g3
      simp[h1,getD_map,hp,u64_wrap (show p<18446744073709551616 by omega)]
      have e:getU l[k].parents p=IntKind.u32.wrap ↑((l[k].parents.fdiv (2 ^ min p IntKind.u32.bits) % 2 ^ IntKind.u32.bits).toNat &&& 1 % 2 ^ IntKind.u32.bits):=rfl
      rw[← e,add1 h1 (by omega)]
      refine⟨fun q=>⟨by unfold room;omega,Nxt.mk (k+1,o++[l[k].line]) (by simp;omega) (by simp) (by simp) ⟨by simp;omega,by simp;omega,?_⟩⟩,fun q=>Nxt.mk (k+1,o) (by simp;omega) (by simp) (by simp) ⟨by simp;omega,by simp;omega,?_⟩⟩
      · simp only[projV,hp,and_self,if_true]
        rw[← g3]
        simp[hasV,q,mlinesV]
      · simp only[projV,hp,and_self,if_true]
        rw[← g3]
        simp[hasV,q,mlinesV]
    · have e:∀l,projV l p=[]:=fun l=>by simp only[projV,hp,if_false]
      rw[e,e] at g3
      by_cases h2:0≤p
      · have h3:¬p<32:=by omega
        simp[h1,getD_map,h2,h3,add1 h1 (by omega)]
        exact Nxt.mk (k+1,o) (by simp;omega) (by simp) (by simp) ⟨by simp;omega,by simp;omega,by rw[e,e];exact g3⟩
      · simp[h1,getD_map,h2,add1 h1 (by omega)]
        exact Nxt.mk (k+1,o) (by simp;omega) (by simp) (by simp) ⟨by simp;omega,by simp;omega,by rw[e,e];exact g3⟩
  · have h9:k=l.length:=by omega
    subst h9
    have e:projV [] p=[]:=by simp[projV,mlinesV]
    rw[List.drop_length,e,List.append_nil] at g3
    simp[g3]
def joinV (l:List MergedT) (lines:List Int) (bit:Int):List SpanT→Nat→Nat→List MergedT
  | [],i,j=>oldV l i l.length++newV lines bit j lines.length
  | s::q,i,j=>oldV l i s.fr.toNat++newV lines bit j s.to.toNat++hitV l bit s.fr.toNat (s.fr.toNat+1)++joinV l lines bit q (s.fr.toNat+1) (s.to.toNat+1)
theorem hitV_app {l:List MergedT} {bit:Int} {t i:Nat} (h:t≤i):hitV l bit t (i+1)=hitV l bit t i++hitV l bit i (i+1):=by
  unfold hitV
  rw[← List.map_append,show i+1-t=(i-t)+1 by omega,show i+1-i=1 by omega,List.take_add,List.drop_drop,show t+(i-t)=i by omega]
theorem mergeS_join (l:List MergedT) (lines:List Int) (bit:Int):∀(q:List SpanT) (i j t:Nat),t≤i→i≤l.length→j≤lines.length→ascB q i j l.length lines.length=true →
    mergeS l lines bit (chgV (q++[⟨l.length,lines.length⟩]) i j) t=hitV l bit t i++joinV l lines bit q i j
  | [],i,j,t,h1,h2,h3,_=>by
    simp only[List.nil_append,chgV,gt_iff_lt,joinV]
    split
    · have e1:((i:Int)+((l.length:Int)-i)).toNat=l.length:=by omega
      have e2:((j:Int)+((lines.length:Int)-j)).toNat=lines.length:=by omega
      simp only[mergeS,e1,e2,hitV_self,Int.toNat_natCast,List.append_nil,List.append_assoc]
    · have e1:i=l.length:=by omega
      have e2:j=lines.length:=by omega
      subst e1 e2
      simp[mergeS,oldV_self,newV_self]
  | s::q,i,j,t,h1,h2,h3,ha=>by
    simp only[ascB,Bool.and_eq_true,decide_eq_true_eq] at ha
    obtain⟨⟨⟨⟨k1,k2⟩,k3⟩,k4⟩,k5⟩:=ha
    obtain⟨fr,to⟩:=s
    simp only at k1 k2 k3 k4 k5
    obtain⟨fr,rfl⟩:=Int.eq_ofNat_of_zero_le (show 0≤fr by omega)
    obtain⟨to,rfl⟩:=Int.eq_ofNat_of_zero_le (show 0≤to by omega)
    have c1:((fr:Int)+1)=((fr+1:Nat):Int):=by push_cast;rfl
    have c2:((to:Int)+1)=((to+1:Nat):Int):=by push_cast;rfl
    rw[c1,c2] at k5
    simp only[List.cons_append,chgV,gt_iff_lt,joinV,Int.toNat_natCast]
    split
    · have e1:((i:Int)+((fr:Int)-i)).toNat=fr:=by omega
      have e2:((j:Int)+((to:Int)-j)).toNat=to:=by omega
      simp only[mergeS,e1,e2,Int.toNat_natCast]
      rw[c1,c2,mergeS_join l lines bit q (fr+1) (to+1) fr (by omega) (by omega) (by omega) k5]
      simp only[List.append_assoc]
    · have e1:i=fr:=by omega
      have e2:j=to:=by omega
      subst e1 e2
      rw[c1,c2,mergeS_join l lines bit q (i+1) (j+1) t (by omega) (by omega) (by omega) k5,oldV_self,newV_self,hitV_app h1]
      simp only[List.nil_append,List.append_assoc]
def mergeV (l:List MergedT) (lines:List Int) (bit:Int):List MergedT:=mergeS l lines bit (scriptV (mlinesV l) lines) 0
theorem mlinesV_len (l:List MergedT):(mlinesV l).length=l.length:=by simp[mlinesV]
theorem mergeV_join (l:List MergedT) (lines:List Int) (bit:Int):mergeV l lines bit=joinV l lines bit (walkV (mlinesV l) lines 0 0) 0 0:=by
  have hw:=walkV_asc (mlinesV l) lines 0 0
  simp only[Int.zero_add,mlinesV_len] at hw
  have:=mergeS_join l lines bit (walkV (mlinesV l) lines 0 0) 0 0 0 (by omega) (by omega) (by omega) hw
  rw[hitV_self,List.nil_append] at this
  rw[← this]
  simp[mergeV,scriptV,madeV,mlinesV_len]
theorem mergeV_len {l:List MergedT} {lines:List Int} (bit:Int) (h1:l.length≤4096) (h2:lines.length≤4096):(mergeV l lines bit).length≤l.length+lines.length:=by
  have k:=(script_ok (a:=mlinesV l) (b:=lines) (by rw[mlinesV_len];exact h1) h2).1
  simp only[checkV,Bool.and_eq_true,mlinesV_len] at k
  have:=mergeS_len l lines bit _ 0 0 true (by omega) (by omega) k.2
  simpa [mergeV] using this
def bitV (p:Nat):Int:=IntKind.u32.wrap (2 ^ min p IntKind.u32.bits)
theorem bitN (p:Nat):IntKind.u32.wrap (2 ^ min p IntKind.u32.bits)=bitV p:=rfl
theorem orU_eq (a b:Int):IntKind.u32.wrap (((a % 2 ^ IntKind.u32.bits).toNat ||| (b % 2 ^ IntKind.u32.bits).toNat:Nat):Int)=orU a b:=rfl
theorem bitV_nat {p:Nat} (h:p<32):bitV p=((2 ^ p:Nat):Int):=by
  have h1:min p IntKind.u32.bits=p:=by simp only[IntKind.bits];omega
  have h2:2 ^ p<2 ^ 32:=Nat.pow_lt_pow_right (by omega) h
  unfold bitV
  rw[h1,show ((2:Int) ^ p)=((2 ^ p:Nat):Int) by push_cast;rfl,u32_wrap (by omega)]
@[simp] def S_ref15_join:List D→Prop × D:=spec3 (α:=List MergedT) (β:=List Int) (γ:=Int) (fun l lines p=>l.length≤4096∧lines.length≤4096∧0≤p∧p<32) (fun l lines p=>.tup [Rep.to (mergeV l lines (bitV p.toNat)),.int .i64 0])
theorem ct_ref15_join {P:Program} {f g1 g2 g3:Nat} {G:Gam} (h:CodeOf P f 3 19 [3,4] (x_ref15_join g1 g2 g3)) (hG:GamOk P G) (hg1:G.find g1=some S_ref15_lines) (hg2:G.find g2=some S_ref09_Script) (hg3:G.find g3=some S_ref08_Matched):Has P f S_ref15_join:=h.has3 hG fun l lines p hp=>by
  obtain⟨hl,hn,hp0,hp1⟩:=hp
  obtain⟨p,rfl⟩:=Int.eq_ofNat_of_zero_le hp0
  simp only[Int.toNat_natCast]
  have l1:l.length≤4194304:=by omega
  have hsl:=scriptV_len (mlinesV l) lines
  have hll:=mlinesV_len l
  have l2:(scriptV (mlinesV l) lines).length≤100000:=by omega
  obtain⟨k1,k2,_⟩:=script_ok (a:=mlinesV l) (b:=lines) (by omega) hn
  have k0:∃n,checkV (scriptV (mlinesV l) lines) (l.length:Int) n=true:=⟨lines.length,by rw[hll] at k1;exact k1⟩
  rw[hll] at k2
  have hjn:=mergeV_join l lines (bitV p)
  have hml:=mergeV_len (bitV p) hl hn
  have hwa:=walkV_asc (mlinesV l) lines 0 0
  have hwl:=walkV_len (mlinesV l) lines 0 0
  simp only[Int.zero_add,hll] at hwa
  simp[x_ref15_join,hg1,hg2,hg3,hl,hn,l1,l2,hll,k0,k2]
  generalize walkV (mlinesV l) lines 0 0=q at *
  generalize mergeV l lines (bitV p)=R at *
  refine vc_lp (σ:=Nat × Nat × Nat × List MergedT) (fun x=>x.1≤q.length+1∧x.2.1≤l.length∧x.2.2.1≤lines.length∧(x.1≤q.length→ascB (q.drop x.1) x.2.1 x.2.2.1 l.length lines.length=true∧x.2.2.2++joinV l lines (bitV p) (q.drop x.1) x.2.1 x.2.2.1=R)∧(x.1=q.length+1→x.2.2.2=R)) (fun x=>q.length+1-x.1)
    (fun x=>[.d (Rep.to l),.d (Rep.to lines),.d (.int .i64 p),.any,.any,.any,.any,.d (Rep.to q),.gr 0 2 (x.2.2.2.map Rep.to),.d (.int .i64 x.2.1),.d (.int .i64 x.2.2.1),.d (.int .i64 x.1),.any,.any,.any,.any,.any,.any,.any])
    (fun x=>[.tip x.2.2.2.length]) (0,0,0,[]) (by simp) (by simp) ⟨by simp,by simp,by simp,fun _=>⟨by simpa using hwa,by simp[hjn]⟩,by simp⟩ ?_
  rintro⟨k,i,j,out⟩ ⟨b1,b2,b3,b4,b5⟩
  simp only at b1 b2 b3 b4 b5
  by_cases hk1:k≤q.length
  · obtain⟨b6,b7⟩:=b4 hk1
    have w1:IntKind.i64.wrap ((k:Int)+1)=((k+1:Nat):Int):=by rw[wrap_in (by omega) (by omega)];push_cast;rfl
    by_cases hk:k<q.length
    · rw[List.drop_eq_getElem_cons hk] at b6 b7
      obtain⟨s,hs⟩:∃s,s=q[k]:=⟨_,rfl⟩
      have hs':q[k]=s:=hs.symm
      rw[← hs] at b6 b7
      obtain⟨fr,to⟩:=s
      simp only[ascB,Bool.and_eq_true,decide_eq_true_eq] at b6
      obtain⟨⟨⟨⟨m1,m2⟩,m3⟩,m4⟩,k5⟩:=b6
      obtain⟨fr,rfl⟩:=Int.eq_ofNat_of_zero_le (show 0≤fr by omega)
      obtain⟨to,rfl⟩:=Int.eq_ofNat_of_zero_le (show 0≤to by omega)
      obtain⟨Z,hZ⟩:∃Z,Z=hitV l (bitV p) fr (fr+1)++joinV l lines (bitV p) (q.drop (k+1)) (fr+1) (to+1):=⟨_,rfl⟩
      obtain⟨Z0,hZe⟩:∃Z0,Z0=newV lines (bitV p) j to++Z:=⟨_,rfl⟩
      have hZ0:out++(oldV l i fr++Z0)=R:=by rw[← b7,hZe,hZ];simp only[joinV,Int.toNat_natCast,List.append_assoc]
      have hfl:fr<l.length:=by omega
      have htl:to<lines.length:=by omega
      have hk2:(k:Int)≤q.length:=by omega
      simp[hk1,hk,hs',getD_map]
      refine vc_lp (σ:=Nat × List MergedT) (fun x=>i≤x.1∧x.1≤fr∧x.2++(oldV l x.1 fr++Z0)=R) (fun x=>fr-x.1)
        (fun x=>[.d (Rep.to l),.d (Rep.to lines),.d (.int .i64 p),.any,.any,.any,.any,.d (Rep.to q),.gr 0 2 (x.2.map Rep.to),.d (.int .i64 x.1),.d (.int .i64 j),.d (.int .i64 k),.ref 1 0 0 0,.any,.any,.any,.any,.any,.any])
        (fun x=>[.tip x.2.length,.cells 0 2 [.d (Rep.to (⟨fr,to⟩:SpanT))]]) (i,out) (by simp) (by simp) ⟨by omega,by omega,hZ0⟩ ?_
      rintro⟨i',o1⟩ ⟨d0,d1,d2⟩
      simp only at d0 d1 d2
      have ho1:o1.length≤R.length:=by rw[← d2];simp
      by_cases d3:i'<fr
      · have d4:i'<l.length:=by omega
        simp[d3,d4,getD_map,add1 d4 (by omega)]
        refine⟨by unfold room;omega,Nxt.mk (i'+1,o1++[l[i']]) (by simp;omega) (by simp) (by simp) ⟨by simp;omega,by simp;omega,?_⟩⟩
        rw[← d2,oldV_step d3 d4]
        simp
      · have:i'=fr:=by omega
        subst this
        rw[oldV_self,List.nil_append] at d2
        simp
        refine vc_lp (σ:=Nat × List MergedT) (fun x=>j≤x.1∧x.1≤to∧x.2++(newV lines (bitV p) x.1 to++Z)=R) (fun x=>to-x.1)
          (fun x=>[.d (Rep.to l),.d (Rep.to lines),.d (.int .i64 p),.any,.any,.any,.any,.d (Rep.to q),.gr 0 2 (x.2.map Rep.to),.d (.int .i64 i'),.d (.int .i64 x.1),.d (.int .i64 k),.ref 1 0 0 0,.any,.any,.any,.any,.any,.any])
          (fun x=>[.tip x.2.length,.cells 0 2 [.d (Rep.to (⟨i',to⟩:SpanT))]]) (j,o1) (by simp) (by simp) ⟨by omega,by omega,by rw[← d2,hZe]⟩ ?_
        rintro⟨j',o2⟩ ⟨f0,f1,f2⟩
        simp only at f0 f1 f2
        have ho2:o2.length≤R.length:=by rw[← f2];simp
        by_cases f3:j'<to
        · have f4:j'<lines.length:=by omega
          simp[f3,f4,getD_map,add1 f4 (by omega),u64_wrap (show p<18446744073709551616 by omega),bitN]
          refine⟨by unfold room;omega,Nxt.mk (j'+1,o2++[⟨lines[j'],bitV p⟩]) (by simp;omega) (by simp) (by simp) ⟨by simp;omega,by simp;omega,?_⟩⟩
          rw[← f2,newV_step f3 f4]
          simp
        · have:j'=to:=by omega
          subst this
          rw[newV_self,List.nil_append] at f2
          rw[hZ,hitV_step (by omega) hfl,hitV_self] at f2
          simp[hk,hfl,getD_map,u64_wrap (show p<18446744073709551616 by omega),bitN,w1,add1 hfl (by omega),add1 htl (by omega),orU_eq]
          refine⟨by unfold room;omega,Nxt.mk (k+1,i'+1,j'+1,o2++[⟨l[i'].line,orU l[i'].parents (bitV p)⟩]) (by simp;omega) (by simp) (by simp) ⟨by simp;omega,by simp;omega,by simp;omega,fun _=>⟨?_,?_⟩,fun h=>by simp at h;omega⟩⟩
          · simpa using k5
          · simp only
            rw[← f2]
            simp
    · have hkq:k=q.length:=by omega
      subst hkq
      rw[List.drop_length] at b7
      simp only[joinV] at b7
      obtain⟨fr,hfr⟩:∃fr,fr=l.length:=⟨_,rfl⟩
      obtain⟨to,hto⟩:∃to,to=lines.length:=⟨_,rfl⟩
      obtain⟨Z,hZ⟩:∃Z:List MergedT,Z=[]:=⟨_,rfl⟩
      obtain⟨Z0,hZe⟩:∃Z0,Z0=newV lines (bitV p) j to++Z:=⟨_,rfl⟩
      have hZ0:out++(oldV l i fr++Z0)=R:=by rw[← b7,hZe,hZ,hfr,hto,List.append_nil]
      obtain⟨k,hk⟩:∃k,k=q.length:=⟨_,rfl⟩
      simp[← hfr,← hto,← hk]
      refine vc_lp (σ:=Nat × List MergedT) (fun x=>i≤x.1∧x.1≤fr∧x.2++(oldV l x.1 fr++Z0)=R) (fun x=>fr-x.1)
        (fun x=>[.d (Rep.to l),.d (Rep.to lines),.d (.int .i64 p),.any,.any,.any,.any,.d (Rep.to q),.gr 0 2 (x.2.map Rep.to),.d (.int .i64 x.1),.d (.int .i64 j),.d (.int .i64 k),.ref 1 0 0 0,.any,.any,.any,.any,.any,.any])
        (fun x=>[.tip x.2.length,.cells 0 2 [.agg [.d (.int .i64 fr),.d (.int .i64 to)]]]) (i,out) (by simp) (by simp) ⟨by omega,by omega,hZ0⟩ ?_
      rintro⟨i',o1⟩ ⟨d0,d1,d2⟩
      simp only at d0 d1 d2
      have ho1:o1.length≤R.length:=by rw[← d2];simp
      by_cases d3:i'<fr
      · have d4:i'<l.length:=by omega
        simp[d3,d4,getD_map,add1 d4 (by omega)]
        refine⟨by unfold room;omega,Nxt.mk (i'+1,o1++[l[i']]) (by simp;omega) (by simp) (by simp) ⟨by simp;omega,by simp;omega,?_⟩⟩
        rw[← d2,oldV_step d3 d4]
        simp
      · have:i'=fr:=by omega
        subst this
        rw[oldV_self,List.nil_append] at d2
        simp
        refine vc_lp (σ:=Nat × List MergedT) (fun x=>j≤x.1∧x.1≤to∧x.2++(newV lines (bitV p) x.1 to++Z)=R) (fun x=>to-x.1)
          (fun x=>[.d (Rep.to l),.d (Rep.to lines),.d (.int .i64 p),.any,.any,.any,.any,.d (Rep.to q),.gr 0 2 (x.2.map Rep.to),.d (.int .i64 i'),.d (.int .i64 x.1),.d (.int .i64 k),.ref 1 0 0 0,.any,.any,.any,.any,.any,.any])
          (fun x=>[.tip x.2.length,.cells 0 2 [.agg [.d (.int .i64 i'),.d (.int .i64 to)]]]) (j,o1) (by simp) (by simp) ⟨by omega,by omega,by rw[← d2,hZe]⟩ ?_
        rintro⟨j',o2⟩ ⟨f0,f1,f2⟩
        simp only at f0 f1 f2
        have ho2:o2.length≤R.length:=by rw[← f2];simp
        by_cases f3:j'<to
        · have f4:j'<lines.length:=by omega
          simp[f3,f4,getD_map,add1 f4 (by omega),u64_wrap (show p<18446744073709551616 by omega),bitN]
          refine⟨by unfold room;omega,Nxt.mk (j'+1,o2++[⟨lines[j'],bitV p⟩]) (by simp;omega) (by simp) (by simp) ⟨by simp;omega,by simp;omega,?_⟩⟩
          rw[← f2,newV_step f3 f4]
          simp
        · have:j'=to:=by omega
          subst this
          rw[newV_self,List.nil_append] at f2
          rw[hZ,List.append_nil] at f2
          subst hk
          simp[w1]
          exact Nxt.mk (q.length+1,i',j',o2) (by simp) (by simp) (by simp) ⟨by simp,by simp only;omega,by simp only;omega,fun h=>absurd h (by simp),fun _=>f2⟩
  · have e:k=q.length+1:=by omega
    have:=b5 e
    subst this
    simp[hk1]
def coalO:List (List Int)→Nat→List MergedT→Option (List MergedT)
  | [],_,l=>some l
  | x::r,p,l=>if longV (mlinesV l) x then none else coalO r (p+1) (mergeV l x (bitV p))
def sumL (l:List (List Int)):Nat:=(l.map List.length).sum
theorem coalO_some:∀(xs:List (List Int)) (p:Nat) (l:List MergedT),l.length+sumL xs≤4096→∃m,coalO xs p l=some m∧m.length≤l.length+sumL xs
  | [],p,l,_=>⟨l,rfl,by simp[sumL]⟩
  | x::xs,p,l,h=>by
    have e:sumL (x::xs)=x.length+sumL xs:=by simp[sumL]
    have hl:¬longV (mlinesV l) x:=by unfold longV;rw[mlinesV_len];omega
    have hm:=mergeV_len (l:=l) (lines:=x) (bitV p) (by omega) (by omega)
    obtain⟨m,h1,h2⟩:=coalO_some xs (p+1) (mergeV l x (bitV p)) (by omega)
    exact⟨m,by simp only[coalO,hl,if_false];exact h1,by omega⟩
def coalD (xs:List (List Int)):D:=match (if 32<xs.length then none else coalO xs 0 []) with
  | some m=>.tup [Rep.to m,.int .i64 0]
  | none=>.tup [Rep.to ([]:List MergedT),.int .i64 1]
theorem sumL_drop {xs:List (List Int)} {k:Nat} (h:k<xs.length):sumL (xs.drop k)=xs[k].length+sumL (xs.drop (k+1)):=by
  unfold sumL
  rw[List.drop_eq_getElem_cons h,List.map_cons,List.sum_cons]
@[simp] def S_ref15_Coalesce:List D→Prop × D:=spec1 (α:=List (List Int)) (fun xs=>sumL xs≤4096∧xs.length≤1048576) (fun xs=>coalD xs)
theorem ct_ref15_Coalesce {P:Program} {f g1:Nat} {G:Gam} (h:CodeOf P f 1 10 [1,2] (x_ref15_Coalesce g1)) (hG:GamOk P G) (hg1:G.find g1=some S_ref15_join):Has P f S_ref15_Coalesce:=h.has1 hG fun xs hp=>by
  obtain⟨hs,hx⟩:=hp
  by_cases h32:32<xs.length
  · have h32':(32:Int)<xs.length:=by omega
    simp[x_ref15_Coalesce,h32',coalD,h32]
  have h32':¬(32:Int)<xs.length:=by omega
  simp[x_ref15_Coalesce,h32',coalD,h32]
  refine vc_lp (σ:=Nat × List MergedT) (fun x=>x.1≤xs.length∧x.2.length+sumL (xs.drop x.1)≤4096∧coalO (xs.drop x.1) x.1 x.2=coalO xs 0 []) (fun x=>xs.length-x.1)
    (fun x=>[.d (Rep.to xs),.any,.any,.d (Rep.to x.2),.d (.int .i64 x.1),.any,.any,.any,.any,.any]) (fun _=>[]) (0,[]) (by simp) (by simp) ⟨by simp,by simpa using hs,rfl⟩ ?_
  rintro⟨k,m⟩ ⟨g1,g2,g3⟩
  simp only at g1 g2 g3
  by_cases h1:k<xs.length
  · have e:=sumL_drop h1
    have hl:¬longV (mlinesV m) xs[k]:=by unfold longV;rw[mlinesV_len];omega
    have hm:=mergeV_len (l:=m) (lines:=xs[k]) (bitV k) (by omega) (by omega)
    rw[List.drop_eq_getElem_cons h1,coalO,if_neg hl] at g3
    simp[h1,getD_map,hg1,add1 h1 (by omega)]
    refine⟨⟨by omega,by omega,by omega⟩,Nxt.mk (k+1,mergeV m xs[k] (bitV k)) (by simp;omega) (by simp) (by simp) ⟨by simp;omega,by simp only;omega,g3⟩⟩
  · have h9:k=xs.length:=by omega
    subst h9
    rw[List.drop_length,coalO] at g3
    simp[← g3]
structure Lost1 where
  e:Int
  t:Int
  out:List MergedT
  l:List MergedT
  bit:Int
  v0:Nat
  v1:Nat
  v2:Nat
  v3:Nat
@[simp] def F_lost_merge_1:RF Lost1 where
  new:=0
  view a s:=⟨(a.getD 0 .any).gi,((s.getD 0 .dead).at 0 0).gi,((s.getD 1 .dead).at 0 0).gl MergedT,((s.getD 2 .dead).at 0 0).gl MergedT,((s.getD 3 .dead).at 0 0).gi,(s.getD 0 .dead).ver,(s.getD 1 .dead).ver,(s.getD 2 .dead).ver,(s.getD 3 .dead).ver⟩
  args x:=[.d (.int .i64 x.e),.ref 0 x.v0 0 0,.ref 1 x.v1 0 0,.ref 2 x.v2 0 0,.ref 3 x.v3 0 0]
  st x:=[.cells x.v0 1 [.d (.int .i64 x.t)],.cells x.v1 1 [.gr 4 2 (x.out.map Rep.to)],.cells x.v2 1 [.d (Rep.to x.l)],.cells x.v3 1 [.d (.int .u32 x.bit)],.tip x.out.length]
  pre x:=0≤x.t∧x.t≤x.e∧x.e≤x.l.length∧x.l.length≤1048576∧x.out.length+x.l.length≤4194304
  res x:=.tup []
  st' x:=[.cells x.v0 1 [.d (.int .i64 x.e)],.cells x.v1 1 [.gr 4 2 ((x.out++hitV x.l x.bit x.t.toNat x.e.toNat).map Rep.to)],.cells x.v2 1 [.d (Rep.to x.l)],.cells x.v3 1 [.d (.int .u32 x.bit)],.tip (x.out++hitV x.l x.bit x.t.toNat x.e.toNat).length]
abbrev R_lost_merge_1:RSpec:=F_lost_merge_1.spec
theorem ct_lost_merge_1 {P:Program} {f:Nat} (hc:CodeOf P f 5 6 [] x_lost_merge_1):RSpec.Ok P f R_lost_merge_1:=by
  refine RF.ok hc.call fun x hx=>hc.rcalls (GamOk.nil _) rfl ?_
  obtain⟨e,t,out,l,bit,v0,v1,v2,v3⟩:=x
  obtain⟨h1,h2,h3,h4,h5⟩:=hx
  simp only at h1 h2 h3 h4 h5
  obtain⟨t,rfl⟩:=Int.eq_ofNat_of_zero_le h1
  obtain⟨e,rfl⟩:=Int.eq_ofNat_of_zero_le (Int.le_trans h1 h2)
  simp[x_lost_merge_1,startA]
  refine vc_lp (σ:=Nat × List MergedT) (fun x=>x.1≤e∧x.2.length≤out.length+x.1∧x.2++hitV l bit x.1 e=out++hitV l bit t e) (fun x=>e-x.1)
    (fun x=>[.d (.int .i64 e),.ref 0 v0 0 0,.ref 1 v1 0 0,.ref 2 v2 0 0,.ref 3 v3 0 0,.any])
    (fun x=>[.cells v0 1 [.d (.int .i64 x.1)],.cells v1 1 [.gr 4 2 (x.2.map Rep.to)],.cells v2 1 [.d (Rep.to l)],.cells v3 1 [.d (.int .u32 bit)],.tip x.2.length]) (t,out) (by simp) (by simp) ⟨by simp;omega,by simp,rfl⟩ ?_
  rintro⟨k,o⟩ ⟨g1,g2,g3⟩
  simp only at g1 g2 g3
  by_cases g4:k<e
  · have g5:k<l.length:=by omega
    simp[g4,g5,getD_map]
    simp (disch:=omega) only[wrap_in]
    refine⟨by unfold room;omega,Nxt.mk (k+1,o++[⟨l[k].line,orU l[k].parents bit⟩]) (by simp;omega) (by simp) (by simp[orU]) ⟨by simp;omega,by simp;omega,?_⟩⟩
    rw[hitV_step g4 g5] at g3
    rw[← g3]
    simp
  · have:k=e:=by omega
    subst this
    rw[hitV_self,List.append_nil] at g3
    subst g3
    simp
    exact FinR.done (by simp) (by simp) rfl rfl (by simp) (by simp)
@[simp] def S_lost_numbers:List D→Prop × D:=spec1 (α:=List MergedT) (fun l=>l.length≤4194304) (fun l=>Rep.to (mlinesV l))
theorem ct_lost_numbers {P:Program} {f:Nat} {G:Gam} (h:CodeOf P f 1 8 [1] x_lost_numbers) (hG:GamOk P G):Has P f S_lost_numbers:=h.has1 hG fun l hl=>by
  simp[x_lost_numbers]
  refine vc_lp (σ:=Nat) (fun k=>k≤l.length) (fun k=>l.length-k) (fun k=>[.any,.any,.gr 0 1 (((mlinesV l).take k).map Rep.to),.any,.d (Rep.to l),.d (.int .i64 l.length),.d (.int .i64 k),.any]) (fun k=>[.tip k]) 0 (by simp) (by simp) (by simp) ?_
  intro k hk
  by_cases h1:k<l.length
  · have h2:k<(mlinesV l).length:=by simpa [mlinesV] using h1
    have h3:(mlinesV l)[k]=l[k].line:=by simp[mlinesV]
    have h4:(mlinesV l).length=l.length:=by simp[mlinesV]
    simp[h1,getD_map,add1 h1 (by omega),h4,Nat.min_eq_left (show k≤l.length by omega)]
    refine⟨by unfold room;omega,Nxt.mk (k+1) (by omega) ?_ (by simp) (by omega)⟩
    rw[take_to h2,h3]
    simp
  · have:k=l.length:=by omega
    subst this
    have h4:(mlinesV l).length=l.length:=by simp[mlinesV]
    simp
    rw[List.take_of_length_le (by simp[h4])]
@[simp] def S_lost_merge:List D→Prop × D:=spec3 (α:=List MergedT) (β:=List Int) (γ:=U32T) (fun l lines _=>l.length≤1048576∧lines.length≤1048576) (fun l lines bit=>.tup [Rep.to (if longV (mlinesV l) lines then [] else mergeV l lines bit.n),.int .i64 (if longV (mlinesV l) lines then 1 else 0)])
theorem ct_lost_merge {P:Program} {f g1 g2 g3:Nat} {G:Gam} (h:CodeOf P f 3 23 [5,6] (x_lost_merge g1 g2 g3)) (hG:GamOk P G) (hg1:G.find g1=some S_lost_numbers) (hg2:G.find g2=some S_shortest_Script) (hg3:G.findR g3=some R_lost_merge_1):Has P f S_lost_merge:=h.has3 hG fun l lines bit hp=>by
  obtain⟨hl,hn⟩:=hp
  obtain⟨bit⟩:=bit
  have hll:(mlinesV l).length=l.length:=by simp[mlinesV]
  have l1:l.length≤4194304:=by omega
  by_cases hL:longV (mlinesV l) lines
  · simp[x_lost_merge,hg1,hg2,hl,hn,l1,hll,hL]
  · have hL':l.length≤4096∧lines.length≤4096:=by unfold longV at hL;omega
    obtain⟨k1,_⟩:=script_ok (a:=mlinesV l) (b:=lines) (by omega) (by omega)
    simp only[checkV,Bool.and_eq_true] at k1
    have k1:=k1.2
    rw[hll] at k1
    have hml:=mergeS_len l lines bit _ 0 0 true (by omega) (by omega) k1
    have hsl:=scriptV_len (mlinesV l) lines
    simp[x_lost_merge,hg1,hg2,hl,hn,l1,hll,hL]
    have hM:mergeV l lines bit=mergeS l lines bit (scriptV (mlinesV l) lines) 0:=rfl
    generalize scriptV (mlinesV l) lines=sc at *
    simp only[Int.toNat_zero] at hml
    rw[← hM] at hml
    refine vc_lpR (σ:=Nat × Nat × Nat × List MergedT) (fun x=>x.1≤sc.length∧x.2.1≤l.length∧x.2.2.1≤lines.length∧okV (sc.drop x.1) x.2.1 x.2.2.1 (decide (x.1=0)) l.length lines.length=true∧x.2.2.2++mergeS l lines bit (sc.drop x.1) x.2.1=mergeV l lines bit) (fun x=>sc.length-x.1)
      (fun x=>[.any,.d (Rep.to lines),.any,.ref 0 0 0 0,.ref 1 0 0 0,.any,.any,.any,.any,.ref 2 0 0 0,.ref 3 0 0 0,.fn (.func g3) [] [.ref 3 0 0 0,.ref 2 0 0 0,.ref 0 0 0 0,.ref 1 0 0 0],.any,.any,.any,.d (Rep.to sc),.d (.int .i64 sc.length),.d (.int .i64 x.1),.any,.any,.any,.any,.any])
      (fun x=>[.cells 0 1 [.d (Rep.to l)],.cells 0 1 [.d (.int .u32 bit)],.cells 0 1 [.gr 4 2 (x.2.2.2.map Rep.to)],.cells 0 1 [.d (.int .i64 x.2.1)],.tip x.2.2.2.length]) (0,0,0,[]) ?_ ?_ ?_
    · refine Re.weak (k:=[.tip 0]) (s':=[.cells 0 1 [.d (Rep.to l)],.cells 0 1 [.d (.int .u32 bit)],.cells 0 1 [.gr 4 2 []],.cells 0 1 [.d (.int .i64 0)]]) (by simp) (by simp) (by simp) ⟨.inl rfl,.inl rfl,.cellsL ?_,.inl rfl,trivial⟩
      simp
      exact Wk.fresh 4 [.tip 0] 2 0 rfl
    · exact⟨by simp,by simp,by simp,by simpa using k1,by simp[hM]⟩
    rintro⟨k,i,j,out⟩ ⟨b1,b2,b3,b4,b5⟩
    simp only at b1 b2 b3 b4 b5
    by_cases h8:k<sc.length
    · rw[List.drop_eq_getElem_cons h8,okV,Bool.and_eq_true] at b4
      rw[List.drop_eq_getElem_cons h8,mergeS] at b5
      obtain⟨c,hc⟩:∃c,c=sc[k]:=⟨_,rfl⟩
      rw[← hc] at b4 b5
      have hc':sc[k]=c:=hc.symm
      obtain⟨o,ol,nw,nl⟩:=c
      obtain⟨hs,h6⟩:=b4
      have hs:=stepV_true hs
      have hb:=okV_le _ _ _ _ _ _ h6
      simp only at hs h6 b5 hb
      obtain⟨c1,c2,c3,c4,c5,c6,c7,c8⟩:=hs
      obtain⟨o,rfl⟩:=Int.eq_ofNat_of_zero_le c1.1
      obtain⟨ol,rfl⟩:=Int.eq_ofNat_of_zero_le c2.1
      obtain⟨nw,rfl⟩:=Int.eq_ofNat_of_zero_le c3.1
      obtain⟨nl,rfl⟩:=Int.eq_ofNat_of_zero_le c4.1
      have w1:IntKind.i64.wrap ((o:Int)+(ol:Int))=((o+ol:Nat):Int):=by rw[wrap_in (by omega) (by omega)];push_cast;rfl
      have w2:IntKind.i64.wrap ((nw:Int)+(nl:Int))=((nw+nl:Nat):Int):=by rw[wrap_in (by omega) (by omega)];push_cast;rfl
      have hio:i≤o:=by omega
      have hol:o+ol≤l.length:=by omega
      have hnl:nw+nl≤lines.length:=by omega
      obtain⟨seg,hseg⟩:∃seg,seg=(lines.drop nw).take nl:=⟨_,rfl⟩
      have hsg:List.take nl (List.drop nw (List.map Rep.to lines))=seg.map Rep.to:=by rw[hseg,List.map_take,List.map_drop]
      have hsl':seg.length=nl:=by rw[hseg];simp;omega
      obtain⟨old,hold⟩:∃old,old=oldV l o (o+ol):=⟨_,rfl⟩
      have hod:List.take ol (List.drop o (List.map Rep.to l))=old.map Rep.to:=by rw[hold,oldV,List.map_take,List.map_drop,Nat.add_sub_cancel_left]
      have hodl:old.length=ol:=by rw[hold,oldV];simp;omega
      have hml2:mergeV l lines bit=mergeV l lines bit:=rfl
      have hlen:out.length+(hitV l bit i o).length+ol+nl≤1000000:=by
        have:=congrArg List.length b5
        simp only[List.length_append,Int.toNat_natCast] at this
        rw[show ((o:Int)+(ol:Int)).toNat=o+ol by omega,show ((nw:Int)+(nl:Int)).toNat=nw+nl by omega,← hold] at this
        have e:(newV lines bit nw (nw+nl)).length=nl:=by simp[newV];omega
        omega
      have e1:((o:Int)+(ol:Int)).toNat=o+ol:=by omega
      have e2:((nw:Int)+(nl:Int)).toNat=nw+nl:=by omega
      have e3:min ol (l.length-o)=ol:=by omega
      have e4:min nl (lines.length-nw)=nl:=by omega
      simp[h8,getD_map,hc',hg3,eCallv,eRCall,w1,w2,hsg,hod,e1,e2,e3,e4]
      refine⟨⟨hio,by omega,by omega,by omega⟩,by omega,by unfold room;omega,by omega,?_⟩
      refine vc_lp (σ:=Nat × List MergedT) (fun x=>x.1≤seg.length∧x.2=out++hitV l bit i o++old++newV lines bit nw (nw+x.1)) (fun x=>seg.length-x.1)
        (fun x=>[.any,.d (Rep.to lines),.any,.ref 0 0 0 0,.ref 1 0 0 0,.any,.any,.any,.any,.ref 2 0 0 0,.ref 3 0 0 0,.fn (.func g3) [] [.ref 3 0 0 0,.ref 2 0 0 0,.ref 0 0 0 0,.ref 1 0 0 0],.any,.any,.any,.d (Rep.to sc),.d (.int .i64 sc.length),.d (.int .i64 k),.any,.d (Rep.to seg),.d (.int .i64 nl),.d (.int .i64 x.1),.any])
        (fun x=>[.cells 0 1 [.d (Rep.to l)],.cells 0 1 [.d (.int .u32 bit)],.cells 0 1 [.gr 4 2 (x.2.map Rep.to)],.cells 0 1 [.d (.int .i64 ((o+ol:Nat):Int))],.tip x.2.length]) (0,out++hitV l bit i o++old) (by simp[hsl']) (by simp[hodl,Nat.add_assoc]) ⟨by omega,by simp[newV_self]⟩ ?_
      rintro⟨x,o'⟩ ⟨d1,d2⟩
      simp only at d1 d2
      have hnv:(newV lines bit nw (nw+x)).length≤x:=by have:=newV_len lines bit nw (nw+x);omega
      have hol':o'.length≤1000000:=by rw[d2];simp only[List.length_append];omega
      by_cases d3:x<nl
      · have d4:x<seg.length:=by omega
        have d5:seg[x]=lines[nw+x]:=by simp[hseg]
        simp[d3,d4,getD_map,add1 d4 (by omega)]
        refine⟨by unfold room;omega,Nxt.mk (x+1,o'++[⟨seg[x],bit⟩]) (by simp;omega) (by simp) (by simp) ⟨by simp;omega,?_⟩⟩
        simp only
        have d6:newV lines bit nw (nw+(x+1))=newV lines bit nw (nw+x)++[⟨seg[x],bit⟩]:=by
          unfold newV
          rw[show nw+(x+1)-nw=x+1 by omega,show nw+x-nw=x by omega,take_snoc (by simp;omega),d5]
          simp
        rw[d2,d6]
        simp only[List.append_assoc]
      · have:x=nl:=by omega
        subst this
        simp[add1 h8 (by omega)]
        refine Nxt.mk (k+1,o+ol,nw+x,o') (by simp;omega) (by simp) (by simp) ⟨by simp;omega,hol,hnl,by simpa using h6,?_⟩
        simp only
        rw[d2,← b5]
        simp[hold,e1,e2]
    · have h9:k=sc.length:=by omega
      subst h9
      rw[List.drop_length,mergeS] at b5
      simp[hg3,eCallv,eRCall]
      refine⟨⟨b2,by omega,?_⟩,?_⟩
      · have:=congrArg List.length b5
        simp only[List.length_append] at this
        omega
      · rw[← b5]
        simp
@[simp] def S_lost_Project:List D→Prop × D:=spec2 (α:=List MergedT) (β:=Int) (fun l _=>l.length≤1048576) (fun l p=>Rep.to (projV l p))
theorem ct_lost_Project {P:Program} {f:Nat} {G:Gam} (h:CodeOf P f 2 11 [2] x_lost_Project) (hG:GamOk P G):Has P f S_lost_Project:=h.has2 hG fun l p hl=>by
  simp[x_lost_Project]
  refine⟨fun h=>by simp[projV];omega,fun p0=>⟨fun h=>by simp[projV];omega,fun p1=>?_⟩⟩
  obtain⟨p,rfl⟩:=Int.eq_ofNat_of_zero_le p0
  have e:∀l,projV l p=mlinesV (l.filter (hasV p)):=fun l=>by simp[projV,p1]
  refine vc_lp (σ:=Nat × List Int) (fun x=>x.1≤l.length∧x.2.length≤x.1∧x.2++projV (l.drop x.1) p=projV l p) (fun x=>l.length-x.1) (fun x=>[.any,.d (.int .i64 p),.any,.gr 0 1 (x.2.map Rep.to),.any,.any,.d (Rep.to l),.d (.int .i64 l.length),.d (.int .i64 x.1),.any,.any]) (fun x=>[.tip x.2.length]) (0,[]) (by simp) (by simp) (by simp) ?_
  rintro⟨k,o⟩ ⟨g1,g2,g3⟩
  simp only at g1 g2 g3
  by_cases h1:k<l.length
  · rw[List.drop_eq_getElem_cons h1] at g3
    rw[e,e,List.filter_cons] at g3
    simp[h1,getD_map]
    have e2:getU l[k].parents p=IntKind.u32.wrap ↑((l[k].parents.fdiv (2 ^ min p IntKind.u32.bits) % 2 ^ IntKind.u32.bits).toNat &&& 1 % 2 ^ IntKind.u32.bits):=rfl
    rw[← e2,add1 h1 (by omega)]
    refine⟨fun q=>⟨by unfold room;omega,Nxt.mk (k+1,o++[l[k].line]) (by simp;omega) (by simp) (by simp) ⟨by simp;omega,by simp;omega,?_⟩⟩,fun q=>Nxt.mk (k+1,o) (by simp;omega) (by simp) (by simp) ⟨by simp;omega,by simp;omega,?_⟩⟩
    · rw[e,e,← g3]
      simp[hasV,q,mlinesV]
    · rw[e,e,← g3]
      simp[hasV,q,mlinesV]
  · have h9:k=l.length:=by omega
    subst h9
    have e3:projV [] p=[]:=by simp[projV,mlinesV]
    rw[List.drop_length,e3,List.append_nil] at g3
    simp[g3]
@[simp] def S_lost_Coalesce:List D→Prop × D:=spec1 (α:=List (List Int)) (fun xs=>(∀x,x∈xs→x.length≤1048576)∧xs.length≤1048576) (fun xs=>coalD xs)
theorem ct_lost_Coalesce {P:Program} {f g1:Nat} {G:Gam} (h:CodeOf P f 1 13 [1,2] (x_lost_Coalesce g1)) (hG:GamOk P G) (hg1:G.find g1=some S_lost_merge):Has P f S_lost_Coalesce:=h.has1 hG fun xs hp=>by
  obtain⟨hs,hx⟩:=hp
  by_cases h32:32<xs.length
  · have h32':(32:Int)<xs.length:=by omega
    simp[x_lost_Coalesce,h32',coalD,h32]
  have h32':¬(32:Int)<xs.length:=by omega
  have hfst:∀h:0<xs.length,4096<xs[0].length→coalO xs 0 []=none:=by
    intro h0 h1
    obtain⟨x,r,rfl⟩:=List.exists_cons_of_length_pos h0
    simp only[List.getElem_cons_zero] at h1
    have:longV (mlinesV []) x:=by unfold longV;omega
    simp[coalO,this]
  rcases Nat.eq_zero_or_pos xs.length with h0 | h0
  · have:xs=[]:=List.eq_nil_of_length_eq_zero h0
    subst this
    simp[x_lost_Coalesce,coalD,coalO]
    refine vc_lp (σ:=Unit) (fun _=>True) (fun _=>0) (fun _=>[.any,.any,.any,.d (Rep.to ([]:List MergedT)),.any,.any,.any,.any,.d (Rep.to ([]:List (List Int))),.d (.int .i64 0),.d (.int .i64 0),.any,.any]) (fun _=>[]) () (by simp) (by simp) trivial ?_
    intro _ _
    simp
  by_cases h1:4096<xs[0].length
  · have h1':(4096:Int)<xs[0].length:=by omega
    simp[x_lost_Coalesce,h32',coalD,h32,h0,h1',getD_map,hfst h0 h1]
  have h1':¬(4096:Int)<xs[0].length:=by omega
  simp[x_lost_Coalesce,h32',coalD,h32,h0,h1',getD_map]
  refine vc_lp (σ:=Nat × List MergedT) (fun x=>x.1≤xs.length∧x.2.length≤8192∧coalO (xs.drop x.1) x.1 x.2=coalO xs 0 []) (fun x=>xs.length-x.1)
    (fun x=>[.any,.any,.any,.d (Rep.to x.2),.any,.any,.any,.any,.d (Rep.to xs),.d (.int .i64 xs.length),.d (.int .i64 x.1),.any,.any]) (fun _=>[]) (0,[]) (by simp) (by simp) ⟨by simp,by simp,rfl⟩ ?_
  rintro⟨k,m⟩ ⟨g1,g2,g3⟩
  simp only at g1 g2 g3
  by_cases h2:k<xs.length
  · rw[List.drop_eq_getElem_cons h2,coalO] at g3
    have l1:m.length≤1048576:=by omega
    have l2:=hs xs[k] (List.getElem_mem h2)
    by_cases hL:longV (mlinesV m) xs[k]
    · rw[if_pos hL] at g3
      simp[h2,getD_map,hg1,l1,l2,hL,← g3]
    · have hl':m.length≤4096∧xs[k].length≤4096:=by unfold longV at hL;rw[mlinesV_len] at hL;omega
      have hm:=mergeV_len (l:=m) (lines:=xs[k]) (bitV k) hl'.1 hl'.2
      rw[if_neg hL] at g3
      simp[h2,getD_map,hg1,l1,l2,hL,bitN,add1 h2 (by omega)]
      exact Nxt.mk (k+1,mergeV m xs[k] (bitV k)) (by simp;omega) (by simp) (by simp) ⟨by simp;omega,by simp only;omega,g3⟩
  · have h9:k=xs.length:=by omega
    subst h9
    rw[List.drop_length,coalO] at g3
    simp[← g3]
@[simp] def S_law15_same:List D→Prop × D:=spec2 (α:=List MergedT) (β:=List MergedT) (fun a _=>a.length≤9223372036854775807) (fun a b=>Rep.to (decide (a=b)))
theorem ct_law15_same {P:Program} {f:Nat} {G:Gam} (h:CodeOf P f 2 7 [2] x_law15_same) (hG:GamOk P G):Has P f S_law15_same:=h.has2 hG fun a b h=>by
  simp[x_law15_same]
  refine⟨fun h1 h2=>h1 (by rw[h2]),fun h1=>?_⟩
  have h1:a.length=b.length:=by omega
  refine vc_lp (σ:=Nat) (fun i=>i≤a.length∧(a=b↔a.drop i=b.drop i)) (fun i=>a.length-i) (fun i=>[.d (Rep.to a),.d (Rep.to b),.any,.d (.int .i64 i),.any,.any,.any]) (fun _=>[]) 0 (by simp) (by simp) (by simp) ?_
  rintro i ⟨hm,hi⟩
  by_cases h2:i<a.length
  · have h3:i<b.length:=by omega
    rw[List.drop_eq_getElem_cons h2,List.drop_eq_getElem_cons h3] at hi
    generalize hx:a[i]=x at *
    generalize hy:b[i]=y at *
    obtain⟨x1,x2⟩:=x
    obtain⟨y1,y2⟩:=y
    simp[getD_map,h2,h3,hx,hy,add1 h2 h,eSeq,cellsEq,cellEq]
    refine⟨fun h4 h5=>?_,fun q1 q2=>Nxt.mk (i+1) (by omega) (by simp) (by simp) ⟨by omega,?_⟩⟩
    · rw[hi] at h5
      simp at h5
      omega
    · rw[hi,q1,q2]
      simp
  · have h9:i=a.length:=by omega
    subst h9
    rw[List.drop_length,h1,List.drop_length] at hi
    simp[hi]
def listsV (raw:List Int) (n:Int):List (List Int):=(List.range (modV n 6).toNat).map fun (p:Nat)=>idsG raw (20 * p+5) (modV (atV raw p) 7).toNat 4
theorem listsV_len (raw:List Int) (n:Int):(listsV raw n).length≤5:=by
  have:=modV_lt n (n:=6) (by omega)
  simp[listsV]
  omega
theorem listsV_mem {raw:List Int} {n:Int} {x:List Int} (h:x∈listsV raw n):x.length≤6:=by
  simp only[listsV,List.mem_map] at h
  obtain⟨p,_,rfl⟩:=h
  have:=modV_lt (atV raw p) (n:=7) (by omega)
  rw[idsG_len]
  omega
theorem sumL_le:∀{xs:List (List Int)} {b:Nat},(∀x,x∈xs→x.length≤b)→sumL xs≤xs.length * b
  | [],b,_=>by simp[sumL]
  | x::xs,b,h=>by
    have h1:=sumL_le (xs:=xs) (b:=b) fun y hy=>h y (by simp[hy])
    have h2:=h x (by simp)
    have e:sumL (x::xs)=x.length+sumL xs:=by simp[sumL]
    rw[e,List.length_cons,Nat.add_mul]
    omega
@[simp] def S_law15_lists:List D→Prop × D:=spec2 (α:=List Int) (β:=Int) (fun raw _=>raw.length≤9223372036854775807) (fun raw n=>Rep.to (listsV raw n))
theorem ct_law15_lists {P:Program} {f g1 g2 g3:Nat} {G:Gam} (h:CodeOf P f 2 6 [2] (x_law15_lists g1 g2 g3)) (hG:GamOk P G) (hg1:G.find g1=some S_gen_Mod) (hg2:G.find g2=some S_gen_At) (hg3:G.find g3=some S_gen_Ids):Has P f S_law15_lists:=h.has2 hG fun raw n hr=>by
  have hm:=modV_lt n (n:=6) (by omega)
  obtain⟨N,hN⟩:=Int.eq_ofNat_of_zero_le hm.1
  rw[hN] at hm
  have e:listsV raw n=(List.range N).map fun (p:Nat)=>idsG raw (20 * p+5) (modV (atV raw p) 7).toNat 4:=by rw[listsV,hN];rfl
  simp[x_law15_lists]
  refine vc_lp (σ:=Nat × List (List Int)) (fun x=>x.1≤N∧x.2=(List.range x.1).map fun (p:Nat)=>idsG raw (20 * p+5) (modV (atV raw p) 7).toNat 4) (fun x=>N-x.1)
    (fun x=>[.d (Rep.to raw),.d (.int .i64 n),.any,.gr 0 1 (x.2.map Rep.to),.d (.int .i64 x.1),.any]) (fun x=>[.tip x.2.length]) (0,[]) (by simp) (by simp) (by simp) ?_
  rintro⟨k,o⟩ ⟨b1,b2⟩
  simp only at b1 b2
  have hol:o.length=k:=by rw[b2];simp
  by_cases h1:k<N
  · have hq:=modV_lt (atV raw k) (n:=7) (by omega)
    have w1:=wrap_in (n:=20 * (k:Int)) (by omega) (by omega)
    have w2:=wrap_in (n:=20 * (k:Int)+5) (by omega) (by omega)
    have w3:=wrap_in (n:=(k:Int)+1) (by omega) (by omega)
    have hk1:(k:Int)<9223372036854775807:=by omega
    have hr2:raw.length≤9223372036854775807:=by omega
    simp[hg1,hN,h1,hg2,hg3,hk1,hr2,hr,w1,w2,w3]
    refine⟨⟨by omega,by omega,by omega⟩,by unfold room;omega,Nxt.mk (k+1,o++[idsG raw (20 * k+5) (modV (atV raw k) 7).toNat 4]) (by simp;omega) (by simp) (by simp) ⟨by simp;omega,?_⟩⟩
    simp only
    rw[b2,List.range_succ,List.map_append]
    rfl
  · have h9:k=N:=by omega
    subst h9
    simp[hg1,hN,e,b2]
@[simp] def S_law15_awake:List D→Prop × D:=spec0 True (Rep.to true)
theorem ct_law15_awake {P:Program} {f g1 g2 g3 g4:Nat} {G:Gam} (h:CodeOf P f 0 3 [0] (x_law15_awake g1 g2 g3 g4)) (hG:GamOk P G) (h1:G.find g1=some S_lost_Coalesce) (h2:G.find g2=some S_law15_same) (h3:G.find g3=some S_lost_Project) (h4:G.find g4=some S_gen_Ints):Has P f S_law15_awake:=h.has0 hG fun _=>by
  have e1:coalO [[1,2],[2,3]] 0 []=some [⟨1,1⟩,⟨2,3⟩,⟨3,2⟩]:=by decide +kernel
  have e2:coalD [[1,2],[2,3]]=.tup [Rep.to ([⟨1,1⟩,⟨2,3⟩,⟨3,2⟩]:List MergedT),.int .i64 0]:=by unfold coalD;rw[if_neg (by decide),e1]
  have e3:projV [⟨1,1⟩,⟨2,3⟩,⟨3,2⟩] 1=[2,3]:=by decide +kernel
  simp[x_law15_awake,h1,h2,h3,h4,ofAll,e2,e3]
theorem coalD_ok {xs:List (List Int)} (h1:xs.length≤32) (h2:sumL xs≤4096):∃m,coalD xs=.tup [Rep.to m,.int .i64 0]∧coalO xs 0 []=some m∧m.length≤4096:=by
  obtain⟨m,e1,e2⟩:=coalO_some xs 0 [] (by simpa using h2)
  refine⟨m,?_,e1,by simpa using Nat.le_trans e2 (by simpa using h2)⟩
  unfold coalD
  rw[if_neg (by omega),e1]
@[simp] def S_law15_LostCoalesces:List D→Prop × D:=spec3 (α:=List Int) (β:=Int) (γ:=List (List Int)) (fun raw _ l=>raw.length≤9223372036854775807∧l.length≤9223372036854775807) (fun _ _ _=>Rep.to true)
theorem ct_law15_LostCoalesces {P:Program} {f g1 g2 g3 g4 g5:Nat} {G:Gam} (h:CodeOf P f 3 16 [3] (x_law15_LostCoalesces g1 g2 g3 g4 g5)) (hG:GamOk P G) (h1:G.find g1=some S_law15_awake) (h2:G.find g2=some S_law15_lists) (h3:G.find g3=some S_lost_Coalesce) (h4:G.find g4=some S_ref15_Coalesce) (h5:G.find g5=some S_law15_same):Has P f S_law15_LostCoalesces:=h.has3 hG fun raw n l hr=>by
  obtain⟨hr,hl⟩:=hr
  by_cases h6:6<l.length
  · have h6':(6:Int)<l.length:=by omega
    simp[x_law15_LostCoalesces,h1,h6']
  have h6':¬(6:Int)<l.length:=by omega
  simp[x_law15_LostCoalesces,h6']
  refine vc_lp (σ:=Nat) (fun k=>k≤l.length∧∀x,x∈l.take k→x.length≤8) (fun k=>l.length-k) (fun k=>[.d (Rep.to raw),.d (.int .i64 n),.d (Rep.to l),.any,.d (.int .i64 k),.any,.any,.any,.any,.any,.any,.any,.any,.any,.any,.any]) (fun _=>[]) 0 (by simp) (by simp) (by simp) ?_
  rintro k ⟨b1,b2⟩
  by_cases h7:k<l.length
  · by_cases h8:8<l[k].length
    · have h8':(8:Int)<l[k].length:=by omega
      simp[h7,getD_map,h8',h1]
    · have h8':¬(8:Int)<l[k].length:=by omega
      simp[h7,getD_map,h8',add1 h7 (by omega)]
      refine Nxt.mk (k+1) (by omega) (by simp) (by simp) ⟨by omega,fun x hx=>?_⟩
      rw[take_snoc h7] at hx
      rcases List.mem_append.1 hx with hx | hx
      · exact b2 x hx
      · rw[List.mem_singleton.1 hx];omega
  · have h9:k=l.length:=by omega
    subst h9
    rw[List.take_length] at b2
    have s1:=sumL_le b2
    have s2:=sumL_le fun x=>listsV_mem (raw:=raw) (n:=n) (x:=x)
    have s3:=listsV_len raw n
    have s4:∀x,x∈l→x.length≤1048576:=fun x hx=>by have:=b2 x hx;omega
    have s5:∀x,x∈listsV raw n→x.length≤1048576:=fun x hx=>by have:=listsV_mem hx;omega
    obtain⟨m,m1,_,m3⟩:=coalD_ok (xs:=l) (by omega) (by omega)
    obtain⟨m',n1,_,n3⟩:=coalD_ok (xs:=listsV raw n) (by omega) (by omega)
    have t1:(listsV raw n).length≤1048576:=by omega
    have t2:sumL (listsV raw n)≤4096:=by omega
    have t3:sumL l≤4096:=by omega
    have t4:m.length≤9223372036854775807:=by omega
    have t5:m'.length≤9223372036854775807:=by omega
    have u1:∀x,x∈listsV raw n→(x.map Rep.to:List D).length≤1048576:=fun x hx=>by simpa using s5 x hx
    simp[h2,hr,h3,h4,h5,hl,m1,n1,t1,t2,t3,t4,t5,h1]
    exact⟨s5,s4,by omega⟩
theorem law15_LostCoalesces_pre (raw:List Int) (n:Int) (l:List (List Int)) (w0:Arg.wf raw) (w1:Arg.wf n) (w2:Arg.wf l):raw.length≤9223372036854775807∧l.length≤9223372036854775807:=by
  have:=len_wf w0
  have:=len_wf w2
  omega
@[simp] def S_law15_LostProjects:List D→Prop × D:=spec2 (α:=List MergedT) (β:=Int) (fun l _=>l.length≤9223372036854775807) (fun _ _=>Rep.to true)
theorem projV_len (l:List MergedT) (p:Int):(projV l p).length≤l.length:=by
  unfold projV
  split
  · rw[mlinesV_len];exact List.length_filter_le _ _
  · simp
theorem ct_law15_LostProjects {P:Program} {f g1 g2 g3 g4 g5:Nat} {G:Gam} (h:CodeOf P f 2 4 [2] (x_law15_LostProjects g1 g2 g3 g4 g5)) (hG:GamOk P G) (h1:G.find g1=some S_law15_awake) (h2:G.find g2=some S_lost_Project) (h3:G.find g3=some S_ref15_Project) (h4:G.find g4=some S_gen_Ints) (h5:G.find g5=some S_gen_Mod):Has P f S_law15_LostProjects:=h.has2 hG fun l p hl=>by
  have q1:(projV l p).length≤9223372036854775807:=by have:=projV_len l p;omega
  have q2:(projV l (modV p 34)).length≤9223372036854775807:=by have:=projV_len l (modV p 34);omega
  simp[x_law15_LostProjects,h1,h2,h3,h4,h5,hl,q1,q2]
  omega
theorem law15_LostProjects_pre (l:List MergedT) (p:Int) (w0:Arg.wf l) (w1:Arg.wf p):l.length≤9223372036854775807:=by
  have:=len_wf w0
  omega
@[simp] def S_law15_LostLimits:List D→Prop × D:=spec2 (α:=Bool) (β:=List Int) (fun _ raw=>raw.length≤9223372036854775807) (fun _ _=>Rep.to true)
theorem ct_law15_LostLimits {P:Program} {f g1 g2 g3:Nat} {G:Gam} (h:CodeOf P f 2 11 [2] (x_law15_LostLimits g1 g2 g3)) (hG:GamOk P G) (h1:G.find g1=some S_gen_Ids) (h2:G.find g2=some S_lost_Coalesce) (h3:G.find g3=some S_law15_awake):Has P f S_law15_LostLimits:=h.has2 hG fun more raw hr=>by
  have key:∀(N:Nat) (e:Int),N=32∧e=0∨N=33∧e=1→∀xs:List (List Int),xs.length=N→(∀x,x∈xs→x.length=2)→∃d,coalD xs=.tup [d,.int .i64 e]:=by
    intro N e h xs hx hm
    rcases h with ⟨rfl,rfl⟩ | ⟨rfl,rfl⟩
    · have s:=sumL_le (b:=2) fun x hx=>by rw[hm x hx];omega
      obtain⟨m,m1,_⟩:=coalD_ok (xs:=xs) (by omega) (by omega)
      exact⟨_,m1⟩
    · exact⟨_,by unfold coalD;rw[if_pos (by omega)]⟩
  have hz:∀(N:Nat),ofAll (Rep.of (α:=Int)) (List.replicate N (D.int .i64 0))=some (List.replicate N 0):=by
    intro N
    have:=ofAll_to (List.replicate N (0:Int))
    rwa [List.map_replicate] at this
  have zs:∀(N:Nat),coalD [List.replicate N 0]=if 4096<N then .tup [Rep.to ([]:List MergedT),.int .i64 1] else .tup [Rep.to (mergeV [] (List.replicate N 0) (bitV 0)),.int .i64 0]:=by
    intro N
    unfold coalD
    by_cases h:4096<N
    · have:longV (mlinesV []) (List.replicate N (0:Int)):=by unfold longV;simp;omega
      simp[coalO,this,h]
    · have:¬longV (mlinesV []) (List.replicate N (0:Int)):=by unfold longV;simp[mlinesV];omega
      simp[coalO,this,h]
  cases more with
  | false =>
    simp[x_law15_LostLimits,wrap_in]
    refine vc_lp (σ:=Nat × List (List Int)) (fun x=>x.1≤32∧x.2.length=x.1∧∀y,y∈x.2→y.length=2) (fun x=>32-x.1)
      (fun x=>[.any,.d (Rep.to raw),.any,.d (.int .i64 32),.d (.int .i64 0),.gr 0 1 (x.2.map Rep.to),.d (.int .i64 x.1),.any,.any,.any,.any]) (fun x=>[.tip x.2.length]) (0,[]) (by simp) (by simp) (by simp) ?_
    rintro⟨k,o⟩ ⟨b1,b2,b3⟩
    simp only at b1 b2 b3
    by_cases c1:k<32
    · have c1':(k:Int)<32:=by omega
      have w3:=wrap_in (n:=(k:Int)+1) (by omega) (by omega)
      have hk:(k:Int)≤1000000:=by omega
      simp[c1',h1,hr,w3,hk]
      refine⟨by unfold room;omega,Nxt.mk (k+1,o++[idsG raw k 2 3]) (by simp;omega) (by simp) (by simp) ⟨by simp;omega,by simp;omega,fun y hy=>?_⟩⟩
      simp only[List.mem_append,List.mem_singleton] at hy
      rcases hy with hy | rfl
      · exact b3 y hy
      · rw[idsG_len]
    · have c2:k=32:=by omega
      subst c2
      obtain⟨d,hd⟩:=key 32 0 (by omega) o b2 b3
      have l1:∀x,x∈o→x.length≤1048576:=fun x hx=>by rw[b3 x hx];omega
      have l2:o.length≤1048576:=by omega
      simp[h2,l2,hd,wrap_in,h3,ofAll,-List.reduceReplicate,hz,zs]
      exact⟨l1,by unfold room;omega⟩
  | true =>
    simp[x_law15_LostLimits,wrap_in]
    refine vc_lp (σ:=Nat × List (List Int)) (fun x=>x.1≤33∧x.2.length=x.1∧∀y,y∈x.2→y.length=2) (fun x=>33-x.1)
      (fun x=>[.any,.d (Rep.to raw),.any,.d (.int .i64 33),.d (.int .i64 1),.gr 0 1 (x.2.map Rep.to),.d (.int .i64 x.1),.any,.any,.any,.any]) (fun x=>[.tip x.2.length]) (0,[]) (by simp) (by simp) (by simp) ?_
    rintro⟨k,o⟩ ⟨b1,b2,b3⟩
    simp only at b1 b2 b3
    by_cases c1:k<33
    · have c1':(k:Int)<33:=by omega
      have w3:=wrap_in (n:=(k:Int)+1) (by omega) (by omega)
      have hk:(k:Int)≤1000000:=by omega
      simp[c1',h1,hr,w3,hk]
      refine⟨by unfold room;omega,Nxt.mk (k+1,o++[idsG raw k 2 3]) (by simp;omega) (by simp) (by simp) ⟨by simp;omega,by simp;omega,fun y hy=>?_⟩⟩
      simp only[List.mem_append,List.mem_singleton] at hy
      rcases hy with hy | rfl
      · exact b3 y hy
      · rw[idsG_len]
    · have c2:k=33:=by omega
      subst c2
      obtain⟨d,hd⟩:=key 33 1 (by omega) o b2 b3
      have l1:∀x,x∈o→x.length≤1048576:=fun x hx=>by rw[b3 x hx];omega
      have l2:o.length≤1048576:=by omega
      simp[h2,l2,hd,wrap_in,h3,ofAll,-List.reduceReplicate,hz,zs]
      exact⟨l1,by unfold room;omega⟩
theorem law15_LostLimits_pre (m:Bool) (raw:List Int) (w0:Arg.wf m) (w1:Arg.wf raw):raw.length≤9223372036854775807:=by
  have:=len_wf w1
  omega
end Go.AE
